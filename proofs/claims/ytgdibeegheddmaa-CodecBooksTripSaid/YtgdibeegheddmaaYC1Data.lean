/- The data of package api, their encodings, and how they lie in memory. Written by gen_data.py. -/
import Derived.Test.YtgdibeegheddmaaYA
namespace Go.Proofs.Ytgdibeegheddmaa
open Go Go.RowKit
set_option linter.unusedVariables false

theorem encU_pos (f m : Nat) : 1 ≤ (encU f m).length := by cases f <;> simp [encU]; split <;> simp
theorem enc_pos (n : Int) : 1 ≤ (enc n).length := encU_pos _ _
theorem encS_pos (s : ByteArray) : 1 ≤ (encS s).length := by have := enc_pos s.size; unfold encS; simp only [List.length_append]; omega
def encB (b : Bool) : List UInt8 := enc (if b then 1 else 0)
theorem encB_pos (b : Bool) : 1 ≤ (encB b).length := enc_pos _
def encL {α : Type} (f : α → List UInt8) (l : List α) : List UInt8 := enc l.length ++ l.flatMap f
theorem encL_pos {α : Type} (f : α → List UInt8) (l : List α) : 1 ≤ (encL f l).length := by have := enc_pos l.length; unfold encL; simp only [List.length_append]; omega
theorem flat_le {α : Type} (f : α → List UInt8) (hf : ∀ x, 1 ≤ (f x).length) (l : List α) : l.length ≤ (l.flatMap f).length := by
  induction l with
  | nil => simp
  | cons a l ih => have := hf a; simp only [List.flatMap_cons, List.length_append, List.length_cons]; omega
theorem encL_le {α : Type} (f : α → List UInt8) (hf : ∀ x, 1 ≤ (f x).length) (l : List α) : l.length ≤ (encL f l).length := by
  have := flat_le f hf l
  unfold encL; simp only [List.length_append]; omega

def IntC (cs : List Value) (n : Int) : Prop := cs = [.int .i64 n] ∧ intBd n
def StrC (cs : List Value) (s : ByteArray) : Prop := cs = [.string s]
def BoolC (cs : List Value) (b : Bool) : Prop := cs = [.bool b]
/-- A slice, in its cell, whose elements are the data xs. -/
def ListC {α : Type} (El : World → (Nat → Prop) → List Value → α → Prop) (size : Nat) (w : World) (Q : Nat → Prop) (cs : List Value) (xs : List α) : Prop :=
  ∃ A c, cs = [.slice A xs.length c] ∧ xs.length ≤ c ∧ c ≤ maxLen ∧
    (0 < xs.length → ∃ b o, A = some ⟨b, o, none⟩ ∧ Q b ∧ ∀ i x, xs[i]? = some x → ∃ es, El w Q es x ∧ At w Q ⟨b, o + i * size, none⟩ es)
theorem IntC.len {cs : List Value} {n : Int} (h : IntC cs n) : cs.length = 1 := by rw [h.1]; rfl
theorem StrC.len {cs : List Value} {s : ByteArray} (h : StrC cs s) : cs.length = 1 := by rw [h]; rfl
theorem BoolC.len {cs : List Value} {b : Bool} (h : BoolC cs b) : cs.length = 1 := by rw [h]; rfl
theorem ListC.len {α : Type} {El : World → (Nat → Prop) → List Value → α → Prop} {size : Nat} {w : World} {Q : Nat → Prop} {cs : List Value} {xs : List α} (h : ListC El size w Q cs xs) : cs.length = 1 := by
  obtain ⟨A, c, e, _⟩ := h; rw [e]; rfl
theorem ListC.fr {α : Type} {El : World → (Nat → Prop) → List Value → α → Prop} {size : Nat} {w w' : World} {Q : Nat → Prop} {cs : List Value} {xs : List α} (h : ListC El size w Q cs xs)
    (hE : ∀ {es x}, El w Q es x → El w' Q es x) (hf : Fr Q w w') : ListC El size w' Q cs xs := by
  obtain ⟨A, c, e, h1, h2, h3⟩ := h
  refine ⟨A, c, e, h1, h2, fun hn => ?_⟩
  obtain ⟨b, o, ha, hb, hi⟩ := h3 hn
  refine ⟨b, o, ha, hb, fun i x hx => ?_⟩
  obtain ⟨es, he, hat⟩ := hi i x hx
  exact ⟨es, hE he, hat.fr hf⟩
theorem ListC.mono {α : Type} {El : World → (Nat → Prop) → List Value → α → Prop} {size : Nat} {w : World} {Q Q' : Nat → Prop} {cs : List Value} {xs : List α} (h : ListC El size w Q cs xs)
    (hE : ∀ {es x}, El w Q es x → El w Q' es x) (hq : ∀ k, Q k → Q' k) : ListC El size w Q' cs xs := by
  obtain ⟨A, c, e, h1, h2, h3⟩ := h
  refine ⟨A, c, e, h1, h2, fun hn => ?_⟩
  obtain ⟨b, o, ha, hb, hi⟩ := h3 hn
  refine ⟨b, o, ha, hq b hb, fun i x hx => ?_⟩
  obtain ⟨es, he, hat⟩ := hi i x hx
  exact ⟨es, hE he, hat.mono hq⟩
theorem At.c {w : World} {Q : Nat → Prop} {b o : Nat} {vs : List Value} (h : At w Q ⟨b, o, none⟩ vs) {j : Nat} {u : Value} (hj : vs[j]? = some u) : w.cell? ⟨b, o + j, none⟩ = some u := by
  have := (h.2 j u hj).1
  rwa [Addr.add_lit] at this
theorem At.f {w : World} {Q : Nat → Prop} {b o : Nat} {vs : List Value} (h : At w Q ⟨b, o, none⟩ vs) {j : Nat} {u : Value} (hj : vs[j]? = some u) : w.frozen? ⟨b, o + j, none⟩ = false := by
  have := (h.2 j u hj).2
  rwa [Addr.add_lit] at this
theorem At.split {w : World} {Q : Nat → Prop} {b o : Nat} {xs ys : List Value} (h : At w Q ⟨b, o, none⟩ (xs ++ ys)) : At w Q ⟨b, o, none⟩ xs ∧ At w Q ⟨b, o + xs.length, none⟩ ys := by
  refine ⟨⟨h.1, fun j u hj => h.2 j u ?_⟩, ⟨h.1, fun j u hj => ?_⟩⟩
  · rw [List.getElem?_append_left (List.getElem?_eq_some_iff.1 hj).1]; exact hj
  · have := h.2 (xs.length + j) u (by rw [List.getElem?_append_right (by omega)]; simpa using hj)
    rw [Addr.add_lit] at this ⊢
    rwa [Nat.add_assoc]
/-- What a writing step leaves. -/
def WPost (g : Nat) (v : Value) (L : List UInt8) (bad : Bool) (E : List UInt8) (w : World) (e : Ending) (w' : World) : Prop :=
  e = .returned (.tuple #[]) ∧ ∃ v', SS w' g v' (L ++ E) false bad ∧ Step g w v w' v'

structure XLine where
  account : Int := 0
  amount : Int := 0
  partner : Int := 0
def encLine (x : XLine) : List UInt8 := (enc x.account) ++ (enc x.amount) ++ (enc x.partner)
def LineC (w : World) (Q : Nat → Prop) (cs : List Value) (x : XLine) : Prop := ∃ c0 c1 c2 : List Value, cs = c0 ++ c1 ++ c2 ∧ IntC c0 x.account ∧ IntC c1 x.amount ∧ IntC c2 x.partner
theorem LineC.fr {w w' : World} {Q : Nat → Prop} {cs : List Value} {x : XLine} (h : LineC w Q cs x) (_hf : Fr Q w w') : LineC w' Q cs x := by
  obtain ⟨c0, c1, c2, e, h0, h1, h2⟩ := h
  exact ⟨c0, c1, c2, e, h0, h1, h2⟩
theorem LineC.mono {w : World} {Q Q' : Nat → Prop} {cs : List Value} {x : XLine} (h : LineC w Q cs x) (_hq : ∀ k, Q k → Q' k) : LineC w Q' cs x := by
  obtain ⟨c0, c1, c2, e, h0, h1, h2⟩ := h
  exact ⟨c0, c1, c2, e, h0, h1, h2⟩
theorem LineC.len {w : World} {Q : Nat → Prop} {cs : List Value} {x : XLine} (h : LineC w Q cs x) : cs.length = 3 := by
  obtain ⟨c0, c1, c2, e, h0, h1, h2⟩ := h
  subst e
  simp only [List.length_append, IntC.len h0, IntC.len h1, IntC.len h2]
theorem encLine_pos (x : XLine) : 1 ≤ (encLine x).length := by
  have := enc_pos x.account
  unfold encLine; simp only [List.length_append]; omega

structure XEntry where
  id : Int := 0
  entity : Int := 0
  date : Int := 0
  kind : Int := 0
  of_ : Int := 0
  text : ByteArray := ByteArray.empty
  lines : List XLine := []
def encEntry (x : XEntry) : List UInt8 := (enc x.id) ++ (enc x.entity) ++ (enc x.date) ++ (enc x.kind) ++ (enc x.of_) ++ (encS x.text) ++ (encL encLine x.lines)
def EntryC (w : World) (Q : Nat → Prop) (cs : List Value) (x : XEntry) : Prop := ∃ c0 c1 c2 c3 c4 c5 c6 : List Value, cs = c0 ++ c1 ++ c2 ++ c3 ++ c4 ++ c5 ++ c6 ∧ IntC c0 x.id ∧ IntC c1 x.entity ∧ IntC c2 x.date ∧ IntC c3 x.kind ∧ IntC c4 x.of_ ∧ StrC c5 x.text ∧ ListC LineC 3 w Q c6 x.lines
theorem EntryC.fr {w w' : World} {Q : Nat → Prop} {cs : List Value} {x : XEntry} (h : EntryC w Q cs x) (hf : Fr Q w w') : EntryC w' Q cs x := by
  obtain ⟨c0, c1, c2, c3, c4, c5, c6, e, h0, h1, h2, h3, h4, h5, h6⟩ := h
  exact ⟨c0, c1, c2, c3, c4, c5, c6, e, h0, h1, h2, h3, h4, h5, h6.fr (fun h => LineC.fr h hf) hf⟩
theorem EntryC.mono {w : World} {Q Q' : Nat → Prop} {cs : List Value} {x : XEntry} (h : EntryC w Q cs x) (hq : ∀ k, Q k → Q' k) : EntryC w Q' cs x := by
  obtain ⟨c0, c1, c2, c3, c4, c5, c6, e, h0, h1, h2, h3, h4, h5, h6⟩ := h
  exact ⟨c0, c1, c2, c3, c4, c5, c6, e, h0, h1, h2, h3, h4, h5, h6.mono (fun h => LineC.mono h hq) hq⟩
theorem EntryC.len {w : World} {Q : Nat → Prop} {cs : List Value} {x : XEntry} (h : EntryC w Q cs x) : cs.length = 7 := by
  obtain ⟨c0, c1, c2, c3, c4, c5, c6, e, h0, h1, h2, h3, h4, h5, h6⟩ := h
  subst e
  simp only [List.length_append, IntC.len h0, IntC.len h1, IntC.len h2, IntC.len h3, IntC.len h4, StrC.len h5, ListC.len h6]
theorem encEntry_pos (x : XEntry) : 1 ≤ (encEntry x).length := by
  have := enc_pos x.id
  unfold encEntry; simp only [List.length_append]; omega

structure XRate where
  currency : ByteArray := ByteArray.empty
  kind : Int := 0
  when_ : Int := 0
  value : Int := 0
def encRate (x : XRate) : List UInt8 := (encS x.currency) ++ (enc x.kind) ++ (enc x.when_) ++ (enc x.value)
def RateC (w : World) (Q : Nat → Prop) (cs : List Value) (x : XRate) : Prop := ∃ c0 c1 c2 c3 : List Value, cs = c0 ++ c1 ++ c2 ++ c3 ∧ StrC c0 x.currency ∧ IntC c1 x.kind ∧ IntC c2 x.when_ ∧ IntC c3 x.value
theorem RateC.fr {w w' : World} {Q : Nat → Prop} {cs : List Value} {x : XRate} (h : RateC w Q cs x) (_hf : Fr Q w w') : RateC w' Q cs x := by
  obtain ⟨c0, c1, c2, c3, e, h0, h1, h2, h3⟩ := h
  exact ⟨c0, c1, c2, c3, e, h0, h1, h2, h3⟩
theorem RateC.mono {w : World} {Q Q' : Nat → Prop} {cs : List Value} {x : XRate} (h : RateC w Q cs x) (_hq : ∀ k, Q k → Q' k) : RateC w Q' cs x := by
  obtain ⟨c0, c1, c2, c3, e, h0, h1, h2, h3⟩ := h
  exact ⟨c0, c1, c2, c3, e, h0, h1, h2, h3⟩
theorem RateC.len {w : World} {Q : Nat → Prop} {cs : List Value} {x : XRate} (h : RateC w Q cs x) : cs.length = 4 := by
  obtain ⟨c0, c1, c2, c3, e, h0, h1, h2, h3⟩ := h
  subst e
  simp only [List.length_append, StrC.len h0, IntC.len h1, IntC.len h2, IntC.len h3]
theorem encRate_pos (x : XRate) : 1 ≤ (encRate x).length := by
  have := encS_pos x.currency
  unfold encRate; simp only [List.length_append]; omega

structure XHolding where
  holder : Int := 0
  entity : Int := 0
  date : Int := 0
  share : Int := 0
def encHolding (x : XHolding) : List UInt8 := (enc x.holder) ++ (enc x.entity) ++ (enc x.date) ++ (enc x.share)
def HoldingC (w : World) (Q : Nat → Prop) (cs : List Value) (x : XHolding) : Prop := ∃ c0 c1 c2 c3 : List Value, cs = c0 ++ c1 ++ c2 ++ c3 ∧ IntC c0 x.holder ∧ IntC c1 x.entity ∧ IntC c2 x.date ∧ IntC c3 x.share
theorem HoldingC.fr {w w' : World} {Q : Nat → Prop} {cs : List Value} {x : XHolding} (h : HoldingC w Q cs x) (_hf : Fr Q w w') : HoldingC w' Q cs x := by
  obtain ⟨c0, c1, c2, c3, e, h0, h1, h2, h3⟩ := h
  exact ⟨c0, c1, c2, c3, e, h0, h1, h2, h3⟩
theorem HoldingC.mono {w : World} {Q Q' : Nat → Prop} {cs : List Value} {x : XHolding} (h : HoldingC w Q cs x) (_hq : ∀ k, Q k → Q' k) : HoldingC w Q' cs x := by
  obtain ⟨c0, c1, c2, c3, e, h0, h1, h2, h3⟩ := h
  exact ⟨c0, c1, c2, c3, e, h0, h1, h2, h3⟩
theorem HoldingC.len {w : World} {Q : Nat → Prop} {cs : List Value} {x : XHolding} (h : HoldingC w Q cs x) : cs.length = 4 := by
  obtain ⟨c0, c1, c2, c3, e, h0, h1, h2, h3⟩ := h
  subst e
  simp only [List.length_append, IntC.len h0, IntC.len h1, IntC.len h2, IntC.len h3]
theorem encHolding_pos (x : XHolding) : 1 ≤ (encHolding x).length := by
  have := enc_pos x.holder
  unfold encHolding; simp only [List.length_append]; omega

structure XRef where
  entry : Int := 0
  line : Int := 0
def encRef (x : XRef) : List UInt8 := (enc x.entry) ++ (enc x.line)
def RefC (w : World) (Q : Nat → Prop) (cs : List Value) (x : XRef) : Prop := ∃ c0 c1 : List Value, cs = c0 ++ c1 ∧ IntC c0 x.entry ∧ IntC c1 x.line
theorem RefC.fr {w w' : World} {Q : Nat → Prop} {cs : List Value} {x : XRef} (h : RefC w Q cs x) (_hf : Fr Q w w') : RefC w' Q cs x := by
  obtain ⟨c0, c1, e, h0, h1⟩ := h
  exact ⟨c0, c1, e, h0, h1⟩
theorem RefC.mono {w : World} {Q Q' : Nat → Prop} {cs : List Value} {x : XRef} (h : RefC w Q cs x) (_hq : ∀ k, Q k → Q' k) : RefC w Q' cs x := by
  obtain ⟨c0, c1, e, h0, h1⟩ := h
  exact ⟨c0, c1, e, h0, h1⟩
theorem RefC.len {w : World} {Q : Nat → Prop} {cs : List Value} {x : XRef} (h : RefC w Q cs x) : cs.length = 2 := by
  obtain ⟨c0, c1, e, h0, h1⟩ := h
  subst e
  simp only [List.length_append, IntC.len h0, IntC.len h1]
theorem encRef_pos (x : XRef) : 1 ≤ (encRef x).length := by
  have := enc_pos x.entry
  unfold encRef; simp only [List.length_append]; omega

structure XMatch where
  id : Int := 0
  left : List XRef := []
  right : List XRef := []
  state : Int := 0
def encMatch (x : XMatch) : List UInt8 := (enc x.id) ++ (encL encRef x.left) ++ (encL encRef x.right) ++ (enc x.state)
def MatchC (w : World) (Q : Nat → Prop) (cs : List Value) (x : XMatch) : Prop := ∃ c0 c1 c2 c3 : List Value, cs = c0 ++ c1 ++ c2 ++ c3 ∧ IntC c0 x.id ∧ ListC RefC 2 w Q c1 x.left ∧ ListC RefC 2 w Q c2 x.right ∧ IntC c3 x.state
theorem MatchC.fr {w w' : World} {Q : Nat → Prop} {cs : List Value} {x : XMatch} (h : MatchC w Q cs x) (hf : Fr Q w w') : MatchC w' Q cs x := by
  obtain ⟨c0, c1, c2, c3, e, h0, h1, h2, h3⟩ := h
  exact ⟨c0, c1, c2, c3, e, h0, h1.fr (fun h => RefC.fr h hf) hf, h2.fr (fun h => RefC.fr h hf) hf, h3⟩
theorem MatchC.mono {w : World} {Q Q' : Nat → Prop} {cs : List Value} {x : XMatch} (h : MatchC w Q cs x) (hq : ∀ k, Q k → Q' k) : MatchC w Q' cs x := by
  obtain ⟨c0, c1, c2, c3, e, h0, h1, h2, h3⟩ := h
  exact ⟨c0, c1, c2, c3, e, h0, h1.mono (fun h => RefC.mono h hq) hq, h2.mono (fun h => RefC.mono h hq) hq, h3⟩
theorem MatchC.len {w : World} {Q : Nat → Prop} {cs : List Value} {x : XMatch} (h : MatchC w Q cs x) : cs.length = 4 := by
  obtain ⟨c0, c1, c2, c3, e, h0, h1, h2, h3⟩ := h
  subst e
  simp only [List.length_append, IntC.len h0, ListC.len h1, ListC.len h2, IntC.len h3]
theorem encMatch_pos (x : XMatch) : 1 ≤ (encMatch x).length := by
  have := enc_pos x.id
  unfold encMatch; simp only [List.length_append]; omega

structure XStock where
  period : Int := 0
  seller : Int := 0
  buyer : Int := 0
  amount : Int := 0
  margin : Int := 0
def encStock (x : XStock) : List UInt8 := (enc x.period) ++ (enc x.seller) ++ (enc x.buyer) ++ (enc x.amount) ++ (enc x.margin)
def StockC (w : World) (Q : Nat → Prop) (cs : List Value) (x : XStock) : Prop := ∃ c0 c1 c2 c3 c4 : List Value, cs = c0 ++ c1 ++ c2 ++ c3 ++ c4 ∧ IntC c0 x.period ∧ IntC c1 x.seller ∧ IntC c2 x.buyer ∧ IntC c3 x.amount ∧ IntC c4 x.margin
theorem StockC.fr {w w' : World} {Q : Nat → Prop} {cs : List Value} {x : XStock} (h : StockC w Q cs x) (_hf : Fr Q w w') : StockC w' Q cs x := by
  obtain ⟨c0, c1, c2, c3, c4, e, h0, h1, h2, h3, h4⟩ := h
  exact ⟨c0, c1, c2, c3, c4, e, h0, h1, h2, h3, h4⟩
theorem StockC.mono {w : World} {Q Q' : Nat → Prop} {cs : List Value} {x : XStock} (h : StockC w Q cs x) (_hq : ∀ k, Q k → Q' k) : StockC w Q' cs x := by
  obtain ⟨c0, c1, c2, c3, c4, e, h0, h1, h2, h3, h4⟩ := h
  exact ⟨c0, c1, c2, c3, c4, e, h0, h1, h2, h3, h4⟩
theorem StockC.len {w : World} {Q : Nat → Prop} {cs : List Value} {x : XStock} (h : StockC w Q cs x) : cs.length = 5 := by
  obtain ⟨c0, c1, c2, c3, c4, e, h0, h1, h2, h3, h4⟩ := h
  subst e
  simp only [List.length_append, IntC.len h0, IntC.len h1, IntC.len h2, IntC.len h3, IntC.len h4]
theorem encStock_pos (x : XStock) : 1 ≤ (encStock x).length := by
  have := enc_pos x.period
  unfold encStock; simp only [List.length_append]; omega

structure XAccount where
  code : Int := 0
  kind : Int := 0
  basis : Int := 0
  parent : Int := 0
def encAccount (x : XAccount) : List UInt8 := (enc x.code) ++ (enc x.kind) ++ (enc x.basis) ++ (enc x.parent)
def AccountC (w : World) (Q : Nat → Prop) (cs : List Value) (x : XAccount) : Prop := ∃ c0 c1 c2 c3 : List Value, cs = c0 ++ c1 ++ c2 ++ c3 ∧ IntC c0 x.code ∧ IntC c1 x.kind ∧ IntC c2 x.basis ∧ IntC c3 x.parent
theorem AccountC.fr {w w' : World} {Q : Nat → Prop} {cs : List Value} {x : XAccount} (h : AccountC w Q cs x) (_hf : Fr Q w w') : AccountC w' Q cs x := by
  obtain ⟨c0, c1, c2, c3, e, h0, h1, h2, h3⟩ := h
  exact ⟨c0, c1, c2, c3, e, h0, h1, h2, h3⟩
theorem AccountC.mono {w : World} {Q Q' : Nat → Prop} {cs : List Value} {x : XAccount} (h : AccountC w Q cs x) (_hq : ∀ k, Q k → Q' k) : AccountC w Q' cs x := by
  obtain ⟨c0, c1, c2, c3, e, h0, h1, h2, h3⟩ := h
  exact ⟨c0, c1, c2, c3, e, h0, h1, h2, h3⟩
theorem AccountC.len {w : World} {Q : Nat → Prop} {cs : List Value} {x : XAccount} (h : AccountC w Q cs x) : cs.length = 4 := by
  obtain ⟨c0, c1, c2, c3, e, h0, h1, h2, h3⟩ := h
  subst e
  simp only [List.length_append, IntC.len h0, IntC.len h1, IntC.len h2, IntC.len h3]
theorem encAccount_pos (x : XAccount) : 1 ≤ (encAccount x).length := by
  have := enc_pos x.code
  unfold encAccount; simp only [List.length_append]; omega

structure XLink where
  from_ : Int := 0
  to : Int := 0
  since : Int := 0
def encLink (x : XLink) : List UInt8 := (enc x.from_) ++ (enc x.to) ++ (enc x.since)
def LinkC (w : World) (Q : Nat → Prop) (cs : List Value) (x : XLink) : Prop := ∃ c0 c1 c2 : List Value, cs = c0 ++ c1 ++ c2 ∧ IntC c0 x.from_ ∧ IntC c1 x.to ∧ IntC c2 x.since
theorem LinkC.fr {w w' : World} {Q : Nat → Prop} {cs : List Value} {x : XLink} (h : LinkC w Q cs x) (_hf : Fr Q w w') : LinkC w' Q cs x := by
  obtain ⟨c0, c1, c2, e, h0, h1, h2⟩ := h
  exact ⟨c0, c1, c2, e, h0, h1, h2⟩
theorem LinkC.mono {w : World} {Q Q' : Nat → Prop} {cs : List Value} {x : XLink} (h : LinkC w Q cs x) (_hq : ∀ k, Q k → Q' k) : LinkC w Q' cs x := by
  obtain ⟨c0, c1, c2, e, h0, h1, h2⟩ := h
  exact ⟨c0, c1, c2, e, h0, h1, h2⟩
theorem LinkC.len {w : World} {Q : Nat → Prop} {cs : List Value} {x : XLink} (h : LinkC w Q cs x) : cs.length = 3 := by
  obtain ⟨c0, c1, c2, e, h0, h1, h2⟩ := h
  subst e
  simp only [List.length_append, IntC.len h0, IntC.len h1, IntC.len h2]
theorem encLink_pos (x : XLink) : 1 ≤ (encLink x).length := by
  have := enc_pos x.from_
  unfold encLink; simp only [List.length_append]; omega

structure XEntity where
  name : ByteArray := ByteArray.empty
  currency : ByteArray := ByteArray.empty
  chart : List XAccount := []
  links : List XLink := []
  joint : Bool := false
def encEntity (x : XEntity) : List UInt8 := (encS x.name) ++ (encS x.currency) ++ (encL encAccount x.chart) ++ (encL encLink x.links) ++ (encB x.joint)
def EntityC (w : World) (Q : Nat → Prop) (cs : List Value) (x : XEntity) : Prop := ∃ c0 c1 c2 c3 c4 : List Value, cs = c0 ++ c1 ++ c2 ++ c3 ++ c4 ∧ StrC c0 x.name ∧ StrC c1 x.currency ∧ ListC AccountC 4 w Q c2 x.chart ∧ ListC LinkC 3 w Q c3 x.links ∧ BoolC c4 x.joint
theorem EntityC.fr {w w' : World} {Q : Nat → Prop} {cs : List Value} {x : XEntity} (h : EntityC w Q cs x) (hf : Fr Q w w') : EntityC w' Q cs x := by
  obtain ⟨c0, c1, c2, c3, c4, e, h0, h1, h2, h3, h4⟩ := h
  exact ⟨c0, c1, c2, c3, c4, e, h0, h1, h2.fr (fun h => AccountC.fr h hf) hf, h3.fr (fun h => LinkC.fr h hf) hf, h4⟩
theorem EntityC.mono {w : World} {Q Q' : Nat → Prop} {cs : List Value} {x : XEntity} (h : EntityC w Q cs x) (hq : ∀ k, Q k → Q' k) : EntityC w Q' cs x := by
  obtain ⟨c0, c1, c2, c3, c4, e, h0, h1, h2, h3, h4⟩ := h
  exact ⟨c0, c1, c2, c3, c4, e, h0, h1, h2.mono (fun h => AccountC.mono h hq) hq, h3.mono (fun h => LinkC.mono h hq) hq, h4⟩
theorem EntityC.len {w : World} {Q : Nat → Prop} {cs : List Value} {x : XEntity} (h : EntityC w Q cs x) : cs.length = 5 := by
  obtain ⟨c0, c1, c2, c3, c4, e, h0, h1, h2, h3, h4⟩ := h
  subst e
  simp only [List.length_append, StrC.len h0, StrC.len h1, ListC.len h2, ListC.len h3, BoolC.len h4]
theorem encEntity_pos (x : XEntity) : 1 ≤ (encEntity x).length := by
  have := encS_pos x.name
  unfold encEntity; simp only [List.length_append]; omega

structure XCal where
  year : Int := 0
  month : Int := 0
  periods : Int := 0
def encCal (x : XCal) : List UInt8 := (enc x.year) ++ (enc x.month) ++ (enc x.periods)
def CalC (w : World) (Q : Nat → Prop) (cs : List Value) (x : XCal) : Prop := ∃ c0 c1 c2 : List Value, cs = c0 ++ c1 ++ c2 ∧ IntC c0 x.year ∧ IntC c1 x.month ∧ IntC c2 x.periods
theorem CalC.fr {w w' : World} {Q : Nat → Prop} {cs : List Value} {x : XCal} (h : CalC w Q cs x) (_hf : Fr Q w w') : CalC w' Q cs x := by
  obtain ⟨c0, c1, c2, e, h0, h1, h2⟩ := h
  exact ⟨c0, c1, c2, e, h0, h1, h2⟩
theorem CalC.mono {w : World} {Q Q' : Nat → Prop} {cs : List Value} {x : XCal} (h : CalC w Q cs x) (_hq : ∀ k, Q k → Q' k) : CalC w Q' cs x := by
  obtain ⟨c0, c1, c2, e, h0, h1, h2⟩ := h
  exact ⟨c0, c1, c2, e, h0, h1, h2⟩
theorem CalC.len {w : World} {Q : Nat → Prop} {cs : List Value} {x : XCal} (h : CalC w Q cs x) : cs.length = 3 := by
  obtain ⟨c0, c1, c2, e, h0, h1, h2⟩ := h
  subst e
  simp only [List.length_append, IntC.len h0, IntC.len h1, IntC.len h2]
theorem encCal_pos (x : XCal) : 1 ≤ (encCal x).length := by
  have := enc_pos x.year
  unfold encCal; simp only [List.length_append]; omega

structure XRoles where
  investment : Int := 0
  goodwill : Int := 0
  associates : Int := 0
  inventory : Int := 0
  reserve : Int := 0
  minority : Int := 0
  retained : Int := 0
  acquired : Int := 0
  owners : Int := 0
  disposal : Int := 0
  associateProfit : Int := 0
  dividends : Int := 0
  minorityProfit : Int := 0
  difference : Int := 0
  margin : Int := 0
def encRoles (x : XRoles) : List UInt8 := (enc x.investment) ++ (enc x.goodwill) ++ (enc x.associates) ++ (enc x.inventory) ++ (enc x.reserve) ++ (enc x.minority) ++ (enc x.retained) ++ (enc x.acquired) ++ (enc x.owners) ++ (enc x.disposal) ++ (enc x.associateProfit) ++ (enc x.dividends) ++ (enc x.minorityProfit) ++ (enc x.difference) ++ (enc x.margin)
def RolesC (w : World) (Q : Nat → Prop) (cs : List Value) (x : XRoles) : Prop := ∃ c0 c1 c2 c3 c4 c5 c6 c7 c8 c9 c10 c11 c12 c13 c14 : List Value, cs = c0 ++ c1 ++ c2 ++ c3 ++ c4 ++ c5 ++ c6 ++ c7 ++ c8 ++ c9 ++ c10 ++ c11 ++ c12 ++ c13 ++ c14 ∧ IntC c0 x.investment ∧ IntC c1 x.goodwill ∧ IntC c2 x.associates ∧ IntC c3 x.inventory ∧ IntC c4 x.reserve ∧ IntC c5 x.minority ∧ IntC c6 x.retained ∧ IntC c7 x.acquired ∧ IntC c8 x.owners ∧ IntC c9 x.disposal ∧ IntC c10 x.associateProfit ∧ IntC c11 x.dividends ∧ IntC c12 x.minorityProfit ∧ IntC c13 x.difference ∧ IntC c14 x.margin
theorem RolesC.fr {w w' : World} {Q : Nat → Prop} {cs : List Value} {x : XRoles} (h : RolesC w Q cs x) (_hf : Fr Q w w') : RolesC w' Q cs x := by
  obtain ⟨c0, c1, c2, c3, c4, c5, c6, c7, c8, c9, c10, c11, c12, c13, c14, e, h0, h1, h2, h3, h4, h5, h6, h7, h8, h9, h10, h11, h12, h13, h14⟩ := h
  exact ⟨c0, c1, c2, c3, c4, c5, c6, c7, c8, c9, c10, c11, c12, c13, c14, e, h0, h1, h2, h3, h4, h5, h6, h7, h8, h9, h10, h11, h12, h13, h14⟩
theorem RolesC.mono {w : World} {Q Q' : Nat → Prop} {cs : List Value} {x : XRoles} (h : RolesC w Q cs x) (_hq : ∀ k, Q k → Q' k) : RolesC w Q' cs x := by
  obtain ⟨c0, c1, c2, c3, c4, c5, c6, c7, c8, c9, c10, c11, c12, c13, c14, e, h0, h1, h2, h3, h4, h5, h6, h7, h8, h9, h10, h11, h12, h13, h14⟩ := h
  exact ⟨c0, c1, c2, c3, c4, c5, c6, c7, c8, c9, c10, c11, c12, c13, c14, e, h0, h1, h2, h3, h4, h5, h6, h7, h8, h9, h10, h11, h12, h13, h14⟩
theorem RolesC.len {w : World} {Q : Nat → Prop} {cs : List Value} {x : XRoles} (h : RolesC w Q cs x) : cs.length = 15 := by
  obtain ⟨c0, c1, c2, c3, c4, c5, c6, c7, c8, c9, c10, c11, c12, c13, c14, e, h0, h1, h2, h3, h4, h5, h6, h7, h8, h9, h10, h11, h12, h13, h14⟩ := h
  subst e
  simp only [List.length_append, IntC.len h0, IntC.len h1, IntC.len h2, IntC.len h3, IntC.len h4, IntC.len h5, IntC.len h6, IntC.len h7, IntC.len h8, IntC.len h9, IntC.len h10, IntC.len h11, IntC.len h12, IntC.len h13, IntC.len h14]
theorem encRoles_pos (x : XRoles) : 1 ≤ (encRoles x).length := by
  have := enc_pos x.investment
  unfold encRoles; simp only [List.length_append]; omega

structure XGroup where
  currency : ByteArray := ByteArray.empty
  calendar : XCal := {}
  chart : List XAccount := []
  roles : XRoles := {}
  entities : List XEntity := []
def encGroup (x : XGroup) : List UInt8 := (encS x.currency) ++ (encCal x.calendar) ++ (encL encAccount x.chart) ++ (encRoles x.roles) ++ (encL encEntity x.entities)
def GroupC (w : World) (Q : Nat → Prop) (cs : List Value) (x : XGroup) : Prop := ∃ c0 c1 c2 c3 c4 : List Value, cs = c0 ++ c1 ++ c2 ++ c3 ++ c4 ∧ StrC c0 x.currency ∧ CalC w Q c1 x.calendar ∧ ListC AccountC 4 w Q c2 x.chart ∧ RolesC w Q c3 x.roles ∧ ListC EntityC 5 w Q c4 x.entities
theorem GroupC.fr {w w' : World} {Q : Nat → Prop} {cs : List Value} {x : XGroup} (h : GroupC w Q cs x) (hf : Fr Q w w') : GroupC w' Q cs x := by
  obtain ⟨c0, c1, c2, c3, c4, e, h0, h1, h2, h3, h4⟩ := h
  exact ⟨c0, c1, c2, c3, c4, e, h0, CalC.fr h1 hf, h2.fr (fun h => AccountC.fr h hf) hf, RolesC.fr h3 hf, h4.fr (fun h => EntityC.fr h hf) hf⟩
theorem GroupC.mono {w : World} {Q Q' : Nat → Prop} {cs : List Value} {x : XGroup} (h : GroupC w Q cs x) (hq : ∀ k, Q k → Q' k) : GroupC w Q' cs x := by
  obtain ⟨c0, c1, c2, c3, c4, e, h0, h1, h2, h3, h4⟩ := h
  exact ⟨c0, c1, c2, c3, c4, e, h0, CalC.mono h1 hq, h2.mono (fun h => AccountC.mono h hq) hq, RolesC.mono h3 hq, h4.mono (fun h => EntityC.mono h hq) hq⟩
theorem GroupC.len {w : World} {Q : Nat → Prop} {cs : List Value} {x : XGroup} (h : GroupC w Q cs x) : cs.length = 21 := by
  obtain ⟨c0, c1, c2, c3, c4, e, h0, h1, h2, h3, h4⟩ := h
  subst e
  simp only [List.length_append, StrC.len h0, CalC.len h1, ListC.len h2, RolesC.len h3, ListC.len h4]
theorem encGroup_pos (x : XGroup) : 1 ≤ (encGroup x).length := by
  have := encS_pos x.currency
  unfold encGroup; simp only [List.length_append]; omega

structure XBooks where
  group : XGroup := {}
  entries : List XEntry := []
  rates : List XRate := []
  holdings : List XHolding := []
  matches_ : List XMatch := []
  stocks : List XStock := []
  rules : ByteArray := ByteArray.empty
def encBooks (x : XBooks) : List UInt8 := (encGroup x.group) ++ (encL encEntry x.entries) ++ (encL encRate x.rates) ++ (encL encHolding x.holdings) ++ (encL encMatch x.matches_) ++ (encL encStock x.stocks) ++ (encS x.rules)
def BooksC (w : World) (Q : Nat → Prop) (cs : List Value) (x : XBooks) : Prop := ∃ c0 c1 c2 c3 c4 c5 c6 : List Value, cs = c0 ++ c1 ++ c2 ++ c3 ++ c4 ++ c5 ++ c6 ∧ GroupC w Q c0 x.group ∧ ListC EntryC 7 w Q c1 x.entries ∧ ListC RateC 4 w Q c2 x.rates ∧ ListC HoldingC 4 w Q c3 x.holdings ∧ ListC MatchC 4 w Q c4 x.matches_ ∧ ListC StockC 5 w Q c5 x.stocks ∧ StrC c6 x.rules
theorem BooksC.fr {w w' : World} {Q : Nat → Prop} {cs : List Value} {x : XBooks} (h : BooksC w Q cs x) (hf : Fr Q w w') : BooksC w' Q cs x := by
  obtain ⟨c0, c1, c2, c3, c4, c5, c6, e, h0, h1, h2, h3, h4, h5, h6⟩ := h
  exact ⟨c0, c1, c2, c3, c4, c5, c6, e, GroupC.fr h0 hf, h1.fr (fun h => EntryC.fr h hf) hf, h2.fr (fun h => RateC.fr h hf) hf, h3.fr (fun h => HoldingC.fr h hf) hf, h4.fr (fun h => MatchC.fr h hf) hf, h5.fr (fun h => StockC.fr h hf) hf, h6⟩
theorem BooksC.mono {w : World} {Q Q' : Nat → Prop} {cs : List Value} {x : XBooks} (h : BooksC w Q cs x) (hq : ∀ k, Q k → Q' k) : BooksC w Q' cs x := by
  obtain ⟨c0, c1, c2, c3, c4, c5, c6, e, h0, h1, h2, h3, h4, h5, h6⟩ := h
  exact ⟨c0, c1, c2, c3, c4, c5, c6, e, GroupC.mono h0 hq, h1.mono (fun h => EntryC.mono h hq) hq, h2.mono (fun h => RateC.mono h hq) hq, h3.mono (fun h => HoldingC.mono h hq) hq, h4.mono (fun h => MatchC.mono h hq) hq, h5.mono (fun h => StockC.mono h hq) hq, h6⟩
theorem BooksC.len {w : World} {Q : Nat → Prop} {cs : List Value} {x : XBooks} (h : BooksC w Q cs x) : cs.length = 27 := by
  obtain ⟨c0, c1, c2, c3, c4, c5, c6, e, h0, h1, h2, h3, h4, h5, h6⟩ := h
  subst e
  simp only [List.length_append, GroupC.len h0, ListC.len h1, ListC.len h2, ListC.len h3, ListC.len h4, ListC.len h5, StrC.len h6]
theorem encBooks_pos (x : XBooks) : 1 ≤ (encBooks x).length := by
  have := encGroup_pos x.group
  unfold encBooks; simp only [List.length_append]; omega

structure XEvent where
  kind : Int := 0
  entry : XEntry := {}
  rate : XRate := {}
  holding : XHolding := {}
  match_ : XMatch := {}
  stock : XStock := {}
  a : Int := 0
  b : Int := 0
  text : ByteArray := ByteArray.empty
def encEvent (x : XEvent) : List UInt8 := (enc x.kind) ++ (encEntry x.entry) ++ (encRate x.rate) ++ (encHolding x.holding) ++ (encMatch x.match_) ++ (encStock x.stock) ++ (enc x.a) ++ (enc x.b) ++ (encS x.text)
def EventC (w : World) (Q : Nat → Prop) (cs : List Value) (x : XEvent) : Prop := ∃ c0 c1 c2 c3 c4 c5 c6 c7 c8 : List Value, cs = c0 ++ c1 ++ c2 ++ c3 ++ c4 ++ c5 ++ c6 ++ c7 ++ c8 ∧ IntC c0 x.kind ∧ EntryC w Q c1 x.entry ∧ RateC w Q c2 x.rate ∧ HoldingC w Q c3 x.holding ∧ MatchC w Q c4 x.match_ ∧ StockC w Q c5 x.stock ∧ IntC c6 x.a ∧ IntC c7 x.b ∧ StrC c8 x.text
theorem EventC.fr {w w' : World} {Q : Nat → Prop} {cs : List Value} {x : XEvent} (h : EventC w Q cs x) (hf : Fr Q w w') : EventC w' Q cs x := by
  obtain ⟨c0, c1, c2, c3, c4, c5, c6, c7, c8, e, h0, h1, h2, h3, h4, h5, h6, h7, h8⟩ := h
  exact ⟨c0, c1, c2, c3, c4, c5, c6, c7, c8, e, h0, EntryC.fr h1 hf, RateC.fr h2 hf, HoldingC.fr h3 hf, MatchC.fr h4 hf, StockC.fr h5 hf, h6, h7, h8⟩
theorem EventC.mono {w : World} {Q Q' : Nat → Prop} {cs : List Value} {x : XEvent} (h : EventC w Q cs x) (hq : ∀ k, Q k → Q' k) : EventC w Q' cs x := by
  obtain ⟨c0, c1, c2, c3, c4, c5, c6, c7, c8, e, h0, h1, h2, h3, h4, h5, h6, h7, h8⟩ := h
  exact ⟨c0, c1, c2, c3, c4, c5, c6, c7, c8, e, h0, EntryC.mono h1 hq, RateC.mono h2 hq, HoldingC.mono h3 hq, MatchC.mono h4 hq, StockC.mono h5 hq, h6, h7, h8⟩
theorem EventC.len {w : World} {Q : Nat → Prop} {cs : List Value} {x : XEvent} (h : EventC w Q cs x) : cs.length = 28 := by
  obtain ⟨c0, c1, c2, c3, c4, c5, c6, c7, c8, e, h0, h1, h2, h3, h4, h5, h6, h7, h8⟩ := h
  subst e
  simp only [List.length_append, IntC.len h0, EntryC.len h1, RateC.len h2, HoldingC.len h3, MatchC.len h4, StockC.len h5, IntC.len h6, IntC.len h7, StrC.len h8]
theorem encEvent_pos (x : XEvent) : 1 ≤ (encEvent x).length := by
  have := enc_pos x.kind
  unfold encEvent; simp only [List.length_append]; omega

end Go.Proofs.Ytgdibeegheddmaa
