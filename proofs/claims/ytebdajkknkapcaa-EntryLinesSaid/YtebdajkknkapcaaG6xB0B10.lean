/- Words on memory, and the data of package api; no program in sight. Written by gen_b0.py. -/
import Derived.WalkKit
import Derived.Laws.OwnMore
import Derived.Deep.AppendLies
import Derived.Deep.Draws
import Derived.Maps.AppendAt
import Derived.Deep.MidRow
import Derived.Lib.Hide
import Derived.KernelRfl
import Derived.WalkLawsBesides
import Derived.WalkSpells
import Derived.Deep.CutRange
import Derived.Deep.CutBlock
import Derived.BigQuiet
import Derived.Deep.QuietTactic
import Derived.Deep.DrawnRows
import Derived.Deep.RegionLaw
import Derived.Maps.OwnOps
import Derived.Maps.OwnSet
import Derived.Maps.Own
import Derived.Test.YtebdajkknkapcaaProg
import Derived.Maps.Views
set_option linter.unusedVariables false
set_option linter.unusedSimpArgs false
set_option maxRecDepth 4000
attribute [local go_sem ↓] Go.wp_at_zero Go.wp_at_succ
namespace Go.Proofs.Ytebdajkknkapcaa
open Go Go.RowKit
structure Fr (Q : Nat → Prop) (w w' : World) : Prop where
 os : w'.os = w.os
 tape : w'.tape = w.tape
 output : w'.output = w.output
 size : w.heap.size ≤ w'.heap.size
 block : ∀ k, Q k → w'.heap[k]? = w.heap[k]?
section
variable {Q Q' : Nat → Prop} {w w' a b c : World}
theorem Fr.refl (Q : Nat → Prop) (w : World) : Fr Q w w := ⟨rfl, rfl, rfl, Nat.le_refl _, fun _ _ => rfl⟩
theorem Fr.trans (h : Fr Q a b) (k : Fr Q b c) : Fr Q a c :=
 ⟨k.os.trans h.os, k.tape.trans h.tape, k.output.trans h.output, Nat.le_trans h.size k.size, fun i hi => (k.block i hi).trans (h.block i hi)⟩
theorem Fr.mono (h : Fr Q w w') (hq : ∀ k, Q' k → Q k) : Fr Q' w w' := ⟨h.os, h.tape, h.output, h.size, fun k hk => h.block k (hq k hk)⟩
theorem Fr.drew (h : Fr Q a w) : Fr Q a w.drew := ⟨h.os, h.tape, h.output, h.size, h.block⟩
theorem Fr.drewN (h : Fr Q a w) (n : Nat) : Fr Q a (w.drewN n) := ⟨h.os, h.tape, h.output, h.size, h.block⟩
theorem Fr.alloc (h : Fr Q a w) (hq : ∀ k, Q k → k < a.heap.size) (o : Obj) : Fr Q a (w.alloc o) :=
 ⟨h.os, h.tape, h.output, Nat.le_trans h.size (by simp), fun k hk => (Below.heap_alloc w o k (Nat.lt_of_lt_of_le (hq k hk) h.size)).trans (h.block k hk)⟩
theorem Fr.setCell (h : Fr Q a w) {p : Addr} (hp : ¬ Q p.block) (u : Value) : Fr Q a (w.setCell p u) :=
 ⟨h.os, h.tape, h.output, by simpa [World.setCell] using h.size, fun k hk => (Below.heap_setCell w p u k (by rintro rfl; exact hp hk)).trans (h.block k hk)⟩
theorem Fr.grown {row : Option Nat} (h : Fr Q a w) (hg : w.grownBy w' row) (hq : ∀ k, Q k → k < a.heap.size) (hr : ∀ k, row = some k → ¬ Q k) : Fr Q a w' :=
 ⟨hg.os.trans h.os, hg.tape.trans h.tape, hg.output.trans h.output, Nat.le_trans h.size hg.size,
  fun k hk => (hg.block k (Nat.lt_of_lt_of_le (hq k hk) h.size) (fun e => hr k e.symm hk)).trans (h.block k hk)⟩
theorem Fr.below {B : Nat} (h : Fr (· < B) w w') : Below B w w' := ⟨h.os, h.tape, h.output, h.size, h.block⟩
theorem Fr.ofBelow {B : Nat} (h : Below B w w') : Fr (· < B) w w' := ⟨h.os, h.tape, h.output, h.size, h.block⟩
theorem Fr.cell (h : Fr Q w w') {p : Addr} (hp : Q p.block) : w'.cell? p = w.cell? p := World.cell?_of_block (w := w) (h.block _ hp)
theorem Fr.frozen (h : Fr Q w w') {p : Addr} (hp : Q p.block) : w'.frozen? p = w.frozen? p := World.frozen?_of_block (w := w) (h.block _ hp)
theorem Fr.cells (h : Fr Q w w') {b : Nat} (hp : Q b) : ∀ o, w'.cell? ⟨b, o, none⟩ = w.cell? ⟨b, o, none⟩ := fun o => h.cell (p := ⟨b, o, none⟩) hp
end
def At (w : World) (Q : Nat → Prop) (a : Addr) (vs : List Value) : Prop := Q a.block ∧ ∀ j u, vs[j]? = some u → w.cell? (a.add j) = some u ∧ w.frozen? (a.add j) = false
def Rd (w : World) (Q : Nat → Prop) (A : Option Addr) (n size : Nat) (vs : List Value) : Prop :=
 vs.length = n * size ∧ (0 < n → ∃ a, A = some a ∧ At w Q a vs)
theorem own_unfrozen {w : World} {base : Nat} {e : TypeId} {size n : Nat} {v : Value} {xs : List Value} (h : w.ownsRow base e size v n xs) {g : Nat} (hg : v.ownBlock = some g) (j : Nat) : w.frozen? ((⟨g, 0, none⟩ : Addr).add j) = false := by
 rcases h.2 with ⟨rfl, _⟩ | ⟨g', cap, cur, rfl, _, hgg, _⟩
 · simp [Value.ownBlock] at hg
 · simp [Value.ownBlock] at hg
   subst hg
   have hb : ((⟨g', 0, none⟩ : Addr).add j).block = g' := by unfold Addr.add; split <;> rfl
   simp [World.frozen?, hb, hgg]
theorem block_add (a : Addr) (n : Nat) : (a.add n).block = a.block := by unfold Addr.add; split <;> rfl
theorem add_add' (a : Addr) (i j : Nat) : (a.add i).add j = a.add (i + j) := by
 unfold Addr.add
 by_cases hi : i = 0 <;> by_cases hj : j = 0 <;> simp [hi, hj, Nat.add_assoc]
section
variable {Q Q' : Nat → Prop} {w w' : World} {a : Addr} {A : Option Addr} {vs : List Value} {n size : Nat}
theorem At.fr (h : At w Q a vs) (hf : Fr Q w w') : At w' Q a vs := ⟨h.1, fun j u hu => ⟨(hf.cell (by rw [block_add]; exact h.1)).trans (h.2 j u hu).1, (hf.frozen (by rw [block_add]; exact h.1)).trans (h.2 j u hu).2⟩⟩
theorem At.mono (h : At w Q a vs) (hq : ∀ k, Q k → Q' k) : At w Q' a vs := ⟨hq _ h.1, h.2⟩
theorem Rd.fr (h : Rd w Q A n size vs) (hf : Fr Q w w') : Rd w' Q A n size vs := ⟨h.1, fun hn => let ⟨a, e, ha⟩ := h.2 hn; ⟨a, e, ha.fr hf⟩⟩
theorem Rd.mono (h : Rd w Q A n size vs) (hq : ∀ k, Q k → Q' k) : Rd w Q' A n size vs := ⟨h.1, fun hn => let ⟨a, e, ha⟩ := h.2 hn; ⟨a, e, ha.mono hq⟩⟩
theorem Rd.nil (w : World) (Q : Nat → Prop) (size : Nat) : Rd w Q none 0 size [] := ⟨by simp, fun h => absurd h (by omega)⟩
theorem Rd.at_ {k : Nat} (h : Rd w Q A n 1 vs) (hk : k < n) : ∃ a u, A = some a ∧ Q a.block ∧ vs[k]? = some u ∧ w.cell? (a.add k) = some u := by
 obtain ⟨a, e, hq, hc⟩ := h.2 (by omega)
 have hl : k < vs.length := by have := h.1; omega
 exact ⟨a, vs[k], e, hq, List.getElem?_eq_getElem hl, (hc k _ (List.getElem?_eq_getElem hl)).1⟩
theorem At.drop (h : At w Q a vs) (k : Nat) : At w Q (a.add k) (vs.drop k) :=
 ⟨by rw [block_add]; exact h.1, fun j u hu => by rw [add_add']; exact h.2 _ u (by rw [← hu, List.getElem?_drop])⟩
theorem At.take (h : At w Q a vs) (k : Nat) : At w Q a (vs.take k) :=
 ⟨h.1, fun j u hu => h.2 j u (by rw [List.getElem?_take] at hu; split at hu; exact hu; cases hu)⟩
theorem Rd.cut {k cap : Nat} (h : Rd w Q A n size vs) (hk : k ≤ n) (hc : n ≤ cap) :
 Rd w Q (if cap = k then A else A.map (·.add (k * size))) (n - k) size (vs.drop (k * size)) := by
 refine ⟨by rw [List.length_drop, h.1, Nat.sub_mul], fun hn => ?_⟩
 obtain ⟨a, rfl, ha⟩ := h.2 (by omega)
 rw [if_neg (by omega)]
 exact ⟨a.add (k * size), rfl, ha.drop _⟩
theorem Rd.own {base : Nat} {e : TypeId} {c : Nat} (h : w.ownsRow base e size (.slice A n c) n vs) (hq : ∀ k, Value.ownBlock (.slice A n c) = some k → Q k) : Rd w Q A n size vs := by
 refine ⟨h.1, fun hn => ?_⟩
 obtain ⟨g, cap, hv, _, hlt⟩ := h.form hn
 have hA : A = some ⟨g, 0, none⟩ := by injection hv
 subst hA
 exact ⟨_, rfl, hq g rfl, fun j u hu => ⟨h.cells (g := g) rfl j u hu, own_unfrozen h (g := g) rfl j⟩⟩
end
def intBd (n : Int) : Prop := -9223372036854775808 ≤ n ∧ n ≤ 9223372036854775807
theorem blk_cell {w : World} {g : Nat} {t : TypeId} {cs : Array Value} (h : w.heap[g]? = some (.cells cs t (0, 0))) (i : Nat) : w.cell? ⟨g, i, none⟩ = cs[i]? := cell_of_row w g i cs t (0, 0) h
theorem blk_frozen {w : World} {g : Nat} {t : TypeId} {cs : Array Value} (h : w.heap[g]? = some (.cells cs t (0, 0))) (i : Nat) : w.frozen? ⟨g, i, none⟩ = false := by
 simp [World.frozen?, h]
theorem blk_lt {w : World} {g : Nat} {o : Obj} (h : w.heap[g]? = some o) : g < w.heap.size := by
 rcases Nat.lt_or_ge g w.heap.size with hlt | hge
 · exact hlt
 · rw [Array.getElem?_eq_none hge] at h; cases h
theorem heap_setCell_same {w : World} {b : Nat} {cs : Array Value} {t : TypeId} {fr : Nat × Nat} (h : w.heap[b]? = some (.cells cs t fr)) (i : Nat) (u : Value) :
 (w.setCell ⟨b, i, none⟩ u).heap[b]? = some (.cells (cs.setIfInBounds i u) t fr) := by
 simp [World.setCell, Array.getElem?_modify, h]
theorem below1 (w : World) (o : Obj) : Below w.heap.size w (w.alloc o) := (Below.refl _ _).alloc (Nat.le_refl _) o
theorem box_at {w : World} {b : Nat} {cs : List Value} {t : TypeId} (h : w.heap[b]? = some (.cells cs.toArray t)) : At w (· < w.heap.size) ⟨b, 0, none⟩ cs := by
 refine ⟨blk_lt h, fun j u hu => ?_⟩
 rw [Addr.add_lit, Nat.zero_add, blk_cell h j, blk_frozen h j]
 exact ⟨by simpa using hu, rfl⟩
def IntC (cs : List Value) (n : Int) : Prop := cs = [.int .i64 n] ∧ intBd n
def StrC (cs : List Value) (s : ByteArray) : Prop := cs = [.string s]
def BoolC (cs : List Value) (b : Bool) : Prop := cs = [.bool b]
def ListC {α : Type} (El : World → (Nat → Prop) → List Value → α → Prop) (size : Nat) (w : World) (Q : Nat → Prop) (cs : List Value) (xs : List α) : Prop :=
 ∃ A c, cs = [.slice A xs.length c] ∧ xs.length ≤ c ∧ c ≤ maxLen ∧
  (0 < xs.length → ∃ b o, A = some ⟨b, o, none⟩ ∧ Q b ∧ ∀ i x, xs[i]? = some x → ∃ es, El w Q es x ∧ At w Q ⟨b, o + i * size, none⟩ es)
theorem IntC.len {cs : List Value} {n : Int} (h : IntC cs n) : cs.length = 1 := by rw [h.1]; rfl
theorem StrC.len {cs : List Value} {s : ByteArray} (h : StrC cs s) : cs.length = 1 := by rw [h]; rfl
theorem BoolC.len {cs : List Value} {b : Bool} (h : BoolC cs b) : cs.length = 1 := by rw [h]; rfl
theorem ListC.len {α : Type} {El : World → (Nat → Prop) → List Value → α → Prop} {size : Nat} {w : World} {Q : Nat → Prop} {cs : List Value} {xs : List α} (h : ListC El size w Q cs xs) : cs.length = 1 := by
 obtain ⟨A, c, e, _⟩ := h; rw [e]; rfl
theorem ListC.fr {α : Type} {El : World → (Nat → Prop) → List Value → α → Prop} {size : Nat} {w w' : World} {Q : Nat → Prop} {cs : List Value} {xs : List α} (h : ListC El size w Q cs xs)
 (hE : ∀ {es x}, El w Q es x → El w' Q es x) (hf : Fr Q w w') : ListC El size w' Q cs xs := by
 obtain ⟨A, c, e, h1, h2, h3⟩ := h
 refine ⟨A, c, e, h1, h2, fun hn => ?_⟩
 obtain ⟨b, o, ha, hb, hi⟩ := h3 hn
 refine ⟨b, o, ha, hb, fun i x hx => ?_⟩
 obtain ⟨es, he, hat⟩ := hi i x hx
 exact ⟨es, hE he, hat.fr hf⟩
theorem ListC.mono {α : Type} {El : World → (Nat → Prop) → List Value → α → Prop} {size : Nat} {w : World} {Q Q' : Nat → Prop} {cs : List Value} {xs : List α} (h : ListC El size w Q cs xs)
 (hE : ∀ {es x}, El w Q es x → El w Q' es x) (hq : ∀ k, Q k → Q' k) : ListC El size w Q' cs xs := by
 obtain ⟨A, c, e, h1, h2, h3⟩ := h
 refine ⟨A, c, e, h1, h2, fun hn => ?_⟩
 obtain ⟨b, o, ha, hb, hi⟩ := h3 hn
 refine ⟨b, o, ha, hq b hb, fun i x hx => ?_⟩
 obtain ⟨es, he, hat⟩ := hi i x hx
 exact ⟨es, hE he, hat.mono hq⟩
theorem At.c {w : World} {Q : Nat → Prop} {b o : Nat} {vs : List Value} (h : At w Q ⟨b, o, none⟩ vs) {j : Nat} {u : Value} (hj : vs[j]? = some u) : w.cell? ⟨b, o + j, none⟩ = some u := by
 have := (h.2 j u hj).1
 rwa [Addr.add_lit] at this
theorem At.f {w : World} {Q : Nat → Prop} {b o : Nat} {vs : List Value} (h : At w Q ⟨b, o, none⟩ vs) {j : Nat} {u : Value} (hj : vs[j]? = some u) : w.frozen? ⟨b, o + j, none⟩ = false := by
 have := (h.2 j u hj).2
 rwa [Addr.add_lit] at this
theorem At.split {w : World} {Q : Nat → Prop} {b o : Nat} {xs ys : List Value} (h : At w Q ⟨b, o, none⟩ (xs ++ ys)) : At w Q ⟨b, o, none⟩ xs ∧ At w Q ⟨b, o + xs.length, none⟩ ys := by
 refine ⟨⟨h.1, fun j u hj => h.2 j u ?_⟩, ⟨h.1, fun j u hj => ?_⟩⟩
 · rw [List.getElem?_append_left (List.getElem?_eq_some_iff.1 hj).1]; exact hj
 · have := h.2 (xs.length + j) u (by rw [List.getElem?_append_right (by omega)]; simpa using hj)
   rw [Addr.add_lit] at this ⊢
   rwa [Nat.add_assoc]
theorem ListC.form {α : Type} {El : World → (Nat → Prop) → List Value → α → Prop} {size : Nat} {w : World} {Q : Nat → Prop} {cs : List Value} {xs : List α} (h : ListC El size w Q cs xs) : ∃ A c, cs = [.slice A xs.length c] ∧ xs.length ≤ c ∧ c ≤ maxLen := by
 obtain ⟨A, c, e, h1, h2, _⟩ := h
 exact ⟨A, c, e, h1, h2⟩
theorem ListC.cell {α : Type} {El : World → (Nat → Prop) → List Value → α → Prop} {size : Nat} {w : World} {Q Q2 : Nat → Prop} {cs : List Value} {xs : List α} {b o : Nat} (h : ListC El size w Q cs xs) (ha : At w Q2 ⟨b, o, none⟩ cs) : ∃ A c, ListC El size w Q [.slice A xs.length c] xs ∧ w.cell? ⟨b, o, none⟩ = some (.slice A xs.length c) := by
 obtain ⟨A, c, e, _⟩ := h.form
 subst e
 exact ⟨A, c, h, ha.c (j := 0) rfl⟩
theorem ListC.get {α : Type} {El : World → (Nat → Prop) → List Value → α → Prop} {size : Nat} {w : World} {Q : Nat → Prop} {A : Option Addr} {n c : Nat} {xs : List α} (h : ListC El size w Q [.slice A n c] xs) (i : Nat) (hi : i < xs.length) :
 ∃ b o es, A = some ⟨b, o, none⟩ ∧ Q b ∧ El w Q es xs[i] ∧ At w Q ⟨b, o + i * size, none⟩ es := by
 obtain ⟨A', c', e, _, _, hel⟩ := h
 simp only [List.cons.injEq, and_true, Value.slice.injEq] at e
 obtain ⟨rfl, rfl, rfl⟩ := e
 obtain ⟨b, o, rfl, hb, hx⟩ := hel (by omega)
 obtain ⟨es, h1, h2⟩ := hx i xs[i] (List.getElem?_eq_getElem hi)
 exact ⟨b, o, es, rfl, hb, h1, h2⟩
theorem ListC.base {α : Type} {El : World → (Nat → Prop) → List Value → α → Prop} {size : Nat} {w : World} {Q : Nat → Prop} {A : Option Addr} {n c : Nat} {xs : List α} (h : ListC El size w Q [.slice A n c] xs) (hi : 0 < xs.length) :
 ∃ b o, A = some ⟨b, o, none⟩ ∧ Q b ∧ ∀ i (hi : i < xs.length), ∃ es, El w Q es xs[i] ∧ At w Q ⟨b, o + i * size, none⟩ es := by
 obtain ⟨A', c', e, _, _, hel⟩ := h
 simp only [List.cons.injEq, and_true, Value.slice.injEq] at e
 obtain ⟨rfl, rfl, rfl⟩ := e
 obtain ⟨b, o, rfl, hb, hx⟩ := hel hi
 exact ⟨b, o, rfl, hb, fun i hi => hx i xs[i] (List.getElem?_eq_getElem hi)⟩
theorem ListC.cap {α : Type} {El : World → (Nat → Prop) → List Value → α → Prop} {size : Nat} {w : World} {Q : Nat → Prop} {A : Option Addr} {n c : Nat} {xs : List α} (h : ListC El size w Q [.slice A n c] xs) : n = xs.length ∧ xs.length ≤ c ∧ c ≤ maxLen := by
 obtain ⟨A', c', e, h1, h2, _⟩ := h
 simp only [List.cons.injEq, and_true, Value.slice.injEq] at e
 obtain ⟨rfl, rfl, rfl⟩ := e
 exact ⟨rfl, h1, h2⟩
theorem listC0 {α : Type} (El : World → (Nat → Prop) → List Value → α → Prop) (size : Nat) (w : World) (Q : Nat → Prop) : ListC El size w Q [.slice none 0 0] ([] : List α) :=
 ⟨none, 0, rfl, by simp, by simp [maxLen], fun h => absurd h (by simp)⟩
def Quiet (w : World) (v : Value) (e : Ending) (w' : World) : Prop := e = .returned v ∧ Below w.heap.size w w'
structure XLine where
 account : Int := 0
 amount : Int := 0
 partner : Int := 0
deriving DecidableEq
def LineC (w : World) (Q : Nat → Prop) (cs : List Value) (x : XLine) : Prop := ∃ c0 c1 c2 : List Value, cs = c0 ++ c1 ++ c2 ∧ IntC c0 x.account ∧ IntC c1 x.amount ∧ IntC c2 x.partner
theorem LineC.fr {w w' : World} {Q : Nat → Prop} {cs : List Value} {x : XLine} (h : LineC w Q cs x) (hf : Fr Q w w') : LineC w' Q cs x := by
 obtain ⟨c0, c1, c2, e, h0, h1, h2⟩ := h
 exact ⟨c0, c1, c2, e, h0, h1, h2⟩
theorem LineC.mono {w : World} {Q Q' : Nat → Prop} {cs : List Value} {x : XLine} (h : LineC w Q cs x) (hf : ∀ k, Q k → Q' k) : LineC w Q' cs x := by
 obtain ⟨c0, c1, c2, e, h0, h1, h2⟩ := h
 exact ⟨c0, c1, c2, e, h0, h1, h2⟩
theorem LineC.len {w : World} {Q : Nat → Prop} {cs : List Value} {x : XLine} (h : LineC w Q cs x) : cs.length = 3 := by
 obtain ⟨c0, c1, c2, e, h0, h1, h2⟩ := h
 subst e
 simp only [List.length_append, IntC.len h0, IntC.len h1, IntC.len h2]
theorem LineC.keep {w w' : World} {cs : List Value} {x : XLine} (h : LineC w (· < w.heap.size) cs x) (hb : Below w.heap.size w w') : LineC w' (· < w'.heap.size) cs x :=
 (LineC.mono (LineC.fr h (Fr.ofBelow hb)) (fun k hk => by have := hb.size; omega))
theorem LineC.at_ {w : World} {Q Q2 : Nat → Prop} {cs : List Value} {x : XLine} {b o : Nat} (h : LineC w Q cs x) (ha : At w Q2 ⟨b, o, none⟩ cs) : (w.cell? ⟨b, o, none⟩ = some (.int .i64 x.account) ∧ intBd x.account) ∧ (w.cell? ⟨b, o + 1, none⟩ = some (.int .i64 x.amount) ∧ intBd x.amount) ∧ (w.cell? ⟨b, o + 2, none⟩ = some (.int .i64 x.partner) ∧ intBd x.partner) := by
 obtain ⟨c0, c1, c2, rfl, h0, h1, h2⟩ := h
 obtain ⟨p1, a2⟩ := ha.split
 obtain ⟨a0, a1⟩ := p1.split
 simp only [List.length_append, IntC.len h0, Nat.reduceAdd] at a1
 simp only [List.length_append, IntC.len h0, IntC.len h1, Nat.reduceAdd] at a2
 obtain ⟨rfl, b0⟩ := h0
 obtain ⟨rfl, b1⟩ := h1
 obtain ⟨rfl, b2⟩ := h2
 exact ⟨⟨a0.c (j := 0) rfl, b0⟩, ⟨a1.c (j := 0) rfl, b1⟩, ⟨a2.c (j := 0) rfl, b2⟩⟩
structure XEntry where
 id : Int := 0
 entity : Int := 0
 date : Int := 0
 kind : Int := 0
 of_ : Int := 0
 text : ByteArray := ByteArray.empty
 lines : List XLine := []
def EntryC (w : World) (Q : Nat → Prop) (cs : List Value) (x : XEntry) : Prop := ∃ c0 c1 c2 c3 c4 c5 c6 : List Value, cs = c0 ++ c1 ++ c2 ++ c3 ++ c4 ++ c5 ++ c6 ∧ IntC c0 x.id ∧ IntC c1 x.entity ∧ IntC c2 x.date ∧ IntC c3 x.kind ∧ IntC c4 x.of_ ∧ StrC c5 x.text ∧ ListC LineC 3 w Q c6 x.lines
theorem EntryC.fr {w w' : World} {Q : Nat → Prop} {cs : List Value} {x : XEntry} (h : EntryC w Q cs x) (hf : Fr Q w w') : EntryC w' Q cs x := by
 obtain ⟨c0, c1, c2, c3, c4, c5, c6, e, h0, h1, h2, h3, h4, h5, h6⟩ := h
 exact ⟨c0, c1, c2, c3, c4, c5, c6, e, h0, h1, h2, h3, h4, h5, h6.fr (fun h => LineC.fr h hf) hf⟩
theorem EntryC.mono {w : World} {Q Q' : Nat → Prop} {cs : List Value} {x : XEntry} (h : EntryC w Q cs x) (hf : ∀ k, Q k → Q' k) : EntryC w Q' cs x := by
 obtain ⟨c0, c1, c2, c3, c4, c5, c6, e, h0, h1, h2, h3, h4, h5, h6⟩ := h
 exact ⟨c0, c1, c2, c3, c4, c5, c6, e, h0, h1, h2, h3, h4, h5, h6.mono (fun h => LineC.mono h hf) hf⟩
theorem EntryC.len {w : World} {Q : Nat → Prop} {cs : List Value} {x : XEntry} (h : EntryC w Q cs x) : cs.length = 7 := by
 obtain ⟨c0, c1, c2, c3, c4, c5, c6, e, h0, h1, h2, h3, h4, h5, h6⟩ := h
 subst e
 simp only [List.length_append, IntC.len h0, IntC.len h1, IntC.len h2, IntC.len h3, IntC.len h4, StrC.len h5, ListC.len h6]
theorem EntryC.keep {w w' : World} {cs : List Value} {x : XEntry} (h : EntryC w (· < w.heap.size) cs x) (hb : Below w.heap.size w w') : EntryC w' (· < w'.heap.size) cs x :=
 (EntryC.mono (EntryC.fr h (Fr.ofBelow hb)) (fun k hk => by have := hb.size; omega))
theorem EntryC.at_ {w : World} {Q Q2 : Nat → Prop} {cs : List Value} {x : XEntry} {b o : Nat} (h : EntryC w Q cs x) (ha : At w Q2 ⟨b, o, none⟩ cs) : (w.cell? ⟨b, o, none⟩ = some (.int .i64 x.id) ∧ intBd x.id) ∧ (w.cell? ⟨b, o + 1, none⟩ = some (.int .i64 x.entity) ∧ intBd x.entity) ∧ (w.cell? ⟨b, o + 2, none⟩ = some (.int .i64 x.date) ∧ intBd x.date) ∧ (w.cell? ⟨b, o + 3, none⟩ = some (.int .i64 x.kind) ∧ intBd x.kind) ∧ (w.cell? ⟨b, o + 4, none⟩ = some (.int .i64 x.of_) ∧ intBd x.of_) ∧ w.cell? ⟨b, o + 5, none⟩ = some (.string x.text) ∧ (∃ A c, ListC LineC 3 w Q [.slice A x.lines.length c] x.lines ∧ w.cell? ⟨b, o + 6, none⟩ = some (.slice A x.lines.length c)) := by
 obtain ⟨c0, c1, c2, c3, c4, c5, c6, rfl, h0, h1, h2, h3, h4, h5, h6⟩ := h
 obtain ⟨p5, a6⟩ := ha.split
 obtain ⟨p4, a5⟩ := p5.split
 obtain ⟨p3, a4⟩ := p4.split
 obtain ⟨p2, a3⟩ := p3.split
 obtain ⟨p1, a2⟩ := p2.split
 obtain ⟨a0, a1⟩ := p1.split
 simp only [List.length_append, IntC.len h0, Nat.reduceAdd] at a1
 simp only [List.length_append, IntC.len h0, IntC.len h1, Nat.reduceAdd] at a2
 simp only [List.length_append, IntC.len h0, IntC.len h1, IntC.len h2, Nat.reduceAdd] at a3
 simp only [List.length_append, IntC.len h0, IntC.len h1, IntC.len h2, IntC.len h3, Nat.reduceAdd] at a4
 simp only [List.length_append, IntC.len h0, IntC.len h1, IntC.len h2, IntC.len h3, IntC.len h4, Nat.reduceAdd] at a5
 simp only [List.length_append, IntC.len h0, IntC.len h1, IntC.len h2, IntC.len h3, IntC.len h4, StrC.len h5, Nat.reduceAdd] at a6
 obtain ⟨rfl, b0⟩ := h0
 obtain ⟨rfl, b1⟩ := h1
 obtain ⟨rfl, b2⟩ := h2
 obtain ⟨rfl, b3⟩ := h3
 obtain ⟨rfl, b4⟩ := h4
 have e5 : c5 = _ := h5; subst e5
 have q6 := h6.cell a6
 exact ⟨⟨a0.c (j := 0) rfl, b0⟩, ⟨a1.c (j := 0) rfl, b1⟩, ⟨a2.c (j := 0) rfl, b2⟩, ⟨a3.c (j := 0) rfl, b3⟩, ⟨a4.c (j := 0) rfl, b4⟩, a5.c (j := 0) rfl, q6⟩
structure XAccount where
 code : Int := 0
 kind : Int := 0
 basis : Int := 0
 parent : Int := 0
deriving DecidableEq
def AccountC (w : World) (Q : Nat → Prop) (cs : List Value) (x : XAccount) : Prop := ∃ c0 c1 c2 c3 : List Value, cs = c0 ++ c1 ++ c2 ++ c3 ∧ IntC c0 x.code ∧ IntC c1 x.kind ∧ IntC c2 x.basis ∧ IntC c3 x.parent
theorem AccountC.fr {w w' : World} {Q : Nat → Prop} {cs : List Value} {x : XAccount} (h : AccountC w Q cs x) (hf : Fr Q w w') : AccountC w' Q cs x := by
 obtain ⟨c0, c1, c2, c3, e, h0, h1, h2, h3⟩ := h
 exact ⟨c0, c1, c2, c3, e, h0, h1, h2, h3⟩
theorem AccountC.mono {w : World} {Q Q' : Nat → Prop} {cs : List Value} {x : XAccount} (h : AccountC w Q cs x) (hf : ∀ k, Q k → Q' k) : AccountC w Q' cs x := by
 obtain ⟨c0, c1, c2, c3, e, h0, h1, h2, h3⟩ := h
 exact ⟨c0, c1, c2, c3, e, h0, h1, h2, h3⟩
theorem AccountC.len {w : World} {Q : Nat → Prop} {cs : List Value} {x : XAccount} (h : AccountC w Q cs x) : cs.length = 4 := by
 obtain ⟨c0, c1, c2, c3, e, h0, h1, h2, h3⟩ := h
 subst e
 simp only [List.length_append, IntC.len h0, IntC.len h1, IntC.len h2, IntC.len h3]
theorem AccountC.keep {w w' : World} {cs : List Value} {x : XAccount} (h : AccountC w (· < w.heap.size) cs x) (hb : Below w.heap.size w w') : AccountC w' (· < w'.heap.size) cs x :=
 (AccountC.mono (AccountC.fr h (Fr.ofBelow hb)) (fun k hk => by have := hb.size; omega))
theorem AccountC.at_ {w : World} {Q Q2 : Nat → Prop} {cs : List Value} {x : XAccount} {b o : Nat} (h : AccountC w Q cs x) (ha : At w Q2 ⟨b, o, none⟩ cs) : (w.cell? ⟨b, o, none⟩ = some (.int .i64 x.code) ∧ intBd x.code) ∧ (w.cell? ⟨b, o + 1, none⟩ = some (.int .i64 x.kind) ∧ intBd x.kind) ∧ (w.cell? ⟨b, o + 2, none⟩ = some (.int .i64 x.basis) ∧ intBd x.basis) ∧ (w.cell? ⟨b, o + 3, none⟩ = some (.int .i64 x.parent) ∧ intBd x.parent) := by
 obtain ⟨c0, c1, c2, c3, rfl, h0, h1, h2, h3⟩ := h
 obtain ⟨p2, a3⟩ := ha.split
 obtain ⟨p1, a2⟩ := p2.split
 obtain ⟨a0, a1⟩ := p1.split
 simp only [List.length_append, IntC.len h0, Nat.reduceAdd] at a1
 simp only [List.length_append, IntC.len h0, IntC.len h1, Nat.reduceAdd] at a2
 simp only [List.length_append, IntC.len h0, IntC.len h1, IntC.len h2, Nat.reduceAdd] at a3
 obtain ⟨rfl, b0⟩ := h0
 obtain ⟨rfl, b1⟩ := h1
 obtain ⟨rfl, b2⟩ := h2
 obtain ⟨rfl, b3⟩ := h3
 exact ⟨⟨a0.c (j := 0) rfl, b0⟩, ⟨a1.c (j := 0) rfl, b1⟩, ⟨a2.c (j := 0) rfl, b2⟩, ⟨a3.c (j := 0) rfl, b3⟩⟩
structure XLink where
 from_ : Int := 0
 to_ : Int := 0
 since : Int := 0
deriving DecidableEq
def LinkC (w : World) (Q : Nat → Prop) (cs : List Value) (x : XLink) : Prop := ∃ c0 c1 c2 : List Value, cs = c0 ++ c1 ++ c2 ∧ IntC c0 x.from_ ∧ IntC c1 x.to_ ∧ IntC c2 x.since
theorem LinkC.fr {w w' : World} {Q : Nat → Prop} {cs : List Value} {x : XLink} (h : LinkC w Q cs x) (hf : Fr Q w w') : LinkC w' Q cs x := by
 obtain ⟨c0, c1, c2, e, h0, h1, h2⟩ := h
 exact ⟨c0, c1, c2, e, h0, h1, h2⟩
theorem LinkC.mono {w : World} {Q Q' : Nat → Prop} {cs : List Value} {x : XLink} (h : LinkC w Q cs x) (hf : ∀ k, Q k → Q' k) : LinkC w Q' cs x := by
 obtain ⟨c0, c1, c2, e, h0, h1, h2⟩ := h
 exact ⟨c0, c1, c2, e, h0, h1, h2⟩
theorem LinkC.len {w : World} {Q : Nat → Prop} {cs : List Value} {x : XLink} (h : LinkC w Q cs x) : cs.length = 3 := by
 obtain ⟨c0, c1, c2, e, h0, h1, h2⟩ := h
 subst e
 simp only [List.length_append, IntC.len h0, IntC.len h1, IntC.len h2]
theorem LinkC.keep {w w' : World} {cs : List Value} {x : XLink} (h : LinkC w (· < w.heap.size) cs x) (hb : Below w.heap.size w w') : LinkC w' (· < w'.heap.size) cs x :=
 (LinkC.mono (LinkC.fr h (Fr.ofBelow hb)) (fun k hk => by have := hb.size; omega))
theorem LinkC.at_ {w : World} {Q Q2 : Nat → Prop} {cs : List Value} {x : XLink} {b o : Nat} (h : LinkC w Q cs x) (ha : At w Q2 ⟨b, o, none⟩ cs) : (w.cell? ⟨b, o, none⟩ = some (.int .i64 x.from_) ∧ intBd x.from_) ∧ (w.cell? ⟨b, o + 1, none⟩ = some (.int .i64 x.to_) ∧ intBd x.to_) ∧ (w.cell? ⟨b, o + 2, none⟩ = some (.int .i64 x.since) ∧ intBd x.since) := by
 obtain ⟨c0, c1, c2, rfl, h0, h1, h2⟩ := h
 obtain ⟨p1, a2⟩ := ha.split
 obtain ⟨a0, a1⟩ := p1.split
 simp only [List.length_append, IntC.len h0, Nat.reduceAdd] at a1
 simp only [List.length_append, IntC.len h0, IntC.len h1, Nat.reduceAdd] at a2
 obtain ⟨rfl, b0⟩ := h0
 obtain ⟨rfl, b1⟩ := h1
 obtain ⟨rfl, b2⟩ := h2
 exact ⟨⟨a0.c (j := 0) rfl, b0⟩, ⟨a1.c (j := 0) rfl, b1⟩, ⟨a2.c (j := 0) rfl, b2⟩⟩
structure XEntity where
 name : ByteArray := ByteArray.empty
 currency : ByteArray := ByteArray.empty
 chart : List XAccount := []
 links : List XLink := []
 joint : Bool := false
def EntityC (w : World) (Q : Nat → Prop) (cs : List Value) (x : XEntity) : Prop := ∃ c0 c1 c2 c3 c4 : List Value, cs = c0 ++ c1 ++ c2 ++ c3 ++ c4 ∧ StrC c0 x.name ∧ StrC c1 x.currency ∧ ListC AccountC 4 w Q c2 x.chart ∧ ListC LinkC 3 w Q c3 x.links ∧ BoolC c4 x.joint
theorem EntityC.fr {w w' : World} {Q : Nat → Prop} {cs : List Value} {x : XEntity} (h : EntityC w Q cs x) (hf : Fr Q w w') : EntityC w' Q cs x := by
 obtain ⟨c0, c1, c2, c3, c4, e, h0, h1, h2, h3, h4⟩ := h
 exact ⟨c0, c1, c2, c3, c4, e, h0, h1, h2.fr (fun h => AccountC.fr h hf) hf, h3.fr (fun h => LinkC.fr h hf) hf, h4⟩
theorem EntityC.mono {w : World} {Q Q' : Nat → Prop} {cs : List Value} {x : XEntity} (h : EntityC w Q cs x) (hf : ∀ k, Q k → Q' k) : EntityC w Q' cs x := by
 obtain ⟨c0, c1, c2, c3, c4, e, h0, h1, h2, h3, h4⟩ := h
 exact ⟨c0, c1, c2, c3, c4, e, h0, h1, h2.mono (fun h => AccountC.mono h hf) hf, h3.mono (fun h => LinkC.mono h hf) hf, h4⟩
theorem EntityC.len {w : World} {Q : Nat → Prop} {cs : List Value} {x : XEntity} (h : EntityC w Q cs x) : cs.length = 5 := by
 obtain ⟨c0, c1, c2, c3, c4, e, h0, h1, h2, h3, h4⟩ := h
 subst e
 simp only [List.length_append, StrC.len h0, StrC.len h1, ListC.len h2, ListC.len h3, BoolC.len h4]
theorem EntityC.keep {w w' : World} {cs : List Value} {x : XEntity} (h : EntityC w (· < w.heap.size) cs x) (hb : Below w.heap.size w w') : EntityC w' (· < w'.heap.size) cs x :=
 (EntityC.mono (EntityC.fr h (Fr.ofBelow hb)) (fun k hk => by have := hb.size; omega))
theorem EntityC.at_ {w : World} {Q Q2 : Nat → Prop} {cs : List Value} {x : XEntity} {b o : Nat} (h : EntityC w Q cs x) (ha : At w Q2 ⟨b, o, none⟩ cs) : w.cell? ⟨b, o, none⟩ = some (.string x.name) ∧ w.cell? ⟨b, o + 1, none⟩ = some (.string x.currency) ∧ (∃ A c, ListC AccountC 4 w Q [.slice A x.chart.length c] x.chart ∧ w.cell? ⟨b, o + 2, none⟩ = some (.slice A x.chart.length c)) ∧ (∃ A c, ListC LinkC 3 w Q [.slice A x.links.length c] x.links ∧ w.cell? ⟨b, o + 3, none⟩ = some (.slice A x.links.length c)) ∧ w.cell? ⟨b, o + 4, none⟩ = some (.bool x.joint) := by
 obtain ⟨c0, c1, c2, c3, c4, rfl, h0, h1, h2, h3, h4⟩ := h
 obtain ⟨p3, a4⟩ := ha.split
 obtain ⟨p2, a3⟩ := p3.split
 obtain ⟨p1, a2⟩ := p2.split
 obtain ⟨a0, a1⟩ := p1.split
 simp only [List.length_append, StrC.len h0, Nat.reduceAdd] at a1
 simp only [List.length_append, StrC.len h0, StrC.len h1, Nat.reduceAdd] at a2
 simp only [List.length_append, StrC.len h0, StrC.len h1, ListC.len h2, Nat.reduceAdd] at a3
 simp only [List.length_append, StrC.len h0, StrC.len h1, ListC.len h2, ListC.len h3, Nat.reduceAdd] at a4
 have e0 : c0 = _ := h0; subst e0
 have e1 : c1 = _ := h1; subst e1
 have q2 := h2.cell a2
 have q3 := h3.cell a3
 have e4 : c4 = _ := h4; subst e4
 exact ⟨a0.c (j := 0) rfl, a1.c (j := 0) rfl, q2, q3, a4.c (j := 0) rfl⟩
structure XCal where
 year : Int := 0
 month : Int := 0
 periods : Int := 0
deriving DecidableEq
def CalC (w : World) (Q : Nat → Prop) (cs : List Value) (x : XCal) : Prop := ∃ c0 c1 c2 : List Value, cs = c0 ++ c1 ++ c2 ∧ IntC c0 x.year ∧ IntC c1 x.month ∧ IntC c2 x.periods
theorem CalC.fr {w w' : World} {Q : Nat → Prop} {cs : List Value} {x : XCal} (h : CalC w Q cs x) (hf : Fr Q w w') : CalC w' Q cs x := by
 obtain ⟨c0, c1, c2, e, h0, h1, h2⟩ := h
 exact ⟨c0, c1, c2, e, h0, h1, h2⟩
theorem CalC.mono {w : World} {Q Q' : Nat → Prop} {cs : List Value} {x : XCal} (h : CalC w Q cs x) (hf : ∀ k, Q k → Q' k) : CalC w Q' cs x := by
 obtain ⟨c0, c1, c2, e, h0, h1, h2⟩ := h
 exact ⟨c0, c1, c2, e, h0, h1, h2⟩
theorem CalC.len {w : World} {Q : Nat → Prop} {cs : List Value} {x : XCal} (h : CalC w Q cs x) : cs.length = 3 := by
 obtain ⟨c0, c1, c2, e, h0, h1, h2⟩ := h
 subst e
 simp only [List.length_append, IntC.len h0, IntC.len h1, IntC.len h2]
theorem CalC.keep {w w' : World} {cs : List Value} {x : XCal} (h : CalC w (· < w.heap.size) cs x) (hb : Below w.heap.size w w') : CalC w' (· < w'.heap.size) cs x :=
 (CalC.mono (CalC.fr h (Fr.ofBelow hb)) (fun k hk => by have := hb.size; omega))
theorem CalC.at_ {w : World} {Q Q2 : Nat → Prop} {cs : List Value} {x : XCal} {b o : Nat} (h : CalC w Q cs x) (ha : At w Q2 ⟨b, o, none⟩ cs) : (w.cell? ⟨b, o, none⟩ = some (.int .i64 x.year) ∧ intBd x.year) ∧ (w.cell? ⟨b, o + 1, none⟩ = some (.int .i64 x.month) ∧ intBd x.month) ∧ (w.cell? ⟨b, o + 2, none⟩ = some (.int .i64 x.periods) ∧ intBd x.periods) := by
 obtain ⟨c0, c1, c2, rfl, h0, h1, h2⟩ := h
 obtain ⟨p1, a2⟩ := ha.split
 obtain ⟨a0, a1⟩ := p1.split
 simp only [List.length_append, IntC.len h0, Nat.reduceAdd] at a1
 simp only [List.length_append, IntC.len h0, IntC.len h1, Nat.reduceAdd] at a2
 obtain ⟨rfl, b0⟩ := h0
 obtain ⟨rfl, b1⟩ := h1
 obtain ⟨rfl, b2⟩ := h2
 exact ⟨⟨a0.c (j := 0) rfl, b0⟩, ⟨a1.c (j := 0) rfl, b1⟩, ⟨a2.c (j := 0) rfl, b2⟩⟩
structure XRoles where
 investment : Int := 0
 goodwill : Int := 0
 associates : Int := 0
 inventory : Int := 0
 reserve : Int := 0
 minority : Int := 0
 retained : Int := 0
 acquired : Int := 0
 owners : Int := 0
 disposal : Int := 0
 associateProfit : Int := 0
 dividends : Int := 0
 minorityProfit : Int := 0
 difference : Int := 0
 margin : Int := 0
deriving DecidableEq
def RolesC (w : World) (Q : Nat → Prop) (cs : List Value) (x : XRoles) : Prop := ∃ c0 c1 c2 c3 c4 c5 c6 c7 c8 c9 c10 c11 c12 c13 c14 : List Value, cs = c0 ++ c1 ++ c2 ++ c3 ++ c4 ++ c5 ++ c6 ++ c7 ++ c8 ++ c9 ++ c10 ++ c11 ++ c12 ++ c13 ++ c14 ∧ IntC c0 x.investment ∧ IntC c1 x.goodwill ∧ IntC c2 x.associates ∧ IntC c3 x.inventory ∧ IntC c4 x.reserve ∧ IntC c5 x.minority ∧ IntC c6 x.retained ∧ IntC c7 x.acquired ∧ IntC c8 x.owners ∧ IntC c9 x.disposal ∧ IntC c10 x.associateProfit ∧ IntC c11 x.dividends ∧ IntC c12 x.minorityProfit ∧ IntC c13 x.difference ∧ IntC c14 x.margin
theorem RolesC.fr {w w' : World} {Q : Nat → Prop} {cs : List Value} {x : XRoles} (h : RolesC w Q cs x) (hf : Fr Q w w') : RolesC w' Q cs x := by
 obtain ⟨c0, c1, c2, c3, c4, c5, c6, c7, c8, c9, c10, c11, c12, c13, c14, e, h0, h1, h2, h3, h4, h5, h6, h7, h8, h9, h10, h11, h12, h13, h14⟩ := h
 exact ⟨c0, c1, c2, c3, c4, c5, c6, c7, c8, c9, c10, c11, c12, c13, c14, e, h0, h1, h2, h3, h4, h5, h6, h7, h8, h9, h10, h11, h12, h13, h14⟩
theorem RolesC.mono {w : World} {Q Q' : Nat → Prop} {cs : List Value} {x : XRoles} (h : RolesC w Q cs x) (hf : ∀ k, Q k → Q' k) : RolesC w Q' cs x := by
 obtain ⟨c0, c1, c2, c3, c4, c5, c6, c7, c8, c9, c10, c11, c12, c13, c14, e, h0, h1, h2, h3, h4, h5, h6, h7, h8, h9, h10, h11, h12, h13, h14⟩ := h
 exact ⟨c0, c1, c2, c3, c4, c5, c6, c7, c8, c9, c10, c11, c12, c13, c14, e, h0, h1, h2, h3, h4, h5, h6, h7, h8, h9, h10, h11, h12, h13, h14⟩
theorem RolesC.len {w : World} {Q : Nat → Prop} {cs : List Value} {x : XRoles} (h : RolesC w Q cs x) : cs.length = 15 := by
 obtain ⟨c0, c1, c2, c3, c4, c5, c6, c7, c8, c9, c10, c11, c12, c13, c14, e, h0, h1, h2, h3, h4, h5, h6, h7, h8, h9, h10, h11, h12, h13, h14⟩ := h
 subst e
 simp only [List.length_append, IntC.len h0, IntC.len h1, IntC.len h2, IntC.len h3, IntC.len h4, IntC.len h5, IntC.len h6, IntC.len h7, IntC.len h8, IntC.len h9, IntC.len h10, IntC.len h11, IntC.len h12, IntC.len h13, IntC.len h14]
theorem RolesC.keep {w w' : World} {cs : List Value} {x : XRoles} (h : RolesC w (· < w.heap.size) cs x) (hb : Below w.heap.size w w') : RolesC w' (· < w'.heap.size) cs x :=
 (RolesC.mono (RolesC.fr h (Fr.ofBelow hb)) (fun k hk => by have := hb.size; omega))
theorem RolesC.at_ {w : World} {Q Q2 : Nat → Prop} {cs : List Value} {x : XRoles} {b o : Nat} (h : RolesC w Q cs x) (ha : At w Q2 ⟨b, o, none⟩ cs) : (w.cell? ⟨b, o, none⟩ = some (.int .i64 x.investment) ∧ intBd x.investment) ∧ (w.cell? ⟨b, o + 1, none⟩ = some (.int .i64 x.goodwill) ∧ intBd x.goodwill) ∧ (w.cell? ⟨b, o + 2, none⟩ = some (.int .i64 x.associates) ∧ intBd x.associates) ∧ (w.cell? ⟨b, o + 3, none⟩ = some (.int .i64 x.inventory) ∧ intBd x.inventory) ∧ (w.cell? ⟨b, o + 4, none⟩ = some (.int .i64 x.reserve) ∧ intBd x.reserve) ∧ (w.cell? ⟨b, o + 5, none⟩ = some (.int .i64 x.minority) ∧ intBd x.minority) ∧ (w.cell? ⟨b, o + 6, none⟩ = some (.int .i64 x.retained) ∧ intBd x.retained) ∧ (w.cell? ⟨b, o + 7, none⟩ = some (.int .i64 x.acquired) ∧ intBd x.acquired) ∧ (w.cell? ⟨b, o + 8, none⟩ = some (.int .i64 x.owners) ∧ intBd x.owners) ∧ (w.cell? ⟨b, o + 9, none⟩ = some (.int .i64 x.disposal) ∧ intBd x.disposal) ∧ (w.cell? ⟨b, o + 10, none⟩ = some (.int .i64 x.associateProfit) ∧ intBd x.associateProfit) ∧ (w.cell? ⟨b, o + 11, none⟩ = some (.int .i64 x.dividends) ∧ intBd x.dividends) ∧ (w.cell? ⟨b, o + 12, none⟩ = some (.int .i64 x.minorityProfit) ∧ intBd x.minorityProfit) ∧ (w.cell? ⟨b, o + 13, none⟩ = some (.int .i64 x.difference) ∧ intBd x.difference) ∧ (w.cell? ⟨b, o + 14, none⟩ = some (.int .i64 x.margin) ∧ intBd x.margin) := by
 obtain ⟨c0, c1, c2, c3, c4, c5, c6, c7, c8, c9, c10, c11, c12, c13, c14, rfl, h0, h1, h2, h3, h4, h5, h6, h7, h8, h9, h10, h11, h12, h13, h14⟩ := h
 obtain ⟨p13, a14⟩ := ha.split
 obtain ⟨p12, a13⟩ := p13.split
 obtain ⟨p11, a12⟩ := p12.split
 obtain ⟨p10, a11⟩ := p11.split
 obtain ⟨p9, a10⟩ := p10.split
 obtain ⟨p8, a9⟩ := p9.split
 obtain ⟨p7, a8⟩ := p8.split
 obtain ⟨p6, a7⟩ := p7.split
 obtain ⟨p5, a6⟩ := p6.split
 obtain ⟨p4, a5⟩ := p5.split
 obtain ⟨p3, a4⟩ := p4.split
 obtain ⟨p2, a3⟩ := p3.split
 obtain ⟨p1, a2⟩ := p2.split
 obtain ⟨a0, a1⟩ := p1.split
 simp only [List.length_append, IntC.len h0, Nat.reduceAdd] at a1
 simp only [List.length_append, IntC.len h0, IntC.len h1, Nat.reduceAdd] at a2
 simp only [List.length_append, IntC.len h0, IntC.len h1, IntC.len h2, Nat.reduceAdd] at a3
 simp only [List.length_append, IntC.len h0, IntC.len h1, IntC.len h2, IntC.len h3, Nat.reduceAdd] at a4
 simp only [List.length_append, IntC.len h0, IntC.len h1, IntC.len h2, IntC.len h3, IntC.len h4, Nat.reduceAdd] at a5
 simp only [List.length_append, IntC.len h0, IntC.len h1, IntC.len h2, IntC.len h3, IntC.len h4, IntC.len h5, Nat.reduceAdd] at a6
 simp only [List.length_append, IntC.len h0, IntC.len h1, IntC.len h2, IntC.len h3, IntC.len h4, IntC.len h5, IntC.len h6, Nat.reduceAdd] at a7
 simp only [List.length_append, IntC.len h0, IntC.len h1, IntC.len h2, IntC.len h3, IntC.len h4, IntC.len h5, IntC.len h6, IntC.len h7, Nat.reduceAdd] at a8
 simp only [List.length_append, IntC.len h0, IntC.len h1, IntC.len h2, IntC.len h3, IntC.len h4, IntC.len h5, IntC.len h6, IntC.len h7, IntC.len h8, Nat.reduceAdd] at a9
 simp only [List.length_append, IntC.len h0, IntC.len h1, IntC.len h2, IntC.len h3, IntC.len h4, IntC.len h5, IntC.len h6, IntC.len h7, IntC.len h8, IntC.len h9, Nat.reduceAdd] at a10
 simp only [List.length_append, IntC.len h0, IntC.len h1, IntC.len h2, IntC.len h3, IntC.len h4, IntC.len h5, IntC.len h6, IntC.len h7, IntC.len h8, IntC.len h9, IntC.len h10, Nat.reduceAdd] at a11
 simp only [List.length_append, IntC.len h0, IntC.len h1, IntC.len h2, IntC.len h3, IntC.len h4, IntC.len h5, IntC.len h6, IntC.len h7, IntC.len h8, IntC.len h9, IntC.len h10, IntC.len h11, Nat.reduceAdd] at a12
 simp only [List.length_append, IntC.len h0, IntC.len h1, IntC.len h2, IntC.len h3, IntC.len h4, IntC.len h5, IntC.len h6, IntC.len h7, IntC.len h8, IntC.len h9, IntC.len h10, IntC.len h11, IntC.len h12, Nat.reduceAdd] at a13
 simp only [List.length_append, IntC.len h0, IntC.len h1, IntC.len h2, IntC.len h3, IntC.len h4, IntC.len h5, IntC.len h6, IntC.len h7, IntC.len h8, IntC.len h9, IntC.len h10, IntC.len h11, IntC.len h12, IntC.len h13, Nat.reduceAdd] at a14
 obtain ⟨rfl, b0⟩ := h0
 obtain ⟨rfl, b1⟩ := h1
 obtain ⟨rfl, b2⟩ := h2
 obtain ⟨rfl, b3⟩ := h3
 obtain ⟨rfl, b4⟩ := h4
 obtain ⟨rfl, b5⟩ := h5
 obtain ⟨rfl, b6⟩ := h6
 obtain ⟨rfl, b7⟩ := h7
 obtain ⟨rfl, b8⟩ := h8
 obtain ⟨rfl, b9⟩ := h9
 obtain ⟨rfl, b10⟩ := h10
 obtain ⟨rfl, b11⟩ := h11
 obtain ⟨rfl, b12⟩ := h12
 obtain ⟨rfl, b13⟩ := h13
 obtain ⟨rfl, b14⟩ := h14
 exact ⟨⟨a0.c (j := 0) rfl, b0⟩, ⟨a1.c (j := 0) rfl, b1⟩, ⟨a2.c (j := 0) rfl, b2⟩, ⟨a3.c (j := 0) rfl, b3⟩, ⟨a4.c (j := 0) rfl, b4⟩, ⟨a5.c (j := 0) rfl, b5⟩, ⟨a6.c (j := 0) rfl, b6⟩, ⟨a7.c (j := 0) rfl, b7⟩, ⟨a8.c (j := 0) rfl, b8⟩, ⟨a9.c (j := 0) rfl, b9⟩, ⟨a10.c (j := 0) rfl, b10⟩, ⟨a11.c (j := 0) rfl, b11⟩, ⟨a12.c (j := 0) rfl, b12⟩, ⟨a13.c (j := 0) rfl, b13⟩, ⟨a14.c (j := 0) rfl, b14⟩⟩
structure XGroup where
 currency : ByteArray := ByteArray.empty
 calendar : XCal := {}
 chart : List XAccount := []
 roles : XRoles := {}
 entities : List XEntity := []
def GroupC (w : World) (Q : Nat → Prop) (cs : List Value) (x : XGroup) : Prop := ∃ c0 c1 c2 c3 c4 : List Value, cs = c0 ++ c1 ++ c2 ++ c3 ++ c4 ∧ StrC c0 x.currency ∧ CalC w Q c1 x.calendar ∧ ListC AccountC 4 w Q c2 x.chart ∧ RolesC w Q c3 x.roles ∧ ListC EntityC 5 w Q c4 x.entities
theorem GroupC.fr {w w' : World} {Q : Nat → Prop} {cs : List Value} {x : XGroup} (h : GroupC w Q cs x) (hf : Fr Q w w') : GroupC w' Q cs x := by
 obtain ⟨c0, c1, c2, c3, c4, e, h0, h1, h2, h3, h4⟩ := h
 exact ⟨c0, c1, c2, c3, c4, e, h0, CalC.fr h1 hf, h2.fr (fun h => AccountC.fr h hf) hf, RolesC.fr h3 hf, h4.fr (fun h => EntityC.fr h hf) hf⟩
theorem GroupC.mono {w : World} {Q Q' : Nat → Prop} {cs : List Value} {x : XGroup} (h : GroupC w Q cs x) (hf : ∀ k, Q k → Q' k) : GroupC w Q' cs x := by
 obtain ⟨c0, c1, c2, c3, c4, e, h0, h1, h2, h3, h4⟩ := h
 exact ⟨c0, c1, c2, c3, c4, e, h0, CalC.mono h1 hf, h2.mono (fun h => AccountC.mono h hf) hf, RolesC.mono h3 hf, h4.mono (fun h => EntityC.mono h hf) hf⟩
theorem GroupC.len {w : World} {Q : Nat → Prop} {cs : List Value} {x : XGroup} (h : GroupC w Q cs x) : cs.length = 21 := by
 obtain ⟨c0, c1, c2, c3, c4, e, h0, h1, h2, h3, h4⟩ := h
 subst e
 simp only [List.length_append, StrC.len h0, CalC.len h1, ListC.len h2, RolesC.len h3, ListC.len h4]
theorem GroupC.keep {w w' : World} {cs : List Value} {x : XGroup} (h : GroupC w (· < w.heap.size) cs x) (hb : Below w.heap.size w w') : GroupC w' (· < w'.heap.size) cs x :=
 (GroupC.mono (GroupC.fr h (Fr.ofBelow hb)) (fun k hk => by have := hb.size; omega))
theorem GroupC.at_ {w : World} {Q Q2 : Nat → Prop} {cs : List Value} {x : XGroup} {b o : Nat} (h : GroupC w Q cs x) (ha : At w Q2 ⟨b, o, none⟩ cs) : w.cell? ⟨b, o, none⟩ = some (.string x.currency) ∧ (∃ c, CalC w Q c x.calendar ∧ At w Q2 ⟨b, o + 1, none⟩ c) ∧ (∃ A c, ListC AccountC 4 w Q [.slice A x.chart.length c] x.chart ∧ w.cell? ⟨b, o + 4, none⟩ = some (.slice A x.chart.length c)) ∧ (∃ c, RolesC w Q c x.roles ∧ At w Q2 ⟨b, o + 5, none⟩ c) ∧ (∃ A c, ListC EntityC 5 w Q [.slice A x.entities.length c] x.entities ∧ w.cell? ⟨b, o + 20, none⟩ = some (.slice A x.entities.length c)) := by
 obtain ⟨c0, c1, c2, c3, c4, rfl, h0, h1, h2, h3, h4⟩ := h
 obtain ⟨p3, a4⟩ := ha.split
 obtain ⟨p2, a3⟩ := p3.split
 obtain ⟨p1, a2⟩ := p2.split
 obtain ⟨a0, a1⟩ := p1.split
 simp only [List.length_append, StrC.len h0, Nat.reduceAdd] at a1
 simp only [List.length_append, StrC.len h0, CalC.len h1, Nat.reduceAdd] at a2
 simp only [List.length_append, StrC.len h0, CalC.len h1, ListC.len h2, Nat.reduceAdd] at a3
 simp only [List.length_append, StrC.len h0, CalC.len h1, ListC.len h2, RolesC.len h3, Nat.reduceAdd] at a4
 have e0 : c0 = _ := h0; subst e0
 have q2 := h2.cell a2
 have q4 := h4.cell a4
 exact ⟨a0.c (j := 0) rfl, ⟨_, h1, a1⟩, q2, ⟨_, h3, a3⟩, q4⟩
structure XRef where
 entry : Int := 0
 line : Int := 0
deriving DecidableEq
def RefC (w : World) (Q : Nat → Prop) (cs : List Value) (x : XRef) : Prop := ∃ c0 c1 : List Value, cs = c0 ++ c1 ∧ IntC c0 x.entry ∧ IntC c1 x.line
theorem RefC.fr {w w' : World} {Q : Nat → Prop} {cs : List Value} {x : XRef} (h : RefC w Q cs x) (hf : Fr Q w w') : RefC w' Q cs x := by
 obtain ⟨c0, c1, e, h0, h1⟩ := h
 exact ⟨c0, c1, e, h0, h1⟩
theorem RefC.mono {w : World} {Q Q' : Nat → Prop} {cs : List Value} {x : XRef} (h : RefC w Q cs x) (hf : ∀ k, Q k → Q' k) : RefC w Q' cs x := by
 obtain ⟨c0, c1, e, h0, h1⟩ := h
 exact ⟨c0, c1, e, h0, h1⟩
theorem RefC.len {w : World} {Q : Nat → Prop} {cs : List Value} {x : XRef} (h : RefC w Q cs x) : cs.length = 2 := by
 obtain ⟨c0, c1, e, h0, h1⟩ := h
 subst e
 simp only [List.length_append, IntC.len h0, IntC.len h1]
theorem RefC.keep {w w' : World} {cs : List Value} {x : XRef} (h : RefC w (· < w.heap.size) cs x) (hb : Below w.heap.size w w') : RefC w' (· < w'.heap.size) cs x :=
 (RefC.mono (RefC.fr h (Fr.ofBelow hb)) (fun k hk => by have := hb.size; omega))
theorem RefC.at_ {w : World} {Q Q2 : Nat → Prop} {cs : List Value} {x : XRef} {b o : Nat} (h : RefC w Q cs x) (ha : At w Q2 ⟨b, o, none⟩ cs) : (w.cell? ⟨b, o, none⟩ = some (.int .i64 x.entry) ∧ intBd x.entry) ∧ (w.cell? ⟨b, o + 1, none⟩ = some (.int .i64 x.line) ∧ intBd x.line) := by
 obtain ⟨c0, c1, rfl, h0, h1⟩ := h
 obtain ⟨a0, a1⟩ := ha.split
 simp only [List.length_append, IntC.len h0, Nat.reduceAdd] at a1
 obtain ⟨rfl, b0⟩ := h0
 obtain ⟨rfl, b1⟩ := h1
 exact ⟨⟨a0.c (j := 0) rfl, b0⟩, ⟨a1.c (j := 0) rfl, b1⟩⟩
structure XItem where
 ref : XRef := {}
 entity : Int := 0
 account : Int := 0
 partner : Int := 0
 date : Int := 0
 amount : Int := 0
deriving DecidableEq
def ItemC (w : World) (Q : Nat → Prop) (cs : List Value) (x : XItem) : Prop := ∃ c0 c1 c2 c3 c4 c5 : List Value, cs = c0 ++ c1 ++ c2 ++ c3 ++ c4 ++ c5 ∧ RefC w Q c0 x.ref ∧ IntC c1 x.entity ∧ IntC c2 x.account ∧ IntC c3 x.partner ∧ IntC c4 x.date ∧ IntC c5 x.amount
theorem ItemC.fr {w w' : World} {Q : Nat → Prop} {cs : List Value} {x : XItem} (h : ItemC w Q cs x) (hf : Fr Q w w') : ItemC w' Q cs x := by
 obtain ⟨c0, c1, c2, c3, c4, c5, e, h0, h1, h2, h3, h4, h5⟩ := h
 exact ⟨c0, c1, c2, c3, c4, c5, e, RefC.fr h0 hf, h1, h2, h3, h4, h5⟩
theorem ItemC.mono {w : World} {Q Q' : Nat → Prop} {cs : List Value} {x : XItem} (h : ItemC w Q cs x) (hf : ∀ k, Q k → Q' k) : ItemC w Q' cs x := by
 obtain ⟨c0, c1, c2, c3, c4, c5, e, h0, h1, h2, h3, h4, h5⟩ := h
 exact ⟨c0, c1, c2, c3, c4, c5, e, RefC.mono h0 hf, h1, h2, h3, h4, h5⟩
theorem ItemC.len {w : World} {Q : Nat → Prop} {cs : List Value} {x : XItem} (h : ItemC w Q cs x) : cs.length = 7 := by
 obtain ⟨c0, c1, c2, c3, c4, c5, e, h0, h1, h2, h3, h4, h5⟩ := h
 subst e
 simp only [List.length_append, RefC.len h0, IntC.len h1, IntC.len h2, IntC.len h3, IntC.len h4, IntC.len h5]
theorem ItemC.keep {w w' : World} {cs : List Value} {x : XItem} (h : ItemC w (· < w.heap.size) cs x) (hb : Below w.heap.size w w') : ItemC w' (· < w'.heap.size) cs x :=
 (ItemC.mono (ItemC.fr h (Fr.ofBelow hb)) (fun k hk => by have := hb.size; omega))
theorem ItemC.at_ {w : World} {Q Q2 : Nat → Prop} {cs : List Value} {x : XItem} {b o : Nat} (h : ItemC w Q cs x) (ha : At w Q2 ⟨b, o, none⟩ cs) : (∃ c, RefC w Q c x.ref ∧ At w Q2 ⟨b, o, none⟩ c) ∧ (w.cell? ⟨b, o + 2, none⟩ = some (.int .i64 x.entity) ∧ intBd x.entity) ∧ (w.cell? ⟨b, o + 3, none⟩ = some (.int .i64 x.account) ∧ intBd x.account) ∧ (w.cell? ⟨b, o + 4, none⟩ = some (.int .i64 x.partner) ∧ intBd x.partner) ∧ (w.cell? ⟨b, o + 5, none⟩ = some (.int .i64 x.date) ∧ intBd x.date) ∧ (w.cell? ⟨b, o + 6, none⟩ = some (.int .i64 x.amount) ∧ intBd x.amount) := by
 obtain ⟨c0, c1, c2, c3, c4, c5, rfl, h0, h1, h2, h3, h4, h5⟩ := h
 obtain ⟨p4, a5⟩ := ha.split
 obtain ⟨p3, a4⟩ := p4.split
 obtain ⟨p2, a3⟩ := p3.split
 obtain ⟨p1, a2⟩ := p2.split
 obtain ⟨a0, a1⟩ := p1.split
 simp only [List.length_append, RefC.len h0, Nat.reduceAdd] at a1
 simp only [List.length_append, RefC.len h0, IntC.len h1, Nat.reduceAdd] at a2
 simp only [List.length_append, RefC.len h0, IntC.len h1, IntC.len h2, Nat.reduceAdd] at a3
 simp only [List.length_append, RefC.len h0, IntC.len h1, IntC.len h2, IntC.len h3, Nat.reduceAdd] at a4
 simp only [List.length_append, RefC.len h0, IntC.len h1, IntC.len h2, IntC.len h3, IntC.len h4, Nat.reduceAdd] at a5
 obtain ⟨rfl, b1⟩ := h1
 obtain ⟨rfl, b2⟩ := h2
 obtain ⟨rfl, b3⟩ := h3
 obtain ⟨rfl, b4⟩ := h4
 obtain ⟨rfl, b5⟩ := h5
 exact ⟨⟨_, h0, a0⟩, ⟨a1.c (j := 0) rfl, b1⟩, ⟨a2.c (j := 0) rfl, b2⟩, ⟨a3.c (j := 0) rfl, b3⟩, ⟨a4.c (j := 0) rfl, b4⟩, ⟨a5.c (j := 0) rfl, b5⟩⟩
structure XPart where
 account : Int := 0
 amount : Int := 0
deriving DecidableEq
def PartC (w : World) (Q : Nat → Prop) (cs : List Value) (x : XPart) : Prop := ∃ c0 c1 : List Value, cs = c0 ++ c1 ∧ IntC c0 x.account ∧ IntC c1 x.amount
theorem PartC.fr {w w' : World} {Q : Nat → Prop} {cs : List Value} {x : XPart} (h : PartC w Q cs x) (hf : Fr Q w w') : PartC w' Q cs x := by
 obtain ⟨c0, c1, e, h0, h1⟩ := h
 exact ⟨c0, c1, e, h0, h1⟩
theorem PartC.mono {w : World} {Q Q' : Nat → Prop} {cs : List Value} {x : XPart} (h : PartC w Q cs x) (hf : ∀ k, Q k → Q' k) : PartC w Q' cs x := by
 obtain ⟨c0, c1, e, h0, h1⟩ := h
 exact ⟨c0, c1, e, h0, h1⟩
theorem PartC.len {w : World} {Q : Nat → Prop} {cs : List Value} {x : XPart} (h : PartC w Q cs x) : cs.length = 2 := by
 obtain ⟨c0, c1, e, h0, h1⟩ := h
 subst e
 simp only [List.length_append, IntC.len h0, IntC.len h1]
theorem PartC.keep {w w' : World} {cs : List Value} {x : XPart} (h : PartC w (· < w.heap.size) cs x) (hb : Below w.heap.size w w') : PartC w' (· < w'.heap.size) cs x :=
 (PartC.mono (PartC.fr h (Fr.ofBelow hb)) (fun k hk => by have := hb.size; omega))
theorem PartC.at_ {w : World} {Q Q2 : Nat → Prop} {cs : List Value} {x : XPart} {b o : Nat} (h : PartC w Q cs x) (ha : At w Q2 ⟨b, o, none⟩ cs) : (w.cell? ⟨b, o, none⟩ = some (.int .i64 x.account) ∧ intBd x.account) ∧ (w.cell? ⟨b, o + 1, none⟩ = some (.int .i64 x.amount) ∧ intBd x.amount) := by
 obtain ⟨c0, c1, rfl, h0, h1⟩ := h
 obtain ⟨a0, a1⟩ := ha.split
 simp only [List.length_append, IntC.len h0, Nat.reduceAdd] at a1
 obtain ⟨rfl, b0⟩ := h0
 obtain ⟨rfl, b1⟩ := h1
 exact ⟨⟨a0.c (j := 0) rfl, b0⟩, ⟨a1.c (j := 0) rfl, b1⟩⟩
structure XPosting where
 kind : Int := 0
 entity : Int := 0
 other : Int := 0
 rule : Int := 0
 parts : List XPart := []
def PostingC (w : World) (Q : Nat → Prop) (cs : List Value) (x : XPosting) : Prop := ∃ c0 c1 c2 c3 c4 : List Value, cs = c0 ++ c1 ++ c2 ++ c3 ++ c4 ∧ IntC c0 x.kind ∧ IntC c1 x.entity ∧ IntC c2 x.other ∧ IntC c3 x.rule ∧ ListC PartC 2 w Q c4 x.parts
theorem PostingC.fr {w w' : World} {Q : Nat → Prop} {cs : List Value} {x : XPosting} (h : PostingC w Q cs x) (hf : Fr Q w w') : PostingC w' Q cs x := by
 obtain ⟨c0, c1, c2, c3, c4, e, h0, h1, h2, h3, h4⟩ := h
 exact ⟨c0, c1, c2, c3, c4, e, h0, h1, h2, h3, h4.fr (fun h => PartC.fr h hf) hf⟩
theorem PostingC.mono {w : World} {Q Q' : Nat → Prop} {cs : List Value} {x : XPosting} (h : PostingC w Q cs x) (hf : ∀ k, Q k → Q' k) : PostingC w Q' cs x := by
 obtain ⟨c0, c1, c2, c3, c4, e, h0, h1, h2, h3, h4⟩ := h
 exact ⟨c0, c1, c2, c3, c4, e, h0, h1, h2, h3, h4.mono (fun h => PartC.mono h hf) hf⟩
theorem PostingC.len {w : World} {Q : Nat → Prop} {cs : List Value} {x : XPosting} (h : PostingC w Q cs x) : cs.length = 5 := by
 obtain ⟨c0, c1, c2, c3, c4, e, h0, h1, h2, h3, h4⟩ := h
 subst e
 simp only [List.length_append, IntC.len h0, IntC.len h1, IntC.len h2, IntC.len h3, ListC.len h4]
theorem PostingC.keep {w w' : World} {cs : List Value} {x : XPosting} (h : PostingC w (· < w.heap.size) cs x) (hb : Below w.heap.size w w') : PostingC w' (· < w'.heap.size) cs x :=
 (PostingC.mono (PostingC.fr h (Fr.ofBelow hb)) (fun k hk => by have := hb.size; omega))
theorem PostingC.at_ {w : World} {Q Q2 : Nat → Prop} {cs : List Value} {x : XPosting} {b o : Nat} (h : PostingC w Q cs x) (ha : At w Q2 ⟨b, o, none⟩ cs) : (w.cell? ⟨b, o, none⟩ = some (.int .i64 x.kind) ∧ intBd x.kind) ∧ (w.cell? ⟨b, o + 1, none⟩ = some (.int .i64 x.entity) ∧ intBd x.entity) ∧ (w.cell? ⟨b, o + 2, none⟩ = some (.int .i64 x.other) ∧ intBd x.other) ∧ (w.cell? ⟨b, o + 3, none⟩ = some (.int .i64 x.rule) ∧ intBd x.rule) ∧ (∃ A c, ListC PartC 2 w Q [.slice A x.parts.length c] x.parts ∧ w.cell? ⟨b, o + 4, none⟩ = some (.slice A x.parts.length c)) := by
 obtain ⟨c0, c1, c2, c3, c4, rfl, h0, h1, h2, h3, h4⟩ := h
 obtain ⟨p3, a4⟩ := ha.split
 obtain ⟨p2, a3⟩ := p3.split
 obtain ⟨p1, a2⟩ := p2.split
 obtain ⟨a0, a1⟩ := p1.split
 simp only [List.length_append, IntC.len h0, Nat.reduceAdd] at a1
 simp only [List.length_append, IntC.len h0, IntC.len h1, Nat.reduceAdd] at a2
 simp only [List.length_append, IntC.len h0, IntC.len h1, IntC.len h2, Nat.reduceAdd] at a3
 simp only [List.length_append, IntC.len h0, IntC.len h1, IntC.len h2, IntC.len h3, Nat.reduceAdd] at a4
 obtain ⟨rfl, b0⟩ := h0
 obtain ⟨rfl, b1⟩ := h1
 obtain ⟨rfl, b2⟩ := h2
 obtain ⟨rfl, b3⟩ := h3
 have q4 := h4.cell a4
 exact ⟨⟨a0.c (j := 0) rfl, b0⟩, ⟨a1.c (j := 0) rfl, b1⟩, ⟨a2.c (j := 0) rfl, b2⟩, ⟨a3.c (j := 0) rfl, b3⟩, q4⟩
structure XBalance where
 account : Int := 0
 amount : Int := 0
deriving DecidableEq
def BalanceC (w : World) (Q : Nat → Prop) (cs : List Value) (x : XBalance) : Prop := ∃ c0 c1 : List Value, cs = c0 ++ c1 ∧ IntC c0 x.account ∧ IntC c1 x.amount
theorem BalanceC.fr {w w' : World} {Q : Nat → Prop} {cs : List Value} {x : XBalance} (h : BalanceC w Q cs x) (hf : Fr Q w w') : BalanceC w' Q cs x := by
 obtain ⟨c0, c1, e, h0, h1⟩ := h
 exact ⟨c0, c1, e, h0, h1⟩
theorem BalanceC.mono {w : World} {Q Q' : Nat → Prop} {cs : List Value} {x : XBalance} (h : BalanceC w Q cs x) (hf : ∀ k, Q k → Q' k) : BalanceC w Q' cs x := by
 obtain ⟨c0, c1, e, h0, h1⟩ := h
 exact ⟨c0, c1, e, h0, h1⟩
theorem BalanceC.len {w : World} {Q : Nat → Prop} {cs : List Value} {x : XBalance} (h : BalanceC w Q cs x) : cs.length = 2 := by
 obtain ⟨c0, c1, e, h0, h1⟩ := h
 subst e
 simp only [List.length_append, IntC.len h0, IntC.len h1]
theorem BalanceC.keep {w w' : World} {cs : List Value} {x : XBalance} (h : BalanceC w (· < w.heap.size) cs x) (hb : Below w.heap.size w w') : BalanceC w' (· < w'.heap.size) cs x :=
 (BalanceC.mono (BalanceC.fr h (Fr.ofBelow hb)) (fun k hk => by have := hb.size; omega))
theorem BalanceC.at_ {w : World} {Q Q2 : Nat → Prop} {cs : List Value} {x : XBalance} {b o : Nat} (h : BalanceC w Q cs x) (ha : At w Q2 ⟨b, o, none⟩ cs) : (w.cell? ⟨b, o, none⟩ = some (.int .i64 x.account) ∧ intBd x.account) ∧ (w.cell? ⟨b, o + 1, none⟩ = some (.int .i64 x.amount) ∧ intBd x.amount) := by
 obtain ⟨c0, c1, rfl, h0, h1⟩ := h
 obtain ⟨a0, a1⟩ := ha.split
 simp only [List.length_append, IntC.len h0, Nat.reduceAdd] at a1
 obtain ⟨rfl, b0⟩ := h0
 obtain ⟨rfl, b1⟩ := h1
 exact ⟨⟨a0.c (j := 0) rfl, b0⟩, ⟨a1.c (j := 0) rfl, b1⟩⟩
structure XRate where
 currency : ByteArray := ByteArray.empty
 kind : Int := 0
 when_ : Int := 0
 value : Int := 0
deriving DecidableEq
def RateC (w : World) (Q : Nat → Prop) (cs : List Value) (x : XRate) : Prop := ∃ c0 c1 c2 c3 : List Value, cs = c0 ++ c1 ++ c2 ++ c3 ∧ StrC c0 x.currency ∧ IntC c1 x.kind ∧ IntC c2 x.when_ ∧ IntC c3 x.value
theorem RateC.fr {w w' : World} {Q : Nat → Prop} {cs : List Value} {x : XRate} (h : RateC w Q cs x) (hf : Fr Q w w') : RateC w' Q cs x := by
 obtain ⟨c0, c1, c2, c3, e, h0, h1, h2, h3⟩ := h
 exact ⟨c0, c1, c2, c3, e, h0, h1, h2, h3⟩
theorem RateC.mono {w : World} {Q Q' : Nat → Prop} {cs : List Value} {x : XRate} (h : RateC w Q cs x) (hf : ∀ k, Q k → Q' k) : RateC w Q' cs x := by
 obtain ⟨c0, c1, c2, c3, e, h0, h1, h2, h3⟩ := h
 exact ⟨c0, c1, c2, c3, e, h0, h1, h2, h3⟩
theorem RateC.len {w : World} {Q : Nat → Prop} {cs : List Value} {x : XRate} (h : RateC w Q cs x) : cs.length = 4 := by
 obtain ⟨c0, c1, c2, c3, e, h0, h1, h2, h3⟩ := h
 subst e
 simp only [List.length_append, StrC.len h0, IntC.len h1, IntC.len h2, IntC.len h3]
theorem RateC.keep {w w' : World} {cs : List Value} {x : XRate} (h : RateC w (· < w.heap.size) cs x) (hb : Below w.heap.size w w') : RateC w' (· < w'.heap.size) cs x :=
 (RateC.mono (RateC.fr h (Fr.ofBelow hb)) (fun k hk => by have := hb.size; omega))
theorem RateC.at_ {w : World} {Q Q2 : Nat → Prop} {cs : List Value} {x : XRate} {b o : Nat} (h : RateC w Q cs x) (ha : At w Q2 ⟨b, o, none⟩ cs) : w.cell? ⟨b, o, none⟩ = some (.string x.currency) ∧ (w.cell? ⟨b, o + 1, none⟩ = some (.int .i64 x.kind) ∧ intBd x.kind) ∧ (w.cell? ⟨b, o + 2, none⟩ = some (.int .i64 x.when_) ∧ intBd x.when_) ∧ (w.cell? ⟨b, o + 3, none⟩ = some (.int .i64 x.value) ∧ intBd x.value) := by
 obtain ⟨c0, c1, c2, c3, rfl, h0, h1, h2, h3⟩ := h
 obtain ⟨p2, a3⟩ := ha.split
 obtain ⟨p1, a2⟩ := p2.split
 obtain ⟨a0, a1⟩ := p1.split
 simp only [List.length_append, StrC.len h0, Nat.reduceAdd] at a1
 simp only [List.length_append, StrC.len h0, IntC.len h1, Nat.reduceAdd] at a2
 simp only [List.length_append, StrC.len h0, IntC.len h1, IntC.len h2, Nat.reduceAdd] at a3
 have e0 : c0 = _ := h0; subst e0
 obtain ⟨rfl, b1⟩ := h1
 obtain ⟨rfl, b2⟩ := h2
 obtain ⟨rfl, b3⟩ := h3
 exact ⟨a0.c (j := 0) rfl, ⟨a1.c (j := 0) rfl, b1⟩, ⟨a2.c (j := 0) rfl, b2⟩, ⟨a3.c (j := 0) rfl, b3⟩⟩
structure XStep where
 entity : Int := 0
 period : Int := 0
 unlock : Bool := false
deriving DecidableEq
def StepC (w : World) (Q : Nat → Prop) (cs : List Value) (x : XStep) : Prop := ∃ c0 c1 c2 : List Value, cs = c0 ++ c1 ++ c2 ∧ IntC c0 x.entity ∧ IntC c1 x.period ∧ BoolC c2 x.unlock
theorem StepC.fr {w w' : World} {Q : Nat → Prop} {cs : List Value} {x : XStep} (h : StepC w Q cs x) (hf : Fr Q w w') : StepC w' Q cs x := by
 obtain ⟨c0, c1, c2, e, h0, h1, h2⟩ := h
 exact ⟨c0, c1, c2, e, h0, h1, h2⟩
theorem StepC.mono {w : World} {Q Q' : Nat → Prop} {cs : List Value} {x : XStep} (h : StepC w Q cs x) (hf : ∀ k, Q k → Q' k) : StepC w Q' cs x := by
 obtain ⟨c0, c1, c2, e, h0, h1, h2⟩ := h
 exact ⟨c0, c1, c2, e, h0, h1, h2⟩
theorem StepC.len {w : World} {Q : Nat → Prop} {cs : List Value} {x : XStep} (h : StepC w Q cs x) : cs.length = 3 := by
 obtain ⟨c0, c1, c2, e, h0, h1, h2⟩ := h
 subst e
 simp only [List.length_append, IntC.len h0, IntC.len h1, BoolC.len h2]
theorem StepC.keep {w w' : World} {cs : List Value} {x : XStep} (h : StepC w (· < w.heap.size) cs x) (hb : Below w.heap.size w w') : StepC w' (· < w'.heap.size) cs x :=
 (StepC.mono (StepC.fr h (Fr.ofBelow hb)) (fun k hk => by have := hb.size; omega))
theorem StepC.at_ {w : World} {Q Q2 : Nat → Prop} {cs : List Value} {x : XStep} {b o : Nat} (h : StepC w Q cs x) (ha : At w Q2 ⟨b, o, none⟩ cs) : (w.cell? ⟨b, o, none⟩ = some (.int .i64 x.entity) ∧ intBd x.entity) ∧ (w.cell? ⟨b, o + 1, none⟩ = some (.int .i64 x.period) ∧ intBd x.period) ∧ w.cell? ⟨b, o + 2, none⟩ = some (.bool x.unlock) := by
 obtain ⟨c0, c1, c2, rfl, h0, h1, h2⟩ := h
 obtain ⟨p1, a2⟩ := ha.split
 obtain ⟨a0, a1⟩ := p1.split
 simp only [List.length_append, IntC.len h0, Nat.reduceAdd] at a1
 simp only [List.length_append, IntC.len h0, IntC.len h1, Nat.reduceAdd] at a2
 obtain ⟨rfl, b0⟩ := h0
 obtain ⟨rfl, b1⟩ := h1
 have e2 : c2 = _ := h2; subst e2
 exact ⟨⟨a0.c (j := 0) rfl, b0⟩, ⟨a1.c (j := 0) rfl, b1⟩, a2.c (j := 0) rfl⟩
structure XLock where
 entity : Int := 0
 period : Int := 0
deriving DecidableEq
def LockC (w : World) (Q : Nat → Prop) (cs : List Value) (x : XLock) : Prop := ∃ c0 c1 : List Value, cs = c0 ++ c1 ∧ IntC c0 x.entity ∧ IntC c1 x.period
theorem LockC.fr {w w' : World} {Q : Nat → Prop} {cs : List Value} {x : XLock} (h : LockC w Q cs x) (hf : Fr Q w w') : LockC w' Q cs x := by
 obtain ⟨c0, c1, e, h0, h1⟩ := h
 exact ⟨c0, c1, e, h0, h1⟩
theorem LockC.mono {w : World} {Q Q' : Nat → Prop} {cs : List Value} {x : XLock} (h : LockC w Q cs x) (hf : ∀ k, Q k → Q' k) : LockC w Q' cs x := by
 obtain ⟨c0, c1, e, h0, h1⟩ := h
 exact ⟨c0, c1, e, h0, h1⟩
theorem LockC.len {w : World} {Q : Nat → Prop} {cs : List Value} {x : XLock} (h : LockC w Q cs x) : cs.length = 2 := by
 obtain ⟨c0, c1, e, h0, h1⟩ := h
 subst e
 simp only [List.length_append, IntC.len h0, IntC.len h1]
theorem LockC.keep {w w' : World} {cs : List Value} {x : XLock} (h : LockC w (· < w.heap.size) cs x) (hb : Below w.heap.size w w') : LockC w' (· < w'.heap.size) cs x :=
 (LockC.mono (LockC.fr h (Fr.ofBelow hb)) (fun k hk => by have := hb.size; omega))
theorem LockC.at_ {w : World} {Q Q2 : Nat → Prop} {cs : List Value} {x : XLock} {b o : Nat} (h : LockC w Q cs x) (ha : At w Q2 ⟨b, o, none⟩ cs) : (w.cell? ⟨b, o, none⟩ = some (.int .i64 x.entity) ∧ intBd x.entity) ∧ (w.cell? ⟨b, o + 1, none⟩ = some (.int .i64 x.period) ∧ intBd x.period) := by
 obtain ⟨c0, c1, rfl, h0, h1⟩ := h
 obtain ⟨a0, a1⟩ := ha.split
 simp only [List.length_append, IntC.len h0, Nat.reduceAdd] at a1
 obtain ⟨rfl, b0⟩ := h0
 obtain ⟨rfl, b1⟩ := h1
 exact ⟨⟨a0.c (j := 0) rfl, b0⟩, ⟨a1.c (j := 0) rfl, b1⟩⟩
theorem wpList_load_row_g {P : Program} {ops : Array Oper} {rest : List Oper} {o : Oper} {a : Act} {w : World} {Q : Exit → Act → World → Prop} (hw : Region.wanted o (yielded ops a.tmps) = true) (ty : TypeId) (x : Operand) (ho : o.op = .load ty x)
 (g : Nat) (hx : a.eval x = .pointer (some ⟨g, 0, none⟩)) (t : TypeId) (cs : Array Value) (fr : Nat × Nat) (d : TypeDesc) (hg : w.heap[g]? = some (.cells cs t fr))
 (hu : P.underlying ty = some d) (hd : (match d with | .struct _ | .array _ _ => true | _ => false) = true) (hi : (P.info? ty).map (·.size) = some cs.size)
 (h : wpList P ops Q rest (a.put o.dst (.agg cs)) w) : wpList P ops Q (o :: rest) a w :=
 wpList_step fun K hK => by rw [if_pos hw]; exact wp_load_row ty x ho g hx t cs fr d hg hu hd hi (hK _ _ h)
end Go.Proofs.Ytebdajkknkapcaa
namespace Go.Proofs.Ytebdajkknkapcaa
open Go Go.RowKit
def bat (s : ByteArray) (k : Nat) : Nat := (s.data.getD k 0).toNat
def curC (c : Nat) : Bool := decide (65 ≤ c ∧ c ≤ 90)
def curB (s : ByteArray) : Bool := (List.range s.size).all (fun k => curC (bat s k)) && s.size == 3
def letB (c : Nat) : Bool := decide (97 ≤ c ∧ c ≤ 122) || decide (65 ≤ c ∧ c ≤ 90)
def nameC (i c : Nat) : Bool := letB c || (i != 0 && (c == 45 || decide (48 ≤ c ∧ c ≤ 57)))
def nameB (s : ByteArray) : Bool := (List.range s.size).all (fun k => nameC k (bat s k)) && decide (1 ≤ s.size ∧ s.size ≤ 16)
end Go.Proofs.Ytebdajkknkapcaa
namespace Go.Proofs.Ytebdajkknkapcaa
open Go Go.RowKit
def leapI (y : Int) : Bool := y % 4 == 0 && (y % 100 != 0 || y % 400 == 0)
def mdays (m : Int) : Int := if m = 2 then 28 else if m = 4 ∨ m = 6 ∨ m = 9 ∨ m = 11 then 30 else 31
def inY (y : Int) : Prop := 1900 ≤ y ∧ y ≤ 2199
instance (y : Int) : Decidable (inY y) := by unfold inY; exact inferInstance
def daysI (y m : Int) : Int := if inY y ∧ 1 ≤ m ∧ m ≤ 12 then (if m = 2 ∧ leapI y = true then 29 else mdays m) else 0
theorem daysI_le (y m : Int) : 0 ≤ daysI y m ∧ daysI y m ≤ 31 := by
 unfold daysI mdays
 repeat' split
 all_goals omega
def sumD (y : Int) : Nat → Int
 | 0 => 0
 | n + 1 => sumD y n + daysI y ((n : Int) + 1)
theorem sumD_le (y : Int) (n : Nat) : 0 ≤ sumD y n ∧ sumD y n ≤ 31 * (n : Int) := by
 induction n with
 | zero => simp [sumD]
 | succ n ih => have := daysI_le y ((n : Int) + 1); simp only [sumD]; omega
def beginI (y : Int) : Int := 365 * (y - 1) + (y - 1) / 4 - (y - 1) / 100 + (y - 1) / 400 - 719162
theorem leapI_true {y : Int} (h1 : y % 4 = 0) (h2 : ¬ y % 100 = 0 ∨ y % 400 = 0) : leapI y = true := by
 unfold leapI; simp only [Bool.and_eq_true, beq_iff_eq, Bool.or_eq_true, bne_iff_ne]; exact ⟨h1, h2⟩
theorem leapI_false {y : Int} (h : ¬ (y % 4 = 0 ∧ (¬ y % 100 = 0 ∨ y % 400 = 0))) : leapI y = false := by
 cases hl : leapI y with
 | false => rfl
 | true =>
  unfold leapI at hl
  simp only [Bool.and_eq_true, beq_iff_eq, Bool.or_eq_true, bne_iff_ne] at hl
  exact absurd hl h
end Go.Proofs.Ytebdajkknkapcaa
namespace Go.Proofs.Ytebdajkknkapcaa
open Go Go.RowKit
theorem beginI_succ (y : Int) : beginI (y + 1) = beginI y + 365 + (if leapI y = true then 1 else 0) := by
 unfold beginI
 by_cases h4 : y % 4 = 0
 · by_cases h1 : y % 100 = 0
   · by_cases h2 : y % 400 = 0
     · rw [if_pos (leapI_true h4 (.inr h2))]; omega
     · rw [if_neg (by rw [leapI_false (fun h => h.2.elim (fun k => k h1) h2)]; simp)]; omega
   · rw [if_pos (leapI_true h4 (.inl h1))]; omega
 · rw [if_neg (by rw [leapI_false (fun h => h4 h.1)]; simp)]; omega
theorem sumD_last {y : Int} (hy : inY y) : sumD y 12 = 365 + (if leapI y = true then 1 else 0) := by
 unfold inY at hy
 simp only [sumD, daysI, mdays, inY]
 cases leapI y <;> simp [hy]
end Go.Proofs.Ytebdajkknkapcaa
namespace Go.Proofs.Ytebdajkknkapcaa
open Go Go.RowKit
def inD (d : Int) : Prop := -25567 ≤ d ∧ d ≤ 84005
instance (d : Int) : Decidable (inD d) := by unfold inD; exact inferInstance
def CivP (date y m d : Int) : Prop := inY y ∧ 1 ≤ m ∧ m ≤ 12 ∧ 1 ≤ d ∧ d ≤ daysI y m ∧ date = beginI y + sumD y (m - 1).toNat + d - 1
theorem beginI_mono {y z : Int} (h : y ≤ z) : beginI y + 365 * (z - y) ≤ beginI z := by
 unfold beginI; omega
theorem sumD_mono {y : Int} {a b : Nat} (h : a ≤ b) : sumD y a ≤ sumD y b := by
 induction b with
 | zero => have : a = 0 := by omega
           subst this; exact Int.le_refl _
 | succ b ih =>
  rcases Nat.lt_or_ge b a with h1 | h1
  · have : a = b + 1 := by omega
    subst this; exact Int.le_refl _
  · have := ih h1
    have := daysI_le y ((b : Int) + 1)
    simp only [sumD]; omega
theorem CivP.year {date y m d : Int} (h : CivP date y m d) : beginI y ≤ date ∧ date < beginI (y + 1) := by
 obtain ⟨hy, h1, h2, h3, h4, h5⟩ := h
 have k1 := sumD_le y (m - 1).toNat
 have k2 := sumD_last hy
 have k3 := beginI_succ y
 have k4 : sumD y ((m - 1).toNat + 1) ≤ sumD y 12 := sumD_mono (by omega)
 have k5 : sumD y ((m - 1).toNat + 1) = sumD y (m - 1).toNat + daysI y m := by rw [sumD, show (((m - 1).toNat : Int) + 1) = m from by omega]
 exact ⟨by omega, by omega⟩
theorem CivP.uniq {date y m d y' m' d' : Int} (h : CivP date y m d) (k : CivP date y' m' d') : y = y' ∧ m = m' ∧ d = d' := by
 have h1 := h.year
 have k1 := k.year
 have e : y = y' := by
  rcases Int.lt_trichotomy y y' with hl | he | hl
  · have := beginI_mono (show y + 1 ≤ y' by omega); omega
  · exact he
  · have := beginI_mono (show y' + 1 ≤ y by omega); omega
 subst e
 obtain ⟨hy, a1, a2, a3, a4, a5⟩ := h
 obtain ⟨_, b1, b2, b3, b4, b5⟩ := k
 have e : m = m' := by
  rcases Int.lt_trichotomy m m' with hl | he | hl
  · have q1 : sumD y ((m - 1).toNat + 1) ≤ sumD y (m' - 1).toNat := sumD_mono (by omega)
    have q2 : sumD y ((m - 1).toNat + 1) = sumD y (m - 1).toNat + daysI y m := by rw [sumD, show (((m - 1).toNat : Int) + 1) = m from by omega]
    omega
  · exact he
  · have q1 : sumD y ((m' - 1).toNat + 1) ≤ sumD y (m - 1).toNat := sumD_mono (by omega)
    have q2 : sumD y ((m' - 1).toNat + 1) = sumD y (m' - 1).toNat + daysI y m' := by rw [sumD, show (((m' - 1).toNat : Int) + 1) = m' from by omega]
    omega
 subst e
 exact ⟨rfl, rfl, by omega⟩
end Go.Proofs.Ytebdajkknkapcaa
namespace Go.Proofs.Ytebdajkknkapcaa
open Go Go.RowKit
def monI (n : Int) : Int := beginI (n / 12) + sumD (n / 12) (n % 12).toNat
end Go.Proofs.Ytebdajkknkapcaa
namespace Go.Proofs.Ytebdajkknkapcaa
open Go Go.RowKit
def perI (y m p : Int) : Int := 12 * y + m - 1 + p
def calB (y m p : Int) : Bool := decide (1 ≤ m ∧ m ≤ 12 ∧ 1 ≤ p ∧ p ≤ 120 ∧ inY y ∧ inY (perI y m (p - 1) / 12))
def lasI (n : Int) : Int := monI n + daysI (n / 12) (n % 12 + 1) - 1
end Go.Proofs.Ytebdajkknkapcaa
namespace Go.Proofs.Ytebdajkknkapcaa
open Go Go.RowKit
open Go.Maps (Keyed)
abbrev UD := DataW Unit
theorem plainElem_bool_inv {P : Program} {e : TypeId} (he : P.underlying e = some .bool) {v : Value} {z : UD × List MemPlace} (h : plainElem P e v = some z) : ∃ a, v = .bool a ∧ z = (.lit (.bool a), []) := by
 unfold plainElem at h
 rw [he] at h
 cases v <;> simp at h
 exact ⟨_, rfl, h.symm⟩
def SetK {α : Type} (P : Program) (k e : TypeId) (κ : α → Lit) (w : World) (b n : Nat) (f : α → Bool) : Prop :=
 ∃ D : UD, w.ownsMap P k (plainElem P e) b n D ∧ ∀ c, D.atKey (κ c) (.lit (.bool false)) = .lit (.bool (f c))
section
variable {α : Type} {P : Program} {k e t : TypeId} {κ : α → Lit} {w w' : World} {b n : Nat} {f : α → Bool}
theorem SetK.made (P : Program) (k e : TypeId) (κ : α → Lit) (w : World) : SetK P k e κ (w.alloc (.map #[] 0)) w.heap.size 0 (fun _ => false) :=
 ⟨_, World.ownsMap_made w P k _, fun _ => rfl⟩
theorem SetK.kept {row : Option Nat} (h : SetK P k e κ w b n f) (hg : w.grownBy w' row) (hne : some b ≠ row) : SetK P k e κ w' b n f := by
 obtain ⟨D, h1, h2⟩ := h
 exact ⟨D, h1.kept hg hne, h2⟩
theorem SetK.lt (h : SetK P k e κ w b n f) : b < w.heap.size := by
 obtain ⟨D, h1, h2⟩ := h
 exact h1.lt
theorem SetK.fr {Q : Nat → Prop} (h : SetK P k e κ w b n f) (hf : Fr Q w w') (hb : Q b) : SetK P k e κ w' b n f := by
 obtain ⟨D, ⟨es, clock, h1, h3, h4, h5⟩, h2⟩ := h
 exact ⟨D, ⟨es, clock, (hf.block b hb).trans h1, h3, h4, h5⟩, h2⟩
theorem SetK.below (h : SetK P k e κ w b n f) (hb : Below w.heap.size w w') : SetK P k e κ w' b n f := h.fr (Fr.ofBelow hb) h.lt
theorem SetK.mono (h : SetK P k e κ w b n f) {n' : Nat} (hn : n ≤ n') : SetK P k e κ w b n' f := by
 obtain ⟨D, h1, h2⟩ := h
 exact ⟨D, h1.mono hn, h2⟩
theorem SetK.eqv {g : α → Bool} (h : SetK P k e κ w b n f) (hg : ∀ c, f c = g c) : SetK P k e κ w b n g := by
 obtain ⟨D, h1, h2⟩ := h
 exact ⟨D, h1, fun c => by rw [h2 c, hg c]⟩
theorem SetK.look (h : SetK P k e κ w b n f) (K : Keyed P k) (ht : P.underlying t = some (.map k e)) (he : P.underlying e = some .bool) (hz : (zeroValue e).run P w = .ok (.bool false) w)
 {key : Value} {c : α} (hkey : keyOf P k key = some (κ c)) : (Instr.lookup t (.map (some b)) key false).run P w = .ok (.bool (f c)) w := by
 obtain ⟨D, h1, h2⟩ := h
 obtain ⟨v, ps, hrun, hv⟩ := h1.lookup K ht hz (plainElem_bool he false) hkey
 obtain ⟨a, rfl, ha⟩ := plainElem_bool_inv he hv
 rw [h2 c] at ha
 simp only [Prod.mk.injEq, DataW.lit.injEq, Lit.bool.injEq] at ha
 rw [hrun, ha.1]
theorem SetK.store [DecidableEq α] (h : SetK P k e κ w b n f) (K : Keyed P k) (ht : P.underlying t = some (.map k e)) (he : P.underlying e = some .bool) (hn : n < maxLen) (hκ : ∀ x y, κ x = κ y → x = y) (hl : ∀ x, WideAt.IsKeyLit (κ x))
 {key : Value} {c : α} (x : Bool) (hkey : keyOf P k key = some (κ c)) :
 ∃ w', (Instr.mapUpdate t (.map (some b)) key (.bool x)).run P w = .ok () w' ∧ SetK P k e κ w' b (n + 1) (fun d => if d = c then x else f d) ∧ w.grownBy w' (some b) := by
 obtain ⟨D, h1, h2⟩ := h
 obtain ⟨w2, hrun, h3, h4⟩ := h1.update K ht hn hkey (plainElem_bool he x)
 refine ⟨w2, hrun, ⟨_, h3, fun d => ?_⟩, h4⟩
 have hm : Maps.IsMap D := by obtain ⟨es, clock, _, _, _, e⟩ := h1; exact ⟨_, e⟩
 by_cases hd : d = c
 · subst hd
   rw [Maps.atKey_put_same hm (hl d)]; simp
 · rw [Maps.atKey_put_other (fun e => hd (hκ _ _ e)), h2 d]; simp [hd]
end
def iKey (n : Int) : Lit := .int .i64 n
theorem iKey_inj (x y : Int) (h : iKey x = iKey y) : x = y := by unfold iKey at h; injection h
theorem iKey_lit (x : Int) : WideAt.IsKeyLit (iKey x) := by unfold iKey; first | trivial | exact Or.inl trivial | simp [WideAt.IsKeyLit]
theorem int_uty : Try.prog.underlying 3 = some (.int .i64) := by kernel_rfl
theorem int_keyed3 : Keyed Try.prog 3 := Maps.int_keyed int_uty
theorem iKey_of {n : Int} (h : intBd n) : keyOf Try.prog 3 (.int .i64 n) = some (iKey n) := Maps.keyOf_int_mk int_uty (WalkArith.wf_i64 h)
end Go.Proofs.Ytebdajkknkapcaa
namespace Go.Proofs.Ytebdajkknkapcaa
open Go Go.RowKit
abbrev accL (a : XAccount) : List Value := [.int .i64 a.code, .int .i64 a.kind, .int .i64 a.basis, .int .i64 a.parent]
def accB (a : XAccount) : Prop := intBd a.code ∧ intBd a.kind ∧ intBd a.basis ∧ intBd a.parent
theorem AccountC.lit {w : World} {Q : Nat → Prop} {cs : List Value} {x : XAccount} (h : AccountC w Q cs x) : cs = accL x ∧ accB x := by
 obtain ⟨c0, c1, c2, c3, rfl, ⟨rfl, h0⟩, ⟨rfl, h1⟩, ⟨rfl, h2⟩, ⟨rfl, h3⟩⟩ := h
 exact ⟨rfl, h0, h1, h2, h3⟩
theorem At.range {w : World} {Q : Nat → Prop} {b o : Nat} {vs : List Value} (h : At w Q ⟨b, o, none⟩ vs) : w.rangeAt b o vs := fun j v hj => h.c hj
theorem alloc_keep {w : World} {g : Nat} {x : Obj} (h : w.heap[g]? = some x) (o : Obj) : (w.alloc o).heap[g]? = some x := by
 rw [Below.heap_alloc _ _ _ (blk_lt h)]; exact h
def findA (l : List XAccount) (c : Int) : Option XAccount := l.find? (fun a => a.code == c)
end Go.Proofs.Ytebdajkknkapcaa
namespace Go.Proofs.Ytebdajkknkapcaa
open Go Go.RowKit
def upP (l : List XAccount) : Nat → List Int → Int → List Int × Int
 | 0, acc, c => (acc, c)
 | f + 1, acc, c => match findA l c with
  | none => (acc, c)
  | some a => if acc.contains c then (acc, c) else upP l f (acc ++ [c]) a.parent
def fieldB (g : Bool) (a : XAccount) : Bool := decide (1 ≤ a.code ∧ a.code ≤ 99999 ∧ 1 ≤ a.kind ∧ a.kind ≤ 5) && (if g then decide (1 ≤ a.basis ∧ a.basis ≤ 3) else a.basis == 0)
def parB (l : List XAccount) (a : XAccount) : Bool := match findA l a.parent with
 | none => false
 | some p => !(p.code == a.code) && p.kind == a.kind
def properP (l : List XAccount) (g : Bool) (a : XAccount) : Bool := fieldB g a && (a.parent == 0 || (parB l a && (upP l (l.length + 1) [] a.code).2 == 0))
def rowP (l : List XAccount) (g : Bool) (i : Nat) : Bool := match l[i]? with
 | none => false
 | some a => !(decide (0 < i) && decide ((l.getD (i - 1) {}).code ≥ a.code)) && properP l g a
def chartB (l : List XAccount) (g : Bool) : Bool := (List.range l.length).all (rowP l g) && decide (l.length ≤ 200)
end Go.Proofs.Ytebdajkknkapcaa
namespace Go.Proofs.Ytebdajkknkapcaa
open Go Go.RowKit
theorem grown_of_below {w w' : World} (h : Below w.heap.size w w') : w.grownBy w' none := ⟨h.os, h.tape, h.output, h.size, fun k hk _ => h.block k hk⟩
def lenOf : Value → Nat
 | .slice _ n _ => n
 | _ => 0
theorem ListC.accB {w : World} {Q : Nat → Prop} {cs : List Value} {l : List XAccount} (h : ListC AccountC 4 w Q cs l) : ∀ a ∈ l, accB a := by
 intro a ha
 obtain ⟨i, hi, rfl⟩ := List.getElem_of_mem ha
 obtain ⟨A, c, rfl, _, _⟩ := h.form
 obtain ⟨b, o, es, _, _, h1, _⟩ := h.get i hi
 exact (AccountC.lit h1).2
theorem own_below {w w' : World} {base : Nat} {e : TypeId} {size n : Nat} {v : Value} {xs : List Value} (h : w.ownsRow base e size v n xs) (hb : Below w.heap.size w w') : w'.ownsRow base e size v n xs :=
 h.kept (grown_of_below hb) (by cases v.ownBlock <;> simp)
theorem below_grown {B : Nat} {w w1 w2 : World} {row : Option Nat} (h : Below B w w1) (hg : w1.grownBy w2 row) (hr : ∀ k, row = some k → B ≤ k) (hB : B ≤ w.heap.size) : Below B w w2 :=
 ((Fr.ofBelow h).grown hg (fun k hk => by omega) (fun k hk hlt => by have := hr k hk; omega)).below
end Go.Proofs.Ytebdajkknkapcaa
