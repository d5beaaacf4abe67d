/- Words on memory, and the data of package api; no program in sight. Written by gen_b0.py. -/
import Derived.WalkKit
import Derived.Laws.OwnMore
import Derived.Deep.AppendLies
import Derived.Deep.Draws
import Derived.Maps.AppendAt
import Derived.Deep.MidRow
import Derived.Lib.Hide
import Derived.KernelRfl
import Derived.WalkLawsBesides
import Derived.WalkSpells
import Derived.Deep.CutRange
import Derived.Deep.CutBlock
import Derived.BigQuiet
import Derived.Deep.QuietTactic
import Derived.Deep.DrawnRows
import Derived.Deep.RegionLaw
import Derived.Maps.OwnOps
import Derived.Maps.OwnSet
import Derived.Maps.Own
import Derived.Test.YtekelchdbkjjjaaGreatProg
set_option linter.unusedVariables false
set_option linter.unusedSimpArgs false
attribute [local go_sem ↓] Go.wp_at_zero Go.wp_at_succ
namespace Go.Proofs.YtekelchdbkjjjaaGreat
open Go Go.RowKit
structure Fr (Q : Nat → Prop) (w w' : World) : Prop where
 os : w'.os = w.os
 tape : w'.tape = w.tape
 output : w'.output = w.output
 size : w.heap.size ≤ w'.heap.size
 block : ∀ k, Q k → w'.heap[k]? = w.heap[k]?
section
variable {Q Q' : Nat → Prop} {w w' a b c : World}
theorem Fr.refl (Q : Nat → Prop) (w : World) : Fr Q w w := ⟨rfl, rfl, rfl, Nat.le_refl _, fun _ _ => rfl⟩
theorem Fr.trans (h : Fr Q a b) (k : Fr Q b c) : Fr Q a c :=
 ⟨k.os.trans h.os, k.tape.trans h.tape, k.output.trans h.output, Nat.le_trans h.size k.size, fun i hi => (k.block i hi).trans (h.block i hi)⟩
theorem Fr.mono (h : Fr Q w w') (hq : ∀ k, Q' k → Q k) : Fr Q' w w' := ⟨h.os, h.tape, h.output, h.size, fun k hk => h.block k (hq k hk)⟩
theorem Fr.drew (h : Fr Q a w) : Fr Q a w.drew := ⟨h.os, h.tape, h.output, h.size, h.block⟩
theorem Fr.drewN (h : Fr Q a w) (n : Nat) : Fr Q a (w.drewN n) := ⟨h.os, h.tape, h.output, h.size, h.block⟩
theorem Fr.alloc (h : Fr Q a w) (hq : ∀ k, Q k → k < a.heap.size) (o : Obj) : Fr Q a (w.alloc o) :=
 ⟨h.os, h.tape, h.output, Nat.le_trans h.size (by simp), fun k hk => (Below.heap_alloc w o k (Nat.lt_of_lt_of_le (hq k hk) h.size)).trans (h.block k hk)⟩
theorem Fr.setCell (h : Fr Q a w) {p : Addr} (hp : ¬ Q p.block) (u : Value) : Fr Q a (w.setCell p u) :=
 ⟨h.os, h.tape, h.output, by simpa [World.setCell] using h.size, fun k hk => (Below.heap_setCell w p u k (by rintro rfl; exact hp hk)).trans (h.block k hk)⟩
theorem Fr.grown {row : Option Nat} (h : Fr Q a w) (hg : w.grownBy w' row) (hq : ∀ k, Q k → k < a.heap.size) (hr : ∀ k, row = some k → ¬ Q k) : Fr Q a w' :=
 ⟨hg.os.trans h.os, hg.tape.trans h.tape, hg.output.trans h.output, Nat.le_trans h.size hg.size,
  fun k hk => (hg.block k (Nat.lt_of_lt_of_le (hq k hk) h.size) (fun e => hr k e.symm hk)).trans (h.block k hk)⟩
theorem Fr.below {B : Nat} (h : Fr (· < B) w w') : Below B w w' := ⟨h.os, h.tape, h.output, h.size, h.block⟩
theorem Fr.ofBelow {B : Nat} (h : Below B w w') : Fr (· < B) w w' := ⟨h.os, h.tape, h.output, h.size, h.block⟩
theorem Fr.cell (h : Fr Q w w') {p : Addr} (hp : Q p.block) : w'.cell? p = w.cell? p := World.cell?_of_block (w := w) (h.block _ hp)
theorem Fr.frozen (h : Fr Q w w') {p : Addr} (hp : Q p.block) : w'.frozen? p = w.frozen? p := World.frozen?_of_block (w := w) (h.block _ hp)
theorem Fr.cells (h : Fr Q w w') {b : Nat} (hp : Q b) : ∀ o, w'.cell? ⟨b, o, none⟩ = w.cell? ⟨b, o, none⟩ := fun o => h.cell (p := ⟨b, o, none⟩) hp
end
def At (w : World) (Q : Nat → Prop) (a : Addr) (vs : List Value) : Prop := Q a.block ∧ ∀ j u, vs[j]? = some u → w.cell? (a.add j) = some u ∧ w.frozen? (a.add j) = false
def Rd (w : World) (Q : Nat → Prop) (A : Option Addr) (n size : Nat) (vs : List Value) : Prop :=
 vs.length = n * size ∧ (0 < n → ∃ a, A = some a ∧ At w Q a vs)
theorem own_unfrozen {w : World} {base : Nat} {e : TypeId} {size n : Nat} {v : Value} {xs : List Value} (h : w.ownsRow base e size v n xs) {g : Nat} (hg : v.ownBlock = some g) (j : Nat) : w.frozen? ((⟨g, 0, none⟩ : Addr).add j) = false := by
 rcases h.2 with ⟨rfl, _⟩ | ⟨g', cap, cur, rfl, _, hgg, _⟩
 · simp [Value.ownBlock] at hg
 · simp [Value.ownBlock] at hg
   subst hg
   have hb : ((⟨g', 0, none⟩ : Addr).add j).block = g' := by unfold Addr.add; split <;> rfl
   simp [World.frozen?, hb, hgg]
theorem block_add (a : Addr) (n : Nat) : (a.add n).block = a.block := by unfold Addr.add; split <;> rfl
theorem add_add' (a : Addr) (i j : Nat) : (a.add i).add j = a.add (i + j) := by
 unfold Addr.add
 by_cases hi : i = 0 <;> by_cases hj : j = 0 <;> simp [hi, hj, Nat.add_assoc]
section
variable {Q Q' : Nat → Prop} {w w' : World} {a : Addr} {A : Option Addr} {vs : List Value} {n size : Nat}
theorem At.fr (h : At w Q a vs) (hf : Fr Q w w') : At w' Q a vs := ⟨h.1, fun j u hu => ⟨(hf.cell (by rw [block_add]; exact h.1)).trans (h.2 j u hu).1, (hf.frozen (by rw [block_add]; exact h.1)).trans (h.2 j u hu).2⟩⟩
theorem At.mono (h : At w Q a vs) (hq : ∀ k, Q k → Q' k) : At w Q' a vs := ⟨hq _ h.1, h.2⟩
theorem Rd.fr (h : Rd w Q A n size vs) (hf : Fr Q w w') : Rd w' Q A n size vs := ⟨h.1, fun hn => let ⟨a, e, ha⟩ := h.2 hn; ⟨a, e, ha.fr hf⟩⟩
theorem Rd.mono (h : Rd w Q A n size vs) (hq : ∀ k, Q k → Q' k) : Rd w Q' A n size vs := ⟨h.1, fun hn => let ⟨a, e, ha⟩ := h.2 hn; ⟨a, e, ha.mono hq⟩⟩
theorem Rd.nil (w : World) (Q : Nat → Prop) (size : Nat) : Rd w Q none 0 size [] := ⟨by simp, fun h => absurd h (by omega)⟩
theorem At.drop (h : At w Q a vs) (k : Nat) : At w Q (a.add k) (vs.drop k) :=
 ⟨by rw [block_add]; exact h.1, fun j u hu => by rw [add_add']; exact h.2 _ u (by rw [← hu, List.getElem?_drop])⟩
theorem At.take (h : At w Q a vs) (k : Nat) : At w Q a (vs.take k) :=
 ⟨h.1, fun j u hu => h.2 j u (by rw [List.getElem?_take] at hu; split at hu; exact hu; cases hu)⟩
theorem Rd.cut {k cap : Nat} (h : Rd w Q A n size vs) (hk : k ≤ n) (hc : n ≤ cap) :
 Rd w Q (if cap = k then A else A.map (·.add (k * size))) (n - k) size (vs.drop (k * size)) := by
 refine ⟨by rw [List.length_drop, h.1, Nat.sub_mul], fun hn => ?_⟩
 obtain ⟨a, rfl, ha⟩ := h.2 (by omega)
 rw [if_neg (by omega)]
 exact ⟨a.add (k * size), rfl, ha.drop _⟩
theorem Rd.head {k : Nat} (h : Rd w Q A n size vs) (hk : k ≤ n) : Rd w Q A k size (vs.take (k * size)) := by
 refine ⟨by rw [List.length_take, h.1, Nat.min_eq_left (Nat.mul_le_mul_right _ hk)], fun hn => ?_⟩
 obtain ⟨a, rfl, ha⟩ := h.2 (by omega)
 exact ⟨a, rfl, ha.take _⟩
theorem Rd.own {base : Nat} {e : TypeId} {c : Nat} (h : w.ownsRow base e size (.slice A n c) n vs) (hq : ∀ k, Value.ownBlock (.slice A n c) = some k → Q k) : Rd w Q A n size vs := by
 refine ⟨h.1, fun hn => ?_⟩
 obtain ⟨g, cap, hv, _, hlt⟩ := h.form hn
 have hA : A = some ⟨g, 0, none⟩ := by injection hv
 subst hA
 exact ⟨_, rfl, hq g rfl, fun j u hu => ⟨h.cells (g := g) rfl j u hu, own_unfrozen h (g := g) rfl j⟩⟩
end
def intBd (n : Int) : Prop := -9223372036854775808 ≤ n ∧ n ≤ 9223372036854775807
theorem blk_cell {w : World} {g : Nat} {t : TypeId} {cs : Array Value} (h : w.heap[g]? = some (.cells cs t (0, 0))) (i : Nat) : w.cell? ⟨g, i, none⟩ = cs[i]? := cell_of_row w g i cs t (0, 0) h
theorem blk_frozen {w : World} {g : Nat} {t : TypeId} {cs : Array Value} (h : w.heap[g]? = some (.cells cs t (0, 0))) (i : Nat) : w.frozen? ⟨g, i, none⟩ = false := by
 simp [World.frozen?, h]
theorem blk_lt {w : World} {g : Nat} {o : Obj} (h : w.heap[g]? = some o) : g < w.heap.size := by
 rcases Nat.lt_or_ge g w.heap.size with hlt | hge
 · exact hlt
 · rw [Array.getElem?_eq_none hge] at h; cases h
theorem heap_setCell_same {w : World} {b : Nat} {cs : Array Value} {t : TypeId} {fr : Nat × Nat} (h : w.heap[b]? = some (.cells cs t fr)) (i : Nat) (u : Value) :
 (w.setCell ⟨b, i, none⟩ u).heap[b]? = some (.cells (cs.setIfInBounds i u) t fr) := by
 simp [World.setCell, Array.getElem?_modify, h]
theorem heap_setRow {w : World} {g : Nat} {old : Array Value} {t : TypeId} {fr : Nat × Nat} (h : w.heap[g]? = some (.cells old t fr)) (cs : Array Value) : (w.setRow g cs).heap[g]? = some (.cells cs t fr) := by
 simp [World.setRow, Array.getElem?_modify, h]
theorem fr_setRow (w : World) (g : Nat) (cs : Array Value) : Fr (fun k => k ≠ g) w (w.setRow g cs) :=
 ⟨rfl, rfl, rfl, by simp [World.setRow], fun k hk => by
  simp only [World.setRow, Array.getElem?_modify]
  rw [if_neg (fun e => hk e.symm)]⟩
theorem below1 (w : World) (o : Obj) : Below w.heap.size w (w.alloc o) := (Below.refl _ _).alloc (Nat.le_refl _) o
theorem box_at {w : World} {b : Nat} {cs : List Value} {t : TypeId} (h : w.heap[b]? = some (.cells cs.toArray t)) : At w (· < w.heap.size) ⟨b, 0, none⟩ cs := by
 refine ⟨blk_lt h, fun j u hu => ?_⟩
 rw [Addr.add_lit, Nat.zero_add, blk_cell h j, blk_frozen h j]
 exact ⟨by simpa using hu, rfl⟩
theorem intBd_nat {n : Nat} (h : n ≤ 9223372036854775807) : intBd (n : Int) := by unfold intBd; omega
def IntC (cs : List Value) (n : Int) : Prop := cs = [.int .i64 n] ∧ intBd n
def StrC (cs : List Value) (s : ByteArray) : Prop := cs = [.string s]
def BoolC (cs : List Value) (b : Bool) : Prop := cs = [.bool b]
def ListC {α : Type} (El : World → (Nat → Prop) → List Value → α → Prop) (size : Nat) (w : World) (Q : Nat → Prop) (cs : List Value) (xs : List α) : Prop :=
 ∃ A c, cs = [.slice A xs.length c] ∧ xs.length ≤ c ∧ c ≤ maxLen ∧
  (0 < xs.length → ∃ b o, A = some ⟨b, o, none⟩ ∧ Q b ∧ ∀ i x, xs[i]? = some x → ∃ es, El w Q es x ∧ At w Q ⟨b, o + i * size, none⟩ es)
theorem IntC.len {cs : List Value} {n : Int} (h : IntC cs n) : cs.length = 1 := by rw [h.1]; rfl
theorem StrC.len {cs : List Value} {s : ByteArray} (h : StrC cs s) : cs.length = 1 := by rw [h]; rfl
theorem BoolC.len {cs : List Value} {b : Bool} (h : BoolC cs b) : cs.length = 1 := by rw [h]; rfl
theorem ListC.len {α : Type} {El : World → (Nat → Prop) → List Value → α → Prop} {size : Nat} {w : World} {Q : Nat → Prop} {cs : List Value} {xs : List α} (h : ListC El size w Q cs xs) : cs.length = 1 := by
 obtain ⟨A, c, e, _⟩ := h; rw [e]; rfl
theorem ListC.fr {α : Type} {El : World → (Nat → Prop) → List Value → α → Prop} {size : Nat} {w w' : World} {Q : Nat → Prop} {cs : List Value} {xs : List α} (h : ListC El size w Q cs xs)
 (hE : ∀ {es x}, El w Q es x → El w' Q es x) (hf : Fr Q w w') : ListC El size w' Q cs xs := by
 obtain ⟨A, c, e, h1, h2, h3⟩ := h
 refine ⟨A, c, e, h1, h2, fun hn => ?_⟩
 obtain ⟨b, o, ha, hb, hi⟩ := h3 hn
 refine ⟨b, o, ha, hb, fun i x hx => ?_⟩
 obtain ⟨es, he, hat⟩ := hi i x hx
 exact ⟨es, hE he, hat.fr hf⟩
theorem ListC.mono {α : Type} {El : World → (Nat → Prop) → List Value → α → Prop} {size : Nat} {w : World} {Q Q' : Nat → Prop} {cs : List Value} {xs : List α} (h : ListC El size w Q cs xs)
 (hE : ∀ {es x}, El w Q es x → El w Q' es x) (hq : ∀ k, Q k → Q' k) : ListC El size w Q' cs xs := by
 obtain ⟨A, c, e, h1, h2, h3⟩ := h
 refine ⟨A, c, e, h1, h2, fun hn => ?_⟩
 obtain ⟨b, o, ha, hb, hi⟩ := h3 hn
 refine ⟨b, o, ha, hq b hb, fun i x hx => ?_⟩
 obtain ⟨es, he, hat⟩ := hi i x hx
 exact ⟨es, hE he, hat.mono hq⟩
theorem At.c {w : World} {Q : Nat → Prop} {b o : Nat} {vs : List Value} (h : At w Q ⟨b, o, none⟩ vs) {j : Nat} {u : Value} (hj : vs[j]? = some u) : w.cell? ⟨b, o + j, none⟩ = some u := by
 have := (h.2 j u hj).1
 rwa [Addr.add_lit] at this
theorem At.f {w : World} {Q : Nat → Prop} {b o : Nat} {vs : List Value} (h : At w Q ⟨b, o, none⟩ vs) {j : Nat} {u : Value} (hj : vs[j]? = some u) : w.frozen? ⟨b, o + j, none⟩ = false := by
 have := (h.2 j u hj).2
 rwa [Addr.add_lit] at this
theorem At.split {w : World} {Q : Nat → Prop} {b o : Nat} {xs ys : List Value} (h : At w Q ⟨b, o, none⟩ (xs ++ ys)) : At w Q ⟨b, o, none⟩ xs ∧ At w Q ⟨b, o + xs.length, none⟩ ys := by
 refine ⟨⟨h.1, fun j u hj => h.2 j u ?_⟩, ⟨h.1, fun j u hj => ?_⟩⟩
 · rw [List.getElem?_append_left (List.getElem?_eq_some_iff.1 hj).1]; exact hj
 · have := h.2 (xs.length + j) u (by rw [List.getElem?_append_right (by omega)]; simpa using hj)
   rw [Addr.add_lit] at this ⊢
   rwa [Nat.add_assoc]
theorem ListC.form {α : Type} {El : World → (Nat → Prop) → List Value → α → Prop} {size : Nat} {w : World} {Q : Nat → Prop} {cs : List Value} {xs : List α} (h : ListC El size w Q cs xs) : ∃ A c, cs = [.slice A xs.length c] ∧ xs.length ≤ c ∧ c ≤ maxLen := by
 obtain ⟨A, c, e, h1, h2, _⟩ := h
 exact ⟨A, c, e, h1, h2⟩
theorem ListC.cell {α : Type} {El : World → (Nat → Prop) → List Value → α → Prop} {size : Nat} {w : World} {Q Q2 : Nat → Prop} {cs : List Value} {xs : List α} {b o : Nat} (h : ListC El size w Q cs xs) (ha : At w Q2 ⟨b, o, none⟩ cs) : ∃ A c, ListC El size w Q [.slice A xs.length c] xs ∧ w.cell? ⟨b, o, none⟩ = some (.slice A xs.length c) := by
 obtain ⟨A, c, e, _⟩ := h.form
 subst e
 exact ⟨A, c, h, ha.c (j := 0) rfl⟩
theorem ListC.get {α : Type} {El : World → (Nat → Prop) → List Value → α → Prop} {size : Nat} {w : World} {Q : Nat → Prop} {A : Option Addr} {n c : Nat} {xs : List α} (h : ListC El size w Q [.slice A n c] xs) (i : Nat) (hi : i < xs.length) :
 ∃ b o es, A = some ⟨b, o, none⟩ ∧ Q b ∧ El w Q es xs[i] ∧ At w Q ⟨b, o + i * size, none⟩ es := by
 obtain ⟨A', c', e, _, _, hel⟩ := h
 simp only [List.cons.injEq, and_true, Value.slice.injEq] at e
 obtain ⟨rfl, rfl, rfl⟩ := e
 obtain ⟨b, o, rfl, hb, hx⟩ := hel (by omega)
 obtain ⟨es, h1, h2⟩ := hx i xs[i] (List.getElem?_eq_getElem hi)
 exact ⟨b, o, es, rfl, hb, h1, h2⟩
theorem ListC.base {α : Type} {El : World → (Nat → Prop) → List Value → α → Prop} {size : Nat} {w : World} {Q : Nat → Prop} {A : Option Addr} {n c : Nat} {xs : List α} (h : ListC El size w Q [.slice A n c] xs) (hi : 0 < xs.length) :
 ∃ b o, A = some ⟨b, o, none⟩ ∧ Q b ∧ ∀ i (hi : i < xs.length), ∃ es, El w Q es xs[i] ∧ At w Q ⟨b, o + i * size, none⟩ es := by
 obtain ⟨A', c', e, _, _, hel⟩ := h
 simp only [List.cons.injEq, and_true, Value.slice.injEq] at e
 obtain ⟨rfl, rfl, rfl⟩ := e
 obtain ⟨b, o, rfl, hb, hx⟩ := hel hi
 exact ⟨b, o, rfl, hb, fun i hi => hx i xs[i] (List.getElem?_eq_getElem hi)⟩
theorem ListC.cap {α : Type} {El : World → (Nat → Prop) → List Value → α → Prop} {size : Nat} {w : World} {Q : Nat → Prop} {A : Option Addr} {n c : Nat} {xs : List α} (h : ListC El size w Q [.slice A n c] xs) : n = xs.length ∧ xs.length ≤ c ∧ c ≤ maxLen := by
 obtain ⟨A', c', e, h1, h2, _⟩ := h
 simp only [List.cons.injEq, and_true, Value.slice.injEq] at e
 obtain ⟨rfl, rfl, rfl⟩ := e
 exact ⟨rfl, h1, h2⟩
theorem bd0 : intBd 0 := by unfold intBd; omega
theorem listC0 {α : Type} (El : World → (Nat → Prop) → List Value → α → Prop) (size : Nat) (w : World) (Q : Nat → Prop) : ListC El size w Q [.slice none 0 0] ([] : List α) :=
 ⟨none, 0, rfl, by simp, by simp [maxLen], fun h => absurd h (by simp)⟩
theorem ListC.bd {α : Type} {El : World → (Nat → Prop) → List Value → α → Prop} {size : Nat} {w : World} {Q : Nat → Prop} {cs : List Value} {xs : List α} (h : ListC El size w Q cs xs) : intBd (xs.length : Int) := by
 obtain ⟨A, c, _, h1, h2, _⟩ := h
 unfold maxLen at h2
 exact intBd_nat (by omega)
def Quiet (w : World) (v : Value) (e : Ending) (w' : World) : Prop := e = .returned v ∧ Below w.heap.size w w'
structure XLine where
 account : Int := 0
 amount : Int := 0
 partner : Int := 0
deriving DecidableEq
def LineC (w : World) (Q : Nat → Prop) (cs : List Value) (x : XLine) : Prop := ∃ c0 c1 c2 : List Value, cs = c0 ++ c1 ++ c2 ∧ IntC c0 x.account ∧ IntC c1 x.amount ∧ IntC c2 x.partner
theorem LineC.fr {w w' : World} {Q : Nat → Prop} {cs : List Value} {x : XLine} (h : LineC w Q cs x) (hf : Fr Q w w') : LineC w' Q cs x := by
 obtain ⟨c0, c1, c2, e, h0, h1, h2⟩ := h
 exact ⟨c0, c1, c2, e, h0, h1, h2⟩
theorem LineC.mono {w : World} {Q Q' : Nat → Prop} {cs : List Value} {x : XLine} (h : LineC w Q cs x) (hf : ∀ k, Q k → Q' k) : LineC w Q' cs x := by
 obtain ⟨c0, c1, c2, e, h0, h1, h2⟩ := h
 exact ⟨c0, c1, c2, e, h0, h1, h2⟩
theorem LineC.len {w : World} {Q : Nat → Prop} {cs : List Value} {x : XLine} (h : LineC w Q cs x) : cs.length = 3 := by
 obtain ⟨c0, c1, c2, e, h0, h1, h2⟩ := h
 subst e
 simp only [List.length_append, IntC.len h0, IntC.len h1, IntC.len h2]
theorem LineC.keep {w w' : World} {cs : List Value} {x : XLine} (h : LineC w (· < w.heap.size) cs x) (hb : Below w.heap.size w w') : LineC w' (· < w'.heap.size) cs x :=
 (LineC.mono (LineC.fr h (Fr.ofBelow hb)) (fun k hk => by have := hb.size; omega))
structure XEntry where
 id : Int := 0
 entity : Int := 0
 date : Int := 0
 kind : Int := 0
 of_ : Int := 0
 text : ByteArray := ByteArray.empty
 lines : List XLine := []
def EntryC (w : World) (Q : Nat → Prop) (cs : List Value) (x : XEntry) : Prop := ∃ c0 c1 c2 c3 c4 c5 c6 : List Value, cs = c0 ++ c1 ++ c2 ++ c3 ++ c4 ++ c5 ++ c6 ∧ IntC c0 x.id ∧ IntC c1 x.entity ∧ IntC c2 x.date ∧ IntC c3 x.kind ∧ IntC c4 x.of_ ∧ StrC c5 x.text ∧ ListC LineC 3 w Q c6 x.lines
theorem EntryC.fr {w w' : World} {Q : Nat → Prop} {cs : List Value} {x : XEntry} (h : EntryC w Q cs x) (hf : Fr Q w w') : EntryC w' Q cs x := by
 obtain ⟨c0, c1, c2, c3, c4, c5, c6, e, h0, h1, h2, h3, h4, h5, h6⟩ := h
 exact ⟨c0, c1, c2, c3, c4, c5, c6, e, h0, h1, h2, h3, h4, h5, h6.fr (fun h => LineC.fr h hf) hf⟩
theorem EntryC.mono {w : World} {Q Q' : Nat → Prop} {cs : List Value} {x : XEntry} (h : EntryC w Q cs x) (hf : ∀ k, Q k → Q' k) : EntryC w Q' cs x := by
 obtain ⟨c0, c1, c2, c3, c4, c5, c6, e, h0, h1, h2, h3, h4, h5, h6⟩ := h
 exact ⟨c0, c1, c2, c3, c4, c5, c6, e, h0, h1, h2, h3, h4, h5, h6.mono (fun h => LineC.mono h hf) hf⟩
theorem EntryC.len {w : World} {Q : Nat → Prop} {cs : List Value} {x : XEntry} (h : EntryC w Q cs x) : cs.length = 7 := by
 obtain ⟨c0, c1, c2, c3, c4, c5, c6, e, h0, h1, h2, h3, h4, h5, h6⟩ := h
 subst e
 simp only [List.length_append, IntC.len h0, IntC.len h1, IntC.len h2, IntC.len h3, IntC.len h4, StrC.len h5, ListC.len h6]
theorem EntryC.keep {w w' : World} {cs : List Value} {x : XEntry} (h : EntryC w (· < w.heap.size) cs x) (hb : Below w.heap.size w w') : EntryC w' (· < w'.heap.size) cs x :=
 (EntryC.mono (EntryC.fr h (Fr.ofBelow hb)) (fun k hk => by have := hb.size; omega))
structure XAccount where
 code : Int := 0
 kind : Int := 0
 basis : Int := 0
 parent : Int := 0
deriving DecidableEq
def AccountC (w : World) (Q : Nat → Prop) (cs : List Value) (x : XAccount) : Prop := ∃ c0 c1 c2 c3 : List Value, cs = c0 ++ c1 ++ c2 ++ c3 ∧ IntC c0 x.code ∧ IntC c1 x.kind ∧ IntC c2 x.basis ∧ IntC c3 x.parent
theorem AccountC.fr {w w' : World} {Q : Nat → Prop} {cs : List Value} {x : XAccount} (h : AccountC w Q cs x) (hf : Fr Q w w') : AccountC w' Q cs x := by
 obtain ⟨c0, c1, c2, c3, e, h0, h1, h2, h3⟩ := h
 exact ⟨c0, c1, c2, c3, e, h0, h1, h2, h3⟩
theorem AccountC.mono {w : World} {Q Q' : Nat → Prop} {cs : List Value} {x : XAccount} (h : AccountC w Q cs x) (hf : ∀ k, Q k → Q' k) : AccountC w Q' cs x := by
 obtain ⟨c0, c1, c2, c3, e, h0, h1, h2, h3⟩ := h
 exact ⟨c0, c1, c2, c3, e, h0, h1, h2, h3⟩
theorem AccountC.len {w : World} {Q : Nat → Prop} {cs : List Value} {x : XAccount} (h : AccountC w Q cs x) : cs.length = 4 := by
 obtain ⟨c0, c1, c2, c3, e, h0, h1, h2, h3⟩ := h
 subst e
 simp only [List.length_append, IntC.len h0, IntC.len h1, IntC.len h2, IntC.len h3]
theorem AccountC.keep {w w' : World} {cs : List Value} {x : XAccount} (h : AccountC w (· < w.heap.size) cs x) (hb : Below w.heap.size w w') : AccountC w' (· < w'.heap.size) cs x :=
 (AccountC.mono (AccountC.fr h (Fr.ofBelow hb)) (fun k hk => by have := hb.size; omega))
structure XLink where
 from_ : Int := 0
 to_ : Int := 0
 since : Int := 0
deriving DecidableEq
def LinkC (w : World) (Q : Nat → Prop) (cs : List Value) (x : XLink) : Prop := ∃ c0 c1 c2 : List Value, cs = c0 ++ c1 ++ c2 ∧ IntC c0 x.from_ ∧ IntC c1 x.to_ ∧ IntC c2 x.since
theorem LinkC.fr {w w' : World} {Q : Nat → Prop} {cs : List Value} {x : XLink} (h : LinkC w Q cs x) (hf : Fr Q w w') : LinkC w' Q cs x := by
 obtain ⟨c0, c1, c2, e, h0, h1, h2⟩ := h
 exact ⟨c0, c1, c2, e, h0, h1, h2⟩
theorem LinkC.mono {w : World} {Q Q' : Nat → Prop} {cs : List Value} {x : XLink} (h : LinkC w Q cs x) (hf : ∀ k, Q k → Q' k) : LinkC w Q' cs x := by
 obtain ⟨c0, c1, c2, e, h0, h1, h2⟩ := h
 exact ⟨c0, c1, c2, e, h0, h1, h2⟩
theorem LinkC.len {w : World} {Q : Nat → Prop} {cs : List Value} {x : XLink} (h : LinkC w Q cs x) : cs.length = 3 := by
 obtain ⟨c0, c1, c2, e, h0, h1, h2⟩ := h
 subst e
 simp only [List.length_append, IntC.len h0, IntC.len h1, IntC.len h2]
theorem LinkC.keep {w w' : World} {cs : List Value} {x : XLink} (h : LinkC w (· < w.heap.size) cs x) (hb : Below w.heap.size w w') : LinkC w' (· < w'.heap.size) cs x :=
 (LinkC.mono (LinkC.fr h (Fr.ofBelow hb)) (fun k hk => by have := hb.size; omega))
structure XEntity where
 name : ByteArray := ByteArray.empty
 currency : ByteArray := ByteArray.empty
 chart : List XAccount := []
 links : List XLink := []
 joint : Bool := false
def EntityC (w : World) (Q : Nat → Prop) (cs : List Value) (x : XEntity) : Prop := ∃ c0 c1 c2 c3 c4 : List Value, cs = c0 ++ c1 ++ c2 ++ c3 ++ c4 ∧ StrC c0 x.name ∧ StrC c1 x.currency ∧ ListC AccountC 4 w Q c2 x.chart ∧ ListC LinkC 3 w Q c3 x.links ∧ BoolC c4 x.joint
theorem EntityC.fr {w w' : World} {Q : Nat → Prop} {cs : List Value} {x : XEntity} (h : EntityC w Q cs x) (hf : Fr Q w w') : EntityC w' Q cs x := by
 obtain ⟨c0, c1, c2, c3, c4, e, h0, h1, h2, h3, h4⟩ := h
 exact ⟨c0, c1, c2, c3, c4, e, h0, h1, h2.fr (fun h => AccountC.fr h hf) hf, h3.fr (fun h => LinkC.fr h hf) hf, h4⟩
theorem EntityC.mono {w : World} {Q Q' : Nat → Prop} {cs : List Value} {x : XEntity} (h : EntityC w Q cs x) (hf : ∀ k, Q k → Q' k) : EntityC w Q' cs x := by
 obtain ⟨c0, c1, c2, c3, c4, e, h0, h1, h2, h3, h4⟩ := h
 exact ⟨c0, c1, c2, c3, c4, e, h0, h1, h2.mono (fun h => AccountC.mono h hf) hf, h3.mono (fun h => LinkC.mono h hf) hf, h4⟩
theorem EntityC.len {w : World} {Q : Nat → Prop} {cs : List Value} {x : XEntity} (h : EntityC w Q cs x) : cs.length = 5 := by
 obtain ⟨c0, c1, c2, c3, c4, e, h0, h1, h2, h3, h4⟩ := h
 subst e
 simp only [List.length_append, StrC.len h0, StrC.len h1, ListC.len h2, ListC.len h3, BoolC.len h4]
theorem EntityC.keep {w w' : World} {cs : List Value} {x : XEntity} (h : EntityC w (· < w.heap.size) cs x) (hb : Below w.heap.size w w') : EntityC w' (· < w'.heap.size) cs x :=
 (EntityC.mono (EntityC.fr h (Fr.ofBelow hb)) (fun k hk => by have := hb.size; omega))
structure XCal where
 year : Int := 0
 month : Int := 0
 periods : Int := 0
deriving DecidableEq
def CalC (w : World) (Q : Nat → Prop) (cs : List Value) (x : XCal) : Prop := ∃ c0 c1 c2 : List Value, cs = c0 ++ c1 ++ c2 ∧ IntC c0 x.year ∧ IntC c1 x.month ∧ IntC c2 x.periods
theorem CalC.fr {w w' : World} {Q : Nat → Prop} {cs : List Value} {x : XCal} (h : CalC w Q cs x) (hf : Fr Q w w') : CalC w' Q cs x := by
 obtain ⟨c0, c1, c2, e, h0, h1, h2⟩ := h
 exact ⟨c0, c1, c2, e, h0, h1, h2⟩
theorem CalC.mono {w : World} {Q Q' : Nat → Prop} {cs : List Value} {x : XCal} (h : CalC w Q cs x) (hf : ∀ k, Q k → Q' k) : CalC w Q' cs x := by
 obtain ⟨c0, c1, c2, e, h0, h1, h2⟩ := h
 exact ⟨c0, c1, c2, e, h0, h1, h2⟩
theorem CalC.len {w : World} {Q : Nat → Prop} {cs : List Value} {x : XCal} (h : CalC w Q cs x) : cs.length = 3 := by
 obtain ⟨c0, c1, c2, e, h0, h1, h2⟩ := h
 subst e
 simp only [List.length_append, IntC.len h0, IntC.len h1, IntC.len h2]
theorem CalC.keep {w w' : World} {cs : List Value} {x : XCal} (h : CalC w (· < w.heap.size) cs x) (hb : Below w.heap.size w w') : CalC w' (· < w'.heap.size) cs x :=
 (CalC.mono (CalC.fr h (Fr.ofBelow hb)) (fun k hk => by have := hb.size; omega))
structure XRoles where
 investment : Int := 0
 goodwill : Int := 0
 associates : Int := 0
 inventory : Int := 0
 reserve : Int := 0
 minority : Int := 0
 retained : Int := 0
 acquired : Int := 0
 owners : Int := 0
 disposal : Int := 0
 associateProfit : Int := 0
 dividends : Int := 0
 minorityProfit : Int := 0
 difference : Int := 0
 margin : Int := 0
deriving DecidableEq
def RolesC (w : World) (Q : Nat → Prop) (cs : List Value) (x : XRoles) : Prop := ∃ c0 c1 c2 c3 c4 c5 c6 c7 c8 c9 c10 c11 c12 c13 c14 : List Value, cs = c0 ++ c1 ++ c2 ++ c3 ++ c4 ++ c5 ++ c6 ++ c7 ++ c8 ++ c9 ++ c10 ++ c11 ++ c12 ++ c13 ++ c14 ∧ IntC c0 x.investment ∧ IntC c1 x.goodwill ∧ IntC c2 x.associates ∧ IntC c3 x.inventory ∧ IntC c4 x.reserve ∧ IntC c5 x.minority ∧ IntC c6 x.retained ∧ IntC c7 x.acquired ∧ IntC c8 x.owners ∧ IntC c9 x.disposal ∧ IntC c10 x.associateProfit ∧ IntC c11 x.dividends ∧ IntC c12 x.minorityProfit ∧ IntC c13 x.difference ∧ IntC c14 x.margin
theorem RolesC.fr {w w' : World} {Q : Nat → Prop} {cs : List Value} {x : XRoles} (h : RolesC w Q cs x) (hf : Fr Q w w') : RolesC w' Q cs x := by
 obtain ⟨c0, c1, c2, c3, c4, c5, c6, c7, c8, c9, c10, c11, c12, c13, c14, e, h0, h1, h2, h3, h4, h5, h6, h7, h8, h9, h10, h11, h12, h13, h14⟩ := h
 exact ⟨c0, c1, c2, c3, c4, c5, c6, c7, c8, c9, c10, c11, c12, c13, c14, e, h0, h1, h2, h3, h4, h5, h6, h7, h8, h9, h10, h11, h12, h13, h14⟩
theorem RolesC.mono {w : World} {Q Q' : Nat → Prop} {cs : List Value} {x : XRoles} (h : RolesC w Q cs x) (hf : ∀ k, Q k → Q' k) : RolesC w Q' cs x := by
 obtain ⟨c0, c1, c2, c3, c4, c5, c6, c7, c8, c9, c10, c11, c12, c13, c14, e, h0, h1, h2, h3, h4, h5, h6, h7, h8, h9, h10, h11, h12, h13, h14⟩ := h
 exact ⟨c0, c1, c2, c3, c4, c5, c6, c7, c8, c9, c10, c11, c12, c13, c14, e, h0, h1, h2, h3, h4, h5, h6, h7, h8, h9, h10, h11, h12, h13, h14⟩
theorem RolesC.len {w : World} {Q : Nat → Prop} {cs : List Value} {x : XRoles} (h : RolesC w Q cs x) : cs.length = 15 := by
 obtain ⟨c0, c1, c2, c3, c4, c5, c6, c7, c8, c9, c10, c11, c12, c13, c14, e, h0, h1, h2, h3, h4, h5, h6, h7, h8, h9, h10, h11, h12, h13, h14⟩ := h
 subst e
 simp only [List.length_append, IntC.len h0, IntC.len h1, IntC.len h2, IntC.len h3, IntC.len h4, IntC.len h5, IntC.len h6, IntC.len h7, IntC.len h8, IntC.len h9, IntC.len h10, IntC.len h11, IntC.len h12, IntC.len h13, IntC.len h14]
theorem RolesC.keep {w w' : World} {cs : List Value} {x : XRoles} (h : RolesC w (· < w.heap.size) cs x) (hb : Below w.heap.size w w') : RolesC w' (· < w'.heap.size) cs x :=
 (RolesC.mono (RolesC.fr h (Fr.ofBelow hb)) (fun k hk => by have := hb.size; omega))
structure XGroup where
 currency : ByteArray := ByteArray.empty
 calendar : XCal := {}
 chart : List XAccount := []
 roles : XRoles := {}
 entities : List XEntity := []
def GroupC (w : World) (Q : Nat → Prop) (cs : List Value) (x : XGroup) : Prop := ∃ c0 c1 c2 c3 c4 : List Value, cs = c0 ++ c1 ++ c2 ++ c3 ++ c4 ∧ StrC c0 x.currency ∧ CalC w Q c1 x.calendar ∧ ListC AccountC 4 w Q c2 x.chart ∧ RolesC w Q c3 x.roles ∧ ListC EntityC 5 w Q c4 x.entities
theorem GroupC.fr {w w' : World} {Q : Nat → Prop} {cs : List Value} {x : XGroup} (h : GroupC w Q cs x) (hf : Fr Q w w') : GroupC w' Q cs x := by
 obtain ⟨c0, c1, c2, c3, c4, e, h0, h1, h2, h3, h4⟩ := h
 exact ⟨c0, c1, c2, c3, c4, e, h0, CalC.fr h1 hf, h2.fr (fun h => AccountC.fr h hf) hf, RolesC.fr h3 hf, h4.fr (fun h => EntityC.fr h hf) hf⟩
theorem GroupC.mono {w : World} {Q Q' : Nat → Prop} {cs : List Value} {x : XGroup} (h : GroupC w Q cs x) (hf : ∀ k, Q k → Q' k) : GroupC w Q' cs x := by
 obtain ⟨c0, c1, c2, c3, c4, e, h0, h1, h2, h3, h4⟩ := h
 exact ⟨c0, c1, c2, c3, c4, e, h0, CalC.mono h1 hf, h2.mono (fun h => AccountC.mono h hf) hf, RolesC.mono h3 hf, h4.mono (fun h => EntityC.mono h hf) hf⟩
theorem GroupC.len {w : World} {Q : Nat → Prop} {cs : List Value} {x : XGroup} (h : GroupC w Q cs x) : cs.length = 21 := by
 obtain ⟨c0, c1, c2, c3, c4, e, h0, h1, h2, h3, h4⟩ := h
 subst e
 simp only [List.length_append, StrC.len h0, CalC.len h1, ListC.len h2, RolesC.len h3, ListC.len h4]
theorem GroupC.keep {w w' : World} {cs : List Value} {x : XGroup} (h : GroupC w (· < w.heap.size) cs x) (hb : Below w.heap.size w w') : GroupC w' (· < w'.heap.size) cs x :=
 (GroupC.mono (GroupC.fr h (Fr.ofBelow hb)) (fun k hk => by have := hb.size; omega))
structure XRef where
 entry : Int := 0
 line : Int := 0
deriving DecidableEq
def RefC (w : World) (Q : Nat → Prop) (cs : List Value) (x : XRef) : Prop := ∃ c0 c1 : List Value, cs = c0 ++ c1 ∧ IntC c0 x.entry ∧ IntC c1 x.line
theorem RefC.fr {w w' : World} {Q : Nat → Prop} {cs : List Value} {x : XRef} (h : RefC w Q cs x) (hf : Fr Q w w') : RefC w' Q cs x := by
 obtain ⟨c0, c1, e, h0, h1⟩ := h
 exact ⟨c0, c1, e, h0, h1⟩
theorem RefC.mono {w : World} {Q Q' : Nat → Prop} {cs : List Value} {x : XRef} (h : RefC w Q cs x) (hf : ∀ k, Q k → Q' k) : RefC w Q' cs x := by
 obtain ⟨c0, c1, e, h0, h1⟩ := h
 exact ⟨c0, c1, e, h0, h1⟩
theorem RefC.len {w : World} {Q : Nat → Prop} {cs : List Value} {x : XRef} (h : RefC w Q cs x) : cs.length = 2 := by
 obtain ⟨c0, c1, e, h0, h1⟩ := h
 subst e
 simp only [List.length_append, IntC.len h0, IntC.len h1]
theorem RefC.keep {w w' : World} {cs : List Value} {x : XRef} (h : RefC w (· < w.heap.size) cs x) (hb : Below w.heap.size w w') : RefC w' (· < w'.heap.size) cs x :=
 (RefC.mono (RefC.fr h (Fr.ofBelow hb)) (fun k hk => by have := hb.size; omega))
structure XItem where
 ref : XRef := {}
 entity : Int := 0
 account : Int := 0
 partner : Int := 0
 date : Int := 0
 amount : Int := 0
deriving DecidableEq
def ItemC (w : World) (Q : Nat → Prop) (cs : List Value) (x : XItem) : Prop := ∃ c0 c1 c2 c3 c4 c5 : List Value, cs = c0 ++ c1 ++ c2 ++ c3 ++ c4 ++ c5 ∧ RefC w Q c0 x.ref ∧ IntC c1 x.entity ∧ IntC c2 x.account ∧ IntC c3 x.partner ∧ IntC c4 x.date ∧ IntC c5 x.amount
theorem ItemC.fr {w w' : World} {Q : Nat → Prop} {cs : List Value} {x : XItem} (h : ItemC w Q cs x) (hf : Fr Q w w') : ItemC w' Q cs x := by
 obtain ⟨c0, c1, c2, c3, c4, c5, e, h0, h1, h2, h3, h4, h5⟩ := h
 exact ⟨c0, c1, c2, c3, c4, c5, e, RefC.fr h0 hf, h1, h2, h3, h4, h5⟩
theorem ItemC.mono {w : World} {Q Q' : Nat → Prop} {cs : List Value} {x : XItem} (h : ItemC w Q cs x) (hf : ∀ k, Q k → Q' k) : ItemC w Q' cs x := by
 obtain ⟨c0, c1, c2, c3, c4, c5, e, h0, h1, h2, h3, h4, h5⟩ := h
 exact ⟨c0, c1, c2, c3, c4, c5, e, RefC.mono h0 hf, h1, h2, h3, h4, h5⟩
theorem ItemC.len {w : World} {Q : Nat → Prop} {cs : List Value} {x : XItem} (h : ItemC w Q cs x) : cs.length = 7 := by
 obtain ⟨c0, c1, c2, c3, c4, c5, e, h0, h1, h2, h3, h4, h5⟩ := h
 subst e
 simp only [List.length_append, RefC.len h0, IntC.len h1, IntC.len h2, IntC.len h3, IntC.len h4, IntC.len h5]
theorem ItemC.keep {w w' : World} {cs : List Value} {x : XItem} (h : ItemC w (· < w.heap.size) cs x) (hb : Below w.heap.size w w') : ItemC w' (· < w'.heap.size) cs x :=
 (ItemC.mono (ItemC.fr h (Fr.ofBelow hb)) (fun k hk => by have := hb.size; omega))
structure XPart where
 account : Int := 0
 amount : Int := 0
deriving DecidableEq
def PartC (w : World) (Q : Nat → Prop) (cs : List Value) (x : XPart) : Prop := ∃ c0 c1 : List Value, cs = c0 ++ c1 ∧ IntC c0 x.account ∧ IntC c1 x.amount
theorem PartC.fr {w w' : World} {Q : Nat → Prop} {cs : List Value} {x : XPart} (h : PartC w Q cs x) (hf : Fr Q w w') : PartC w' Q cs x := by
 obtain ⟨c0, c1, e, h0, h1⟩ := h
 exact ⟨c0, c1, e, h0, h1⟩
theorem PartC.mono {w : World} {Q Q' : Nat → Prop} {cs : List Value} {x : XPart} (h : PartC w Q cs x) (hf : ∀ k, Q k → Q' k) : PartC w Q' cs x := by
 obtain ⟨c0, c1, e, h0, h1⟩ := h
 exact ⟨c0, c1, e, h0, h1⟩
theorem PartC.len {w : World} {Q : Nat → Prop} {cs : List Value} {x : XPart} (h : PartC w Q cs x) : cs.length = 2 := by
 obtain ⟨c0, c1, e, h0, h1⟩ := h
 subst e
 simp only [List.length_append, IntC.len h0, IntC.len h1]
theorem PartC.keep {w w' : World} {cs : List Value} {x : XPart} (h : PartC w (· < w.heap.size) cs x) (hb : Below w.heap.size w w') : PartC w' (· < w'.heap.size) cs x :=
 (PartC.mono (PartC.fr h (Fr.ofBelow hb)) (fun k hk => by have := hb.size; omega))
structure XPosting where
 kind : Int := 0
 entity : Int := 0
 other : Int := 0
 rule : Int := 0
 parts : List XPart := []
def PostingC (w : World) (Q : Nat → Prop) (cs : List Value) (x : XPosting) : Prop := ∃ c0 c1 c2 c3 c4 : List Value, cs = c0 ++ c1 ++ c2 ++ c3 ++ c4 ∧ IntC c0 x.kind ∧ IntC c1 x.entity ∧ IntC c2 x.other ∧ IntC c3 x.rule ∧ ListC PartC 2 w Q c4 x.parts
theorem PostingC.fr {w w' : World} {Q : Nat → Prop} {cs : List Value} {x : XPosting} (h : PostingC w Q cs x) (hf : Fr Q w w') : PostingC w' Q cs x := by
 obtain ⟨c0, c1, c2, c3, c4, e, h0, h1, h2, h3, h4⟩ := h
 exact ⟨c0, c1, c2, c3, c4, e, h0, h1, h2, h3, h4.fr (fun h => PartC.fr h hf) hf⟩
theorem PostingC.mono {w : World} {Q Q' : Nat → Prop} {cs : List Value} {x : XPosting} (h : PostingC w Q cs x) (hf : ∀ k, Q k → Q' k) : PostingC w Q' cs x := by
 obtain ⟨c0, c1, c2, c3, c4, e, h0, h1, h2, h3, h4⟩ := h
 exact ⟨c0, c1, c2, c3, c4, e, h0, h1, h2, h3, h4.mono (fun h => PartC.mono h hf) hf⟩
theorem PostingC.len {w : World} {Q : Nat → Prop} {cs : List Value} {x : XPosting} (h : PostingC w Q cs x) : cs.length = 5 := by
 obtain ⟨c0, c1, c2, c3, c4, e, h0, h1, h2, h3, h4⟩ := h
 subst e
 simp only [List.length_append, IntC.len h0, IntC.len h1, IntC.len h2, IntC.len h3, ListC.len h4]
theorem PostingC.keep {w w' : World} {cs : List Value} {x : XPosting} (h : PostingC w (· < w.heap.size) cs x) (hb : Below w.heap.size w w') : PostingC w' (· < w'.heap.size) cs x :=
 (PostingC.mono (PostingC.fr h (Fr.ofBelow hb)) (fun k hk => by have := hb.size; omega))
structure XBalance where
 account : Int := 0
 amount : Int := 0
deriving DecidableEq
def BalanceC (w : World) (Q : Nat → Prop) (cs : List Value) (x : XBalance) : Prop := ∃ c0 c1 : List Value, cs = c0 ++ c1 ∧ IntC c0 x.account ∧ IntC c1 x.amount
theorem BalanceC.fr {w w' : World} {Q : Nat → Prop} {cs : List Value} {x : XBalance} (h : BalanceC w Q cs x) (hf : Fr Q w w') : BalanceC w' Q cs x := by
 obtain ⟨c0, c1, e, h0, h1⟩ := h
 exact ⟨c0, c1, e, h0, h1⟩
theorem BalanceC.mono {w : World} {Q Q' : Nat → Prop} {cs : List Value} {x : XBalance} (h : BalanceC w Q cs x) (hf : ∀ k, Q k → Q' k) : BalanceC w Q' cs x := by
 obtain ⟨c0, c1, e, h0, h1⟩ := h
 exact ⟨c0, c1, e, h0, h1⟩
theorem BalanceC.len {w : World} {Q : Nat → Prop} {cs : List Value} {x : XBalance} (h : BalanceC w Q cs x) : cs.length = 2 := by
 obtain ⟨c0, c1, e, h0, h1⟩ := h
 subst e
 simp only [List.length_append, IntC.len h0, IntC.len h1]
theorem BalanceC.keep {w w' : World} {cs : List Value} {x : XBalance} (h : BalanceC w (· < w.heap.size) cs x) (hb : Below w.heap.size w w') : BalanceC w' (· < w'.heap.size) cs x :=
 (BalanceC.mono (BalanceC.fr h (Fr.ofBelow hb)) (fun k hk => by have := hb.size; omega))
structure XRate where
 currency : ByteArray := ByteArray.empty
 kind : Int := 0
 when_ : Int := 0
 value : Int := 0
deriving DecidableEq
def RateC (w : World) (Q : Nat → Prop) (cs : List Value) (x : XRate) : Prop := ∃ c0 c1 c2 c3 : List Value, cs = c0 ++ c1 ++ c2 ++ c3 ∧ StrC c0 x.currency ∧ IntC c1 x.kind ∧ IntC c2 x.when_ ∧ IntC c3 x.value
theorem RateC.fr {w w' : World} {Q : Nat → Prop} {cs : List Value} {x : XRate} (h : RateC w Q cs x) (hf : Fr Q w w') : RateC w' Q cs x := by
 obtain ⟨c0, c1, c2, c3, e, h0, h1, h2, h3⟩ := h
 exact ⟨c0, c1, c2, c3, e, h0, h1, h2, h3⟩
theorem RateC.mono {w : World} {Q Q' : Nat → Prop} {cs : List Value} {x : XRate} (h : RateC w Q cs x) (hf : ∀ k, Q k → Q' k) : RateC w Q' cs x := by
 obtain ⟨c0, c1, c2, c3, e, h0, h1, h2, h3⟩ := h
 exact ⟨c0, c1, c2, c3, e, h0, h1, h2, h3⟩
theorem RateC.len {w : World} {Q : Nat → Prop} {cs : List Value} {x : XRate} (h : RateC w Q cs x) : cs.length = 4 := by
 obtain ⟨c0, c1, c2, c3, e, h0, h1, h2, h3⟩ := h
 subst e
 simp only [List.length_append, StrC.len h0, IntC.len h1, IntC.len h2, IntC.len h3]
theorem RateC.keep {w w' : World} {cs : List Value} {x : XRate} (h : RateC w (· < w.heap.size) cs x) (hb : Below w.heap.size w w') : RateC w' (· < w'.heap.size) cs x :=
 (RateC.mono (RateC.fr h (Fr.ofBelow hb)) (fun k hk => by have := hb.size; omega))
structure XStep where
 entity : Int := 0
 period : Int := 0
 unlock : Bool := false
deriving DecidableEq
def StepC (w : World) (Q : Nat → Prop) (cs : List Value) (x : XStep) : Prop := ∃ c0 c1 c2 : List Value, cs = c0 ++ c1 ++ c2 ∧ IntC c0 x.entity ∧ IntC c1 x.period ∧ BoolC c2 x.unlock
theorem StepC.fr {w w' : World} {Q : Nat → Prop} {cs : List Value} {x : XStep} (h : StepC w Q cs x) (hf : Fr Q w w') : StepC w' Q cs x := by
 obtain ⟨c0, c1, c2, e, h0, h1, h2⟩ := h
 exact ⟨c0, c1, c2, e, h0, h1, h2⟩
theorem StepC.mono {w : World} {Q Q' : Nat → Prop} {cs : List Value} {x : XStep} (h : StepC w Q cs x) (hf : ∀ k, Q k → Q' k) : StepC w Q' cs x := by
 obtain ⟨c0, c1, c2, e, h0, h1, h2⟩ := h
 exact ⟨c0, c1, c2, e, h0, h1, h2⟩
theorem StepC.len {w : World} {Q : Nat → Prop} {cs : List Value} {x : XStep} (h : StepC w Q cs x) : cs.length = 3 := by
 obtain ⟨c0, c1, c2, e, h0, h1, h2⟩ := h
 subst e
 simp only [List.length_append, IntC.len h0, IntC.len h1, BoolC.len h2]
theorem StepC.keep {w w' : World} {cs : List Value} {x : XStep} (h : StepC w (· < w.heap.size) cs x) (hb : Below w.heap.size w w') : StepC w' (· < w'.heap.size) cs x :=
 (StepC.mono (StepC.fr h (Fr.ofBelow hb)) (fun k hk => by have := hb.size; omega))
structure XLock where
 entity : Int := 0
 period : Int := 0
deriving DecidableEq
def LockC (w : World) (Q : Nat → Prop) (cs : List Value) (x : XLock) : Prop := ∃ c0 c1 : List Value, cs = c0 ++ c1 ∧ IntC c0 x.entity ∧ IntC c1 x.period
theorem LockC.fr {w w' : World} {Q : Nat → Prop} {cs : List Value} {x : XLock} (h : LockC w Q cs x) (hf : Fr Q w w') : LockC w' Q cs x := by
 obtain ⟨c0, c1, e, h0, h1⟩ := h
 exact ⟨c0, c1, e, h0, h1⟩
theorem LockC.mono {w : World} {Q Q' : Nat → Prop} {cs : List Value} {x : XLock} (h : LockC w Q cs x) (hf : ∀ k, Q k → Q' k) : LockC w Q' cs x := by
 obtain ⟨c0, c1, e, h0, h1⟩ := h
 exact ⟨c0, c1, e, h0, h1⟩
theorem LockC.len {w : World} {Q : Nat → Prop} {cs : List Value} {x : XLock} (h : LockC w Q cs x) : cs.length = 2 := by
 obtain ⟨c0, c1, e, h0, h1⟩ := h
 subst e
 simp only [List.length_append, IntC.len h0, IntC.len h1]
theorem LockC.keep {w w' : World} {cs : List Value} {x : XLock} (h : LockC w (· < w.heap.size) cs x) (hb : Below w.heap.size w w') : LockC w' (· < w'.heap.size) cs x :=
 (LockC.mono (LockC.fr h (Fr.ofBelow hb)) (fun k hk => by have := hb.size; omega))
theorem wpList_load_row_g {P : Program} {ops : Array Oper} {rest : List Oper} {o : Oper} {a : Act} {w : World} {Q : Exit → Act → World → Prop} (hw : Region.wanted o (yielded ops a.tmps) = true) (ty : TypeId) (x : Operand) (ho : o.op = .load ty x)
 (g : Nat) (hx : a.eval x = .pointer (some ⟨g, 0, none⟩)) (t : TypeId) (cs : Array Value) (fr : Nat × Nat) (d : TypeDesc) (hg : w.heap[g]? = some (.cells cs t fr))
 (hu : P.underlying ty = some d) (hd : (match d with | .struct _ | .array _ _ => true | _ => false) = true) (hi : (P.info? ty).map (·.size) = some cs.size)
 (h : wpList P ops Q rest (a.put o.dst (.agg cs)) w) : wpList P ops Q (o :: rest) a w :=
 wpList_step fun K hK => by rw [if_pos hw]; exact wp_load_row ty x ho g hx t cs fr d hg hu hd hi (hK _ _ h)
theorem wpList_store_fresh2 {P : Program} {ops : Array Oper} {rest : List Oper} {o : Oper} {a : Act} {Q : Exit → Act → World → Prop} (hgd : o.guard = none) (ty : TypeId) (x y : Operand) (ho : o.op = .store ty x y) (hd : o.dst = none)
 (w1 : World) (old : Array Value) (t : TypeId) (cells : Array Value) (hx : a.eval x = .pointer (some ⟨w1.heap.size, 0, none⟩)) (hy : a.eval y = .agg cells)
 (hi : (P.info? ty).map (·.size) = some cells.size) (hold : old.size = cells.size) (h1 : cells.all (·.oneCell') = true)
 (h : ∀ w2 : World, w2.heap[w1.heap.size]? = some (.cells cells t (0, 0)) → Below w1.heap.size w1 w2 → w1.heap.size < w2.heap.size → wpList P ops Q rest a w2) :
 wpList P ops Q (o :: rest) a (w1.alloc (.cells old t)) := by
 have hg : (w1.alloc (.cells old t)).heap[w1.heap.size]? = some (.cells old t (0, 0)) := heap_alloc_new w1 _
 refine wpList_store_row hgd ty x y ho w1.heap.size cells hx hy t old hg hi hold h1 ?_
 rw [hd]
 have f := ((Fr.refl (· < w1.heap.size) w1).alloc (fun _ h => h) (.cells old t)).trans ((fr_setRow (w1.alloc (.cells old t)) w1.heap.size cells).mono (fun k (hk : k < w1.heap.size) => by show k ≠ w1.heap.size; omega))
 have hsz : w1.heap.size < ((w1.alloc (.cells old t)).setRow w1.heap.size cells).heap.size := by
  have k1 := (fr_setRow (w1.alloc (.cells old t)) w1.heap.size cells).size
  have k2 : (w1.alloc (.cells old t)).heap.size = w1.heap.size + 1 := by simp
  omega
 exact h _ (heap_setRow hg cells) f.below hsz
theorem results_cell_tmp {P : Program} {fn : Func} {p t : Tmp} {ty : TypeId} (h : fn.results = #[.cell p ty, .tmp t]) (tmps : Array Value) (w : World) (g : Nat) (T : TypeId) (cs : Array Value) (fr : Nat × Nat) (d : TypeDesc)
 (hp : tmps.getD p undef = .pointer (some ⟨g, 0, none⟩)) (hg : w.heap[g]? = some (.cells cs T fr))
 (hu : P.underlying ty = some d) (hd : (match d with | .struct _ | .array _ _ => true | _ => false) = true) (hi : (P.info? ty).map (·.size) = some cs.size) (v : Value) (hv : tmps.getD t undef = v) :
 (results fn tmps).run P w = .ok (.tuple #[.agg cs, v]) w := by
 subst hv
 have hp' : tmps[p]?.getD undef = .pointer (some ⟨g, 0, none⟩) := by simpa using hp
 simp [results, h, hp', asAddr, run_loadVar_row w g T ty cs fr d hg hu hd hi]
def bat (s : ByteArray) (k : Nat) : Nat := (s.data.getD k 0).toNat
theorem bat_eq {s : ByteArray} {k : Nat} (h : k < s.size) : bat s k = (s[k]).toNat := by
 have h' : k < s.data.size := h
 unfold bat
 rw [Array.getD_eq_getD_getElem?, Array.getElem?_eq_getElem h']
 rfl
theorem all_range_false {n k : Nat} {p : Nat → Bool} (hk : k < n) (hp : p k = false) : (List.range n).all p = false := by
 rw [List.all_eq_false]
 exact ⟨k, List.mem_range.2 hk, by simp [hp]⟩
theorem all_range_true {n : Nat} {p : Nat → Bool} (h : ∀ k, k < n → p k = true) : (List.range n).all p = true := by
 rw [List.all_eq_true]
 exact fun k hk => h k (List.mem_range.1 hk)
def curC (c : Nat) : Bool := decide (65 ≤ c ∧ c ≤ 90)
def curB (s : ByteArray) : Bool := (List.range s.size).all (fun k => curC (bat s k)) && s.size == 3
def letB (c : Nat) : Bool := decide (97 ≤ c ∧ c ≤ 122) || decide (65 ≤ c ∧ c ≤ 90)
def nameC (i c : Nat) : Bool := letB c || (i != 0 && (c == 45 || decide (48 ≤ c ∧ c ≤ 57)))
def nameB (s : ByteArray) : Bool := (List.range s.size).all (fun k => nameC k (bat s k)) && decide (1 ≤ s.size ∧ s.size ≤ 16)
set_option maxHeartbeats 400000 in
theorem currency_c (s : ByteArray) (w : World) (hs : s.size ≤ 1000) : Calls Tryz.prog 63 #[.string s] w (Quiet w (.bool (curB s))) := by
 obtain ⟨r, hr⟩ : ∃ r, curB s = r := ⟨_, rfl⟩
 rw [hr]
 have HR := Lib.hid hr
 clear hr
 go_enter Tryz.func63, Tryz.ntmps63
 go_wp2_with fail
 go_loopw [6] (fun i wr => ∃ k : Nat, k ≤ s.size ∧ i = .int .i64 (k : Int) ∧ Below w.heap.size w wr ∧ ∀ j, j < k → curC (bat s j) = true) (fun i _ => s.size - (intOf i).toNat)
 case atStart => exact ⟨0, by omega, rfl, Below.refl _ _, fun j hj => by omega⟩
 case round =>
  obtain ⟨k, hk, rfl, hb, hall⟩ := hrel
  have HA := Lib.hid hall
  clear hall
  by_cases hlt : k < s.size
  · have hltI : (k : Int) < (s.size : Int) := by omega
    have HB := Lib.hid (bat_eq hlt)
    by_cases hc : curC (bat s k) = true
    · have hc1 : 65 ≤ (s[k].toNat : Int) ∧ (s[k].toNat : Int) ≤ 90 := by
       have := hc
       rw [HB.out] at this
       simp only [curC, decide_eq_true_eq] at this
       omega
      have hc2 := hc1.1
      have hc3 := hc1.2
      have HC := Lib.hid hc
      clear hc
      go_wp2_with fail
      go_roundw
      case rel => exact ⟨k + 1, by omega, by go_num, hb, fun j hj => by
       rcases Nat.lt_or_ge j k with h | h
       · exact HA.out j h
       · have : j = k := by omega
         subst this; exact HC.out⟩
      case measure =>
       have e : wrap64 ((k : Int) + 1) = ((k + 1 : Nat) : Int) := by unfold wrap64; omega
       simp only [intOf, e]
       omega
    · have hrf := Lib.hid (show r = false by
       rw [← HR.out]; unfold curB
       rw [all_range_false hlt (by simpa using hc)]; rfl)
      have hc1 : ¬ (65 ≤ (s[k].toNat : Int) ∧ (s[k].toNat : Int) ≤ 90) := by
       have := hc
       rw [HB.out] at this
       simp only [curC, decide_eq_true_eq] at this
       omega
      clear hc
      by_cases hc2 : (s[k].toNat : Int) < 65
      · go_wp2_with fail
        go_ret
        exact ⟨by rw [hrf.out]; first | done | rfl, hb⟩
      · have hc3 : 90 < (s[k].toNat : Int) := by omega
        go_wp2_with fail
        go_ret
        exact ⟨by rw [hrf.out]; first | done | rfl, hb⟩
  · have hltI : ¬ (k : Int) < (s.size : Int) := by omega
    have hks : k = s.size := by omega
    have hrf := Lib.hid (show r = (s.size == 3) by
     rw [← HR.out]; unfold curB
     rw [all_range_true (fun j hj => HA.out j (by omega)), Bool.true_and])
    clear hks
    by_cases h3 : s.size = 3
    · have h3I : ((s.size : Int) == 3) = true := by simp; omega
      have HH := Lib.hid h3
      clear h3
      go_wp2_with fail
      go_ret
      exact ⟨by rw [hrf.out, HH.out]; rfl, hb⟩
    · have h3I : ((s.size : Int) == 3) = false := by simp; omega
      have HH := Lib.hid (show (s.size == 3) = false by simpa using h3)
      clear h3
      go_wp2_with fail
      go_ret
      exact ⟨by rw [hrf.out, HH.out]; first | done | rfl, hb⟩
set_option maxHeartbeats 400000 in
theorem rCurrency_c (s : ByteArray) (w : World) (hs : s.size ≤ 1000) : Calls Tryz.prog 96 #[.string s] w (Quiet w (.bool (curB s))) := by
 obtain ⟨r, hr⟩ : ∃ r, curB s = r := ⟨_, rfl⟩
 rw [hr]
 have HR := Lib.hid hr
 clear hr
 go_enter Tryz.func96, Tryz.ntmps96
 go_wp2_with fail
 go_loopw [3] (fun i wr => ∃ k : Nat, k ≤ s.size ∧ i = .int .i64 (k : Int) ∧ Below w.heap.size w wr ∧ ∀ j, j < k → curC (bat s j) = true) (fun i _ => s.size - (intOf i).toNat)
 case atStart => exact ⟨0, by omega, rfl, Below.refl _ _, fun j hj => by omega⟩
 case round =>
  obtain ⟨k, hk, rfl, hb, hall⟩ := hrel
  have HA := Lib.hid hall
  clear hall
  by_cases hlt : k < s.size
  · have hltI : (k : Int) < (s.size : Int) := by omega
    have HB := Lib.hid (bat_eq hlt)
    by_cases hc : curC (bat s k) = true
    · have hc1 : 65 ≤ (s[k].toNat : Int) ∧ (s[k].toNat : Int) ≤ 90 := by
       have := hc
       rw [HB.out] at this
       simp only [curC, decide_eq_true_eq] at this
       omega
      have hc2 := hc1.1
      have hc3 := hc1.2
      have HC := Lib.hid hc
      clear hc
      go_wp2_with fail
      go_roundw
      case rel => exact ⟨k + 1, by omega, by go_num, hb, fun j hj => by
       rcases Nat.lt_or_ge j k with h | h
       · exact HA.out j h
       · have : j = k := by omega
         subst this; exact HC.out⟩
      case measure =>
       have e : wrap64 ((k : Int) + 1) = ((k + 1 : Nat) : Int) := by unfold wrap64; omega
       simp only [intOf, e]
       omega
    · have hrf := Lib.hid (show r = false by
       rw [← HR.out]; unfold curB
       rw [all_range_false hlt (by simpa using hc)]; rfl)
      have hc1 : ¬ (65 ≤ (s[k].toNat : Int) ∧ (s[k].toNat : Int) ≤ 90) := by
       have := hc
       rw [HB.out] at this
       simp only [curC, decide_eq_true_eq] at this
       omega
      clear hc
      by_cases hc2 : (s[k].toNat : Int) < 65
      · go_wp2_with fail
        go_ret
        exact ⟨by rw [hrf.out]; first | done | rfl, hb⟩
      · have hc3 : 90 < (s[k].toNat : Int) := by omega
        go_wp2_with fail
        go_ret
        exact ⟨by rw [hrf.out]; first | done | rfl, hb⟩
  · have hltI : ¬ (k : Int) < (s.size : Int) := by omega
    have hks : k = s.size := by omega
    have hrf := Lib.hid (show r = (s.size == 3) by
     rw [← HR.out]; unfold curB
     rw [all_range_true (fun j hj => HA.out j (by omega)), Bool.true_and])
    clear hks
    by_cases h3 : s.size = 3
    · have h3I : ((s.size : Int) == 3) = true := by simp; omega
      have HH := Lib.hid h3
      clear h3
      go_wp2_with fail
      go_ret
      exact ⟨by rw [hrf.out, HH.out]; rfl, hb⟩
    · have h3I : ((s.size : Int) == 3) = false := by simp; omega
      have HH := Lib.hid (show (s.size == 3) = false by simpa using h3)
      clear h3
      go_wp2_with fail
      go_ret
      exact ⟨by rw [hrf.out, HH.out]; first | done | rfl, hb⟩
set_option maxHeartbeats 400000 in
theorem letter_c (n : Nat) (w : World) : Calls Tryz.prog 119 #[.int .u8 (n : Int)] w (Quiet w (.bool (letB n))) := by
 obtain ⟨r, hr⟩ : ∃ r, letB n = r := ⟨_, rfl⟩
 rw [hr]
 have HR := Lib.hid hr
 clear hr
 go_enter Tryz.func119, Tryz.ntmps119
 by_cases h1 : 97 ≤ n
 · by_cases h2 : n ≤ 122
   · have h1I : 97 ≤ (n : Int) := by omega
     have h2I : (n : Int) ≤ 122 := by omega
     go_wp2_with fail
     go_ret
     exact ⟨by rw [← HR.out]; simp [letB, h1, h2]; try rfl, Below.refl _ _⟩
   · have h1I : 97 ≤ (n : Int) := by omega
     have h2I : ¬ (n : Int) ≤ 122 := by omega
     have h3I : 65 ≤ (n : Int) := by omega
     have h4I : ¬ (n : Int) ≤ 90 := by omega
     go_wp2_with fail
     go_ret
     exact ⟨by rw [← HR.out]; simp [letB]; omega, Below.refl _ _⟩
 · have h1I : ¬ 97 ≤ (n : Int) := by omega
   by_cases h3 : 65 ≤ n
   · have h3I : 65 ≤ (n : Int) := by omega
     by_cases h4 : n ≤ 90
     · have h4I : (n : Int) ≤ 90 := by omega
       go_wp2_with fail
       go_ret
       exact ⟨by rw [← HR.out]; simp [letB, h3, h4], Below.refl _ _⟩
     · have h4I : ¬ (n : Int) ≤ 90 := by omega
       go_wp2_with fail
       go_ret
       exact ⟨by rw [← HR.out]; simp [letB]; omega, Below.refl _ _⟩
   · have h3I : ¬ 65 ≤ (n : Int) := by omega
     go_wp2_with fail
     go_ret
     exact ⟨by rw [← HR.out]; simp [letB]; omega, Below.refl _ _⟩
set_option maxHeartbeats 400000 in
theorem rLetter_c (n : Nat) (w : World) : Calls Tryz.prog 124 #[.int .u8 (n : Int)] w (Quiet w (.bool (letB n))) := by
 obtain ⟨r, hr⟩ : ∃ r, letB n = r := ⟨_, rfl⟩
 rw [hr]
 have HR := Lib.hid hr
 clear hr
 go_enter Tryz.func124, Tryz.ntmps124
 by_cases h1 : 97 ≤ n
 · by_cases h2 : n ≤ 122
   · have h1I : 97 ≤ (n : Int) := by omega
     have h2I : (n : Int) ≤ 122 := by omega
     go_wp2_with fail
     go_ret
     exact ⟨by rw [← HR.out]; simp [letB, h1, h2]; try rfl, Below.refl _ _⟩
   · have h1I : 97 ≤ (n : Int) := by omega
     have h2I : ¬ (n : Int) ≤ 122 := by omega
     have h3I : 65 ≤ (n : Int) := by omega
     have h4I : ¬ (n : Int) ≤ 90 := by omega
     go_wp2_with fail
     go_ret
     exact ⟨by rw [← HR.out]; simp [letB]; omega, Below.refl _ _⟩
 · have h1I : ¬ 97 ≤ (n : Int) := by omega
   by_cases h3 : 65 ≤ n
   · have h3I : 65 ≤ (n : Int) := by omega
     by_cases h4 : n ≤ 90
     · have h4I : (n : Int) ≤ 90 := by omega
       go_wp2_with fail
       go_ret
       exact ⟨by rw [← HR.out]; simp [letB, h3, h4], Below.refl _ _⟩
     · have h4I : ¬ (n : Int) ≤ 90 := by omega
       go_wp2_with fail
       go_ret
       exact ⟨by rw [← HR.out]; simp [letB]; omega, Below.refl _ _⟩
   · have h3I : ¬ 65 ≤ (n : Int) := by omega
     go_wp2_with fail
     go_ret
     exact ⟨by rw [← HR.out]; simp [letB]; omega, Below.refl _ _⟩
set_option maxHeartbeats 1000000 in
theorem name_c (s : ByteArray) (w : World) (hs : s.size ≤ 1000) : Calls Tryz.prog 92 #[.string s] w (Quiet w (.bool (nameB s))) := by
 obtain ⟨r, hr⟩ : ∃ r, nameB s = r := ⟨_, rfl⟩
 rw [hr]
 have HR := Lib.hid hr
 clear hr
 go_enter Tryz.func92, Tryz.ntmps92
 go_wp2_with fail
 go_loopw [7] (fun i wr => ∃ k : Nat, k ≤ s.size ∧ i = .int .i64 (k : Int) ∧ Below w.heap.size w wr ∧ ∀ j, j < k → nameC j (bat s j) = true) (fun i _ => s.size - (intOf i).toNat)
 case atStart => exact ⟨0, by omega, rfl, Below.refl _ _, fun j hj => by omega⟩
 case round =>
  obtain ⟨k, hk, rfl, hb, hall⟩ := hrel
  have HA := Lib.hid hall
  clear hall
  by_cases hlt : k < s.size
  · have hltI : (k : Int) < (s.size : Int) := by omega
    have HB := Lib.hid (bat_eq hlt)
    go_wp2_with fail
    refine (letter_c s[k].toNat wr).mono ?_
    rintro e w2 ⟨rfl, hb1⟩
    have hb2 := hb.trans (hb1.mono hb.size)
    obtain ⟨lb, hlb⟩ : ∃ lb, letB s[k].toNat = lb := ⟨_, rfl⟩
    rw [hlb]
    have HLB := Lib.hid hlb
    clear hlb hb hb1
    have bad : nameC k (bat s k) = false → r = false := fun h => by
     rw [← HR.out]; unfold nameB
     rw [all_range_false hlt h]; rfl
    have HBAD := Lib.hid bad
    clear bad
    cases lb with
    | true =>
     have HC := Lib.hid (show nameC k (bat s k) = true by rw [HB.out]; unfold nameC; rw [HLB.out]; rfl)
     go_wp2_with fail
     go_roundw
     case rel => exact ⟨k + 1, by omega, by go_num, hb2, fun j hj => by
      rcases Nat.lt_or_ge j k with h | h
      · exact HA.out j h
      · have : j = k := by omega
        subst this; exact HC.out⟩
     case measure =>
      have e : wrap64 ((k : Int) + 1) = ((k + 1 : Nat) : Int) := by unfold wrap64; omega
      simp only [intOf, e]
      omega
    | false =>
     by_cases hk0 : k = 0
     · subst hk0
       have HF := Lib.hid (HBAD.out (by rw [HB.out]; unfold nameC; rw [HLB.out]; rfl))
       go_wp2_with fail
       go_ret
       exact ⟨by rw [HF.out]; first | done | rfl, hb2⟩
     · have hk1 : ((k : Int) == 0) = false := by simp; omega
       have HK0 := Lib.hid (show (k != 0) = true by simpa using hk0)
       clear hk0
       by_cases h45 : s[k].toNat = 45
       · have h45I : ((s[k].toNat : Int) == 45) = true := by simp; omega
         have h45J : ((s[k].toNat : Int) != 45) = false := by simp; omega
         have HC := Lib.hid (show nameC k (bat s k) = true by rw [HB.out]; unfold nameC; rw [HLB.out, HK0.out, h45]; rfl)
         clear h45
         go_wp2_with fail
         go_roundw
         case rel => exact ⟨k + 1, by omega, by go_num, hb2, fun j hj => by
          rcases Nat.lt_or_ge j k with h | h
          · exact HA.out j h
          · have : j = k := by omega
            subst this; exact HC.out⟩
         case measure =>
          have e : wrap64 ((k : Int) + 1) = ((k + 1 : Nat) : Int) := by unfold wrap64; omega
          simp only [intOf, e]
          omega
       · have h45I : ((s[k].toNat : Int) == 45) = false := by simp; omega
         have h45J : ((s[k].toNat : Int) != 45) = true := by simp; omega
         by_cases h48 : 48 ≤ s[k].toNat ∧ s[k].toNat ≤ 57
         · have h48I : ¬ (s[k].toNat : Int) < 48 := by omega
           have h57I : ¬ 57 < (s[k].toNat : Int) := by omega
           have HC := Lib.hid (show nameC k (bat s k) = true by rw [HB.out]; unfold nameC; rw [HLB.out, HK0.out]; simp [h48])
           clear h45 h48
           go_wp2_with fail
           go_roundw
           case rel => exact ⟨k + 1, by omega, by go_num, hb2, fun j hj => by
            rcases Nat.lt_or_ge j k with h | h
            · exact HA.out j h
            · have : j = k := by omega
              subst this; exact HC.out⟩
           case measure =>
            have e : wrap64 ((k : Int) + 1) = ((k + 1 : Nat) : Int) := by unfold wrap64; omega
            simp only [intOf, e]
            omega
         · have HF := Lib.hid (HBAD.out (by rw [HB.out]; unfold nameC; rw [HLB.out, HK0.out]; simp [h45]; omega))
           by_cases h4 : s[k].toNat < 48
           · have h48I : (s[k].toNat : Int) < 48 := by omega
             clear h45 h48
             go_wp2_with fail
             go_ret
             exact ⟨by rw [HF.out]; first | done | rfl, hb2⟩
           · have h48I : ¬ (s[k].toNat : Int) < 48 := by omega
             have h57I : 57 < (s[k].toNat : Int) := by omega
             clear h45 h48
             go_wp2_with fail
             go_ret
             exact ⟨by rw [HF.out]; first | done | rfl, hb2⟩
  · have hltI : ¬ (k : Int) < (s.size : Int) := by omega
    have hrf := Lib.hid (show r = decide (1 ≤ s.size ∧ s.size ≤ 16) by
     rw [← HR.out]; unfold nameB
     rw [all_range_true (fun j hj => HA.out j (by omega)), Bool.true_and])
    by_cases h1 : 1 ≤ s.size
    · have h1I : 1 ≤ (s.size : Int) := by omega
      by_cases h2 : s.size ≤ 16
      · have h2I : (s.size : Int) ≤ 16 := by omega
        go_wp2_with fail
        go_ret
        exact ⟨by rw [hrf.out, decide_eq_true ⟨h1, h2⟩]; first | done | rfl, hb⟩
      · have h2I : ¬ (s.size : Int) ≤ 16 := by omega
        go_wp2_with fail
        go_ret
        exact ⟨by rw [hrf.out, decide_eq_false (fun h => h2 h.2)]; first | done | rfl, hb⟩
    · have h1I : ¬ 1 ≤ (s.size : Int) := by omega
      go_wp2_with fail
      go_ret
      exact ⟨by rw [hrf.out, decide_eq_false (fun h => h1 h.1)]; first | done | rfl, hb⟩
set_option maxHeartbeats 1000000 in
theorem rName_c (s : ByteArray) (w : World) (hs : s.size ≤ 1000) : Calls Tryz.prog 101 #[.string s] w (Quiet w (.bool (nameB s))) := by
 obtain ⟨r, hr⟩ : ∃ r, nameB s = r := ⟨_, rfl⟩
 rw [hr]
 have HR := Lib.hid hr
 clear hr
 go_enter Tryz.func101, Tryz.ntmps101
 go_wp2_with fail
 go_loopw [3] (fun i wr => ∃ k : Nat, k ≤ s.size ∧ i = .int .i64 (k : Int) ∧ Below w.heap.size w wr ∧ ∀ j, j < k → nameC j (bat s j) = true) (fun i _ => s.size - (intOf i).toNat)
 case atStart => exact ⟨0, by omega, rfl, Below.refl _ _, fun j hj => by omega⟩
 case round =>
  obtain ⟨k, hk, rfl, hb, hall⟩ := hrel
  have HA := Lib.hid hall
  clear hall
  by_cases hlt : k < s.size
  · have hltI : (k : Int) < (s.size : Int) := by omega
    have HB := Lib.hid (bat_eq hlt)
    go_wp2_with fail
    refine (rLetter_c s[k].toNat wr).mono ?_
    rintro e w2 ⟨rfl, hb1⟩
    have hb2 := hb.trans (hb1.mono hb.size)
    obtain ⟨lb, hlb⟩ : ∃ lb, letB s[k].toNat = lb := ⟨_, rfl⟩
    rw [hlb]
    have HLB := Lib.hid hlb
    clear hlb hb hb1
    have bad : nameC k (bat s k) = false → r = false := fun h => by
     rw [← HR.out]; unfold nameB
     rw [all_range_false hlt h]; rfl
    have HBAD := Lib.hid bad
    clear bad
    cases lb with
    | true =>
     have HC := Lib.hid (show nameC k (bat s k) = true by rw [HB.out]; unfold nameC; rw [HLB.out]; rfl)
     go_wp2_with fail
     go_roundw
     case rel => exact ⟨k + 1, by omega, by go_num, hb2, fun j hj => by
      rcases Nat.lt_or_ge j k with h | h
      · exact HA.out j h
      · have : j = k := by omega
        subst this; exact HC.out⟩
     case measure =>
      have e : wrap64 ((k : Int) + 1) = ((k + 1 : Nat) : Int) := by unfold wrap64; omega
      simp only [intOf, e]
      omega
    | false =>
     by_cases hk0 : k = 0
     · subst hk0
       have HF := Lib.hid (HBAD.out (by rw [HB.out]; unfold nameC; rw [HLB.out]; rfl))
       go_wp2_with fail
       go_ret
       exact ⟨by rw [HF.out]; first | done | rfl, hb2⟩
     · have hk1 : ((k : Int) == 0) = false := by simp; omega
       have HK0 := Lib.hid (show (k != 0) = true by simpa using hk0)
       clear hk0
       by_cases h45 : s[k].toNat = 45
       · have h45I : ((s[k].toNat : Int) == 45) = true := by simp; omega
         have h45J : ((s[k].toNat : Int) != 45) = false := by simp; omega
         have HC := Lib.hid (show nameC k (bat s k) = true by rw [HB.out]; unfold nameC; rw [HLB.out, HK0.out, h45]; rfl)
         clear h45
         go_wp2_with fail
         go_roundw
         case rel => exact ⟨k + 1, by omega, by go_num, hb2, fun j hj => by
          rcases Nat.lt_or_ge j k with h | h
          · exact HA.out j h
          · have : j = k := by omega
            subst this; exact HC.out⟩
         case measure =>
          have e : wrap64 ((k : Int) + 1) = ((k + 1 : Nat) : Int) := by unfold wrap64; omega
          simp only [intOf, e]
          omega
       · have h45I : ((s[k].toNat : Int) == 45) = false := by simp; omega
         have h45J : ((s[k].toNat : Int) != 45) = true := by simp; omega
         by_cases h48 : 48 ≤ s[k].toNat ∧ s[k].toNat ≤ 57
         · have h48I : ¬ (s[k].toNat : Int) < 48 := by omega
           have h57I : ¬ 57 < (s[k].toNat : Int) := by omega
           have HC := Lib.hid (show nameC k (bat s k) = true by rw [HB.out]; unfold nameC; rw [HLB.out, HK0.out]; simp [h48])
           clear h45 h48
           go_wp2_with fail
           go_roundw
           case rel => exact ⟨k + 1, by omega, by go_num, hb2, fun j hj => by
            rcases Nat.lt_or_ge j k with h | h
            · exact HA.out j h
            · have : j = k := by omega
              subst this; exact HC.out⟩
           case measure =>
            have e : wrap64 ((k : Int) + 1) = ((k + 1 : Nat) : Int) := by unfold wrap64; omega
            simp only [intOf, e]
            omega
         · have HF := Lib.hid (HBAD.out (by rw [HB.out]; unfold nameC; rw [HLB.out, HK0.out]; simp [h45]; omega))
           by_cases h4 : s[k].toNat < 48
           · have h48I : (s[k].toNat : Int) < 48 := by omega
             clear h45 h48
             go_wp2_with fail
             go_ret
             exact ⟨by rw [HF.out]; first | done | rfl, hb2⟩
           · have h48I : ¬ (s[k].toNat : Int) < 48 := by omega
             have h57I : 57 < (s[k].toNat : Int) := by omega
             clear h45 h48
             go_wp2_with fail
             go_ret
             exact ⟨by rw [HF.out]; first | done | rfl, hb2⟩
  · have hltI : ¬ (k : Int) < (s.size : Int) := by omega
    have hrf := Lib.hid (show r = decide (1 ≤ s.size ∧ s.size ≤ 16) by
     rw [← HR.out]; unfold nameB
     rw [all_range_true (fun j hj => HA.out j (by omega)), Bool.true_and])
    by_cases h1 : 1 ≤ s.size
    · have h1I : 1 ≤ (s.size : Int) := by omega
      by_cases h2 : s.size ≤ 16
      · have h2I : (s.size : Int) ≤ 16 := by omega
        go_wp2_with fail
        go_ret
        exact ⟨by rw [hrf.out, decide_eq_true ⟨h1, h2⟩]; first | done | rfl, hb⟩
      · have h2I : ¬ (s.size : Int) ≤ 16 := by omega
        go_wp2_with fail
        go_ret
        exact ⟨by rw [hrf.out, decide_eq_false (fun h => h2 h.2)]; first | done | rfl, hb⟩
    · have h1I : ¬ 1 ≤ (s.size : Int) := by omega
      go_wp2_with fail
      go_ret
      exact ⟨by rw [hrf.out, decide_eq_false (fun h => h1 h.1)]; first | done | rfl, hb⟩
def leapI (y : Int) : Bool := y % 4 == 0 && (y % 100 != 0 || y % 400 == 0)
def mdays (m : Int) : Int := if m = 2 then 28 else if m = 4 ∨ m = 6 ∨ m = 9 ∨ m = 11 then 30 else 31
def inY (y : Int) : Prop := 1900 ≤ y ∧ y ≤ 2199
instance (y : Int) : Decidable (inY y) := by unfold inY; exact inferInstance
def daysI (y m : Int) : Int := if inY y ∧ 1 ≤ m ∧ m ≤ 12 then (if m = 2 ∧ leapI y = true then 29 else mdays m) else 0
theorem daysI_le (y m : Int) : 0 ≤ daysI y m ∧ daysI y m ≤ 31 := by
 unfold daysI mdays
 repeat' split
 all_goals omega
theorem daysI_ge {y m : Int} (hy : inY y) (h1 : 1 ≤ m) (h2 : m ≤ 12) : 28 ≤ daysI y m := by
 unfold daysI mdays
 rw [if_pos ⟨hy, h1, h2⟩]
 repeat' split
 all_goals omega
def sumD (y : Int) : Nat → Int
 | 0 => 0
 | n + 1 => sumD y n + daysI y ((n : Int) + 1)
theorem sumD_le (y : Int) (n : Nat) : 0 ≤ sumD y n ∧ sumD y n ≤ 31 * (n : Int) := by
 induction n with
 | zero => simp [sumD]
 | succ n ih => have := daysI_le y ((n : Int) + 1); simp only [sumD]; omega
def beginI (y : Int) : Int := 365 * (y - 1) + (y - 1) / 4 - (y - 1) / 100 + (y - 1) / 400 - 719162
theorem beginI_bd {y : Int} (h : inY y) : -25567 ≤ beginI y ∧ beginI y ≤ 83700 := by
 unfold beginI inY at *; omega
def ofI (y m d : Int) : Int × Int := if d < 1 ∨ daysI y m < d then (0, 2) else (beginI y + d - 1 + sumD y (m - 1).toNat, 0)
theorem leapI_true {y : Int} (h1 : y % 4 = 0) (h2 : ¬ y % 100 = 0 ∨ y % 400 = 0) : leapI y = true := by
 unfold leapI; simp only [Bool.and_eq_true, beq_iff_eq, Bool.or_eq_true, bne_iff_ne]; exact ⟨h1, h2⟩
theorem leapI_false {y : Int} (h : ¬ (y % 4 = 0 ∧ (¬ y % 100 = 0 ∨ y % 400 = 0))) : leapI y = false := by
 cases hl : leapI y with
 | false => rfl
 | true =>
  unfold leapI at hl
  simp only [Bool.and_eq_true, beq_iff_eq, Bool.or_eq_true, bne_iff_ne] at hl
  exact absurd hl h
set_option maxHeartbeats 400000 in
theorem leap_c (y : Int) (w : World) (h : inY y) : Calls Tryz.prog 105 #[.int .i64 y] w (Quiet w (.bool (leapI y))) := by
 obtain ⟨r, hr⟩ : ∃ r, leapI y = r := ⟨_, rfl⟩
 rw [hr]
 have HR := Lib.hid hr
 clear hr
 obtain ⟨h1, h2⟩ := h
 go_enter Tryz.func105, Tryz.ntmps105
 by_cases c4 : y % 4 = 0
 · by_cases c1 : y % 100 = 0
   · by_cases c2 : y % 400 = 0
     · have hf := Lib.hid (show r = true by rw [← HR.out]; exact leapI_true c4 (.inr c2))
       have e4 : (y % 4 == 0) = true := by simpa using c4
       have e1 : (y % 100 != 0) = false := by simpa using c1
       have e2 : (y % 400 == 0) = true := by simpa using c2
       clear c4 c1 c2
       go_wp2_with fail
       go_ret
       exact ⟨by rw [hf.out]; first | done | rfl, Below.refl _ _⟩
     · have hf := Lib.hid (show r = false by rw [← HR.out]; exact leapI_false (fun h => h.2.elim (fun k => k c1) c2))
       have e4 : (y % 4 == 0) = true := by simpa using c4
       have e1 : (y % 100 != 0) = false := by simpa using c1
       have e2 : (y % 400 == 0) = false := by simpa using c2
       clear c4 c1 c2
       go_wp2_with fail
       go_ret
       exact ⟨by rw [hf.out]; first | done | rfl, Below.refl _ _⟩
   · have hf := Lib.hid (show r = true by rw [← HR.out]; exact leapI_true c4 (.inl c1))
     have e4 : (y % 4 == 0) = true := by simpa using c4
     have e1 : (y % 100 != 0) = true := by simpa using c1
     clear c4 c1
     go_wp2_with fail
     go_ret
     exact ⟨by rw [hf.out]; first | done | rfl, Below.refl _ _⟩
 · have hf := Lib.hid (show r = false by rw [← HR.out]; exact leapI_false (fun h => c4 h.1))
   have e4 : (y % 4 == 0) = false := by simpa using c4
   clear c4
   go_wp2_with fail
   go_ret
   exact ⟨by rw [hf.out]; first | done | rfl, Below.refl _ _⟩
set_option maxHeartbeats 400000 in
theorem rLeap_c (y : Int) (w : World) (h : inY y) : Calls Tryz.prog 107 #[.int .i64 y] w (Quiet w (.bool (leapI y))) := by
 obtain ⟨r, hr⟩ : ∃ r, leapI y = r := ⟨_, rfl⟩
 rw [hr]
 have HR := Lib.hid hr
 clear hr
 obtain ⟨h1, h2⟩ := h
 go_enter Tryz.func107, Tryz.ntmps107
 by_cases c4 : y % 4 = 0
 · by_cases c1 : y % 100 = 0
   · by_cases c2 : y % 400 = 0
     · have hf := Lib.hid (show r = true by rw [← HR.out]; exact leapI_true c4 (.inr c2))
       have e4 : (y % 4 == 0) = true := by simpa using c4
       have e1 : (y % 100 != 0) = false := by simpa using c1
       have e2 : (y % 400 == 0) = true := by simpa using c2
       clear c4 c1 c2
       go_wp2_with fail
       go_ret
       exact ⟨by rw [hf.out]; first | done | rfl, Below.refl _ _⟩
     · have hf := Lib.hid (show r = false by rw [← HR.out]; exact leapI_false (fun h => h.2.elim (fun k => k c1) c2))
       have e4 : (y % 4 == 0) = true := by simpa using c4
       have e1 : (y % 100 != 0) = false := by simpa using c1
       have e2 : (y % 400 == 0) = false := by simpa using c2
       clear c4 c1 c2
       go_wp2_with fail
       go_ret
       exact ⟨by rw [hf.out]; first | done | rfl, Below.refl _ _⟩
   · have hf := Lib.hid (show r = true by rw [← HR.out]; exact leapI_true c4 (.inl c1))
     have e4 : (y % 4 == 0) = true := by simpa using c4
     have e1 : (y % 100 != 0) = true := by simpa using c1
     clear c4 c1
     go_wp2_with fail
     go_ret
     exact ⟨by rw [hf.out]; first | done | rfl, Below.refl _ _⟩
 · have hf := Lib.hid (show r = false by rw [← HR.out]; exact leapI_false (fun h => c4 h.1))
   have e4 : (y % 4 == 0) = false := by simpa using c4
   clear c4
   go_wp2_with fail
   go_ret
   exact ⟨by rw [hf.out]; first | done | rfl, Below.refl _ _⟩
theorem tab (k : Nat) (h : k < 12) : (#[.int .i64 31, .int .i64 28, .int .i64 31, .int .i64 30, .int .i64 31, .int .i64 30, .int .i64 31, .int .i64 31, .int .i64 30, .int .i64 31, .int .i64 30, .int .i64 31] : Array Value)[k]? = some (.int .i64 (mdays ((k : Int) + 1))) := by
 have hk : k = 0 ∨ k = 1 ∨ k = 2 ∨ k = 3 ∨ k = 4 ∨ k = 5 ∨ k = 6 ∨ k = 7 ∨ k = 8 ∨ k = 9 ∨ k = 10 ∨ k = 11 := by omega
 rcases hk with rfl | rfl | rfl | rfl | rfl | rfl | rfl | rfl | rfl | rfl | rfl | rfl <;> rfl
theorem infoDays : (Tryz.prog.info? 161).map (·.size) = some 12 := by kernel_rfl
set_option maxHeartbeats 8000000 in
set_option maxRecDepth 100000 in
theorem days_c (y m : Int) (w : World) : Calls Tryz.prog 71 #[.int .i64 y, .int .i64 m] w (Quiet w (.int .i64 (daysI y m))) := by
 obtain ⟨r, hr⟩ : ∃ r, daysI y m = r := ⟨_, rfl⟩
 rw [hr]
 have HR := Lib.hid hr
 clear hr
 go_enter Tryz.func71, Tryz.ntmps71
 by_cases hy1 : 1900 ≤ y
 case neg =>
  have hf := Lib.hid (show r = 0 by rw [← HR.out]; unfold daysI; rw [if_neg (fun h => hy1 h.1.1)])
  have k1 : y < 1900 := by omega
  by_cases hm1 : 1 ≤ m
  · by_cases hm2 : m ≤ 12
    · go_wp2_with fail
      go_ret
      exact ⟨by rw [hf.out]; first | done | rfl, Below.refl _ _⟩
    · have k2 : 12 < m := by omega
      go_wp2_with fail
      go_ret
      exact ⟨by rw [hf.out]; first | done | rfl, Below.refl _ _⟩
  · have k2 : m < 1 := by omega
    go_wp2_with fail
    go_ret
    exact ⟨by rw [hf.out]; first | done | rfl, Below.refl _ _⟩
 case pos =>
 have k1 : ¬ y < 1900 := by omega
 by_cases hy2 : y ≤ 2199
 case neg =>
  have hf := Lib.hid (show r = 0 by rw [← HR.out]; unfold daysI; rw [if_neg (fun h => hy2 h.1.2)])
  have k3 : 2199 < y := by omega
  by_cases hm1 : 1 ≤ m
  · by_cases hm2 : m ≤ 12
    · go_wp2_with fail
      go_ret
      exact ⟨by rw [hf.out]; first | done | rfl, Below.refl _ _⟩
    · have k2 : 12 < m := by omega
      go_wp2_with fail
      go_ret
      exact ⟨by rw [hf.out]; first | done | rfl, Below.refl _ _⟩
  · have k2 : m < 1 := by omega
    go_wp2_with fail
    go_ret
    exact ⟨by rw [hf.out]; first | done | rfl, Below.refl _ _⟩
 case pos =>
 have k3 : ¬ 2199 < y := by omega
 by_cases hm1 : 1 ≤ m
 case neg =>
  have hf := Lib.hid (show r = 0 by rw [← HR.out]; unfold daysI; rw [if_neg (fun h => hm1 h.2.1)])
  have k2 : m < 1 := by omega
  go_wp2_with fail
  go_ret
  exact ⟨by rw [hf.out]; first | done | rfl, Below.refl _ _⟩
 case pos =>
 have k2 : ¬ m < 1 := by omega
 by_cases hm2 : m ≤ 12
 case neg =>
  have hf := Lib.hid (show r = 0 by rw [← HR.out]; unfold daysI; rw [if_neg (fun h => hm2 h.2.2)])
  have k4 : 12 < m := by omega
  go_wp2_with fail
  go_ret
  exact ⟨by rw [hf.out]; first | done | rfl, Below.refl _ _⟩
 case pos =>
 have k4 : ¬ 12 < m := by omega
 have hd : r = if m = 2 ∧ leapI y = true then 29 else mdays m := by rw [← HR.out]; unfold daysI; rw [if_pos ⟨⟨hy1, hy2⟩, hm1, hm2⟩]
 have HD := Lib.hid hd
 clear hd HR
 obtain ⟨k, hk⟩ : ∃ k : Nat, m = (k : Int) + 1 := ⟨(m - 1).toNat, by omega⟩
 have hk12 : k < 12 := by omega
 subst hk
 have HT := Lib.hid (tab k hk12)
 by_cases h2 : k = 1
 · subst h2
   have hy : inY y := ⟨hy1, hy2⟩
   go_wp2_with (refine wpList_store_fresh2 rfl 161 (.tmp 5) (.tmp 20) rfl rfl w _ 161 #[.int .i64 31, .int .i64 28, .int .i64 31, .int .i64 30, .int .i64 31, .int .i64 30, .int .i64 31, .int .i64 31, .int .i64 30, .int .i64 31, .int .i64 30, .int .i64 31] rfl rfl infoDays rfl (by simp only [List.all_toArray, List.all_cons, List.all_nil, Value.oneCell', Bool.and_true]) ?_; intro w2 S1 S2 S3; replace S1 := Lib.hid S1)
   refine (leap_c y _ hy).mono ?_
   rintro e w3 ⟨rfl, hb⟩
   obtain ⟨lb, hlb⟩ : ∃ lb, leapI y = lb := ⟨_, rfl⟩
   rw [hlb]
   have HLB := Lib.hid hlb
   clear hlb
   cases lb with
   | true =>
    have hf := Lib.hid (show r = 29 by rw [HD.out, if_pos (by simp [HLB.out])])
    clear HD
    go_wp2_with fail
    go_ret
    exact ⟨by rw [hf.out]; first | done | rfl, (by exact S2.trans (hb.mono (by have := S2.size; omega)))⟩
   | false =>
    have hf := Lib.hid (show r = 28 by rw [HD.out, if_neg (by simp [HLB.out])]; rfl)
    clear HD
    have c0 : w3.cell? ⟨w.heap.size, 1, none⟩ = some (.int .i64 28) := blk_cell ((hb.block _ S3).trans S1.out) 1
    go_wp2_with fail
    go_ret
    exact ⟨by rw [hf.out]; first | done | rfl, (by exact S2.trans (hb.mono (by have := S2.size; omega)))⟩
 · have h2I : ((k : Int) + 1 == 2) = false := by simp; omega
   have hf := Lib.hid (show r = mdays ((k : Int) + 1) by rw [HD.out, if_neg (fun h => h2 (by have := h.1; omega))])
   clear HD h2
   go_wp2_with (refine wpList_store_fresh2 rfl 161 (.tmp 5) (.tmp 20) rfl rfl w _ 161 #[.int .i64 31, .int .i64 28, .int .i64 31, .int .i64 30, .int .i64 31, .int .i64 30, .int .i64 31, .int .i64 31, .int .i64 30, .int .i64 31, .int .i64 30, .int .i64 31] rfl rfl infoDays rfl (by simp only [List.all_toArray, List.all_cons, List.all_nil, Value.oneCell', Bool.and_true]) ?_; intro w2 S1 S2 S3; have c0 := (blk_cell S1 k).trans HT.out; clear S1)
   go_ret
   exact ⟨by rw [hf.out]; first | done | rfl, S2⟩
set_option maxRecDepth 100000 in
theorem run_tab (k : Nat) (h : k < 12) (w : World) : Sem.run Tryz.prog (Instr.index 161 (.agg #[.int .i64 31, .int .i64 28, .int .i64 31, .int .i64 30, .int .i64 31, .int .i64 30, .int .i64 31, .int .i64 31, .int .i64 30, .int .i64 31, .int .i64 30, .int .i64 31]) (.int .i64 (k : Int))) w = .ok (.int .i64 (mdays ((k : Int) + 1))) w := by
 have hk : k = 0 ∨ k = 1 ∨ k = 2 ∨ k = 3 ∨ k = 4 ∨ k = 5 ∨ k = 6 ∨ k = 7 ∨ k = 8 ∨ k = 9 ∨ k = 10 ∨ k = 11 := by omega
 rcases hk with rfl | rfl | rfl | rfl | rfl | rfl | rfl | rfl | rfl | rfl | rfl | rfl <;> rfl
set_option maxHeartbeats 8000000 in
set_option maxRecDepth 100000 in
theorem rDays_c (y m : Int) (w : World) : Calls Tryz.prog 73 #[.int .i64 y, .int .i64 m] w (Quiet w (.int .i64 (daysI y m))) := by
 obtain ⟨r, hr⟩ : ∃ r, daysI y m = r := ⟨_, rfl⟩
 rw [hr]
 have HR := Lib.hid hr
 clear hr
 go_enter Tryz.func73, Tryz.ntmps73
 by_cases hy1 : 1900 ≤ y
 case neg =>
  have hf := Lib.hid (show r = 0 by rw [← HR.out]; unfold daysI; rw [if_neg (fun h => hy1 h.1.1)])
  have k1 : y < 1900 := by omega
  by_cases hm1 : 1 ≤ m
  · by_cases hm2 : m ≤ 12
    · go_wp2_with fail
      go_ret
      exact ⟨by rw [hf.out]; first | done | rfl, Below.refl _ _⟩
    · have k2 : 12 < m := by omega
      go_wp2_with fail
      go_ret
      exact ⟨by rw [hf.out]; first | done | rfl, Below.refl _ _⟩
  · have k2 : m < 1 := by omega
    go_wp2_with fail
    go_ret
    exact ⟨by rw [hf.out]; first | done | rfl, Below.refl _ _⟩
 case pos =>
 have k1 : ¬ y < 1900 := by omega
 by_cases hy2 : y ≤ 2199
 case neg =>
  have hf := Lib.hid (show r = 0 by rw [← HR.out]; unfold daysI; rw [if_neg (fun h => hy2 h.1.2)])
  have k3 : 2199 < y := by omega
  by_cases hm1 : 1 ≤ m
  · by_cases hm2 : m ≤ 12
    · go_wp2_with fail
      go_ret
      exact ⟨by rw [hf.out]; first | done | rfl, Below.refl _ _⟩
    · have k2 : 12 < m := by omega
      go_wp2_with fail
      go_ret
      exact ⟨by rw [hf.out]; first | done | rfl, Below.refl _ _⟩
  · have k2 : m < 1 := by omega
    go_wp2_with fail
    go_ret
    exact ⟨by rw [hf.out]; first | done | rfl, Below.refl _ _⟩
 case pos =>
 have k3 : ¬ 2199 < y := by omega
 by_cases hm1 : 1 ≤ m
 case neg =>
  have hf := Lib.hid (show r = 0 by rw [← HR.out]; unfold daysI; rw [if_neg (fun h => hm1 h.2.1)])
  have k2 : m < 1 := by omega
  go_wp2_with fail
  go_ret
  exact ⟨by rw [hf.out]; first | done | rfl, Below.refl _ _⟩
 case pos =>
 have k2 : ¬ m < 1 := by omega
 by_cases hm2 : m ≤ 12
 case neg =>
  have hf := Lib.hid (show r = 0 by rw [← HR.out]; unfold daysI; rw [if_neg (fun h => hm2 h.2.2)])
  have k4 : 12 < m := by omega
  go_wp2_with fail
  go_ret
  exact ⟨by rw [hf.out]; first | done | rfl, Below.refl _ _⟩
 case pos =>
 have k4 : ¬ 12 < m := by omega
 have hd : r = if m = 2 ∧ leapI y = true then 29 else mdays m := by rw [← HR.out]; unfold daysI; rw [if_pos ⟨⟨hy1, hy2⟩, hm1, hm2⟩]
 have HD := Lib.hid hd
 clear hd HR
 obtain ⟨k, hk⟩ : ∃ k : Nat, m = (k : Int) + 1 := ⟨(m - 1).toNat, by omega⟩
 have hk12 : k < 12 := by omega
 subst hk
 have HT := Lib.hid (tab k hk12)
 by_cases h2 : k = 1
 · subst h2
   have hy : inY y := ⟨hy1, hy2⟩
   go_wp2_with fail
   refine (rLeap_c y _ hy).mono ?_
   rintro e w3 ⟨rfl, hb⟩
   obtain ⟨lb, hlb⟩ : ∃ lb, leapI y = lb := ⟨_, rfl⟩
   rw [hlb]
   have HLB := Lib.hid hlb
   clear hlb
   cases lb with
   | true =>
    have hf := Lib.hid (show r = 29 by rw [HD.out, if_pos (by simp [HLB.out])])
    clear HD
    go_wp2_with fail
    go_ret
    exact ⟨by rw [hf.out]; first | done | rfl, hb⟩
   | false =>
    have hf := Lib.hid (show r = 28 by rw [HD.out, if_neg (by simp [HLB.out])]; rfl)
    clear HD
    have ht : ∀ w, Sem.run Tryz.prog (Instr.index 161 (.agg #[.int .i64 31, .int .i64 28, .int .i64 31, .int .i64 30, .int .i64 31, .int .i64 30, .int .i64 31, .int .i64 31, .int .i64 30, .int .i64 31, .int .i64 30, .int .i64 31]) (.int .i64 1)) w = .ok (.int .i64 28) w := fun w => run_tab 1 (by omega) w
    go_wp2_with fail
    go_ret
    exact ⟨by rw [hf.out]; first | done | rfl, hb⟩
 · have h2I : ((k : Int) + 1 == 2) = false := by simp; omega
   have hf := Lib.hid (show r = mdays ((k : Int) + 1) by rw [HD.out, if_neg (fun h => h2 (by have := h.1; omega))])
   clear HD h2
   have ht := run_tab k hk12
   go_wp2_with fail
   go_ret
   exact ⟨by rw [hf.out]; first | done | rfl, Below.refl _ _⟩
end Go.Proofs.YtekelchdbkjjjaaGreat
