/- Maps of ints that the call itself makes; keys that are pairs of ints. -/
import Derived.Test.YtekelchdbkjjjaaGreatG17xB0B2
import Derived.Test.YtekelchdbkjjjaaGreatG17xB3B8
import Derived.Test.YtekelchdbkjjjaaGreatG17xB9B13
import Derived.Test.YtekelchdbkjjjaaGreatG17xB14
import Derived.Test.YtekelchdbkjjjaaGreatG17xB16
import Derived.Test.YtekelchdbkjjjaaGreatG17xB17B24
import Derived.Test.YtekelchdbkjjjaaGreatG17xB25B28
import Derived.Test.YtekelchdbkjjjaaGreatG17xB29B32
import Derived.Test.YtekelchdbkjjjaaGreatG17xB33S2
import Derived.Test.YtekelchdbkjjjaaGreatG17xC4E3
import Derived.Test.YtekelchdbkjjjaaGreatG17xE6F1
import Derived.Test.YtekelchdbkjjjaaGreatProg
import Derived.Maps.Views
import Derived.Sort.Grow
import Derived.Shelf.SlSortCmp.WholeK
import Derived.Shelf.SlSortCmp.NoneTotal
import Derived.IntWalk
set_option linter.unusedVariables false
set_option linter.unusedSimpArgs false
set_option maxRecDepth 4000
attribute [local go_sem ↓] Go.wp_at_zero Go.wp_at_succ
namespace Go.Proofs.YtekelchdbkjjjaaGreat
open Go Go.RowKit Go.ChangeMaps
open Go.Maps (Keyed)
open Go.WideMaps (KeyLaw)
def MapN {α : Type} (P : Program) (k e : TypeId) (κ : α → Lit) (w : World) (b n : Nat) (f : α → Int) : Prop :=
 ∃ D : UD, w.ownsMap P k (plainElem P e) b n D ∧ ∀ c, D.atKey (κ c) (.lit (.int .i64 0)) = .lit (.int .i64 (f c))
section
variable {α : Type} {P : Program} {k e t : TypeId} {κ : α → Lit} {w w' : World} {b n : Nat} {f : α → Int}
theorem MapN.made (P : Program) (k e : TypeId) (κ : α → Lit) (w : World) : MapN P k e κ (w.alloc (.map #[] 0)) w.heap.size 0 (fun _ => 0) :=
 ⟨_, World.ownsMap_made w P k _, fun _ => rfl⟩
theorem MapN.kept {row : Option Nat} (h : MapN P k e κ w b n f) (hg : w.grownBy w' row) (hne : some b ≠ row) : MapN P k e κ w' b n f := by
 obtain ⟨D, h1, h2⟩ := h
 exact ⟨D, h1.kept hg hne, h2⟩
theorem MapN.lt (h : MapN P k e κ w b n f) : b < w.heap.size := by
 obtain ⟨D, h1, h2⟩ := h
 exact h1.lt
theorem MapN.same (h : MapN P k e κ w b n f) (hb : w'.heap[b]? = w.heap[b]?) : MapN P k e κ w' b n f := by
 obtain ⟨D, ⟨es, clock, h1, h3, h4, h5⟩, h2⟩ := h
 exact ⟨D, ⟨es, clock, hb.trans h1, h3, h4, h5⟩, h2⟩
theorem MapN.fr {Q : Nat → Prop} (h : MapN P k e κ w b n f) (hf : Fr Q w w') (hb : Q b) : MapN P k e κ w' b n f := h.same (hf.block b hb)
theorem MapN.below (h : MapN P k e κ w b n f) (hb : Below w.heap.size w w') : MapN P k e κ w' b n f := h.fr (Fr.ofBelow hb) h.lt
theorem MapN.mono (h : MapN P k e κ w b n f) {n' : Nat} (hn : n ≤ n') : MapN P k e κ w b n' f := by
 obtain ⟨D, h1, h2⟩ := h
 exact ⟨D, h1.mono hn, h2⟩
theorem MapN.eqv {g : α → Int} (h : MapN P k e κ w b n f) (hg : ∀ c, f c = g c) : MapN P k e κ w b n g := by
 obtain ⟨D, h1, h2⟩ := h
 exact ⟨D, h1, fun c => by rw [h2 c, hg c]⟩
theorem setBlock_at {w : World} {b : Nat} {o : Obj} (h : b < w.heap.size) : (setBlock w b o).heap[b]? = some o := by
 simp [setBlock, h]
theorem MapN.assign [DecidableEq α] (h : MapN P k e κ w b n f) (K : Keyed P k) (ht : P.underlying t = some (.map k e)) (he : P.underlying e = some (.int .i64)) (hz : ∀ u : World, (zeroValue e).run P u = .ok (.int .i64 0) u) (hn : n < maxLen) (hκ : ∀ x y, κ x = κ y → x = y) (hl : ∀ x, WideAt.IsKeyLit (κ x))
 {key : Value} {c : α} (hkey : keyOf P k key = some (κ c)) :
 ∃ (st : Nat) (es : Array MapEntry) (clock : Nat) (es1 : Array MapEntry) (clock1 : Nat), w.heap[b]? = some (.map es clock) ∧
  (∀ u : World, (u.heap[b]? = some (.map es clock) ∨ u.heap[b]? = some (.map es1 clock1)) → (Instr.lookup t (.map (some b)) key false).run P u = .ok (.int .i64 (f c)) u ∧ (Instr.mapEntry t (.map (some b)) key).run P u = .ok (.tuple #[.int .i64 (f c), goInt st]) (setBlock u b (.map es1 clock1))) ∧
  ∀ x : Int, (Lit.int .i64 x).wf = true → ∃ es' clock', (∀ u : World, u.heap[b]? = some (.map es1 clock1) → (Instr.entryStore t (.map (some b)) (goInt st) (.int .i64 x)).run P u = .ok () (setBlock u b (.map es' clock'))) ∧
   ∀ u : World, b < u.heap.size → MapN P k e κ (setBlock u b (.map es' clock')) b (n + 1) (fun d => if d = c then x else f d) := by
 obtain ⟨D, h1, h2⟩ := h
 have h1' := h1
 obtain ⟨es, clock, hb, F, hs, hD⟩ := h1'
 obtain ⟨v0, st, es1, clock1, hA, hB⟩ := op_assign K ht hz hb F hkey
 obtain ⟨a, hrun, hat, _⟩ := h1.lookup_int K ht he (hz w) hkey
 have hv : v0 = .int .i64 (f c) := by
  have e1 := (hA w (Or.inl hb)).1
  rw [hrun] at e1
  have e2 := h2 c
  rw [hat] at e2
  simp only [DataW.lit.injEq, Lit.int.injEq, true_and] at e2
  rw [← e2]
  simpa using e1.symm
 subst hv
 refine ⟨st, es, clock, es1, clock1, hb, hA, fun x hx => ?_⟩
 obtain ⟨es', clock', hS, hU⟩ := hB (.int .i64 x)
 refine ⟨es', clock', hS, fun u hu => ?_⟩
 obtain ⟨w2, hrun2, h3, h4⟩ := h1.update K ht hn hkey (plainElem_int he hx)
 rw [hU] at hrun2
 have hw2 : setBlock w b (.map es' clock') = w2 := by simpa using hrun2
 subst hw2
 have hm : Maps.IsMap D := ⟨_, hD⟩
 have hlt := h1.lt
 have hmap : MapN P k e κ (setBlock w b (.map es' clock')) b (n + 1) (fun d => if d = c then x else f d) := ⟨_, h3, fun d => by
  by_cases hd : d = c
  · subst hd
    rw [Maps.atKey_put_same hm (hl d)]; simp
  · rw [Maps.atKey_put_other (fun e => hd (hκ _ _ e)), h2 d]; simp [hd]⟩
 exact hmap.same (by rw [setBlock_at hlt, setBlock_at hu])
end
theorem pair_row : (141 : TypeId) < Tryz.prog.types.size := of_decide_eq_true (by kernel_rfl)
theorem pair_wide : (match Tryz.prog.underlying 141 with | some (.array _ _) | some (.struct _) => true | _ => false) = true := by kernel_rfl
theorem pair_law : KeyLaw Tryz.prog 141 := deep_law_laid try_laidOut (m := 2) (by omega) pair_row (by kernel_rfl) pair_wide
theorem pair_keyed : Keyed Tryz.prog 141 := Keyed.of_law pair_law
theorem pair_cells : Tryz.prog.cellsOf 141 = 2 := by kernel_rfl
theorem pair_keyLits {d : Nat} {a z : Int} (ha : intBd a) (hz : intBd z) : Tryz.prog.keyLits (d + 2) 141 [.int .i64 a, .int .i64 z] = some [.int .i64 a, .int .i64 z] := by
 unfold Program.keyLits
 rw [Tryz.underlying141]
 have h1 := keyLits_int (d := d) ha
 have h2 := keyLits_int (d := d) hz
 simp [int_cells, pair_cells, h1, h2, List.range_succ]
theorem pair_keyType : Tryz.prog.keyType 141 = true := by kernel_rfl
theorem pair_formed {a b : Value} : (Value.agg #[a, b]).formed Tryz.prog 141 = true := by
 simp [Value.formed, Tryz.underlying141, pair_cells, int_cells]
abbrev PK := {p : Int × Int // intBd p.1 ∧ intBd p.2}
def pKey (c : PK) : Lit := .string (keyBytes [.int .i64 c.1.1, .int .i64 c.1.2])
theorem pKey_of (c : PK) : keyOf Tryz.prog 141 (.agg #[.int .i64 c.1.1, .int .i64 c.1.2]) = some (pKey c) := by
 obtain ⟨d, hd⟩ := types_size
 unfold keyOf
 rw [Tryz.underlying141]
 simp only [pair_keyType, pair_formed, Bool.and_self, if_true, hd, Value.cells]
 rw [pair_keyLits c.2.1 c.2.2]; rfl
theorem pKey_inj (x y : PK) (h : pKey x = pKey y) : x = y := by
 have h1 := pKey_of x
 have h2 := pKey_of y
 rw [← h] at h2
 have h3 := pair_keyed.inj h1 h2
 have h4 := congrArg Array.toList (Value.agg.inj h3)
 simp only [List.cons.injEq, Value.int.injEq, true_and, and_true] at h4
 exact Subtype.ext (Prod.ext h4.1 h4.2)
theorem pKey_lit (x : PK) : WideAt.IsKeyLit (pKey x) := trivial
theorem int_zero (w : World) : (zeroValue 3).run Tryz.prog w = .ok (.int .i64 0) w := by kernel_rfl
end Go.Proofs.YtekelchdbkjjjaaGreat
namespace Go.Proofs.YtekelchdbkjjjaaGreat
def isAt (a p : Int) (x : XLine) : Bool := x.account == a && x.partner == p
def sumAt (l : List XLine) (a p : Int) : Int := sumL (l.filter (isAt a p))
def ltL (x y : XLine) : Prop := x.account < y.account ∨ (x.account = y.account ∧ x.partner < y.partner)
def IsNorm (l out : List XLine) : Prop := out.Pairwise ltL ∧ ∀ x : XLine, x ∈ out ↔ (x.amount = sumAt l x.account x.partner ∧ x.amount ≠ 0)
theorem ltL_irrefl (x : XLine) : ¬ ltL x x := fun h => by rcases h with h | ⟨_, h⟩ <;> omega
theorem ltL_asymm {x y : XLine} (h : ltL x y) : ¬ ltL y x := fun h' => by rcases h with h | ⟨h, h2⟩ <;> rcases h' with h' | ⟨h', h2'⟩ <;> omega
theorem rising_uniq : ∀ {a b : List XLine}, a.Pairwise ltL → b.Pairwise ltL → (∀ x, x ∈ a ↔ x ∈ b) → a = b
 | [], b, _, _, h => by
  cases b with
  | nil => rfl
  | cons y b => exact absurd ((h y).2 List.mem_cons_self) (by simp)
 | x :: a, b, ha, hb, h => by
  cases b with
  | nil => exact absurd ((h x).1 List.mem_cons_self) (by simp)
  | cons y b =>
   rw [List.pairwise_cons] at ha hb
   have hxy : x = y := by
    rcases List.mem_cons.1 ((h x).1 List.mem_cons_self) with e | h1
    · exact e
    · rcases List.mem_cons.1 ((h y).2 List.mem_cons_self) with e | h2
      · exact e.symm
      · exact absurd (hb.1 x h1) (ltL_asymm (ha.1 y h2))
   subst hxy
   rw [rising_uniq ha.2 hb.2 (fun z => ?_)]
   constructor
   · intro hz
     rcases List.mem_cons.1 ((h z).1 (List.mem_cons_of_mem _ hz)) with e | h1
     · subst e; exact absurd (ha.1 z hz) (ltL_irrefl z)
     · exact h1
   · intro hz
     rcases List.mem_cons.1 ((h z).2 (List.mem_cons_of_mem _ hz)) with e | h1
     · subst e; exact absurd (hb.1 z hz) (ltL_irrefl z)
     · exact h1
theorem IsNorm.uniq {l a b : List XLine} (ha : IsNorm l a) (hb : IsNorm l b) : a = b :=
 rising_uniq ha.1 hb.1 (fun x => (ha.2 x).trans (hb.2 x).symm)
def absL (l : List XLine) : Int := (l.map (fun x => (x.amount.natAbs : Int))).sum
end Go.Proofs.YtekelchdbkjjjaaGreat
namespace Go.Proofs.YtekelchdbkjjjaaGreat
open Go Go.RowKit Go.Sort
def Lays (W w : World) : Prop := ∃ q os, w = grow (W.drewN q) os
theorem Lays.refl (W : World) : Lays W W := ⟨0, #[], by simp [grow]; rfl⟩
theorem drewN_grow (w : World) (os : Array Obj) (n : Nat) : (grow w os).drewN n = grow (w.drewN n) os := rfl
theorem drewN_drewN (w : World) (a b : Nat) : (w.drewN a).drewN b = w.drewN (a + b) := by
 simp [World.drewN, Nat.add_assoc]
theorem Lays.trans {A B C : World} (h : Lays A B) (k : Lays B C) : Lays A C := by
 obtain ⟨a, o1, rfl⟩ := h
 obtain ⟨b, o2, rfl⟩ := k
 exact ⟨a + b, o1 ++ o2, by rw [drewN_grow, drewN_drewN, grow_grow]⟩
theorem Lays.alloc {A B : World} (h : Lays A B) (o : Obj) : Lays A (B.alloc o) := h.trans ⟨0, #[o], by rw [alloc_eq_grow]; rfl⟩
theorem Lays.drew {A B : World} (h : Lays A B) : Lays A B.drew := h.trans ⟨1, #[], by simp [grow]; rfl⟩
theorem Lays.below {A B : World} (h : Lays A B) : Below A.heap.size A B := by
 obtain ⟨a, o, rfl⟩ := h
 refine ⟨rfl, rfl, rfl, by simp [grow, World.drewN], fun k hk => ?_⟩
 show (A.heap ++ o)[k]? = A.heap[k]?
 rw [Array.getElem?_append_left hk]
def IsSl (a b : Int) (v : Value) (w : World) : Prop := ∃ g T, v = .slice (some ⟨g, 0, none⟩) 2 2 ∧ w.heap[g]? = some (.cells #[.int .i64 a, .int .i64 b] T (0, 0))
theorem IsSl.keep (a b : Int) : ∀ v w w', Below w.heap.size w w' → IsSl a b v w → IsSl a b v w' := fun v w w' hb ⟨g, T, e, h⟩ => ⟨g, T, e, (hb.block g (blk_lt h)).trans h⟩
theorem IsSl.made (a b : Int) (T : TypeId) (w : World) : IsSl a b (.slice (some ⟨w.heap.size, 0, none⟩) 2 2) (w.alloc (.cells #[.int .i64 a, .int .i64 b] T)) := ⟨_, T, rfl, heap_alloc_new _ _⟩
end Go.Proofs.YtekelchdbkjjjaaGreat
namespace Go.Proofs.YtekelchdbkjjjaaGreat
open Go Go.RowKit Go.Shelf Go.Lib
open Go.Sort hiding Below
instance : Inhabited XLine := ⟨{}⟩
end Go.Proofs.YtekelchdbkjjjaaGreat
namespace Go.Proofs.YtekelchdbkjjjaaGreat
open Go Go.RowKit Go.ChangeMaps
open Go.Maps (Keyed)
def IsEnt (mb : Nat) (es1 : Array MapEntry) (clock1 : Nat) (c0 : Int) (st : Nat) (v : Value) (w : World) : Prop := v = .tuple #[.int .i64 c0, goInt st] ∧ w.heap[mb]? = some (.map es1 clock1)
theorem IsEnt.keep (mb : Nat) (es1 : Array MapEntry) (clock1 : Nat) (c0 : Int) (st : Nat) : ∀ v w w', Below w.heap.size w w' → IsEnt mb es1 clock1 c0 st v w → IsEnt mb es1 clock1 c0 st v w' :=
 fun v w w' hb h => ⟨h.1, (hb.block mb (blk_lt h.2)).trans h.2⟩
def SumsAt (l : List XLine) (k : Nat) (c : PK) : Int := sumAt (l.take k) c.1.1 c.1.2
theorem info_lineA : (Tryz.prog.info? 76).map (fun i => (i.zero, i.size, i.bytes)) = some (some (.agg #[.int .i64 0, .int .i64 0, .int .i64 0]), 3, 24) := by kernel_rfl
theorem lines_uty : Tryz.prog.underlying 44 = some (.slice 76) := by kernel_rfl
def NormInv (l : List XLine) (k : Nat) (left : Lit → Bool) (out : List XLine) : Prop :=
 (∀ x ∈ out, lineBd x ∧ x.amount = sumAt (l.take k) x.account x.partner ∧ x.amount ≠ 0 ∧ ∀ hb, left (pKey ⟨(x.account, x.partner), hb⟩) = false) ∧
 out.Pairwise (fun x y => ¬ (x.account = y.account ∧ x.partner = y.partner)) ∧
 ∀ c : PK, SumsAt l k c ≠ 0 → left (pKey c) = true ∨ ∃ x ∈ out, x.account = c.1.1 ∧ x.partner = c.1.2
theorem pKey_same {a c : PK} : (pKey a).sameKey (pKey c) = true ↔ a = c :=
 ⟨fun h => pKey_inj _ _ (WideAt.sameKey_eq h), fun h => by rw [h]; exact WideAt.sameKey_self (pKey_lit c)⟩
theorem NormInv.skip {l : List XLine} {k : Nat} {left : Lit → Bool} {out : List XLine} (h : NormInv l k left out) {c : PK} (h0 : SumsAt l k c = 0) : NormInv l k (fun z => left z && !z.sameKey (pKey c)) out := by
 obtain ⟨h1, h2, h3⟩ := h
 refine ⟨fun x hx => ?_, h2, fun d hd => ?_⟩
 · obtain ⟨a1, a2, a3, a4⟩ := h1 x hx
   exact ⟨a1, a2, a3, fun hb => by show (left (pKey _) && _) = false; rw [a4 hb]; rfl⟩
 · rcases h3 d hd with h4 | h4
   · left
     have : ¬ (pKey d).sameKey (pKey c) = true := fun e => hd (by rw [pKey_same.1 e]; exact h0)
     simp [h4, this]
   · exact Or.inr h4
theorem NormInv.step {l : List XLine} {k : Nat} {left : Lit → Bool} {out : List XLine} (h : NormInv l k left out) {c : PK} (hlk : left (pKey c) = true) (h0 : SumsAt l k c ≠ 0) (hbd : intBd (SumsAt l k c)) : NormInv l k (fun z => left z && !z.sameKey (pKey c)) (out ++ [⟨c.1.1, SumsAt l k c, c.1.2⟩]) := by
 obtain ⟨h1, h2, h3⟩ := h
 refine ⟨fun x hx => ?_, ?_, fun d hd => ?_⟩
 · rcases List.mem_append.1 hx with hx | hx
   · obtain ⟨a1, a2, a3, a4⟩ := h1 x hx
     exact ⟨a1, a2, a3, fun hb => by show (left (pKey _) && _) = false; rw [a4 hb]; rfl⟩
   · simp only [List.mem_singleton] at hx
     subst hx
     refine ⟨⟨c.2.1, hbd, c.2.2⟩, rfl, h0, fun hb => ?_⟩
     have : (pKey ⟨(c.1.1, c.1.2), hb⟩).sameKey (pKey c) = true := pKey_same.2 (Subtype.ext rfl)
     simp only [this]
     simp
 · rw [List.pairwise_append]
   refine ⟨h2, by simp, fun x hx y hy hxy => ?_⟩
   simp only [List.mem_singleton] at hy
   subst hy
   obtain ⟨a1, _, _, a4⟩ := h1 x hx
   have hb : intBd x.account ∧ intBd x.partner := ⟨a1.1, a1.2.2⟩
   have e : (⟨(x.account, x.partner), hb⟩ : PK) = c := Subtype.ext (Prod.ext hxy.1 hxy.2)
   have := a4 hb
   rw [e, hlk] at this
   cases this
 · by_cases e : d = c
   · subst e
     exact Or.inr ⟨_, List.mem_append_right _ (List.mem_singleton.2 rfl), rfl, rfl⟩
   · rcases h3 d hd with h4 | ⟨x, hx, h5⟩
     · left
       have : ¬ (pKey d).sameKey (pKey c) = true := fun e' => e (pKey_same.1 e')
       simp [h4, this]
     · exact Or.inr ⟨x, List.mem_append_left _ hx, h5⟩
end Go.Proofs.YtekelchdbkjjjaaGreat
namespace Go.Proofs.YtekelchdbkjjjaaGreat
open Go Go.RowKit
theorem lines_lay (l : List XLine) (hb : ∀ x ∈ l, lineBd x) (hn : l.length ≤ 1000) (w W : World) (T : TypeId) (cs : Array Value) (hcs : cs = (l.flatMap lineL).toArray) (hW : W.heap[w.heap.size]? = some (.cells cs T (0, 0))) : ListC LineC 3 W (· < W.heap.size) [.slice (some ⟨w.heap.size, 0, none⟩) l.length l.length] l := by
 subst hcs
 have h2 := box_at hW
 refine ⟨_, _, rfl, Nat.le_refl _, by unfold maxLen; omega, fun _ => ⟨w.heap.size, 0, rfl, blk_lt hW, fun i x hx => ?_⟩⟩
 have hbx := hb x (List.mem_of_getElem? hx)
 exact ⟨lineL x, ⟨[_], [_], [_], rfl, ⟨rfl, hbx.1⟩, ⟨rfl, hbx.2.1⟩, ⟨rfl, hbx.2.2⟩⟩, flat_at lineL (fun _ => rfl) l 0 h2 i x hx⟩
theorem flat_one (l : List XLine) : ∀ u ∈ l.flatMap lineL, u.oneCell' = true := fun u hu => by
 obtain ⟨x, _, hx⟩ := List.mem_flatMap.1 hu
 simp [lineL] at hx
 rcases hx with rfl | rfl | rfl <;> rfl
def negL (x : XLine) : XLine := ⟨x.account, -x.amount, x.partner⟩
def oppB (a b : List XLine) : Bool := decide (a = b.map negL)
def midL (x : XLine) : Prop := -4611686018427387904 ≤ x.amount ∧ x.amount ≤ 4611686018427387904
set_option maxHeartbeats 1000000 in
theorem oppcl_c (x y : XLine) (w : World) (hy : midL y) : Calls Tryz.prog 159 #[.agg (lineL x).toArray, .agg (lineL y).toArray] w (Quiet w (.bool (decide (x = negL y)))) := by
 obtain ⟨r, hr⟩ : ∃ r, decide (x = negL y) = r := ⟨_, rfl⟩
 rw [hr]
 obtain ⟨xa, xm, xp⟩ := x
 obtain ⟨ya, ym, yp⟩ := y
 have HR := Lib.hid (show r = decide (xa = ya ∧ xm = -ym ∧ xp = yp) by rw [← hr]; simp [negL])
 obtain ⟨hy1, hy2⟩ := hy
 simp only at hy1 hy2
 clear hr
 show Calls Tryz.prog 159 #[.agg #[.int .i64 xa, .int .i64 xm, .int .i64 xp], .agg #[.int .i64 ya, .int .i64 ym, .int .i64 yp]] w (Quiet w (.bool r))
 go_enter Tryz.func159, Tryz.ntmps159
 go_upto_region 1 with fail
 have H := heap_alloc_new w (.cells #[.int .i64 xa, .int .i64 xm, .int .i64 xp] 76)
 have HB := below1 w (.cells #[.int .i64 xa, .int .i64 xm, .int .i64 xp] 76)
 have HS := blk_lt H
 generalize hW : w.alloc (Obj.cells #[.int .i64 xa, .int .i64 xm, .int .i64 xp] 76) = W at *
 have H2 := heap_alloc_new W (.cells #[.int .i64 ya, .int .i64 ym, .int .i64 yp] 76)
 have HB2 := below1 W (.cells #[.int .i64 ya, .int .i64 ym, .int .i64 yp] 76)
 have HS2 := blk_lt H2
 replace H := alloc_keep H (Obj.cells #[.int .i64 ya, .int .i64 ym, .int .i64 yp] 76)
 generalize hW2 : W.alloc (Obj.cells #[.int .i64 ya, .int .i64 ym, .int .i64 yp] 76) = W2 at *
 clear hW2
 have eW : W.heap.size = w.heap.size + 1 := by rw [← hW]; simp
 rw [eW] at H2
 clear hW
 have hb2 := HB.trans (HB2.mono HB.size)
 have hs2 := HB2.size
 have LT1 := blk_lt H2
 have LT0 : w.heap.size < W2.heap.size := by omega
 have HH := Lib.hid H
 have HZ := Lib.hid H2
 have EW := Lib.hid eW
 clear H H2 eW
 have c0 := blk_cell HH.out 0
 have c1 := blk_cell HH.out 1
 have c2 := blk_cell HH.out 2
 have e0 := blk_cell HZ.out 0
 have e1 := blk_cell HZ.out 1
 have e2 := blk_cell HZ.out 2
 by_cases h1 : xa = ya
 case neg =>
  have h1' : (xa == ya) = false := by simpa using h1
  have hf := Lib.hid (show r = false from HR.out.trans (decide_eq_false (fun h => h1 h.1)))
  go_wp2_with fail
  go_ret
  exact ⟨by rw [hf.out]; first | done | rfl, hb2⟩
 case pos =>
 have h1' : (xa == ya) = true := by simpa using h1
 have HA := Lib.hid h1
 clear h1
 by_cases h2 : xp = yp
 case neg =>
  have h2' : (xp == yp) = false := by simpa using h2
  have hf := Lib.hid (show r = false from HR.out.trans (decide_eq_false (fun h => h2 h.2.2)))
  go_wp2_with fail
  go_ret
  exact ⟨by rw [hf.out]; first | done | rfl, hb2⟩
 case pos =>
 have h2' : (xp == yp) = true := by simpa using h2
 have HP := Lib.hid h2
 clear h2
 by_cases h3 : xm = -ym
 case neg =>
  have h3' : (xm == -ym) = false := by simpa using h3
  have hf := Lib.hid (show r = false from HR.out.trans (decide_eq_false (fun h => h3 h.2.1)))
  go_wp2_with fail
  go_ret
  exact ⟨by rw [hf.out]; first | done | rfl, hb2⟩
 case pos =>
  have h3' : (xm == -ym) = true := by simpa using h3
  have hf := Lib.hid (show r = true from HR.out.trans (decide_eq_true ⟨HA.out, h3, HP.out⟩))
  clear h3
  go_wp2_with fail
  go_ret
  exact ⟨by rw [hf.out]; first | done | rfl, hb2⟩
set_option maxHeartbeats 2000000 in
theorem eqf_c (a b' : List XLine) (A B : Option Addr) (c c4 : Nat) (w : World) (ha : ListC LineC 3 w (· < w.heap.size) [.slice A a.length c] a) (hb' : ListC LineC 3 w (· < w.heap.size) [.slice B b'.length c4] b') (hmid : ∀ x ∈ b', midL x) : Calls Tryz.prog 158 #[.slice A a.length c, .slice B b'.length c4, .func (.func 159) #[] #[]] w (Quiet w (.bool (oppB a b'))) := by
 obtain ⟨r, hr⟩ : ∃ r, oppB a b' = r := ⟨_, rfl⟩
 rw [hr]
 have HR := Lib.hid (show decide (a = b'.map negL) = r from hr)
 have hbn := ha.cap
 have hbn2 := hb'.cap
 obtain ⟨n, hnl⟩ : ∃ n, a.length = n := ⟨_, rfl⟩
 obtain ⟨m, hml⟩ : ∃ n, b'.length = n := ⟨_, rfl⟩
 have HA := Lib.hid ha
 have HB := Lib.hid hb'
 have HN := Lib.hid hnl
 have HM := Lib.hid hml
 have HMID := Lib.hid hmid
 rw [hnl] at hbn ⊢
 rw [hml] at hbn2 ⊢
 unfold maxLen at hbn hbn2
 have hn9 : n ≤ 9223372036854775807 := by omega
 have hm9 : m ≤ 9223372036854775807 := by omega
 clear hr ha hb' hnl hml hbn hbn2 hmid
 by_cases hl : n = m
 case neg =>
  have hf := Lib.hid (show r = false by rw [← HR.out]; exact decide_eq_false (fun e => hl (by rw [← HN.out, ← HM.out, e, List.length_map])))
  have hl1 : ((n : Int) != (m : Int)) = true := by simp; omega
  clear hl
  go_enter Tryz.func158, Tryz.ntmps158
  go_wp2_with fail
  go_ret
  exact ⟨by rw [hf.out]; first | done | rfl, Below.refl _ _⟩
 case pos =>
 subst hl
 go_enter Tryz.func158, Tryz.ntmps158
 go_wp2_with fail
 go_loopw [17] (fun i wr => ∃ k : Nat, k ≤ n ∧ i = .int .i64 (k : Int) ∧ Below w.heap.size w wr ∧ ∀ j, j < k → a[j]? = (b'.map negL)[j]?) (fun i _ => n - (intOf i).toNat)
 case atStart => exact ⟨0, by omega, rfl, Below.refl _ _, fun j h => by omega⟩
 case round =>
  obtain ⟨k, hk, rfl, hb, hall⟩ := hrel
  have HALL := Lib.hid hall
  clear hall
  by_cases hlt : k < n
  case pos =>
   have hltI : (k : Int) < (n : Int) := by omega
   have hkl : k < a.length := by rw [HN.out]; exact hlt
   have hkm : k < b'.length := by rw [HM.out]; exact hlt
   obtain ⟨b, o, es, hAe, hbw, hes, hat⟩ := ListC.get HA.out k hkl
   obtain ⟨b4, o4, es4, hAe4, hbw4, hes4, hat4⟩ := ListC.get HB.out k hkm
   subst hAe hAe4
   have hes1 := (LineC.lit hes).1
   have hes2 := (LineC.lit hes4).1
   rw [hes1] at hat
   rw [hes2] at hat4
   have hmd := HMID.out _ (List.getElem_mem hkm)
   obtain ⟨x, hx⟩ : ∃ x, a[k] = x := ⟨_, rfl⟩
   obtain ⟨y, hy⟩ : ∃ x, b'[k] = x := ⟨_, rfl⟩
   rw [hx] at hat
   rw [hy] at hat4 hmd
   have HX := Lib.hid (show a[k]? = some x by rw [List.getElem?_eq_getElem hkl, hx])
   have HY := Lib.hid (show (b'.map negL)[k]? = some (negL y) by rw [List.getElem?_map, List.getElem?_eq_getElem hkm, hy]; rfl)
   have HCL := Lib.hid (fun w2 : World => oppcl_c x y w2 hmd)
   obtain ⟨q, hq⟩ : ∃ q, decide (x = negL y) = q := ⟨_, rfl⟩
   rw [hq] at HCL
   have HQ := Lib.hid hq
   obtain ⟨xa, xm, xp⟩ := x
   obtain ⟨ya, ym, yp⟩ := y
   have HCL2 := Lib.hid (show ∀ w2, Calls Tryz.prog 159 #[.agg #[.int .i64 xa, .int .i64 xm, .int .i64 xp], .agg #[.int .i64 ya, .int .i64 ym, .int .i64 yp]] w2 (Quiet w2 (.bool q)) from HCL.out)
   try simp only at hat hat4
   have HAR := Lib.hid ((hat.fr (Fr.ofBelow hb)).range)
   have HAR4 := Lib.hid ((hat4.fr (Fr.ofBelow hb)))
   clear hes hes4 hes1 hes2 hat hat4 hx hy hmd hq HCL
   go_upto_region 6 with (show wpList _ _ _ (Oper.mk (some 21) _ _ _ _ _ :: _) _ _; refine wpList_load_mid rfl 76 (.tmp 20) rfl b (o + k * 3) rfl [.int .i64 xa, .int .i64 xm, .int .i64 xp] _ HAR.out Tryz.underlying76 rfl info_line ?_)
   have H6 := heap_alloc_new wr (.cells #[.int .i64 xa, .int .i64 xm, .int .i64 xp] 76)
   have HB6 := below1 wr (.cells #[.int .i64 xa, .int .i64 xm, .int .i64 xp] 76)
   have HS6 := blk_lt H6
   have ez6 : (wr.alloc (.cells #[.int .i64 xa, .int .i64 xm, .int .i64 xp] 76)).heap.size = wr.heap.size + 1 := by simp
   generalize hW6 : wr.alloc (Obj.cells #[.int .i64 xa, .int .i64 xm, .int .i64 xp] 76) = W6 at *
   clear hW6
   have HK6 := Lib.hid H6
   have EZ6 := Lib.hid ez6
   clear H6 ez6
   have hb6 := hb.trans (HB6.mono hb.size)
   have HAR6 := Lib.hid ((HAR4.out.fr ((Fr.ofBelow HB6).mono (fun q (hq : q < w.heap.size) => by have := hb.size; omega))).range)
   go_upto_region 7 with (show wpList _ _ _ (Oper.mk (some 25) _ _ _ _ _ :: _) _ _; refine wpList_load_mid rfl 76 (.tmp 24) rfl b4 (o4 + k * 3) rfl [.int .i64 ya, .int .i64 ym, .int .i64 yp] _ HAR6.out Tryz.underlying76 rfl info_line ?_)
   have H7 := heap_alloc_new W6 (.cells #[.int .i64 ya, .int .i64 ym, .int .i64 yp] 76)
   have HB7 := below1 W6 (.cells #[.int .i64 ya, .int .i64 ym, .int .i64 yp] 76)
   have HS7 := blk_lt H7
   generalize hW7 : W6.alloc (Obj.cells #[.int .i64 ya, .int .i64 ym, .int .i64 yp] 76) = W7 at *
   clear hW7
   have HK7 := Lib.hid H7
   have HK67 := Lib.hid ((HB7.block _ HS6).trans HK6.out)
   clear H7
   have hb7 := hb6.trans (HB7.mono hb6.size)
   go_wp2_with (first | (show wpList _ _ _ (Oper.mk (some 27) _ _ _ _ _ :: _) _ _; refine wpList_load_row_g rfl 76 (.tmp 8) rfl wr.heap.size rfl _ _ _ _ HK67.out Tryz.underlying76 rfl info_line ?_) | (show wpList _ _ _ (Oper.mk (some 28) _ _ _ _ _ :: _) _ _; refine wpList_load_row_g rfl 76 (.tmp 9) rfl W6.heap.size rfl _ _ _ _ HK7.out Tryz.underlying76 rfl info_line ?_))
   refine (HCL2.out W7).mono ?_
   rintro e w8 ⟨rfl, hb8⟩
   have hb08 := hb7.trans (hb8.mono hb7.size)
   cases q with
   | false =>
    have hf := Lib.hid (show r = false by
     rw [← HR.out]
     refine decide_eq_false (fun e => ?_)
     have h1 := HX.out
     rw [e, HY.out] at h1
     exact of_decide_eq_false HQ.out (Option.some.inj h1).symm)
    go_wp2_with fail
    go_ret
    exact ⟨by rw [hf.out]; first | done | rfl, hb08⟩
   | true =>
    go_wp2_with fail
    go_roundw
    case rel => exact ⟨k + 1, by omega, by go_num, hb08, fun j hj => by
     rcases Nat.lt_or_ge j k with h | h
     · exact HALL.out j h
     · have : j = k := by omega
       subst this
       rw [HX.out, HY.out, of_decide_eq_true HQ.out]⟩
    case measure => first | exact meas_v hlt | (simp only [intOf]; omega)
  case neg =>
   have hltI : ¬ (k : Int) < (n : Int) := by omega
   have hf := Lib.hid (show r = true by
    rw [← HR.out]
    refine decide_eq_true (List.ext_getElem? (fun i => ?_))
    rcases Nat.lt_or_ge i k with h | h
    · exact HALL.out i h
    · rw [List.getElem?_eq_none (by rw [HN.out]; omega), List.getElem?_eq_none (by rw [List.length_map, HM.out]; omega)])
   go_wp2_with fail
   go_ret
   exact ⟨by rw [hf.out]; first | done | rfl, hb⟩
theorem opp_c (a b' : List XLine) (A B : Option Addr) (c c4 : Nat) (w : World) (ha : ListC LineC 3 w (· < w.heap.size) [.slice A a.length c] a) (hb' : ListC LineC 3 w (· < w.heap.size) [.slice B b'.length c4] b') (hmid : ∀ x ∈ b', midL x) : Calls Tryz.prog 142 #[.slice A a.length c, .slice B b'.length c4] w (Quiet w (.bool (oppB a b'))) := by
 have hc := eqf_c a b' A B c c4 w ha hb' hmid
 obtain ⟨n, hnl⟩ : ∃ n, a.length = n := ⟨_, rfl⟩
 obtain ⟨m, hml⟩ : ∃ n, b'.length = n := ⟨_, rfl⟩
 obtain ⟨r, hr⟩ : ∃ r, oppB a b' = r := ⟨_, rfl⟩
 rw [hnl, hml, hr] at hc ⊢
 have HC := Lib.hid hc
 clear hc hnl hml hr ha hb' hmid
 go_enter Tryz.func142, Tryz.ntmps142
 go_wp2_with fail
 refine HC.out.mono ?_
 rintro e w2 ⟨rfl, hb2⟩
 go_wp2_with fail
 go_ret
 exact ⟨rfl, hb2⟩
theorem neg_step {l : List XLine} {k : Nat} (hk : k < l.length) : ((l.take (k + 1)).map negL).flatMap lineL = ((l.take k).map negL).flatMap lineL ++ lineL (negL l[k]) := by
 rw [List.take_add_one, List.getElem?_eq_getElem hk, List.map_append, List.flatMap_append]
 simp
def IsMade (W : World) (v : Value) (w : World) : Prop := ∃ g, v = .slice (some ⟨g, 0, none⟩) 0 0 ∧ W.heap.size ≤ g ∧ w.heap[g]? = some (.cells #[] 76 (0, 0))
theorem IsMade.keep (W : World) : ∀ v w w', Below w.heap.size w w' → IsMade W v w → IsMade W v w' := fun v w w' hb ⟨g, e, h1, h2⟩ => ⟨g, e, h1, (hb.block g (blk_lt h2)).trans h2⟩
theorem IsMade.made {W w : World} (h : W.heap.size ≤ w.heap.size) : IsMade W (.slice (some ⟨w.heap.size, 0, none⟩) 0 0) (w.alloc (.cells #[] 76)) := ⟨_, rfl, h, heap_alloc_new _ _⟩
def IsOwn (W : World) (n : Nat) (xs : List Value) (v : Value) (w : World) : Prop := w.ownsRow W.heap.size 76 3 v n xs
theorem IsOwn.keep (W : World) (n : Nat) (xs : List Value) : ∀ v w w', Below w.heap.size w w' → IsOwn W n xs v w → IsOwn W n xs v w' := fun v w w' hb h => own_below h hb
def idxE (es : List XEntry) (id : Int) : Option Nat := es.findIdx? (fun x => x.id == id)
def revId : List XEntry → Int → Int
 | [], _ => 0
 | x :: es, id => if x.kind = 3 ∧ x.of_ = id then x.id else revId es id
def rvsE (es : List XEntry) (x : XEntry) : Int :=
 match idxE es x.of_ with
 | none => 8
 | some k => if (es.getD k {}).kind = 3 ∨ revId es x.of_ ≠ 0 then 7 else if (es.getD k {}).entity ≠ x.entity ∨ x.date < (es.getD k {}).date ∨ oppB x.lines (es.getD k {}).lines = false then 18 else 0
def postE (g : XGroup) (es : List XEntry) (x : XEntry) : Int :=
 if checkE g x ≠ 0 then checkE g x
 else if (idxE es x.id).isSome then 9
 else if x.kind = 3 ∧ rvsE es x ≠ 0 then rvsE es x
 else if 2000 ≤ es.length then 6 else 0
def okJ (g : XGroup) (es : List XEntry) : Prop := ∀ k (h : k < es.length), postE g (es.take k) es[k] = 0
theorem okJ_nil (g : XGroup) : okJ g [] := fun k h => absurd h (by simp)
theorem okJ_snoc {g : XGroup} {es : List XEntry} {x : XEntry} (h : okJ g es) (hx : postE g es x = 0) : okJ g (es ++ [x]) := fun k hk => by
 rcases Nat.lt_or_ge k es.length with h1 | h1
 · rw [List.getElem_append_left h1, List.take_append_of_le_length (by omega)]
   exact h k h1
 · have hk2 : k = es.length := by simp at hk; omega
   subst hk2
   simp [hx]
theorem postE_ok {g : XGroup} {es : List XEntry} {x : XEntry} (h : postE g es x = 0) : checkE g x = 0 ∧ idxE es x.id = none ∧ (x.kind = 3 → rvsE es x = 0) ∧ es.length < 2000 := by
 unfold postE at h
 split at h
 · exact absurd h ‹_›
 · rename_i h1
   split at h
   · exact absurd h (by decide)
   · rename_i h2
     split at h
     · rename_i h3
       exact absurd h h3.2
     · rename_i h3
       split at h
       · exact absurd h (by decide)
       · rename_i h4
         refine ⟨by omega, ?_, fun hk => ?_, by omega⟩
         · cases hi : idxE es x.id with
           | none => rfl
           | some k => rw [hi] at h2; exact absurd rfl h2
         · by_cases hr : rvsE es x = 0
           · exact hr
           · exact absurd ⟨hk, hr⟩ h3
theorem okJ_check {g : XGroup} {es : List XEntry} (h : okJ g es) {x : XEntry} (hx : x ∈ es) : checkE g x = 0 := by
 obtain ⟨k, hk, rfl⟩ := List.getElem_of_mem hx
 exact (postE_ok (h k hk)).1
theorem checkE_form {g : XGroup} {x : XEntry} (h : checkE g x = 0) : formB (groupB g) g.entities.length x = true := by
 cases hf : formB (groupB g) g.entities.length x with
 | true => rfl
 | false => rw [checkE_1 hf] at h; exact absurd h (by decide)
theorem checkE_id {g : XGroup} {x : XEntry} (h : checkE g x = 0) : 1 ≤ x.id := ((formB_iff _ _ _).1 (checkE_form h)).2.1
theorem checkE_lines {g : XGroup} {x : XEntry} (h : checkE g x = 0) : x.lines.length ≤ 40 := ((formB_iff _ _ _).1 (checkE_form h)).2.2.2.2.2.2.2.2.2.2.1
theorem checkE_mid {g : XGroup} {x : XEntry} (h : checkE g x = 0) : ∀ y ∈ x.lines, midL y := fun y hy => by
 have h1 := ((formB_iff _ _ _).1 (checkE_form h)).2.2.2.2.2.2.2.2.2.2.2 y hy
 have h2 := ((lineB_iff _ _ _).1 h1).2.1
 unfold monB at h2
 simp only [Bool.and_eq_true, decide_eq_true_eq] at h2
 unfold midL
 omega
theorem idxE_snoc (es : List XEntry) (x : XEntry) (id : Int) : idxE (es ++ [x]) id = match idxE es id with | some k => some k | none => if x.id = id then some es.length else none := by
 unfold idxE
 rw [List.findIdx?_append]
 cases h : es.findIdx? (fun x => x.id == id) with
 | some k => simp
 | none =>
  by_cases hx : x.id = id
  · simp [hx, List.findIdx?_cons]
  · simp [hx, List.findIdx?_cons]
theorem idxE_snoc_new {es : List XEntry} {x : XEntry} (h : idxE es x.id = none) (id : Int) : idxE (es ++ [x]) id = if id = x.id then some es.length else idxE es id := by
 rw [idxE_snoc]
 by_cases hx : id = x.id
 · subst hx; simp [h]
 · rw [if_neg hx, if_neg (fun e => hx e.symm)]
   cases idxE es id <;> rfl
theorem idxE_some {es : List XEntry} {id : Int} {k : Nat} (h : idxE es id = some k) : ∃ hk : k < es.length, es[k].id = id := by
 unfold idxE at h
 rw [List.findIdx?_eq_some_iff_getElem] at h
 obtain ⟨hk, h1, _⟩ := h
 exact ⟨hk, by simpa using h1⟩
theorem revId_snoc (es : List XEntry) (x : XEntry) (id : Int) (hp : ∀ y ∈ es, 1 ≤ y.id) : revId (es ++ [x]) id = if revId es id = 0 then (if x.kind = 3 ∧ x.of_ = id then x.id else 0) else revId es id := by
 induction es with
 | nil => rfl
 | cons y es ih =>
  have h1 := hp y (by simp)
  have ih := ih (fun z hz => hp z (by simp [hz]))
  have e1 : revId (y :: es ++ [x]) id = if y.kind = 3 ∧ y.of_ = id then y.id else revId (es ++ [x]) id := rfl
  have e2 : revId (y :: es) id = if y.kind = 3 ∧ y.of_ = id then y.id else revId es id := rfl
  by_cases hy : y.kind = 3 ∧ y.of_ = id
  · rw [if_pos hy] at e1 e2
    rw [e1, e2, if_neg (by omega)]
  · rw [if_neg hy] at e1 e2
    rw [e1, e2, ih]
def revO (es : List XEntry) (id : Int) : Option Int := if revId es id = 0 then none else some (revId es id)
theorem rvsE_k {es : List XEntry} {x : XEntry} (h : rvsE es x = 0) : revId es x.of_ = 0 := by
 unfold rvsE at h
 split at h
 · exact absurd h (by decide)
 · split at h
   · exact absurd h (by decide)
   · rename_i h1
     exact Decidable.byContradiction (fun h2 => h1 (.inr h2))
theorem revO_snoc {g : XGroup} {es : List XEntry} {x : XEntry} (hj : okJ g es) (h : postE g es x = 0) (id : Int) : revO (es ++ [x]) id = if x.kind = 3 ∧ id = x.of_ then some x.id else revO es id := by
 have hp : ∀ y ∈ es, 1 ≤ y.id := fun y hy => checkE_id (okJ_check hj hy)
 obtain ⟨h1, h2, h3, h4⟩ := postE_ok h
 have hid := checkE_id h1
 unfold revO
 rw [revId_snoc es x id hp]
 by_cases hk : x.kind = 3 ∧ id = x.of_
 · obtain ⟨hk1, rfl⟩ := hk
   have h0 := rvsE_k (h3 hk1)
   rw [if_pos h0, if_pos (show x.kind = 3 ∧ x.of_ = x.of_ from ⟨hk1, rfl⟩), if_pos (show x.kind = 3 ∧ x.of_ = x.of_ from ⟨hk1, rfl⟩), if_neg (by omega)]
 · rw [if_neg hk, if_neg (show ¬ (x.kind = 3 ∧ x.of_ = id) from fun hh => hk ⟨hh.1, hh.2.symm⟩)]
   by_cases h0 : revId es id = 0
   · simp [h0]
   · simp [h0]
theorem revO_kind {g : XGroup} {es : List XEntry} {x : XEntry} (hj : okJ g es) (h : postE g es x = 0) (hk : x.kind ≠ 3) (id : Int) : revO (es ++ [x]) id = revO es id := by
 rw [revO_snoc hj h, if_neg (fun hh => hk hh.1)]
end Go.Proofs.YtekelchdbkjjjaaGreat
namespace Go.Proofs.YtekelchdbkjjjaaGreat
open Go Go.RowKit Go.ChangeMaps
open Go.Maps (Keyed)
theorem iimap_uty : Tryz.prog.underlying 81 = some (.map 3 3) := by kernel_rfl
def MapO (w : World) (b n : Nat) (f : Int → Option Int) : Prop :=
 ∃ D : UD, w.ownsMap Tryz.prog 3 (plainElem Tryz.prog 3) b n D ∧ ∀ c : Int, Maps.has D (iKey c) = (f c).isSome ∧ D.atKey (iKey c) (.lit (.int .i64 0)) = .lit (.int .i64 ((f c).getD 0))
section
variable {w w' : World} {b n : Nat} {f : Int → Option Int}
theorem MapO.made (w : World) : MapO (w.alloc (.map #[] 0)) w.heap.size 0 (fun _ => none) := ⟨_, World.ownsMap_made w Tryz.prog 3 _, fun _ => ⟨rfl, rfl⟩⟩
theorem MapO.lt (h : MapO w b n f) : b < w.heap.size := by
 obtain ⟨D, h1, h2⟩ := h
 exact h1.lt
theorem MapO.same (h : MapO w b n f) (hb : w'.heap[b]? = w.heap[b]?) : MapO w' b n f := by
 obtain ⟨D, ⟨es, clock, h1, h3, h4, h5⟩, h2⟩ := h
 exact ⟨D, ⟨es, clock, hb.trans h1, h3, h4, h5⟩, h2⟩
theorem MapO.fr {Q : Nat → Prop} (h : MapO w b n f) (hf : Fr Q w w') (hb : Q b) : MapO w' b n f := h.same (hf.block b hb)
theorem MapO.below (h : MapO w b n f) (hb : Below w.heap.size w w') : MapO w' b n f := h.fr (Fr.ofBelow hb) h.lt
theorem MapO.mono (h : MapO w b n f) {n' : Nat} (hn : n ≤ n') : MapO w b n' f := by
 obtain ⟨D, h1, h2⟩ := h
 exact ⟨D, h1.mono hn, h2⟩
theorem MapO.eqv {g : Int → Option Int} (h : MapO w b n f) (hg : ∀ c, f c = g c) : MapO w b n g := by
 obtain ⟨D, h1, h2⟩ := h
 exact ⟨D, h1, fun c => by rw [← hg c]; exact h2 c⟩
theorem MapO.look (h : MapO w b n f) {c : Int} (hc : intBd c) : (Instr.lookup 81 (.map (some b)) (.int .i64 c) true).run Tryz.prog w = .ok (.tuple #[.int .i64 ((f c).getD 0), .bool (f c).isSome]) w := by
 obtain ⟨D, h1, h2⟩ := h
 obtain ⟨v, ps, hrun, hv⟩ := h1.look_ok int_keyed3 iimap_uty (int_zero w) (plainElem_int int_uty (by decide)) (iKey_of hc)
 obtain ⟨a, rfl, ha, _⟩ := plainElem_int_inv int_uty hv
 rw [(h2 c).2] at ha
 simp only [Prod.mk.injEq, DataW.lit.injEq, Lit.int.injEq, true_and] at ha
 rw [hrun, ← ha.1, (h2 c).1]
theorem MapO.store (h : MapO w b n f) (hn : n < maxLen) {c x : Int} (hc : intBd c) (hx : intBd x) :
 ∃ w', (Instr.mapUpdate 81 (.map (some b)) (.int .i64 c) (.int .i64 x)).run Tryz.prog w = .ok () w' ∧ MapO w' b (n + 1) (fun d => if d = c then some x else f d) ∧ Fr (fun q => q ≠ b) w w' := by
 obtain ⟨D, h1, h2⟩ := h
 obtain ⟨w2, hrun, h3, h4⟩ := h1.store int_keyed3 iimap_uty hn (iKey_of hc) (plainElem_int int_uty (WalkArith.wf_i64 hx))
 have hm : Maps.IsMap D := h1.isMap
 refine ⟨w2, hrun, ⟨_, h3, fun d => ?_⟩, ?_⟩
 · by_cases hd : d = c
   · subst hd
     rw [Maps.atKey_put_same hm (iKey_lit d), Maps.has_put_same hm (iKey_lit d)]; simp
   · have hne : iKey d ≠ iKey c := fun e => hd (iKey_inj _ _ e)
     rw [Maps.atKey_put_other hne, Maps.has_put_other hne]; simp only [if_neg hd]; exact h2 d
 · obtain ⟨es, clock, es', clock', hb, rfl⟩ := h4
   exact ⟨rfl, rfl, rfl, by simp [setBlock], fun i hi => heap_setBlock_other hb _ hi⟩
end
theorem wpList_store_o {ops : Array Oper} {rest : List Oper} {o : Oper} {a : Act} {w : World} {Q : Exit → Act → World → Prop} (hg : o.guard = none) (m x v : Operand) (hop : o.op = Op.mapUpdate 81 m x v)
 (b n : Nat) (f : Int → Option Int) (hm : a.eval m = .map (some b)) (h : MapO w b n f) (hn : n < maxLen) (c : Int) (hx : a.eval x = .int .i64 c) (hc : intBd c) (xv : Int) (hv : a.eval v = .int .i64 xv) (hxv : intBd xv)
 (hK : ∀ w', MapO w' b (n + 1) (fun d => if d = c then some xv else f d) → Fr (fun q => q ≠ b) w w' → wpList Tryz.prog ops Q rest (a.put o.dst undef) w') : wpList Tryz.prog ops Q (o :: rest) a w := by
 refine wpList_plain hg fun K' hK' => ?_
 obtain ⟨w', hrun, r1, r2⟩ := h.store hn hc hxv
 unfold Oper.wp
 simp [execOp, hop, hm, hx, hv, hrun, Result.andThen]
 exact hK' _ _ (hK w' r1 r2)
end Go.Proofs.YtekelchdbkjjjaaGreat
namespace Go.Proofs.YtekelchdbkjjjaaGreat
open Go Go.RowKit
theorem flat_len {size : Nat} {css : List (List Value)} (h : ∀ cs ∈ css, cs.length = size) : css.flatten.length = css.length * size := by
 induction css with
 | nil => simp
 | cons c css ih => rw [List.flatten_cons, List.length_append, ih (fun x hx => h x (by simp [hx])), h c (by simp), List.length_cons, Nat.succ_mul]; omega
theorem At.flat {w : World} {Q : Nat → Prop} {b size : Nat} : ∀ {css : List (List Value)} (h : ∀ cs ∈ css, cs.length = size) (o : Nat), At w Q ⟨b, o, none⟩ css.flatten → ∀ (i : Nat) cs, css[i]? = some cs → At w Q ⟨b, o + i * size, none⟩ cs
 | [], _, _, _, i, cs, hi => by simp at hi
 | c :: css, h, o, ha, 0, cs, hi => by
  rw [List.flatten_cons] at ha
  have := (ha.split).1
  simp at hi
  subst hi
  simpa using this
 | c :: css, h, o, ha, i + 1, cs, hi => by
  rw [List.flatten_cons] at ha
  have h2 := (ha.split).2
  rw [h c (by simp)] at h2
  simp only [List.getElem?_cons_succ] at hi
  have := At.flat (fun x hx => h x (by simp [hx])) (o + size) h2 i cs hi
  have e : o + (i + 1) * size = o + size + i * size := by rw [Nat.add_mul]; omega
  rw [e]
  exact this
theorem own_at {w : World} {base : Nat} {e : TypeId} {size g n c : Nat} {xs : List Value} (h : w.ownsRow base e size (.slice (some ⟨g, 0, none⟩) n c) n xs) {Q : Nat → Prop} (hQ : Q g) : At w Q ⟨g, 0, none⟩ xs :=
 ⟨hQ, fun j u hu => ⟨h.cells (g := g) rfl j u hu, own_unfrozen h (g := g) rfl j⟩⟩
theorem own_list {α : Type} {El : World → (Nat → Prop) → List Value → α → Prop} {size : Nat} {w : World} {Q : Nat → Prop} {base : Nat} {e : TypeId} {v : Value} {xs : List α} {css : List (List Value)} (hl : ∀ cs ∈ css, cs.length = size)
 (h : w.ownsRow base e size v xs.length css.flatten) (hE : ∀ (i : Nat) x, xs[i]? = some x → ∃ cs, css[i]? = some cs ∧ El w Q cs x) (hQ : ∀ g, v.ownBlock = some g → Q g) : ListC El size w Q [v] xs := by
 rcases h.2 with ⟨rfl, h0⟩ | ⟨g, cap, cur, rfl, _, _, h3, h4, _⟩
 · exact ⟨none, 0, by rw [h0], by omega, by simp [maxLen], fun hp => by omega⟩
 · refine ⟨_, cap, rfl, h3, h4, fun _ => ⟨g, 0, rfl, hQ g rfl, fun i x hx => ?_⟩⟩
   obtain ⟨cs, h1, h2⟩ := hE i x hx
   exact ⟨cs, h2, At.flat hl 0 (own_at h (hQ g rfl)) i cs h1⟩
structure JAt (w : World) (D O : Nat → Prop) (J : Nat) (g : XGroup) (es : List XEntry) (gl : List Value) (css : List (List Value)) (v : Value) (bi br : Nat) : Prop where
 blk : w.heap[J]? = some (.cells (gl ++ [v, .map (some bi), .map (some br)]).toArray 168 (0, 0))
 grp : GroupC w D gl g
 len : css.length = es.length
 row : w.ownsRow 0 46 7 v es.length css.flatten
 ent : ∀ (i : Nat) x, es[i]? = some x → ∃ cs, css[i]? = some cs ∧ EntryC w D cs x
 idx : MapO w bi es.length (fun id => Option.map (fun k : Nat => (k : Int)) (idxE es id))
 rev : MapO w br es.length (revO es)
 oj : O J
 oi : O bi
 orr : O br
 ov : ∀ q, v.ownBlock = some q → O q
 ne1 : J ≠ bi
 ne2 : J ≠ br
 ne3 : bi ≠ br
 ne4 : ∀ q, v.ownBlock = some q → q ≠ J ∧ q ≠ bi ∧ q ≠ br
 dis : ∀ q, D q → ¬ O q
 ltD : ∀ q, D q → q < w.heap.size
 ltO : ∀ q, O q → q < w.heap.size
 ok : okJ g es
def JC (w : World) (D O : Nat → Prop) (J : Nat) (g : XGroup) (es : List XEntry) : Prop := ∃ gl css v bi br, JAt w D O J g es gl css v bi br
section
variable {w w' : World} {D O : Nat → Prop} {J : Nat} {g : XGroup} {es : List XEntry} {gl : List Value} {css : List (List Value)} {v : Value} {bi br : Nat}
theorem JAt.fr (h : JAt w D O J g es gl css v bi br) (hf : Fr (fun q => D q ∨ O q) w w') : JAt w' D O J g es gl css v bi br where
 blk := (hf.block J (.inr h.oj)).trans h.blk
 grp := GroupC.fr h.grp (hf.mono fun q hq => .inl hq)
 len := h.len
 row := own_same h.row fun q hq => hf.block q (.inr (h.ov q hq))
 ent := fun i x hx => by
  obtain ⟨cs, h1, h2⟩ := h.ent i x hx
  exact ⟨cs, h1, EntryC.fr h2 (hf.mono fun q hq => .inl hq)⟩
 idx := h.idx.fr hf (.inr h.oi)
 rev := h.rev.fr hf (.inr h.orr)
 oj := h.oj
 oi := h.oi
 orr := h.orr
 ov := h.ov
 ne1 := h.ne1
 ne2 := h.ne2
 ne3 := h.ne3
 ne4 := h.ne4
 dis := h.dis
 ltD := fun q hq => Nat.lt_of_lt_of_le (h.ltD q hq) hf.size
 ltO := fun q hq => Nat.lt_of_lt_of_le (h.ltO q hq) hf.size
 ok := h.ok
theorem JC.fr (h : JC w D O J g es) (hf : Fr (fun q => D q ∨ O q) w w') : JC w' D O J g es := by
 obtain ⟨gl, css, v, bi, br, h⟩ := h
 exact ⟨gl, css, v, bi, br, h.fr hf⟩
theorem JC.below (h : JC w D O J g es) (hb : Below w.heap.size w w') : JC w' D O J g es := by
 obtain ⟨gl, css, v, bi, br, h⟩ := h
 exact ⟨gl, css, v, bi, br, h.fr ((Fr.ofBelow hb).mono fun q hq => hq.elim (h.ltD q) (h.ltO q))⟩
theorem JC.ok (h : JC w D O J g es) : okJ g es := by
 obtain ⟨gl, css, v, bi, br, h⟩ := h
 exact h.ok
theorem JC.lt (h : JC w D O J g es) : J < w.heap.size := by
 obtain ⟨gl, css, v, bi, br, h⟩ := h
 exact blk_lt h.blk
theorem JAt.glen (h : JAt w D O J g es gl css v bi br) : gl.length = 21 := h.grp.len
theorem JAt.clen (h : JAt w D O J g es gl css v bi br) : ∀ cs ∈ css, cs.length = 7 := fun cs hc => by
 obtain ⟨i, hi, rfl⟩ := List.getElem_of_mem hc
 have hi2 : i < es.length := by rw [← h.len]; exact hi
 obtain ⟨cs, h1, h2⟩ := h.ent i _ (List.getElem?_eq_getElem hi2)
 rw [List.getElem?_eq_getElem hi] at h1
 obtain rfl := Option.some.inj h1
 exact h2.len
theorem JAt.list (h : JAt w D O J g es gl css v bi br) : ListC EntryC 7 w (fun q => D q ∨ O q) [v] es :=
 own_list h.clen h.row (fun i x hx => by
  obtain ⟨cs, h1, h2⟩ := h.ent i x hx
  exact ⟨cs, h1, EntryC.mono h2 (fun q hq => .inl hq)⟩) (fun q hq => .inr (h.ov q hq))
end
def JPost (D O : Nat → Prop) (J : Nat) (g : XGroup) (es es' : List XEntry) (w w' : World) : Prop :=
 ∃ m, w.heap.size ≤ m ∧ m ≤ w'.heap.size ∧ JC w' (fun q => D q ∨ (w.heap.size ≤ q ∧ q < m)) (fun q => O q ∨ (m ≤ q ∧ q < w'.heap.size)) J g es' ∧ Fr (fun q => q < w.heap.size ∧ ¬ O q) w w'
theorem info_entA : (Tryz.prog.info? 92).map (fun i => (i.zero, i.size, i.bytes)) = some (some (.agg #[.string ⟨#[]⟩, .string ⟨#[]⟩, .slice none 0 0, .slice none 0 0, .bool false]), 5, 88) := by kernel_rfl
theorem info_entryA : (Tryz.prog.info? 46).map (fun i => (i.zero, i.size, i.bytes)) = some (some (.agg #[.int .i64 0, .int .i64 0, .int .i64 0, .int .i64 0, .int .i64 0, .string ⟨#[]⟩, .slice none 0 0]), 7, 80) := by kernel_rfl
theorem ents_uty : Tryz.prog.underlying 27 = some (.slice 92) := by kernel_rfl
theorem entries_uty : Tryz.prog.underlying 30 = some (.slice 46) := by kernel_rfl
def ClonePost (T : TypeId) (size n : Nat) (xs : List Value) (w : World) (e : Ending) (w' : World) : Prop := ∃ v, e = .returned v ∧ w'.ownsRow w.heap.size T size v n xs ∧ Below w.heap.size w w'
theorem own_empty {w : World} {base g size : Nat} {e : TypeId} (hb : base ≤ g) (hg : w.heap[g]? = some (.cells #[] e (0, 0))) : w.ownsRow base e size (.slice (some ⟨g, 0, none⟩) 0 0) 0 [] := ⟨by simp, .inr ⟨g, 0, #[], rfl, hb, hg, Nat.le_refl _, by simp [maxLen], by simp, by simp⟩⟩
set_option maxHeartbeats 1000000 in
theorem cloneL_c (A : Option Addr) (n c : Nat) (xs : List Value) (w : World) (hr : Rd w (· < w.heap.size) A n 3 xs) (h1 : ∀ u ∈ xs, u.oneCell' = true) (hn : n ≤ 100000) : Calls Tryz.prog 143 #[.slice A n c] w (ClonePost 76 3 n xs w) := by
 obtain ⟨ia, hia, hzia, hsia, hbia⟩ := info_parts info_lineA
 have heq : ∀ (w : World) (a : Option Addr) (n c n' c' : Nat), (binOp .eql 44 (.slice a n c) (.slice none n' c')).run Tryz.prog w = .ok (.bool a.isNone) w := fun w a n c n' c' => Lib.run_eql_slice_nil w _ _ a n c n' c' lines_uty
 cases A with
 | none =>
  have h0 : n = 0 := by
   rcases Nat.eq_zero_or_pos n with h | h
   · exact h
   · obtain ⟨a, e, _⟩ := hr.2 h
     cases e
  subst h0
  have hx : xs = [] := List.eq_nil_of_length_eq_zero (by simpa using hr.1)
  subst hx
  clear hr h1 hn
  go_enter Tryz.func143, Tryz.ntmps143
  go_wp2_with fail
  go_ret
  exact ⟨_, rfl, World.ownsRow_nil _ _ _ _, Below.refl _ _⟩
 | some ad =>
  have HR := Lib.hid hr
  have H1 := Lib.hid h1
  clear hr h1
  go_enter Tryz.func143, Tryz.ntmps143
  go_upto_region 3 with fail
  go_wp2_with (at_builtin; go_loud (refine wpList_app _ rfl (.tmp 5) (.tmp 6) 44 rfl w.heap.size 76 ia _ 3 24 lines_uty hia hzia hsia hbia rfl (by decide) (.slice (some ⟨w.heap.size, 0, none⟩) 0 0) 0 [] rfl (own_empty (Nat.le_refl _) (heap_alloc_new _ _)) (· < w.heap.size) (some ad) n c xs rfl (HR.out.fr (Fr.ofBelow (below1 w _))) H1.out (by simp only [maxLen]; omega) (by omega) (by simp) ?_); intro v9 w9 hown9 hg9 hat9)
  go_ret
  exact ⟨_, rfl, by simpa using hown9, below_grown (below1 w _) hg9 (fun q hq => by simp [Value.ownBlock] at hq; omega) (Nat.le_refl _)⟩
set_option maxHeartbeats 1000000 in
theorem cloneA_c (A : Option Addr) (n c : Nat) (xs : List Value) (w : World) (hr : Rd w (· < w.heap.size) A n 4 xs) (h1 : ∀ u ∈ xs, u.oneCell' = true) (hn : n ≤ 100000) : Calls Tryz.prog 135 #[.slice A n c] w (ClonePost 87 4 n xs w) := by
 obtain ⟨ia, hia, hzia, hsia, hbia⟩ := info_parts info_accA
 have heq : ∀ (w : World) (a : Option Addr) (n c n' c' : Nat), (binOp .eql 24 (.slice a n c) (.slice none n' c')).run Tryz.prog w = .ok (.bool a.isNone) w := fun w a n c n' c' => Lib.run_eql_slice_nil w _ _ a n c n' c' accs_uty
 cases A with
 | none =>
  have h0 : n = 0 := by
   rcases Nat.eq_zero_or_pos n with h | h
   · exact h
   · obtain ⟨a, e, _⟩ := hr.2 h
     cases e
  subst h0
  have hx : xs = [] := List.eq_nil_of_length_eq_zero (by simpa using hr.1)
  subst hx
  clear hr h1 hn
  go_enter Tryz.func135, Tryz.ntmps135
  go_wp2_with fail
  go_ret
  exact ⟨_, rfl, World.ownsRow_nil _ _ _ _, Below.refl _ _⟩
 | some ad =>
  have HR := Lib.hid hr
  have H1 := Lib.hid h1
  clear hr h1
  go_enter Tryz.func135, Tryz.ntmps135
  go_upto_region 3 with fail
  go_wp2_with (at_builtin; go_loud (refine wpList_app _ rfl (.tmp 5) (.tmp 6) 24 rfl w.heap.size 87 ia _ 4 32 accs_uty hia hzia hsia hbia rfl (by decide) (.slice (some ⟨w.heap.size, 0, none⟩) 0 0) 0 [] rfl (own_empty (Nat.le_refl _) (heap_alloc_new _ _)) (· < w.heap.size) (some ad) n c xs rfl (HR.out.fr (Fr.ofBelow (below1 w _))) H1.out (by simp only [maxLen]; omega) (by omega) (by simp) ?_); intro v9 w9 hown9 hg9 hat9)
  go_ret
  exact ⟨_, rfl, by simpa using hown9, below_grown (below1 w _) hg9 (fun q hq => by simp [Value.ownBlock] at hq; omega) (Nat.le_refl _)⟩
set_option maxHeartbeats 1000000 in
theorem cloneK_c (A : Option Addr) (n c : Nat) (xs : List Value) (w : World) (hr : Rd w (· < w.heap.size) A n 3 xs) (h1 : ∀ u ∈ xs, u.oneCell' = true) (hn : n ≤ 100000) : Calls Tryz.prog 137 #[.slice A n c] w (ClonePost 135 3 n xs w) := by
 obtain ⟨ia, hia, hzia, hsia, hbia⟩ := info_parts info_linkA
 have heq : ∀ (w : World) (a : Option Addr) (n c n' c' : Nat), (binOp .eql 90 (.slice a n c) (.slice none n' c')).run Tryz.prog w = .ok (.bool a.isNone) w := fun w a n c n' c' => Lib.run_eql_slice_nil w _ _ a n c n' c' links_uty
 cases A with
 | none =>
  have h0 : n = 0 := by
   rcases Nat.eq_zero_or_pos n with h | h
   · exact h
   · obtain ⟨a, e, _⟩ := hr.2 h
     cases e
  subst h0
  have hx : xs = [] := List.eq_nil_of_length_eq_zero (by simpa using hr.1)
  subst hx
  clear hr h1 hn
  go_enter Tryz.func137, Tryz.ntmps137
  go_wp2_with fail
  go_ret
  exact ⟨_, rfl, World.ownsRow_nil _ _ _ _, Below.refl _ _⟩
 | some ad =>
  have HR := Lib.hid hr
  have H1 := Lib.hid h1
  clear hr h1
  go_enter Tryz.func137, Tryz.ntmps137
  go_upto_region 3 with fail
  go_wp2_with (at_builtin; go_loud (refine wpList_app _ rfl (.tmp 5) (.tmp 6) 90 rfl w.heap.size 135 ia _ 3 24 links_uty hia hzia hsia hbia rfl (by decide) (.slice (some ⟨w.heap.size, 0, none⟩) 0 0) 0 [] rfl (own_empty (Nat.le_refl _) (heap_alloc_new _ _)) (· < w.heap.size) (some ad) n c xs rfl (HR.out.fr (Fr.ofBelow (below1 w _))) H1.out (by simp only [maxLen]; omega) (by omega) (by simp) ?_); intro v9 w9 hown9 hg9 hat9)
  go_ret
  exact ⟨_, rfl, by simpa using hown9, below_grown (below1 w _) hg9 (fun q hq => by simp [Value.ownBlock] at hq; omega) (Nat.le_refl _)⟩
set_option maxHeartbeats 1000000 in
theorem cloneE_c (A : Option Addr) (n c : Nat) (xs : List Value) (w : World) (hr : Rd w (· < w.heap.size) A n 5 xs) (h1 : ∀ u ∈ xs, u.oneCell' = true) (hn : n ≤ 100000) : Calls Tryz.prog 136 #[.slice A n c] w (ClonePost 92 5 n xs w) := by
 obtain ⟨ia, hia, hzia, hsia, hbia⟩ := info_parts info_entA
 have heq : ∀ (w : World) (a : Option Addr) (n c n' c' : Nat), (binOp .eql 27 (.slice a n c) (.slice none n' c')).run Tryz.prog w = .ok (.bool a.isNone) w := fun w a n c n' c' => Lib.run_eql_slice_nil w _ _ a n c n' c' ents_uty
 cases A with
 | none =>
  have h0 : n = 0 := by
   rcases Nat.eq_zero_or_pos n with h | h
   · exact h
   · obtain ⟨a, e, _⟩ := hr.2 h
     cases e
  subst h0
  have hx : xs = [] := List.eq_nil_of_length_eq_zero (by simpa using hr.1)
  subst hx
  clear hr h1 hn
  go_enter Tryz.func136, Tryz.ntmps136
  go_wp2_with fail
  go_ret
  exact ⟨_, rfl, World.ownsRow_nil _ _ _ _, Below.refl _ _⟩
 | some ad =>
  have HR := Lib.hid hr
  have H1 := Lib.hid h1
  clear hr h1
  go_enter Tryz.func136, Tryz.ntmps136
  go_upto_region 3 with fail
  go_wp2_with (at_builtin; go_loud (refine wpList_app _ rfl (.tmp 5) (.tmp 6) 27 rfl w.heap.size 92 ia _ 5 88 ents_uty hia hzia hsia hbia rfl (by decide) (.slice (some ⟨w.heap.size, 0, none⟩) 0 0) 0 [] rfl (own_empty (Nat.le_refl _) (heap_alloc_new _ _)) (· < w.heap.size) (some ad) n c xs rfl (HR.out.fr (Fr.ofBelow (below1 w _))) H1.out (by simp only [maxLen]; omega) (by omega) (by simp) ?_); intro v9 w9 hown9 hg9 hat9)
  go_ret
  exact ⟨_, rfl, by simpa using hown9, below_grown (below1 w _) hg9 (fun q hq => by simp [Value.ownBlock] at hq; omega) (Nat.le_refl _)⟩
theorem flatten_get {size : Nat} (hs : 0 < size) : ∀ {css : List (List Value)} (h : ∀ cs ∈ css, cs.length = size) (j : Nat), j < css.length * size → ∃ cs, css[j / size]? = some cs ∧ css.flatten[j]? = cs[j % size]?
 | [], _, j, hj => by simp at hj
 | c :: css, h, j, hj => by
  have hc : c.length = size := h c (by simp)
  rcases Nat.lt_or_ge j size with h1 | h1
  · refine ⟨c, by rw [Nat.div_eq_of_lt h1]; rfl, ?_⟩
    rw [List.flatten_cons, List.getElem?_append_left (by omega), Nat.mod_eq_of_lt h1]
  · obtain ⟨q, rfl⟩ : ∃ q, j = q + size := ⟨j - size, by omega⟩
    have hq : q < css.length * size := by
     rw [List.length_cons, Nat.succ_mul] at hj
     omega
    obtain ⟨cs, h2, h3⟩ := flatten_get hs (fun x hx => h x (by simp [hx])) q hq
    refine ⟨cs, ?_, ?_⟩
    · rw [Nat.add_div_right _ hs, List.getElem?_cons_succ]; exact h2
    · rw [List.flatten_cons, List.getElem?_append_right (by omega), hc, Nat.add_sub_cancel, Nat.add_mod_right]; exact h3
theorem rd_css {α : Type} {El : World → (Nat → Prop) → List Value → α → Prop} {size : Nat} {w : World} {Q : Nat → Prop} {A : Option Addr} {n c : Nat} {l : List α} (hlen : ∀ cs x, El w Q cs x → cs.length = size) (hs : 0 < size) (h : ListC El size w Q [.slice A n c] l) :
 ∃ css : List (List Value), css.length = l.length ∧ (∀ cs ∈ css, cs.length = size) ∧ (∀ (i : Nat) x, l[i]? = some x → ∃ cs, css[i]? = some cs ∧ El w Q cs x) ∧ Rd w Q A n size css.flatten := by
 obtain ⟨rfl, _, _⟩ := h.cap
 rcases Nat.eq_zero_or_pos l.length with h0 | h0
 · have hl : l = [] := List.eq_nil_of_length_eq_zero h0
   subst hl
   exact ⟨[], rfl, by simp, by simp, by simp, fun hn => absurd hn (by simp)⟩
 obtain ⟨b, o, rfl, hb, hx⟩ := h.base h0
 have hch : ∀ i (hi : i < l.length), ∃ es, El w Q es l[i] ∧ At w Q ⟨b, o + i * size, none⟩ es := hx
 obtain ⟨f, hf⟩ : ∃ f : Nat → List Value, ∀ i (hi : i < l.length), El w Q (f i) l[i] ∧ At w Q ⟨b, o + i * size, none⟩ (f i) :=
  ⟨fun i => if hi : i < l.length then (hch i hi).choose else [], fun i hi => by simp only [dif_pos hi]; exact (hch i hi).choose_spec⟩
 have hcl : ((List.range l.length).map f).length = l.length := by simp
 have hall : ∀ cs ∈ (List.range l.length).map f, cs.length = size := fun cs hc => by
  obtain ⟨i, hi, rfl⟩ := List.mem_map.1 hc
  exact hlen _ _ (hf i (List.mem_range.1 hi)).1
 refine ⟨(List.range l.length).map f, hcl, hall, fun i x hi => ?_, ?_, fun _ => ⟨_, rfl, hb, fun j u hj => ?_⟩⟩
 · obtain ⟨h1, h2⟩ := List.getElem?_eq_some_iff.1 hi
   exact ⟨f i, by simp [h1], h2 ▸ (hf i h1).1⟩
 · rw [flat_len hall, hcl]
 · have hjl : j < ((List.range l.length).map f).length * size := by
    have := (List.getElem?_eq_some_iff.1 hj).1
    rwa [flat_len hall] at this
   obtain ⟨cs, h1, h2⟩ := flatten_get hs hall j hjl
   rw [h2] at hj
   have hi : j / size < l.length := by
    have := (List.getElem?_eq_some_iff.1 h1).1
    rwa [hcl] at this
   have hcs : cs = f (j / size) := by simpa [hi, eq_comm] using h1
   subst hcs
   have h3 := (hf _ hi).2.2 _ u hj
   rw [Addr.add_lit] at h3 ⊢
   have e3 : o + j / size * size + j % size = o + j := by rw [Nat.add_assoc, Nat.mul_comm, Nat.div_add_mod]
   rw [e3] at h3
   exact h3
theorem css_flat {α : Type} {El : World → (Nat → Prop) → List Value → α → Prop} {f : α → List Value} {w : World} {Q : Nat → Prop} (he : ∀ cs x, El w Q cs x → cs = f x) {css : List (List Value)} {l : List α} (hl : css.length = l.length) (h : ∀ (i : Nat) x, l[i]? = some x → ∃ cs, css[i]? = some cs ∧ El w Q cs x) : css.flatten = l.flatMap f := by
 have : css = l.map f := by
  refine List.ext_getElem? (fun i => ?_)
  rw [List.getElem?_map]
  cases hi : l[i]? with
  | none => simp at hi; simp [hl, hi]
  | some x =>
   obtain ⟨cs, h1, h2⟩ := h i x hi
   rw [h1, he cs x h2]; rfl
 rw [this, List.flatMap_def]
theorem rd_list {α : Type} {El : World → (Nat → Prop) → List Value → α → Prop} {f : α → List Value} {size : Nat} {w : World} {Q : Nat → Prop} {A : Option Addr} {n c : Nat} {l : List α} (he : ∀ cs x, El w Q cs x → cs = f x) (hf : ∀ x, (f x).length = size) (hs : 0 < size) (h : ListC El size w Q [.slice A n c] l) : Rd w Q A n size (l.flatMap f) := by
 obtain ⟨css, h1, _, h3, h4⟩ := rd_css (fun cs x hx => by rw [he cs x hx]; exact hf x) hs h
 rwa [css_flat he h1 h3] at h4
theorem ListC.elt {α : Type} {El : World → (Nat → Prop) → List Value → α → Prop} {size : Nat} {w : World} {Q : Nat → Prop} {A : Option Addr} {n c : Nat} {l : List α} (h : ListC El size w Q [.slice A n c] l) {x : α} (hx : x ∈ l) : ∃ cs, El w Q cs x := by
 obtain ⟨i, hi, rfl⟩ := List.getElem_of_mem hx
 obtain ⟨b, o, es, _, _, h1, _⟩ := ListC.get h i hi
 exact ⟨es, h1⟩
theorem acc_one (l : List XAccount) : ∀ u ∈ l.flatMap accL, u.oneCell' = true := fun u hu => by
 obtain ⟨x, _, hx⟩ := List.mem_flatMap.1 hu
 simp [accL] at hx
 rcases hx with rfl | rfl | rfl | rfl <;> rfl
theorem link_one (l : List XLink) : ∀ u ∈ l.flatMap linkL, u.oneCell' = true := fun u hu => by
 obtain ⟨x, _, hx⟩ := List.mem_flatMap.1 hu
 simp [linkL] at hx
 rcases hx with rfl | rfl | rfl <;> rfl
theorem css_one {α : Type} {El : World → (Nat → Prop) → List Value → α → Prop} {w : World} {Q : Nat → Prop} (he : ∀ cs x, El w Q cs x → ∀ u ∈ cs, u.oneCell' = true) {css : List (List Value)} {l : List α} (hl : css.length = l.length) (h : ∀ (i : Nat) x, l[i]? = some x → ∃ cs, css[i]? = some cs ∧ El w Q cs x) : ∀ u ∈ css.flatten, u.oneCell' = true := fun u hu => by
 obtain ⟨cs, hc, hu⟩ := List.mem_flatten.1 hu
 obtain ⟨i, hi, rfl⟩ := List.getElem_of_mem hc
 have hi2 : i < l.length := by omega
 obtain ⟨cs, h1, h2⟩ := h i _ (List.getElem?_eq_getElem hi2)
 rw [List.getElem?_eq_getElem hi] at h1
 obtain rfl := Option.some.inj h1
 exact he _ _ h2 u hu
theorem ent_one {w : World} {Q : Nat → Prop} {cs : List Value} {x : XEntity} (h : EntityC w Q cs x) : ∀ u ∈ cs, u.oneCell' = true := fun u hu => by
 obtain ⟨_, _, _, _, rfl, _⟩ := EntityC.lit h
 simp [entL] at hu
 rcases hu with rfl | rfl | rfl | rfl | rfl <;> rfl
theorem EntryC.mk {w : World} {Q : Nat → Prop} {x : XEntry} {A : Option Addr} {c : Nat} (hb : intBd x.id ∧ intBd x.entity ∧ intBd x.date ∧ intBd x.kind ∧ intBd x.of_) (hl : ListC LineC 3 w Q [.slice A x.lines.length c] x.lines) : EntryC w Q [.int .i64 x.id, .int .i64 x.entity, .int .i64 x.date, .int .i64 x.kind, .int .i64 x.of_, .string x.text, .slice A x.lines.length c] x :=
 ⟨[_], [_], [_], [_], [_], [_], [_], rfl, ⟨rfl, hb.1⟩, ⟨rfl, hb.2.1⟩, ⟨rfl, hb.2.2.1⟩, ⟨rfl, hb.2.2.2.1⟩, ⟨rfl, hb.2.2.2.2⟩, rfl, hl⟩
theorem EntityC.mk {w : World} {Q : Nat → Prop} {x : XEntity} {A B : Option Addr} {c d : Nat} (hc : ListC AccountC 4 w Q [.slice A x.chart.length c] x.chart) (hl : ListC LinkC 3 w Q [.slice B x.links.length d] x.links) : EntityC w Q (entL x.name x.currency A x.chart.length c B x.links.length d x.joint) x :=
 ⟨[_], [_], [_], [_], [_], rfl, rfl, rfl, hc, hl, rfl⟩
theorem GroupC.parts {w : World} {Q : Nat → Prop} {cs : List Value} {g : XGroup} (h : GroupC w Q cs g) : ∃ c0 c1 Ac cc c3 Ae ce, cs = c0 ++ c1 ++ [.slice Ac g.chart.length cc] ++ c3 ++ [.slice Ae g.entities.length ce] ∧ c0.length = 1 ∧ c1.length = 3 ∧ c3.length = 15 ∧
 ListC AccountC 4 w Q [.slice Ac g.chart.length cc] g.chart ∧ ListC EntityC 5 w Q [.slice Ae g.entities.length ce] g.entities ∧
 ∀ (w' : World) (Q' : Nat → Prop) A c B d, Below w.heap.size w w' → (∀ q, Q q → q < w.heap.size) → ListC AccountC 4 w' Q' [.slice A g.chart.length c] g.chart → ListC EntityC 5 w' Q' [.slice B g.entities.length d] g.entities → GroupC w' Q' (c0 ++ c1 ++ [.slice A g.chart.length c] ++ c3 ++ [.slice B g.entities.length d]) g := by
 obtain ⟨c0, c1, c2, c3, c4, rfl, h0, h1, h2, h3, h4⟩ := h
 have l0 := StrC.len h0
 have l1 := CalC.len h1
 have l3 := RolesC.len h3
 obtain ⟨Ac, cc, rfl, _⟩ := h2.form
 obtain ⟨Ae, ce, rfl, _⟩ := h4.form
 refine ⟨c0, c1, Ac, cc, c3, Ae, ce, rfl, l0, l1, l3, h2, h4, fun w' Q' A c B d hb hq k2 k4 => ⟨c0, c1, _, c3, _, rfl, h0, ?_, k2, ?_, k4⟩⟩
 · obtain ⟨a, b, c, e, k⟩ := h1
   exact ⟨a, b, c, e, k⟩
 · obtain ⟨d0, d1, d2, d3, d4, d5, d6, d7, d8, d9, d10, d11, d12, d13, d14, e, k⟩ := h3
   exact ⟨d0, d1, d2, d3, d4, d5, d6, d7, d8, d9, d10, d11, d12, d13, d14, e, k⟩
def CopyPost (x : XEntry) (w : World) (e : Ending) (w' : World) : Prop := ∃ A c, e = .returned (.agg #[.int .i64 x.id, .int .i64 x.entity, .int .i64 x.date, .int .i64 x.kind, .int .i64 x.of_, .string x.text, .slice A x.lines.length c]) ∧
 ListC LineC 3 w' (fun q => w.heap.size ≤ q ∧ q < w'.heap.size) [.slice A x.lines.length c] x.lines ∧ Below w.heap.size w w'
theorem own_listL {l : List XLine} {w : World} {Q : Nat → Prop} {base : Nat} {v : Value} (h : w.ownsRow base 76 3 v l.length (l.flatMap lineL)) (hb : ∀ x ∈ l, lineBd x) (hQ : ∀ g, v.ownBlock = some g → Q g) : ListC LineC 3 w Q [v] l :=
 own_list (css := l.map lineL) (fun cs hc => by obtain ⟨x, _, rfl⟩ := List.mem_map.1 hc; rfl) (by rw [← List.flatMap_def]; exact h)
  (fun i x hi => ⟨lineL x, by rw [List.getElem?_map, hi]; rfl, [_], [_], [_], rfl, ⟨rfl, (hb x (List.mem_of_getElem? hi)).1⟩, ⟨rfl, (hb x (List.mem_of_getElem? hi)).2.1⟩, ⟨rfl, (hb x (List.mem_of_getElem? hi)).2.2⟩⟩) hQ
theorem lines_bd {l : List XLine} {w : World} {Q : Nat → Prop} {A : Option Addr} {n c : Nat} (h : ListC LineC 3 w Q [.slice A n c] l) : ∀ x ∈ l, lineBd x := fun x hx => by
 obtain ⟨cs, h1⟩ := h.elt hx
 exact (LineC.lit h1).2
set_option maxHeartbeats 2000000 in
theorem copied_c (xi xe xd xk xo : Int) (xt : ByteArray) (ls : List XLine) (Al : Option Addr) (cl : Nat) (w : World) (hl : ListC LineC 3 w (· < w.heap.size) [.slice Al ls.length cl] ls) (hn : ls.length ≤ 100000) : Calls Tryz.prog 114 #[.agg #[.int .i64 xi, .int .i64 xe, .int .i64 xd, .int .i64 xk, .int .i64 xo, .string xt, .slice Al ls.length cl]] w (CopyPost ⟨xi, xe, xd, xk, xo, xt, ls⟩ w) := by
 have HL := Lib.hid hl
 obtain ⟨nl, hnl⟩ : ∃ n, ls.length = n := ⟨_, rfl⟩
 have HN := Lib.hid hnl
 rw [hnl] at hn ⊢
 have HRD := Lib.hid (show Rd w (· < w.heap.size) Al nl 3 (ls.flatMap lineL) by rw [← hnl]; exact rd_list (fun cs x h => (LineC.lit h).1) (fun _ => rfl) (by omega) hl)
 obtain ⟨fl, hfl⟩ : ∃ f, ls.flatMap lineL = f := ⟨_, rfl⟩
 have HFL := Lib.hid hfl
 rw [hfl] at HRD
 have HONE := Lib.hid (show ∀ u ∈ fl, u.oneCell' = true from hfl ▸ flat_one ls)
 clear hl hnl hfl
 go_enter Tryz.func114, Tryz.ntmps114
 go_upto_region 1 with fail
 have H := heap_alloc_new w (.cells #[.int .i64 xi, .int .i64 xe, .int .i64 xd, .int .i64 xk, .int .i64 xo, .string xt, .slice Al nl cl] 46)
 have HB := below1 w (.cells #[.int .i64 xi, .int .i64 xe, .int .i64 xd, .int .i64 xk, .int .i64 xo, .string xt, .slice Al nl cl] 46)
 have HS := blk_lt H
 generalize hW : w.alloc (Obj.cells #[.int .i64 xi, .int .i64 xe, .int .i64 xd, .int .i64 xk, .int .i64 xo, .string xt, .slice Al nl cl] 46) = W at *
 have H2 := heap_alloc_new W (.cells #[.int .i64 0, .int .i64 0, .int .i64 0, .int .i64 0, .int .i64 0, .string ⟨#[]⟩, .slice none 0 0] 46)
 have HB2 := below1 W (.cells #[.int .i64 0, .int .i64 0, .int .i64 0, .int .i64 0, .int .i64 0, .string ⟨#[]⟩, .slice none 0 0] 46)
 have HS2 := blk_lt H2
 replace H := alloc_keep H (Obj.cells #[.int .i64 0, .int .i64 0, .int .i64 0, .int .i64 0, .int .i64 0, .string ⟨#[]⟩, .slice none 0 0] 46)
 generalize hW2 : W.alloc (Obj.cells #[.int .i64 0, .int .i64 0, .int .i64 0, .int .i64 0, .int .i64 0, .string ⟨#[]⟩, .slice none 0 0] 46) = W2 at *
 clear hW2
 have eW : W.heap.size = w.heap.size + 1 := by rw [← hW]; simp
 rw [eW] at H2
 clear hW
 have hb2 := HB.trans (HB2.mono HB.size)
 have hs2 := HB2.size
 have LT1 := blk_lt H2
 have LT0 : w.heap.size < W2.heap.size := by omega
 have HH := Lib.hid H
 have HZ := Lib.hid H2
 have EW := Lib.hid eW
 clear H H2 eW
 have c6 := blk_cell HH.out 6
 go_wp2_with fail
 refine (cloneL_c Al nl cl fl W2 ((HRD.out.fr (Fr.ofBelow hb2)).mono (fun q (hq : q < w.heap.size) => Nat.lt_of_lt_of_le hq hb2.size)) HONE.out hn).mono ?_
 rintro e w3 ⟨v, rfl, hown, hb3⟩
 have hb02 := hb2
 have LT02 := LT0
 have LT12 := LT1
 have HH2 := HH
 have HZ2 := HZ
 have hb03 := hb02.trans (hb3.mono hb02.size)
 have hs3 := hb3.size
 have LT03 := Nat.lt_of_lt_of_le LT02 hs3
 have LT13 := Nat.lt_of_lt_of_le LT12 hs3
 have HH3 := Lib.hid ((hb3.block _ LT02).trans HH2.out)
 have HZ3 := Lib.hid ((hb3.block _ LT12).trans HZ2.out)
 obtain ⟨A9, n9, c9, rfl⟩ := own_shape hown
 have HOWN := Lib.hid hown
 have s6 := blk_cell HH3.out 6
 have s7 := blk_frozen HH3.out 6
 clear hown c6
 go_upto_region 2 with fail
 have H4 := heap_setCell_same HH3.out 6 (.slice A9 n9 c9)
 have HB4 := (Below.refl W2.heap.size w3)
 have hb4 : Below w.heap.size w (w3.setCell ⟨w.heap.size, 6, none⟩ (.slice A9 n9 c9)) := hb03.setCell (p := ⟨w.heap.size, 6, none⟩) (Nat.le_refl _) _
 have HZ4 := (Below.heap_setCell w3 ⟨w.heap.size, 6, none⟩ (.slice A9 n9 c9) (w.heap.size + 1) (by show w.heap.size + 1 ≠ w.heap.size; omega)).trans HZ3.out
 have HO4 := own_same (w' := w3.setCell ⟨w.heap.size, 6, none⟩ (.slice A9 n9 c9)) HOWN.out (fun g hg => Below.heap_setCell w3 ⟨w.heap.size, 6, none⟩ _ g (by show g ≠ w.heap.size; have := (HOWN.out.lt _ hg).1; omega))
 generalize w3.setCell ⟨w.heap.size, 6, none⟩ (.slice A9 n9 c9) = W4 at *
 have HK4 := Lib.hid (show W4.heap[w.heap.size]? = some (.cells #[.int .i64 xi, .int .i64 xe, .int .i64 xd, .int .i64 xk, .int .i64 xo, .string xt, .slice A9 n9 c9] 46 (0, 0)) from H4)
 have HZR := Lib.hid HZ4
 have HOW4 := Lib.hid HO4
 have HBW := Lib.hid hb4
 clear H4 HZ4 HO4 hb4 s6 s7 HB4
 go_wp2_with (first | (show wpList _ _ _ (Oper.mk (some 7) _ _ _ _ _ :: _) _ _; refine wpList_load_row_g rfl 46 (.tmp 1) rfl w.heap.size rfl _ _ _ _ HK4.out Tryz.underlying46 rfl info_entry ?_) | (show wpList _ _ _ (Oper.mk none (Op.store _ (Operand.tmp 2) _) _ _ _ _ :: _) _ _; refine wpList_store_row rfl 46 (.tmp 2) (.tmp 7) rfl (w.heap.size + 1) #[.int .i64 xi, .int .i64 xe, .int .i64 xd, .int .i64 xk, .int .i64 xo, .string xt, .slice A9 n9 c9] rfl rfl 46 #[.int .i64 0, .int .i64 0, .int .i64 0, .int .i64 0, .int .i64 0, .string ⟨#[]⟩, .slice none 0 0] HZR.out (by rw [info_entry]; rfl) rfl (by simp [Value.oneCell']) ?_))
 refine bodyPost_ret (v := _) (results_cell rfl _ _ (w.heap.size + 1) 46 _ (0, 0) _ rfl (heap_setRow HZR.out _) Tryz.underlying46 rfl info_entry) rfl ?_
 have hfr2 := fr_setRow W4 (w.heap.size + 1) #[.int .i64 xi, .int .i64 xe, .int .i64 xd, .int .i64 xk, .int .i64 xo, .string xt, .slice A9 n9 c9]
 have hss : (W4.setRow (w.heap.size + 1) #[.int .i64 xi, .int .i64 xe, .int .i64 xd, .int .i64 xk, .int .i64 xo, .string xt, .slice A9 n9 c9]).heap.size = W4.heap.size := by simp
 have hk3 := own_same (w' := W4.setRow (w.heap.size + 1) #[.int .i64 xi, .int .i64 xe, .int .i64 xd, .int .i64 xk, .int .i64 xo, .string xt, .slice A9 n9 c9]) HOW4.out (fun g hg => hfr2.block g (by show g ≠ w.heap.size + 1; have := (HOWN.out.lt _ hg).1; omega))
 rw [← HFL.out, ← HN.out] at hk3
 have hL := own_listL (Q := fun q => w.heap.size ≤ q ∧ q < (W4.setRow (w.heap.size + 1) #[.int .i64 xi, .int .i64 xe, .int .i64 xd, .int .i64 xk, .int .i64 xo, .string xt, .slice A9 n9 c9]).heap.size) hk3 (lines_bd HL.out) (fun g hg => ⟨by have := (HOWN.out.lt _ hg).1; omega, (hk3.lt _ hg).2⟩)
 obtain rfl : n9 = ls.length := by
  obtain ⟨_, _, e, _⟩ := hL
  simp only [List.cons.injEq, and_true, Value.slice.injEq] at e
  exact e.2.1
 exact ⟨A9, c9, rfl, hL, below_setRow HBW.out (by omega) _⟩
def GCopyPost (g : XGroup) (w : World) (e : Ending) (w' : World) : Prop := ∃ gl : List Value, e = .returned (.agg gl.toArray) ∧ GroupC w' (fun q => w.heap.size ≤ q ∧ q < w'.heap.size) gl g ∧ Below w.heap.size w w'
def IsRow (W : World) (T : TypeId) (size n : Nat) (xs : List Value) (v : Value) (w : World) : Prop := w.ownsRow W.heap.size T size v n xs
theorem IsRow.keep (W : World) (T : TypeId) (size n : Nat) (xs : List Value) : ∀ v w w', Below w.heap.size w w' → IsRow W T size n xs v w → IsRow W T size n xs v w' := fun v w w' hb h => own_below h hb
def QE (B gE n i k q : Nat) : Prop := (i < k ∧ gE < q ∧ q < n) ∨ (¬ i < k ∧ q < B)
def EntsAt (es : List XEntity) (B gE k : Nat) (w : World) : Prop := ∀ i (h : i < es.length), ∃ cs, EntityC w (QE B gE w.heap.size i k) cs es[i] ∧ At w (fun q => q = gE) ⟨gE, i * 5, none⟩ cs
theorem EntsAt.fr {es : List XEntity} {B gE k : Nat} {w w' : World} (h : EntsAt es B gE k w) (hg : B ≤ gE) (hgw : gE < w.heap.size) (hb : Below w.heap.size w w') : EntsAt es B gE k w' := fun i hi => by
 obtain ⟨cs, h1, h2⟩ := h i hi
 refine ⟨cs, ?_, h2.fr ((Fr.ofBelow hb).mono (fun q hq => by subst hq; exact hgw))⟩
 have hsz := hb.size
 exact EntityC.mono (EntityC.fr h1 ((Fr.ofBelow hb).mono (fun q hq => by unfold QE at hq; omega))) (fun q hq => by unfold QE at hq ⊢; omega)
theorem set_other (w : World) (b p o : Nat) (u : Value) (h : p ≠ o) : (w.setCell ⟨b, p, none⟩ u).cell? ⟨b, o, none⟩ = w.cell? ⟨b, o, none⟩ := World.cell?_setCell_other _ _ _ _ (fun e => h (by injection e))
theorem set_same {w : World} {b o : Nat} {u v : Value} (h : w.cell? ⟨b, o, none⟩ = some v) : (w.setCell ⟨b, o, none⟩ u).cell? ⟨b, o, none⟩ = some u := World.cell?_setCell_same _ _ _ h
theorem at_set {w : World} {b o p : Nat} {cs : List Value} {u : Value} (h : At w (fun q => q = b) ⟨b, o, none⟩ cs) (hp : p < o ∨ o + cs.length ≤ p) : At (w.setCell ⟨b, p, none⟩ u) (fun q => q = b) ⟨b, o, none⟩ cs :=
 ⟨rfl, fun j x hj => by
  have hl := (List.getElem?_eq_some_iff.1 hj).1
  obtain ⟨h1, h2⟩ := h.2 j x hj
  rw [Addr.add_lit] at h1 h2 ⊢
  refine ⟨?_, ?_⟩
  · rw [← h1]; exact World.cell?_setCell_other _ _ _ _ (fun e => by injection e; omega)
  · rw [← h2]; exact World.frozen?_setCell _ _ _ _⟩
theorem own_listF {α : Type} {El : World → (Nat → Prop) → List Value → α → Prop} {f : α → List Value} {size : Nat} {l : List α} {w : World} {Q : Nat → Prop} {base : Nat} {T : TypeId} {v : Value} (hf : ∀ x, (f x).length = size) (h : w.ownsRow base T size v l.length (l.flatMap f)) (hE : ∀ x ∈ l, El w Q (f x) x) (hQ : ∀ g, v.ownBlock = some g → Q g) : ListC El size w Q [v] l :=
 own_list (css := l.map f) (fun cs hc => by obtain ⟨x, _, rfl⟩ := List.mem_map.1 hc; exact hf x) (by rw [← List.flatMap_def]; exact h)
  (fun i x hi => ⟨f x, by rw [List.getElem?_map, hi]; rfl, hE x (List.mem_of_getElem? hi)⟩) hQ
theorem accs_bd {l : List XAccount} {w : World} {Q : Nat → Prop} {A : Option Addr} {n c : Nat} (h : ListC AccountC 4 w Q [.slice A n c] l) : ∀ x ∈ l, accB x := fun x hx => by
 obtain ⟨cs, h1⟩ := h.elt hx
 exact (AccountC.lit h1).2
theorem links_bd {l : List XLink} {w : World} {Q : Nat → Prop} {A : Option Addr} {n c : Nat} (h : ListC LinkC 3 w Q [.slice A n c] l) : ∀ x ∈ l, linkBd x := fun x hx => by
 obtain ⟨cs, h1⟩ := h.elt hx
 exact (LinkC.lit h1).2
theorem own_val {w : World} {base : Nat} {T : TypeId} {size n m c : Nat} {A : Option Addr} {xs : List Value} (h : w.ownsRow base T size (.slice A m c) n xs) : m = n := by
 rcases h.2 with ⟨e, h0⟩ | ⟨g, cap, cur, e, _⟩
 · injection e with _ e2 _; omega
 · injection e with _ e2 _
theorem EntsAt.step {es : List XEntity} {B gE k : Nat} {w : World} (h : EntsAt es B gE k w) (hg : B ≤ gE) (hgw : gE < w.heap.size) (hk : k < es.length) {A1 A2 : Option Addr} {c1 c2 : Nat}
 (h1 : w.ownsRow (gE + 1) 87 4 (.slice A1 es[k].chart.length c1) es[k].chart.length (es[k].chart.flatMap accL)) (b1 : ∀ x ∈ es[k].chart, accB x)
 (h2 : w.ownsRow (gE + 1) 135 3 (.slice A2 es[k].links.length c2) es[k].links.length (es[k].links.flatMap linkL)) (b2 : ∀ x ∈ es[k].links, linkBd x) :
 EntsAt es B gE (k + 1) ((w.setCell ⟨gE, k * 5 + 2, none⟩ (.slice A1 es[k].chart.length c1)).setCell ⟨gE, k * 5 + 3, none⟩ (.slice A2 es[k].links.length c2)) := by
 have hf : Fr (fun q => q ≠ gE) w ((w.setCell ⟨gE, k * 5 + 2, none⟩ (.slice A1 es[k].chart.length c1)).setCell ⟨gE, k * 5 + 3, none⟩ (.slice A2 es[k].links.length c2)) :=
  ((Fr.refl _ _).setCell (p := ⟨gE, k * 5 + 2, none⟩) (by simp) _).setCell (p := ⟨gE, k * 5 + 3, none⟩) (by simp) _
 intro i hi
 obtain ⟨cs, k1, k2⟩ := h i hi
 have hl := k1.len
 rcases Nat.lt_trichotomy i k with hik | rfl | hik
 · refine ⟨cs, ?_, at_set (at_set k2 (.inr (by rw [hl]; omega))) (.inr (by rw [hl]; omega))⟩
   have hsz := hf.size
   exact EntityC.mono (EntityC.fr k1 (hf.mono fun q hq => by unfold QE at hq; omega)) (fun q hq => by unfold QE at hq ⊢; omega)
 · obtain ⟨Ec, c3, Al, cl, rfl, _, _⟩ := EntityC.lit k1
   have hsz := hf.size
   have q1 : ∀ g, Value.ownBlock (.slice A1 es[i].chart.length c1) = some g → g ≠ gE ∧ g < w.heap.size ∧ gE < g := fun g hg' => by have := h1.lt _ hg'; omega
   have q2 : ∀ g, Value.ownBlock (.slice A2 es[i].links.length c2) = some g → g ≠ gE ∧ g < w.heap.size ∧ gE < g := fun g hg' => by have := h2.lt _ hg'; omega
   refine ⟨entL es[i].name es[i].currency A1 es[i].chart.length c1 A2 es[i].links.length c2 es[i].joint, ?_, rfl, fun j u hj => ?_⟩
   · refine EntityC.mk ?_ ?_
     · exact own_listF (fun _ => rfl) (own_same h1 (fun g hg' => hf.block g (q1 g hg').1)) (fun x hx => accC_of (b1 x hx)) (fun g hg' => by have := q1 g hg'; unfold QE; omega)
     · exact own_listF (fun _ => rfl) (own_same h2 (fun g hg' => hf.block g (q2 g hg').1)) (fun x hx => linkC_of (b2 x hx)) (fun g hg' => by have := q2 g hg'; unfold QE; omega)
   · rw [Addr.add_lit]
     have hj5 : j < 5 := (List.getElem?_eq_some_iff.1 hj).1
     have hold := fun (j : Nat) (u : Value) (hj : (entL es[i].name es[i].currency Ec es[i].chart.length c3 Al es[i].links.length cl es[i].joint)[j]? = some u) => k2.2 j u hj
     simp only [Addr.add_lit] at hold
     have hfz : ∀ p : Addr, ((w.setCell ⟨gE, i * 5 + 2, none⟩ (.slice A1 es[i].chart.length c1)).setCell ⟨gE, i * 5 + 3, none⟩ (.slice A2 es[i].links.length c2)).frozen? p = w.frozen? p := fun p => by simp
     have hj' : j = 0 ∨ j = 1 ∨ j = 2 ∨ j = 3 ∨ j = 4 := by omega
     rcases hj' with rfl | rfl | rfl | rfl | rfl
     · obtain rfl := Option.some.inj hj
       obtain ⟨h3, h4⟩ := hold 0 _ rfl
       exact ⟨(set_other _ _ _ _ _ (by omega)).trans ((set_other _ _ _ _ _ (by omega)).trans h3), by rw [hfz]; exact h4⟩
     · obtain rfl := Option.some.inj hj
       obtain ⟨h3, h4⟩ := hold 1 _ rfl
       exact ⟨(set_other _ _ _ _ _ (by omega)).trans ((set_other _ _ _ _ _ (by omega)).trans h3), by rw [hfz]; exact h4⟩
     · obtain rfl := Option.some.inj hj
       obtain ⟨h3, h4⟩ := hold 2 _ rfl
       exact ⟨(set_other _ _ _ _ _ (by omega)).trans (set_same h3), by rw [hfz]; exact h4⟩
     · obtain rfl := Option.some.inj hj
       obtain ⟨h3, h4⟩ := hold 3 _ rfl
       exact ⟨set_same ((set_other _ _ _ _ _ (by omega)).trans h3), by rw [hfz]; exact h4⟩
     · obtain rfl := Option.some.inj hj
       obtain ⟨h3, h4⟩ := hold 4 _ rfl
       exact ⟨(set_other _ _ _ _ _ (by omega)).trans ((set_other _ _ _ _ _ (by omega)).trans h3), by rw [hfz]; exact h4⟩
 · refine ⟨cs, ?_, at_set (at_set k2 (.inl (by omega))) (.inl (by omega))⟩
   exact EntityC.mono (EntityC.fr k1 (hf.mono fun q hq => by unfold QE at hq; omega)) (fun q hq => by unfold QE at hq ⊢; omega)
end Go.Proofs.YtekelchdbkjjjaaGreat
