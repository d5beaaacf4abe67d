/- Locks as keys of a map; the set of locks. -/
import Derived.Test.YtekelchdbkjjjaaGreatG17xB0B2
import Derived.Test.YtekelchdbkjjjaaGreatG17xB3B8
import Derived.Test.YtekelchdbkjjjaaGreatG17xB9B13
import Derived.Test.YtekelchdbkjjjaaGreatG17xB14
import Derived.Test.YtekelchdbkjjjaaGreatG17xB16
import Derived.Test.YtekelchdbkjjjaaGreatG17xB17B24
import Derived.Test.YtekelchdbkjjjaaGreatG17xB25B28
import Derived.Test.YtekelchdbkjjjaaGreatG17xB29B32
import Derived.Test.YtekelchdbkjjjaaGreatG17xB33S2
import Derived.Test.YtekelchdbkjjjaaGreatG17xC4E3
import Derived.Test.YtekelchdbkjjjaaGreatG17xE6F1
import Derived.Test.YtekelchdbkjjjaaGreatG17xF2I7
import Derived.Test.YtekelchdbkjjjaaGreatG17xI8I11
import Derived.Test.YtekelchdbkjjjaaGreatG17xI12
import Derived.Test.YtekelchdbkjjjaaGreatG17xI13I15
import Derived.Test.YtekelchdbkjjjaaGreatG17xI16
import Derived.Test.YtekelchdbkjjjaaGreatG17xI19Q2
import Derived.Test.YtekelchdbkjjjaaGreatProg
import Derived.Maps.RangeWalk
import Derived.Shelf.SlSortCmp.WholeK
import Derived.Shelf.SlSortCmp.NoneTotal
import Derived.Shelf.SlIter.Collect
import Derived.Maps.OwnSet
import Derived.RangeFuncNested
import Derived.RangeFuncBound
import Derived.RangeFuncCalls
import Derived.RangeFuncLeaves
import Derived.Shelf.Abstract
import Derived.Shelf.RegionOpen
import Derived.WalkKit
import Derived.OwnWalkIn
import Derived.TacticsInMore
import Derived.LoopNIn
import Derived.LoopIn
set_option linter.unusedVariables false
set_option linter.unusedSimpArgs false
set_option maxRecDepth 4000
attribute [local go_sem ↓] Go.wp_at_zero Go.wp_at_succ
namespace Go.Proofs.YtekelchdbkjjjaaGreat
open Go Go.RowKit Go.ChangeMaps
open Go.Maps (Keyed)
open Go.WideMaps (KeyLaw)
theorem lock_row : (100 : TypeId) < Tryz.prog.types.size := of_decide_eq_true (by kernel_rfl)
theorem lock_wide : (match Tryz.prog.underlying 100 with | some (.array _ _) | some (.struct _) => true | _ => false) = true := by kernel_rfl
theorem lock_law : KeyLaw Tryz.prog 100 := deep_law_laid try_laidOut (m := 2) (by omega) lock_row (by kernel_rfl) lock_wide
theorem lock_keyed : Keyed Tryz.prog 100 := Keyed.of_law lock_law
theorem lock_cells : Tryz.prog.cellsOf 100 = 2 := by kernel_rfl
theorem lock_keyLits {d : Nat} {a z : Int} (ha : intBd a) (hz : intBd z) : Tryz.prog.keyLits (d + 2) 100 [.int .i64 a, .int .i64 z] = some [.int .i64 a, .int .i64 z] := by
 unfold Program.keyLits
 rw [Tryz.underlying100]
 have h1 := keyLits_int (d := d) ha
 have h2 := keyLits_int (d := d) hz
 simp [lock_cells, int_cells, h1, h2]
theorem lock_keyType : Tryz.prog.keyType 100 = true := by kernel_rfl
theorem lock_isStruct : ∃ fs, Tryz.prog.underlying 100 = some (.struct fs) := ⟨_, Tryz.underlying100⟩
theorem lock_formed {a b : Value} : (Value.agg #[a, b]).formed Tryz.prog 100 = true := by
 obtain ⟨fs, hu⟩ := lock_isStruct
 simp [Value.formed, hu, lock_cells]
abbrev KK := {p : Int × Int // intBd p.1 ∧ intBd p.2}
def kKey (c : KK) : Lit := .string (keyBytes [.int .i64 c.1.1, .int .i64 c.1.2])
def kVal (c : KK) : Value := .agg #[.int .i64 c.1.1, .int .i64 c.1.2]
theorem kKey_of (c : KK) : keyOf Tryz.prog 100 (kVal c) = some (kKey c) := by
 obtain ⟨fs, hu⟩ := lock_isStruct
 obtain ⟨d, hd⟩ := types_size
 unfold keyOf kVal
 rw [hu]
 simp only [lock_keyType, lock_formed, Bool.and_self, if_true, hd, Value.cells]
 rw [lock_keyLits c.2.1 c.2.2]; rfl
theorem kKey_inj (x y : KK) (h : kKey x = kKey y) : x = y := by
 have h1 := kKey_of x
 have h2 := kKey_of y
 rw [← h] at h2
 have h3 := lock_keyed.inj h1 h2
 have h4 := congrArg Array.toList (Value.agg.inj h3)
 simp only [List.cons.injEq, Value.int.injEq, true_and, and_true] at h4
 exact Subtype.ext (Prod.ext h4.1 h4.2)
theorem kKey_lit (x : KK) : WideAt.IsKeyLit (kKey x) := trivial
theorem kmap_uty : Tryz.prog.underlying 94 = some (.map 100 4) := by kernel_rfl
def MapL (w : World) (b n : Nat) (f : KK → Bool) : Prop :=
 ∃ D : UD, w.ownsMap Tryz.prog 100 (plainElem Tryz.prog 4) b n D ∧ ∀ c : KK, Maps.has D (kKey c) = f c ∧ D.atKey (kKey c) (.lit (.bool false)) = .lit (.bool (f c))
section
variable {w w' : World} {b n : Nat} {f : KK → Bool}
theorem MapL.made (w : World) : MapL (w.alloc (.map #[] 0)) w.heap.size 0 (fun _ => false) := ⟨_, World.ownsMap_made w Tryz.prog 100 _, fun _ => ⟨rfl, rfl⟩⟩
theorem MapL.lt (h : MapL w b n f) : b < w.heap.size := by
 obtain ⟨D, h1, h2⟩ := h
 exact h1.lt
theorem MapL.same (h : MapL w b n f) (hb : w'.heap[b]? = w.heap[b]?) : MapL w' b n f := by
 obtain ⟨D, ⟨es, clock, h1, h3, h4, h5⟩, h2⟩ := h
 exact ⟨D, ⟨es, clock, hb.trans h1, h3, h4, h5⟩, h2⟩
theorem MapL.fr {Q : Nat → Prop} (h : MapL w b n f) (hf : Fr Q w w') (hb : Q b) : MapL w' b n f := h.same (hf.block b hb)
theorem MapL.below (h : MapL w b n f) (hb : Below w.heap.size w w') : MapL w' b n f := h.fr (Fr.ofBelow hb) h.lt
theorem MapL.mono (h : MapL w b n f) {n' : Nat} (hn : n ≤ n') : MapL w b n' f := by
 obtain ⟨D, h1, h2⟩ := h
 exact ⟨D, h1.mono hn, h2⟩
theorem MapL.eqv {g : KK → Bool} (h : MapL w b n f) (hg : ∀ c, f c = g c) : MapL w b n g := by
 obtain ⟨D, h1, h2⟩ := h
 exact ⟨D, h1, fun c => by rw [← hg c]; exact h2 c⟩
theorem MapL.look (h : MapL w b n f) (c : KK) : (Instr.lookup 94 (.map (some b)) (kVal c) false).run Tryz.prog w = .ok (.bool (f c)) w := by
 obtain ⟨D, h1, h2⟩ := h
 obtain ⟨v, ps, hrun, hv⟩ := h1.lookup lock_keyed kmap_uty (bool_zero w) (plainElem_bool bool_uty false) (kKey_of c)
 obtain ⟨a, rfl, ha⟩ := plainElem_bool_inv bool_uty hv
 rw [(h2 c).2] at ha
 simp only [Prod.mk.injEq, DataW.lit.injEq, Lit.bool.injEq] at ha
 rw [hrun, ha.1]
theorem fr_turned {w w' : World} {b : Nat} (h : w.mapTurned w' b) : Fr (fun q => q ≠ b) w w' ∧ w'.heap.size = w.heap.size := by
 obtain ⟨es, clock, es', clock', hb, rfl⟩ := h
 exact ⟨⟨rfl, rfl, rfl, by simp [setBlock], fun i hi => heap_setBlock_other hb _ hi⟩, by simp [setBlock]⟩
theorem MapL.store (h : MapL w b n f) (hn : n < maxLen) (c : KK) :
 ∃ w', (Instr.mapUpdate 94 (.map (some b)) (kVal c) (.bool true)).run Tryz.prog w = .ok () w' ∧ MapL w' b (n + 1) (fun d => if d = c then true else f d) ∧ Fr (fun q => q ≠ b) w w' ∧ w'.heap.size = w.heap.size := by
 obtain ⟨D, h1, h2⟩ := h
 obtain ⟨w2, hrun, h3, h4⟩ := h1.store lock_keyed kmap_uty hn (kKey_of c) (plainElem_bool bool_uty true)
 have hm : Maps.IsMap D := h1.isMap
 refine ⟨w2, hrun, ⟨_, h3, fun d => ?_⟩, fr_turned h4⟩
 by_cases hd : d = c
 · subst hd
   rw [Maps.atKey_put_same hm (kKey_lit d), Maps.has_put_same hm (kKey_lit d)]; simp
 · have hne : kKey d ≠ kKey c := fun e => hd (kKey_inj _ _ e)
   rw [Maps.atKey_put_other hne, Maps.has_put_other hne]; simp only [if_neg hd]; exact h2 d
theorem MapL.drop (h : MapL w b n f) (c : KK) (ty : TypeId) :
 ∃ w', (Builtin.delete_ #[94, 100] ty #[.map (some b), kVal c]).run Tryz.prog w = .ok (.tuple #[]) w' ∧ MapL w' b n (fun d => if d = c then false else f d) ∧ Fr (fun q => q ≠ b) w w' ∧ w'.heap.size = w.heap.size := by
 obtain ⟨D, h1, h2⟩ := h
 obtain ⟨w2, hrun, h3, h4⟩ := h1.drop lock_keyed kmap_uty (kKey_of c) ty
 refine ⟨w2, hrun, ⟨_, h3, fun d => ?_⟩, fr_turned h4⟩
 by_cases hd : d = c
 · subst hd
   rw [Maps.atKey_del_same, Maps.has_del_same]; simp
 · have hne : kKey d ≠ kKey c := fun e => hd (kKey_inj _ _ e)
   rw [Maps.atKey_del_other hne, Maps.has_del_other hne]; simp only [if_neg hd]; exact h2 d
end
end Go.Proofs.YtekelchdbkjjjaaGreat
namespace Go.Proofs.YtekelchdbkjjjaaGreat
open Go Go.RowKit
def LkC (w : World) (L b : Nat) (y m p ne : Int) (n : Nat) (f : KK → Bool) : Prop :=
 w.heap[L]? = some (.cells #[.int .i64 y, .int .i64 m, .int .i64 p, .int .i64 ne, .map (some b)] 96 (0, 0)) ∧ MapL w b n f ∧ L ≠ b
theorem LkC.fr {w w' : World} {Q : Nat → Prop} {L b : Nat} {y m p ne : Int} {n : Nat} {f : KK → Bool} (h : LkC w L b y m p ne n f) (hf : Fr Q w w') (hL : Q L) (hb : Q b) : LkC w' L b y m p ne n f := ⟨(hf.block L hL).trans h.1, h.2.1.fr hf hb, h.2.2⟩
theorem LkC.below {w w' : World} {L b : Nat} {y m p ne : Int} {n : Nat} {f : KK → Bool} (h : LkC w L b y m p ne n f) (hb : Below w.heap.size w w') : LkC w' L b y m p ne n f := h.fr (Fr.ofBelow hb) (blk_lt h.1) h.2.1.lt
end Go.Proofs.YtekelchdbkjjjaaGreat
namespace Go.Proofs.YtekelchdbkjjjaaGreat
open Go Go.RowKit Go.ChangeMaps
open Go.Maps (Keyed)
theorem kKey_same {a c : KK} : (kKey a).sameKey (kKey c) = true ↔ a = c :=
 ⟨fun h => kKey_inj _ _ (WideAt.sameKey_eq h), fun h => by rw [h]; exact WideAt.sameKey_self (kKey_lit c)⟩
def MostP (f : KK → Bool) (e last : Int) : Prop := (∀ c : KK, f c = true → c.1.1 = e → c.1.2 ≤ last) ∧ (last = -1 ∨ ∃ c : KK, f c = true ∧ c.1.1 = e ∧ c.1.2 = last)
theorem MostP.uniq {f : KK → Bool} {e a b : Int} (hp : ∀ c, f c = true → 0 ≤ c.1.2) (ha : MostP f e a) (hb : MostP f e b) : a = b := by
 rcases ha.2 with h1 | ⟨c, h1, h2, h3⟩ <;> rcases hb.2 with k1 | ⟨d, k1, k2, k3⟩
 · omega
 · have := ha.1 d k1 k2; have := hp d k1; omega
 · have := hb.1 c h1 h2; have := hp c h1; omega
 · have := ha.1 d k1 k2; have := hb.1 c h1 h2; omega
def KInv (f : KK → Bool) (e : Int) (left : Lit → Bool) (last : Int) : Prop := (∀ c : KK, left (kKey c) = true → f c = true) ∧ (∀ c : KK, f c = true → c.1.1 = e → left (kKey c) = false → c.1.2 ≤ last) ∧ (last = -1 ∨ ∃ c : KK, f c = true ∧ c.1.1 = e ∧ c.1.2 = last) ∧ -1 ≤ last ∧ last ≤ 1000
theorem KInv.skip {f : KK → Bool} {e last : Int} {left : Lit → Bool} (h : KInv f e left last) {c : KK} (hc : c.1.1 ≠ e) : KInv f e (fun z => left z && !z.sameKey (kKey c)) last := by
 obtain ⟨h1, h2, h3⟩ := h
 refine ⟨fun d hd => h1 d (by simp at hd; exact hd.1), fun d hf hd hl => ?_, h3⟩
 refine h2 d hf hd ?_
 simp only [Bool.and_eq_false_iff, Bool.not_eq_false'] at hl
 rcases hl with hl | hl
 · exact hl
 · exact absurd (kKey_same.1 hl ▸ hd) hc
theorem KInv.step {f : KK → Bool} {e last : Int} {left : Lit → Bool} (h : KInv f e left last) {c : KK} (hl : left (kKey c) = true) (hc : c.1.1 = e) (hb : 0 ≤ c.1.2 ∧ c.1.2 ≤ 1000) {l2 : Int} (hm : (c.1.2 ≤ last ∧ l2 = last) ∨ (last < c.1.2 ∧ l2 = c.1.2)) : KInv f e (fun z => left z && !z.sameKey (kKey c)) l2 := by
 obtain ⟨h1, h2, h3, h4, h5⟩ := h
 have hf := h1 c hl
 refine ⟨fun d hd => h1 d (by simp at hd; exact hd.1), fun d hf hd hl => ?_, ?_, by omega, by omega⟩
 · simp only [Bool.and_eq_false_iff, Bool.not_eq_false'] at hl
   rcases hl with hl | hl
   · have := h2 d hf hd hl; omega
   · rw [kKey_same.1 hl]; omega
 · rcases hm with ⟨hm, rfl⟩ | ⟨hm, rfl⟩
   · exact h3
   · exact Or.inr ⟨c, hf, hc, rfl⟩
theorem KInv.done {f : KK → Bool} {e last : Int} {left : Lit → Bool} (h : KInv f e left last) (hl : ∀ kl, left kl = false) : MostP f e last := ⟨fun c hf hc => h.2.1 c hf hc (hl _), h.2.2.1⟩
def untD (y m p last : Int) : Int := if last < 0 then 0 else (calLast y m p last).1
end Go.Proofs.YtekelchdbkjjjaaGreat
namespace Go.Proofs.YtekelchdbkjjjaaGreat
open Go Go.RowKit
def chkL (y m p ne e d last : Int) : Int := if e < 0 ∨ ne ≤ e then 1 else if 0 ≤ last ∧ d ≤ untD y m p last then 12 else 0
theorem LkC.more {w : World} {L b : Nat} {y m p ne : Int} {n : Nat} {f : KK → Bool} (h : LkC w L b y m p ne n f) : LkC w L b y m p ne (n + 1) f := ⟨h.1, h.2.1.mono (Nat.le_succ n), h.2.2⟩
def bdS (x : XStep) : Prop := intBd x.entity ∧ intBd x.period
instance (x : XStep) : Decidable (bdS x) := by unfold bdS intBd; infer_instance
theorem kk0 : intBd ((0 : Int), (0 : Int)).1 ∧ intBd ((0 : Int), (0 : Int)).2 := by unfold intBd; omega
theorem MostP.same {f g : KK → Bool} {e a : Int} (h : ∀ c : KK, c.1.1 = e → f c = g c) (ha : MostP f e a) : MostP g e a :=
 ⟨fun c hc he => ha.1 c ((h c he).trans hc) he, ha.2.imp id (fun ⟨c, h1, h2, h3⟩ => ⟨c, (h c h2).symm.trans h1, h2, h3⟩)⟩
def ckP (y m p ne : Int) (f : KK → Bool) (e d r : Int) : Prop := (e < 0 ∨ ne ≤ e) ∧ r = 1 ∨ ∃ last, MostP f e last ∧ -1 ≤ last ∧ r = chkL y m p ne e d last
theorem ckP.uniq {y m p ne : Int} {f g : KK → Bool} {e d r s : Int} (hf : ∀ c, f c = true → 0 ≤ c.1.2) (h : ∀ c : KK, c.1.1 = e → f c = g c) (h1 : ckP y m p ne f e d r) (h2 : ckP y m p ne g e d s) : r = s := by
 rcases h1 with ⟨a, rfl⟩ | ⟨l1, m1, b1, rfl⟩
 · rcases h2 with ⟨_, rfl⟩ | ⟨l2, m2, b2, rfl⟩
   · rfl
   · unfold chkL; rw [if_pos a]
 · rcases h2 with ⟨a, rfl⟩ | ⟨l2, m2, b2, rfl⟩
   · unfold chkL; rw [if_pos a]
   · rw [m1.uniq hf (m2.same (fun c hc => (h c hc).symm))]
def ltK (a c : KK) : Prop := a.1.1 < c.1.1 ∨ a.1.1 = c.1.1 ∧ a.1.2 < c.1.2
theorem ltK_irr (a : KK) : ¬ ltK a a := fun h => by unfold ltK at h; omega
theorem ltK_trans {a b c : KK} (h : ltK a b) (h2 : ltK b c) : ltK a c := by unfold ltK at *; omega
theorem sortedK_uniq : ∀ {a b : List KK}, a.Pairwise ltK → b.Pairwise ltK → (∀ c, c ∈ a ↔ c ∈ b) → a = b
 | [], [], _, _, _ => rfl
 | [], y :: b, _, _, h => absurd ((h y).2 (List.mem_cons_self ..)) (by simp)
 | x :: a, [], _, _, h => absurd ((h x).1 (List.mem_cons_self ..)) (by simp)
 | x :: a, y :: b, ha, hb, h => by
  obtain ⟨ha1, ha2⟩ := List.pairwise_cons.1 ha
  obtain ⟨hb1, hb2⟩ := List.pairwise_cons.1 hb
  have hxy : x = y := by
   rcases List.mem_cons.1 ((h x).1 (List.mem_cons_self ..)) with e | hx
   · exact e
   · rcases List.mem_cons.1 ((h y).2 (List.mem_cons_self ..)) with e | hy
     · exact e.symm
     · exact absurd (ltK_trans (hb1 x hx) (ha1 y hy)) (ltK_irr y)
  subst hxy
  rw [sortedK_uniq ha2 hb2 (fun c => ?_)]
  constructor
  · intro hc
    rcases List.mem_cons.1 ((h c).1 (List.mem_cons_of_mem _ hc)) with e | h2
    · subst e; exact absurd (ha1 c hc) (ltK_irr c)
    · exact h2
  · intro hc
    rcases List.mem_cons.1 ((h c).2 (List.mem_cons_of_mem _ hc)) with e | h2
    · subst e; exact absurd (hb1 c hc) (ltK_irr c)
    · exact h2
def ListK (f : KK → Bool) (ks : List KK) : Prop := ks.Pairwise ltK ∧ ∀ c, c ∈ ks ↔ f c = true
theorem ListK.uniq {f g : KK → Bool} {a b : List KK} (h : ∀ c, f c = g c) (ha : ListK f a) (hb : ListK g b) : a = b := sortedK_uniq ha.1 hb.1 (fun c => by rw [ha.2, hb.2, h])
abbrev stepL (x : XStep) : List Value := [.int .i64 x.entity, .int .i64 x.period, .bool x.unlock]
theorem StepC.lit {w : World} {Q : Nat → Prop} {cs : List Value} {x : XStep} (h : StepC w Q cs x) : cs = stepL x ∧ bdS x := by
 obtain ⟨c0, c1, c2, rfl, ⟨rfl, h0⟩, ⟨rfl, h1⟩, h2⟩ := h
 have e2 : c2 = _ := h2
 subst e2
 exact ⟨rfl, h0, h1⟩
end Go.Proofs.YtekelchdbkjjjaaGreat
namespace Go.Proofs.YtekelchdbkjjjaaGreat
open Go Go.RowKit Go.Sort
def kL (c : KK) : List Value := [.int .i64 c.1.1, .int .i64 c.1.2]
end Go.Proofs.YtekelchdbkjjjaaGreat
namespace Go.Proofs.YtekelchdbkjjjaaGreat
open Go Go.RowKit Go.Shelf Go.Lib
open Go.Sort hiding Below
instance : Inhabited KK := ⟨⟨(0, 0), kk0⟩⟩
def KC (w : World) (Q : Nat → Prop) (cs : List Value) (c : KK) : Prop := cs = kL c
end Go.Proofs.YtekelchdbkjjjaaGreat
namespace Go.Proofs.YtekelchdbkjjjaaGreat
open Go Go.RowKit Go.Shelf
open Go.Maps (Keyed)
def CollK (f : KK → Bool) (left : Lit → Bool) (ss : List KK) : Prop := ss.Nodup ∧ (∀ c, c ∈ ss ↔ (f c = true ∧ left (kKey c) = false)) ∧ ∀ c, left (kKey c) = true → f c = true
theorem CollK.step {f : KK → Bool} {left : Lit → Bool} {ss : List KK} (h : CollK f left ss) {c : KK} (hl : left (kKey c) = true) : CollK f (fun z => left z && !z.sameKey (kKey c)) (ss ++ [c]) := by
 obtain ⟨h1, h2, h3⟩ := h
 have hnew : c ∉ ss := fun hx => by have := ((h2 c).1 hx).2; rw [hl] at this; cases this
 refine ⟨List.nodup_append.2 ⟨h1, by simp, fun a ha b hb => by simp at hb; subst hb; exact fun e => hnew (e ▸ ha)⟩, fun d => ?_, fun d hd => h3 d (by simp at hd; exact hd.1)⟩
 by_cases hd : d = c
 · subst hd
   have hs : (kKey d).sameKey (kKey d) = true := kKey_same.2 rfl
   simp [h3 d hl, hs]
 · have hs : (kKey d).sameKey (kKey c) = false := by
    cases e : (kKey d).sameKey (kKey c) with
    | false => rfl
    | true => exact absurd (kKey_same.1 e) hd
   simp [h2 d, hd, hs]
def AllK (f : KK → Bool) (ss : List KK) : Prop := ss.Nodup ∧ ∀ c, c ∈ ss ↔ f c = true
theorem CollK.done {f : KK → Bool} {left : Lit → Bool} {ss : List KK} (h : CollK f left ss) (hl : ∀ kl, left kl = false) : AllK f ss := ⟨h.1, fun c => by rw [h.2.1 c, hl]; simp⟩
theorem wpListIn_load_row {F : Fence} {n : Nat} {P : Program} {ops : Array Oper} {rest : List Oper} {o : Oper} {a : Act} {w : World} {Q : Exit → Act → World → Prop} (hgd : o.guard = none) (ty : TypeId) (x : Operand) (ho : o.op = .load ty x)
 (g : Nat) (hx : a.eval x = .pointer (some ⟨g, 0, none⟩)) (t : TypeId) (cs : Array Value) (fr : Nat × Nat) (d : TypeDesc) (hg : w.heap[g]? = some (.cells cs t fr))
 (hu : P.underlying ty = some d) (hd : (match d with | .struct _ | .array _ _ => true | _ => false) = true) (hi : (P.info? ty).map (·.size) = some cs.size)
 (h : wpListIn F n P ops Q rest (a.put o.dst (.agg cs)) w) : wpListIn F n P ops Q (o :: rest) a w := by
 refine wpListIn_plain hgd fun K hK => ?_
 unfold Oper.wpIn
 refine ⟨by simp [Oper.about, ho], ?_⟩
 rw [Oper.semAt_plain F _ _ (by rw [ho]; intro c hc'; cases hc')]
 have hrun := run_loadVar_row w g t ty cs fr d hg hu hd hi
 unfold execOp
 simp only [ho, hx, Instr.loadAt, Instr.sureAddr, Sem.run_bind, Sem.run_pure, Result.andThen_ok]
 rw [hrun]
 simp only [Result.andThen_ok]
 exact hK _ _ h
end Go.Proofs.YtekelchdbkjjjaaGreat
namespace Go.Proofs.YtekelchdbkjjjaaGreat
open Go Go.RowKit
instance (a c : KK) : Decidable (ltK a c) := by unfold ltK; infer_instance
theorem KC.fr {w w' : World} {Q : Nat → Prop} {cs : List Value} {c : KK} (h : KC w Q cs c) : KC w' Q cs c := h
theorem KC.mono {w : World} {Q Q' : Nat → Prop} {cs : List Value} {c : KK} (h : KC w Q cs c) : KC w Q' cs c := h
def IsLk (B : Nat) (y m p ne : Int) (f : KK → Bool) (v : Value) (w : World) : Prop := ∃ L b n : Nat, v = .pointer (some ⟨L, 0, none⟩) ∧ n ≤ 60 ∧ LkC w L b y m p ne n f ∧ B ≤ b
theorem IsLk.keep {B : Nat} {y m p ne : Int} {f : KK → Bool} : ∀ v w w', Below w.heap.size w w' → IsLk B y m p ne f v w → IsLk B y m p ne f v w' := fun v w w' hb ⟨L, b, n, h1, h2, h3, h4⟩ => ⟨L, b, n, h1, h2, h3.below hb, h4⟩
section
variable {P : Program} (w : World)
end
def MdL (B : Nat) (v : Value) (w : World) : Prop := ∃ g, v = .slice (some ⟨g, 0, none⟩) 0 0 ∧ B ≤ g ∧ w.heap[g]? = some (.cells #[] 99 (0, 0))
def OneL (B : Nat) (cs : List Value) (v : Value) (w : World) : Prop := ∃ g, v = .slice (some ⟨g, 0, none⟩) 1 1 ∧ B ≤ g ∧ w.heap[g]? = some (.cells cs.toArray 99 (0, 0))
def RwL (B n : Nat) (xs : List Value) (v : Value) (w : World) : Prop := w.ownsRow B 99 2 v n xs ∧ (n = 0 → ∃ g, v = .slice (some ⟨g, 0, none⟩) 0 0)
theorem MdL.keep {B : Nat} : ∀ v w w', Below w.heap.size w w' → MdL B v w → MdL B v w' := fun v w w' hb ⟨g, e, h1, h2⟩ => ⟨g, e, h1, (hb.block g (blk_lt h2)).trans h2⟩
theorem OneL.keep {B : Nat} {cs : List Value} : ∀ v w w', Below w.heap.size w w' → OneL B cs v w → OneL B cs v w' := fun v w w' hb ⟨g, e, h1, h2⟩ => ⟨g, e, h1, (hb.block g (blk_lt h2)).trans h2⟩
theorem RwL.keep {B n : Nat} {xs : List Value} : ∀ v w w', Below w.heap.size w w' → RwL B n xs v w → RwL B n xs v w' := fun v w w' hb ⟨h1, h2⟩ => ⟨own_below h1 hb, h2⟩
section
variable {B n m : Nat} {xs : List Value} {v : Value} {w w' : World}
end
def sumQ (q : Int → Int → Int) (acc d : Int) (l : List XLine) : Int := (l.map (fun y => if y.account = acc then q d y.amount else 0)).sum
def sumE (q : Int → Int → Int) (es : List XEntry) (ent acc : Int) : Int := (es.map (fun x => if x.entity = ent then sumQ q acc x.date x.lines else 0)).sum
theorem sumQ_cons (q : Int → Int → Int) (acc d : Int) (y : XLine) (l : List XLine) : sumQ q acc d (y :: l) = (if y.account = acc then q d y.amount else 0) + sumQ q acc d l := by simp [sumQ]
theorem sumQ_nil (q : Int → Int → Int) (acc d : Int) : sumQ q acc d [] = 0 := rfl
theorem sumE_nil (q : Int → Int → Int) (ent acc : Int) : sumE q [] ent acc = 0 := rfl
theorem sumE_cons (q : Int → Int → Int) (x : XEntry) (es : List XEntry) (ent acc : Int) : sumE q (x :: es) ent acc = (if x.entity = ent then sumQ q acc x.date x.lines else 0) + sumE q es ent acc := by simp [sumE]
theorem sumE_app (q : Int → Int → Int) (es fs : List XEntry) (ent acc : Int) : sumE q (es ++ fs) ent acc = sumE q es ent acc + sumE q fs ent acc := by simp [sumE]
theorem sumQ_app (q : Int → Int → Int) (acc d : Int) (l m : List XLine) : sumQ q acc d (l ++ m) = sumQ q acc d l + sumQ q acc d m := by simp [sumQ]
theorem sumQ_congr {q r : Int → Int → Int} {d : Int} (acc : Int) : ∀ {l : List XLine}, (∀ y ∈ l, q d y.amount = r d y.amount) → sumQ q acc d l = sumQ r acc d l
 | [], _ => rfl
 | y :: l, h => by
  rw [sumQ_cons, sumQ_cons, sumQ_congr acc (fun z hz => h z (List.mem_cons_of_mem _ hz)), h y (List.mem_cons_self ..)]
theorem sumE_congr {q r : Int → Int → Int} (ent acc : Int) : ∀ {es : List XEntry}, (∀ x ∈ es, x.entity = ent → ∀ y ∈ x.lines, q x.date y.amount = r x.date y.amount) → sumE q es ent acc = sumE r es ent acc
 | [], _ => rfl
 | x :: es, h => by
  rw [sumE_cons, sumE_cons, sumE_congr ent acc (fun z hz => h z (List.mem_cons_of_mem _ hz))]
  by_cases he : x.entity = ent
  · rw [if_pos he, if_pos he, sumQ_congr acc (h x (List.mem_cons_self ..) he)]
  · rw [if_neg he, if_neg he]
theorem sumQ_add (q r : Int → Int → Int) (acc d : Int) : ∀ l : List XLine, sumQ (fun a b => q a b + r a b) acc d l = sumQ q acc d l + sumQ r acc d l
 | [] => rfl
 | y :: l => by
  rw [sumQ_cons, sumQ_cons, sumQ_cons, sumQ_add q r acc d l]
  split <;> omega
theorem sumE_add (q r : Int → Int → Int) (ent acc : Int) : ∀ es : List XEntry, sumE (fun a b => q a b + r a b) es ent acc = sumE q es ent acc + sumE r es ent acc
 | [] => rfl
 | x :: es => by
  rw [sumE_cons, sumE_cons, sumE_cons, sumE_add q r ent acc es, sumQ_add]
  split <;> omega
theorem sumQ_le {q : Int → Int → Int} {d : Int} (acc : Int) : ∀ {l : List XLine}, (∀ y ∈ l, -(y.amount.natAbs : Int) ≤ q d y.amount ∧ q d y.amount ≤ (y.amount.natAbs : Int)) → -absL l ≤ sumQ q acc d l ∧ sumQ q acc d l ≤ absL l
 | [], _ => by simp [absL, sumQ]
 | y :: l, h => by
  have h1 := sumQ_le acc (fun z hz => h z (List.mem_cons_of_mem _ hz))
  have h2 := h y (List.mem_cons_self ..)
  have h3 : absL (y :: l) = (y.amount.natAbs : Int) + absL l := by simp [absL]
  rw [sumQ_cons, h3]
  split <;> omega
def absE (es : List XEntry) : Int := (es.map (fun x => absL x.lines)).sum
theorem absE_cons (x : XEntry) (es : List XEntry) : absE (x :: es) = absL x.lines + absE es := by simp [absE]
theorem absE_app (es fs : List XEntry) : absE (es ++ fs) = absE es + absE fs := by simp [absE]
theorem absL_pos0 (l : List XLine) : 0 ≤ absL l := by
 induction l with
 | nil => simp [absL]
 | cons y l ih => have : absL (y :: l) = (y.amount.natAbs : Int) + absL l := by simp [absL]
                  omega
theorem absE_pos : ∀ es : List XEntry, 0 ≤ absE es
 | [] => by simp [absE]
 | x :: es => by have := absE_pos es; have := absL_pos0 x.lines; rw [absE_cons]; omega
theorem sumE_le {q : Int → Int → Int} (ent acc : Int) : ∀ {es : List XEntry}, (∀ a b, -(b.natAbs : Int) ≤ q a b ∧ q a b ≤ (b.natAbs : Int)) → -absE es ≤ sumE q es ent acc ∧ sumE q es ent acc ≤ absE es
 | [], _ => by simp [absE, sumE]
 | x :: es, h => by
  have h1 := sumE_le ent acc (es := es) h
  have h2 := sumQ_le (d := x.date) (l := x.lines) acc (fun y _ => h x.date y.amount)
  have h3 := absL_pos0 x.lines
  rw [sumE_cons, absE_cons]
  split <;> omega
def qB (d : Int) : Int → Int → Int := fun t n => if t ≤ d then n else 0
def qD (a b : Int) : Int → Int → Int := fun t n => if a ≤ t ∧ t ≤ b then max 0 n else 0
def qC (a b : Int) : Int → Int → Int := fun t n => if a ≤ t ∧ t ≤ b then min 0 n else 0
theorem qB_bd (d a b : Int) : -(b.natAbs : Int) ≤ qB d a b ∧ qB d a b ≤ (b.natAbs : Int) := by unfold qB; split <;> omega
theorem qD_bd (c d a b : Int) : -(b.natAbs : Int) ≤ qD c d a b ∧ qD c d a b ≤ (b.natAbs : Int) := by unfold qD; split <;> omega
theorem qC_bd (c d a b : Int) : -(b.natAbs : Int) ≤ qC c d a b ∧ qC c d a b ≤ (b.natAbs : Int) := by unfold qC; split <;> omega
def linesD (es : List XEntry) (ent d : Int) : List (Int × XLine) := es.flatMap (fun x => if x.entity = ent ∧ x.date ≤ d then x.lines.map (fun y => (x.date, y)) else [])
def sumPd (p : Int → Int → Bool) (acc : Int) (l : List (Int × XLine)) : Int := (l.map (fun z => if z.2.account = acc ∧ p z.1 z.2.amount = true then z.2.amount else 0)).sum
theorem sumPd_snoc (p : Int → Int → Bool) (acc : Int) (l : List (Int × XLine)) (z : Int × XLine) : sumPd p acc (l ++ [z]) = sumPd p acc l + (if z.2.account = acc ∧ p z.1 z.2.amount = true then z.2.amount else 0) := by simp [sumPd]
theorem sumPd_lines (p : Int → Int → Bool) (acc d : Int) : ∀ l : List XLine, sumPd p acc (l.map (fun y => (d, y))) = sumQ (fun t n => if p t n = true then n else 0) acc d l
 | [] => rfl
 | y :: l => by
  have ih := sumPd_lines p acc d l
  rw [sumQ_cons, ← ih]
  simp only [sumPd, List.map_cons, List.sum_cons]
  by_cases h : y.account = acc
  · by_cases h2 : p d y.amount = true <;> simp [h, h2]
  · simp [h]
theorem sumPd_D (p : Int → Int → Bool) (acc ent d : Int) : ∀ es : List XEntry, sumPd p acc (linesD es ent d) = sumE (fun t n => if t ≤ d ∧ p t n = true then n else 0) es ent acc
 | [] => rfl
 | x :: es => by
  have ih := sumPd_D p acc ent d es
  have h1 : sumPd p acc (linesD (x :: es) ent d) = sumPd p acc (if x.entity = ent ∧ x.date ≤ d then x.lines.map (fun y => (x.date, y)) else []) + sumPd p acc (linesD es ent d) := by simp [linesD, sumPd]
  rw [h1, ih, sumE_cons]
  by_cases he : x.entity = ent
  · rw [if_pos he]
    by_cases hd : x.date ≤ d
    · rw [if_pos ⟨he, hd⟩, sumPd_lines]
      congr 1
      refine sumQ_congr acc (fun y _ => ?_)
      simp [hd]
    · rw [if_neg (fun h => hd h.2)]
      have : sumQ (fun t n => if t ≤ d ∧ p t n = true then n else 0) acc x.date x.lines = sumQ (fun _ _ => 0) acc x.date x.lines := sumQ_congr acc (fun y _ => by simp [hd])
      rw [this]
      have h0 : ∀ l : List XLine, sumQ (fun _ _ => 0) acc x.date l = 0 := fun l => by
       induction l with
       | nil => rfl
       | cons y l ih => rw [sumQ_cons, ih]; simp
      rw [h0]
      simp [sumPd]
  · rw [if_neg he, if_neg (fun h => he h.1)]
    simp [sumPd]
theorem bal_turn (es : List XEntry) (ent acc a b : Int) : sumE (qD a b) es ent acc + sumE (qC a b) es ent acc = sumE (fun t n => if a ≤ t ∧ t ≤ b then n else 0) es ent acc := by
 rw [← sumE_add]
 exact sumE_congr ent acc (fun x _ _ y _ => by simp only [qD, qC]; split <;> omega)
theorem bal_all {es : List XEntry} (ent acc : Int) (d : Int) {a : Int} (h : ∀ x ∈ es, a ≤ x.date) : sumE (qD a d) es ent acc + sumE (qC a d) es ent acc = sumE (qB d) es ent acc := by
 rw [bal_turn]
 exact sumE_congr ent acc (fun x hx _ y _ => by simp only [qB, h x hx, true_and])
def IsTri (f : Int → Int) (l : List XBalance) : Prop := l.Pairwise (fun x y => x.account < y.account) ∧ ∀ z, z ∈ l ↔ (f z.account ≠ 0 ∧ z.amount = f z.account)
theorem pair_uniq : ∀ {a b : List XBalance}, a.Pairwise (fun x y => x.account < y.account) → b.Pairwise (fun x y => x.account < y.account) → (∀ x, x ∈ a ↔ x ∈ b) → a = b
 | [], [], _, _, _ => rfl
 | [], y :: b, _, _, h => by have := (h y).2 (List.mem_cons_self ..); simp at this
 | x :: a, [], _, _, h => by have := (h x).1 (List.mem_cons_self ..); simp at this
 | x :: a, y :: b, ha, hb, h => by
  obtain ⟨h1, h2⟩ := List.pairwise_cons.1 ha
  obtain ⟨h3, h4⟩ := List.pairwise_cons.1 hb
  have hxy : x = y := by
   rcases List.mem_cons.1 ((h x).1 (List.mem_cons_self ..)) with e | e
   · exact e
   · rcases List.mem_cons.1 ((h y).2 (List.mem_cons_self ..)) with e2 | e2
     · exact e2.symm
     · have := h3 x e; have := h1 y e2; omega
  subst hxy
  congr 1
  refine pair_uniq h2 h4 (fun z => ?_)
  constructor
  · intro hz
    rcases List.mem_cons.1 ((h z).1 (List.mem_cons_of_mem _ hz)) with e | e
    · subst e; have := h1 z hz; omega
    · exact e
  · intro hz
    rcases List.mem_cons.1 ((h z).2 (List.mem_cons_of_mem _ hz)) with e | e
    · subst e; have := h3 z hz; omega
    · exact e
theorem IsTri.uniq {f : Int → Int} {a b : List XBalance} (ha : IsTri f a) (hb : IsTri f b) : a = b := pair_uniq ha.1 hb.1 (fun x => (ha.2 x).trans (hb.2 x).symm)
theorem IsTri.eqv {f g : Int → Int} {a : List XBalance} (ha : IsTri f a) (h : ∀ c, f c = g c) : IsTri g a := ⟨ha.1, fun z => by rw [ha.2 z, h]⟩
def triL (f : Int → Int) (b : Int) : Nat → List XBalance
 | 0 => []
 | n + 1 => triL f b n ++ (if f (b + n) ≠ 0 then [⟨b + n, f (b + n)⟩] else [])
theorem triL_mem (f : Int → Int) (b : Int) : ∀ (n : Nat) (z : XBalance), z ∈ triL f b n ↔ (b ≤ z.account ∧ z.account < b + n) ∧ f z.account ≠ 0 ∧ z.amount = f z.account
 | 0, z => by simp [triL]; omega
 | n + 1, z => by
  rw [triL, List.mem_append, triL_mem f b n z]
  constructor
  · rintro (⟨h1, h2⟩ | h)
    · exact ⟨by omega, h2⟩
    · split at h
      · simp at h; subst h; exact ⟨by simp; omega, ‹_›, rfl⟩
      · simp at h
  · rintro ⟨h1, h2, h3⟩
    by_cases h4 : z.account < b + n
    · exact .inl ⟨by omega, h2, h3⟩
    · right
      have e : z.account = b + n := by omega
      rw [e] at h2 h3
      rw [if_pos h2]
      obtain ⟨za, zm⟩ := z
      simp only at e h3
      subst e h3
      simp
theorem triL_sort (f : Int → Int) (b : Int) : ∀ n : Nat, (triL f b n).Pairwise (fun x y => x.account < y.account)
 | 0 => List.Pairwise.nil
 | n + 1 => by
  rw [triL]
  refine List.pairwise_append.2 ⟨triL_sort f b n, by split <;> simp, fun x hx y hy => ?_⟩
  have h1 := ((triL_mem f b n x).1 hx).1
  split at hy
  · simp at hy; subst hy; simp; omega
  · simp at hy
theorem triL_is {f : Int → Int} {b : Int} {n : Nat} (h : ∀ c, f c ≠ 0 → b ≤ c ∧ c < b + n) : IsTri f (triL f b n) :=
 ⟨triL_sort f b n, fun z => by rw [triL_mem]; exact ⟨fun h => h.2, fun hz => ⟨h _ hz.1, hz⟩⟩⟩
theorem triL_len (f : Int → Int) (b : Int) : ∀ n : Nat, (triL f b n).length ≤ n
 | 0 => by simp [triL]
 | n + 1 => by
  rw [triL, List.length_append]
  have := triL_len f b n
  split <;> simp <;> omega
def sumBl (l : List XBalance) : Int := (l.map (·.amount)).sum
theorem sumBl_app (l m : List XBalance) : sumBl (l ++ m) = sumBl l + sumBl m := by simp [sumBl]
def sumCd (f : Int → Int) (b : Int) : Nat → Int
 | 0 => 0
 | n + 1 => sumCd f b n + f (b + n)
theorem sumBl_tri (f : Int → Int) (b : Int) : ∀ n : Nat, sumBl (triL f b n) = sumCd f b n
 | 0 => rfl
 | n + 1 => by
  rw [triL, sumBl_app, sumBl_tri f b n, sumCd]
  by_cases h : f (b + n) = 0
  · rw [if_neg (by simp [h]), h]; rfl
  · rw [if_pos h]; simp [sumBl]
theorem sumCd_add (f g : Int → Int) (b : Int) : ∀ n : Nat, sumCd (fun c => f c + g c) b n = sumCd f b n + sumCd g b n
 | 0 => rfl
 | n + 1 => by rw [sumCd, sumCd, sumCd, sumCd_add f g b n]; omega
theorem sumCd_zero (b : Int) : ∀ n : Nat, sumCd (fun _ => 0) b n = 0
 | 0 => rfl
 | n + 1 => by rw [sumCd, sumCd_zero b n]; rfl
theorem sumCd_one (a v b : Int) : ∀ n : Nat, sumCd (fun c => if a = c then v else 0) b n = if b ≤ a ∧ a < b + n then v else 0
 | 0 => by rw [sumCd, if_neg (by omega)]
 | n + 1 => by
  rw [sumCd, sumCd_one a v b n]
  by_cases h : a = b + n
  · rw [if_pos h, if_neg (by omega), if_pos (by omega)]; omega
  · rw [if_neg h]
    by_cases h2 : b ≤ a ∧ a < b + n
    · rw [if_pos h2, if_pos (by omega)]; omega
    · rw [if_neg h2, if_neg (by omega)]; rfl
theorem sumCd_lines (q : Int → Int → Int) (d b : Int) (n : Nat) : ∀ l : List XLine, (∀ y ∈ l, b ≤ y.account ∧ y.account < b + n) → sumCd (fun c => sumQ q c d l) b n = (l.map (fun y => q d y.amount)).sum
 | [], _ => sumCd_zero b n
 | y :: l, h => by
  have ih := sumCd_lines q d b n l (fun z hz => h z (List.mem_cons_of_mem _ hz))
  have e : (fun c => sumQ q c d (y :: l)) = fun c => (if y.account = c then q d y.amount else 0) + sumQ q c d l := funext fun c => sumQ_cons q c d y l
  rw [e, sumCd_add, ih, sumCd_one, if_pos (h y (List.mem_cons_self ..))]
  simp
theorem sumCd_entries (d ent b : Int) (n : Nat) : ∀ es : List XEntry, (∀ x ∈ es, x.entity = ent → sumL x.lines = 0 ∧ ∀ y ∈ x.lines, b ≤ y.account ∧ y.account < b + n) → sumCd (fun c => sumE (qB d) es ent c) b n = 0
 | [], _ => sumCd_zero b n
 | x :: es, h => by
  have ih := sumCd_entries d ent b n es (fun z hz => h z (List.mem_cons_of_mem _ hz))
  have e : (fun c => sumE (qB d) (x :: es) ent c) = fun c => (if x.entity = ent then sumQ (qB d) c x.date x.lines else 0) + sumE (qB d) es ent c := funext fun c => sumE_cons _ x es ent c
  rw [e, sumCd_add, ih]
  by_cases he : x.entity = ent
  · obtain ⟨h1, h2⟩ := h x (List.mem_cons_self ..) he
    simp only [he, if_true]
    rw [sumCd_lines (qB d) x.date b n x.lines h2]
    by_cases hd : x.date ≤ d
    · have : (x.lines.map (fun y => qB d x.date y.amount)).sum = sumL x.lines := by simp [qB, hd, sumL]
      omega
    · have : (x.lines.map (fun y => qB d x.date y.amount)).sum = 0 := by
       have : ∀ l : List XLine, (l.map (fun y => qB d x.date y.amount)).sum = 0 := fun l => by
        induction l with
        | nil => rfl
        | cons y l ih =>
         have e9 : qB d x.date y.amount = 0 := if_neg hd
         rw [List.map_cons, List.sum_cons, ih, e9]; rfl
       exact this _
      omega
  · simp only [he, if_false]
    rw [sumCd_zero]; rfl
def validJ (g : XGroup) (l : List XEntry) : Prop := groupB g = true ∧ okJ g l
def modest (l : List XEntry) : Prop := (∀ x ∈ l, x.text.size ≤ 140737488355327 ∧ x.lines.length ≤ 100000) ∧ l.length ≤ 100000
def JChkPost (g : XGroup) (l : List XEntry) (w : World) (e : Ending) (w' : World) : Prop := ∃ i c : Int, e = .returned (.tuple #[.int .i64 i, .int .i64 c]) ∧ (c = 0 ↔ validJ g l) ∧ Below w.heap.size w w'
theorem okJ_bad {g : XGroup} {l : List XEntry} {k : Nat} (hk : k < l.length) (h : postE g (l.take k) l[k] ≠ 0) : ¬ validJ g l := fun hv => h (hv.2 k hk)
theorem okJ_succ {g : XGroup} {l : List XEntry} {k : Nat} (hk : k < l.length) (h : okJ g (l.take k)) (hp : postE g (l.take k) l[k] = 0) : okJ g (l.take (k + 1)) := by
 rw [List.take_add_one, List.getElem?_eq_getElem hk]
 exact okJ_snoc h hp
set_option maxHeartbeats 4000000 in
theorem jcheck_c (g : XGroup) (l : List XEntry) (gl : List Value) (A : Option Addr) (c : Nat) (w : World) (hg : GroupC w (· < w.heap.size) gl g) (hl : ListC EntryC 7 w (· < w.heap.size) [.slice A l.length c] l) (hsm : smallG g) (hmo : modest l) :
 Calls Tryz.prog 54 #[.agg gl.toArray, .slice A l.length c] w (JChkPost g l w) := by
 have HNEW := Lib.hid (fun (w2 : World) (hb : Below w.heap.size w w2) => new_c g gl w2 (hg.keep hb) hsm)
 have HGS := Lib.hid (show gl.toArray.size = 21 by have := hg.len; simpa using this)
 have HL := Lib.hid hl
 have HMO := Lib.hid hmo
 have HSM := Lib.hid hsm
 have hbn := hl.cap
 unfold maxLen at hbn
 obtain ⟨n, hnl⟩ : ∃ n, l.length = n := ⟨_, rfl⟩
 have HN := Lib.hid hnl
 rw [hnl] at hbn ⊢
 have hn9 : n ≤ 9223372036854775807 := by omega
 clear hg hl hnl hbn hmo hsm
 go_enter Tryz.func54, Tryz.ntmps54
 go_upto_region 1 with fail
 have H1 := heap_alloc_new w (.cells gl.toArray 29)
 have HB1 := below1 w (.cells gl.toArray 29)
 have HS1 := blk_lt H1
 generalize hW1 : w.alloc (Obj.cells gl.toArray 29) = W at *
 clear hW1
 have HK := Lib.hid H1
 have HB1h := Lib.hid HB1
 clear H1
 go_wp2_with (show wpList _ _ _ (Oper.mk (some 12) _ _ _ _ _ :: _) _ _; refine wpList_load_row_g rfl 29 (.tmp 2) rfl (w.heap.size) rfl _ _ _ _ HK.out Tryz.underlying29 rfl (by rw [info_group]; exact congrArg some HGS.out.symm) ?_)
 refine (HNEW.out W HB1).mono ?_
 rintro e w2 ⟨hb2, hcase⟩
 have hb02 := HB1h.out.trans (hb2.mono HB1h.out.size)
 rcases hcase with ⟨hF, rfl⟩ | ⟨hT, J, D0, O0, rfl, hJC, hDO⟩
 case inl =>
  have HF := Lib.hid hF
  clear hF
  go_wp2_with fail
  go_ret2
  exact ⟨0, 1, rfl, ⟨fun h => absurd h (by decide), fun h => by have := h.1; rw [HF.out] at this; cases this⟩, hb02⟩
 case inr =>
 have HT := Lib.hid hT
 have HJC := Lib.hid hJC
 have HDO := Lib.hid hDO
 have HB02 := Lib.hid hb02
 clear hT hJC hDO HNEW
 go_wp2_with fail
 go_loopw [21] (fun i wr => ∃ (k : Nat) (D O : Nat → Prop), k ≤ n ∧ i = .int .i64 (k : Int) ∧ Below W.heap.size W wr ∧ JC wr D O J g (l.take k) ∧ (∀ q, D q ∨ O q → W.heap.size ≤ q)) (fun i _ => n - (intOf i).toNat)
 case atStart => exact ⟨0, D0, O0, by omega, rfl, hb2, HJC.out, HDO.out⟩
 case round =>
  obtain ⟨k, D, O, hk, rfl, hbW, hJC, hDO⟩ := hrel
  generalize wr = w3 at *
  have hb := HB1h.out.trans (hbW.mono HB1h.out.size)
  have HBW := Lib.hid hbW
  have HBR := Lib.hid hb
  have HJC := Lib.hid hJC
  have HDO := Lib.hid hDO
  clear hJC hDO
  by_cases hlt : k < n
  case pos =>
   have hltI : (k : Int) < (n : Int) := by omega
   have hkl : k < l.length := by rw [HN.out]; exact hlt
   obtain ⟨b, o, cs, hAe, hbw, hes, hat⟩ := ListC.get HL.out k hkl
   subst hAe
   obtain ⟨Al, cl, hcs, hxb, hls⟩ := EntryC.lit hes
   have hfx := HMO.out.1 _ (List.getElem_mem hkl)
   have HOKK := Lib.hid HJC.out.ok
   have hok := HOKK.out
   have HBAD := Lib.hid (okJ_bad (g := g) hkl)
   have HSUC := Lib.hid (okJ_succ hkl hok)
   have HTK := Lib.hid (show l.take (k + 1) = l.take k ++ [l[k]] by rw [List.take_add_one, List.getElem?_eq_getElem hkl]; rfl)
   obtain ⟨x, hx⟩ : ∃ x, l[k] = x := ⟨_, rfl⟩
   rw [hx] at hcs hxb hls hfx hes HBAD HSUC HTK
   subst hcs
   obtain ⟨ES, hES⟩ : ∃ ES, l.take k = ES := ⟨_, rfl⟩
   have hEL : ES.length ≤ 100000 := by
    have h1 := HMO.out.2
    rw [← hES, List.length_take]
    omega
   have HES := Lib.hid hES
   rw [hES] at HJC HBAD HSUC HTK
   have HEL := Lib.hid hEL
   have HFX := Lib.hid hfx
   have HXC := Lib.hid hes
   obtain ⟨R, hR⟩ : ∃ R, postE g ES x = R := ⟨_, rfl⟩
   rw [hR] at HBAD HSUC
   have HPC := Lib.hid (fun (w2 : World) (hS : Below w3.heap.size w3 w2) => show Calls Tryz.prog 82 #[.pointer (some ⟨J, 0, none⟩), .agg #[.int .i64 x.id, .int .i64 x.entity, .int .i64 x.date, .int .i64 x.kind, .int .i64 x.of_, .string x.text, .slice Al x.lines.length cl]] w2 (fun e w' => e = .returned (.int .i64 R) ∧ JPost D O J g ES (if R = 0 then ES ++ [x] else ES) w2 w') by
    have hb9 := HBR.out.trans (hS.mono HBR.out.size)
    obtain ⟨gl2, css2, v2, bi2, br2, hJ2⟩ := HJC.out.below hS
    have h := post_c D O J g ES gl2 css2 v2 bi2 br2 x _ w2 hJ2 HSM.out (EntryC.mono (EntryC.fr HXC.out (Fr.ofBelow hb9)) (fun q hq => ⟨Nat.lt_of_lt_of_le hq hb9.size, fun ho => by have h1 := HDO.out q (.inr ho); have h2 := HS1; omega⟩)) (by have := HFX.out.1; omega) (by have := HFX.out.2; omega) (by have := HEL.out; omega)
    rw [hR] at h
    exact h)
   have hat2 := hat.fr (Fr.ofBelow hb)
   obtain ⟨xi, xe, xd, xk, xo, xt, ls⟩ := x
   simp only at hat2 HPC
   obtain ⟨nl, hnl⟩ : ∃ n, ls.length = n := ⟨_, rfl⟩
   rw [hnl] at hat2 HPC
   have HAR := Lib.hid hat2.range
   have hnz : 0 < n := by omega
   clear hat hat2 hes hls hxb hfx hEL hnl hbW hb hES hx hok
   go_upto_region 7 with (first | (show wpList _ _ _ (Oper.mk (some 25) _ _ _ _ _ :: _) _ _; refine wpList_load_mid rfl 46 (.tmp 24) rfl b (o + k * 7) rfl [.int .i64 xi, .int .i64 xe, .int .i64 xd, .int .i64 xk, .int .i64 xo, .string xt, .slice Al nl cl] _ HAR.out Tryz.underlying46 rfl info_entry ?_) | (show wpList _ _ _ (Oper.mk none (Op.store _ (Operand.tmp 9) _) _ _ _ _ :: _) _ _; refine wpList_store_fresh3 rfl 46 (.tmp 9) (.tmp 25) rfl rfl w3 #[.int .i64 0, .int .i64 0, .int .i64 0, .int .i64 0, .int .i64 0, .string ⟨#[]⟩, .slice none 0 0] 46 #[.int .i64 xi, .int .i64 xe, .int .i64 xd, .int .i64 xk, .int .i64 xo, .string xt, .slice Al nl cl] rfl rfl rfl info_entry rfl (by simp [Value.oneCell']) ?_; intro w4 H4 HB4 HS4))
   have HX4 := Lib.hid H4
   have HPC2 := Lib.hid (HPC.out w4 HB4)
   have HB4h := Lib.hid HB4
   clear H4 HB4 HS4 HPC
   go_wp2_with (show wpList _ _ _ (Oper.mk (some 27) _ _ _ _ _ :: _) _ _; refine wpList_load_row_g rfl 46 (.tmp 9) rfl w3.heap.size rfl _ _ _ _ HX4.out Tryz.underlying46 rfl info_entry ?_)
   refine HPC2.out.mono ?_
   rintro e w5 ⟨rfl, m, hm1, hm2, hJ5, hf5⟩
   have HJ5 := Lib.hid hJ5
   have HF5 := Lib.hid hf5
   have HM := Lib.hid (And.intro hm1 hm2)
   have hbW5 : Below W.heap.size W w5 := ((Fr.ofBelow HBW.out).trans (((Fr.ofBelow HB4h.out).mono (fun q (hq : q < W.heap.size) => Nat.lt_of_lt_of_le hq HBW.out.size)).trans (hf5.mono (fun q (hq : q < W.heap.size) => ⟨Nat.lt_of_lt_of_le (Nat.lt_of_lt_of_le hq HBW.out.size) HB4h.out.size, fun ho => by have := HDO.out q (.inr ho); omega⟩)))).below
   have HBW5 := Lib.hid hbW5
   have HDO5 := Lib.hid (show ∀ q, (D q ∨ (w4.heap.size ≤ q ∧ q < m)) ∨ (O q ∨ (m ≤ q ∧ q < w5.heap.size)) → W.heap.size ≤ q from fun q hq => by
    have h1 := HBW.out.size
    have h2 := HB4h.out.size
    have h3 := HM.out.1
    rcases hq with (hq | hq) | (hq | hq)
    · exact HDO.out q (.inl hq)
    · omega
    · exact HDO.out q (.inr hq)
    · omega)
   clear hJ5 hf5 hm1 hm2 hbW5
   by_cases hR0 : R = 0
   case neg =>
    have hRb : (R != 0) = true := by simpa using hR0
    have HNV := Lib.hid (HBAD.out hR0)
    have HR0 := Lib.hid hR0
    clear hR0
    go_wp2_with fail
    go_ret2
    exact ⟨(k : Int), R, rfl, ⟨fun h => absurd h HR0.out, fun h => absurd h HNV.out⟩, HB1h.out.trans (HBW5.out.mono HB1h.out.size)⟩
   case pos =>
    have hRb : (R != 0) = false := by simpa using hR0
    have HJ6 := Lib.hid (show JC w5 _ _ J g (ES ++ [⟨xi, xe, xd, xk, xo, xt, ls⟩]) from by have h := HJ5.out; rw [if_pos hR0] at h; exact h)
    clear hR0
    go_wp2_with fail
    go_roundw
    case rel => exact ⟨k + 1, _, _, by omega, by go_num, HBW5.out, by rw [HTK.out]; exact HJ6.out, HDO5.out⟩
    case measure => first | exact meas_v hlt | (simp only [intOf]; omega)
  case neg =>
   have hltI : ¬ (k : Int) < (n : Int) := by omega
   have hta : l.take k = l := List.take_of_length_le (by rw [HN.out]; omega)
   have HV := Lib.hid (show validJ g l from ⟨HT.out, by have := HJC.out.ok; rwa [hta] at this⟩)
   clear hta hbW hb
   go_wp2_with fail
   go_ret2
   exact ⟨0, 0, rfl, ⟨fun _ => HV.out, fun _ => rfl⟩, HBR.out⟩
theorem entries_take {w : World} {Q : Nat → Prop} {A : Option Addr} {n c : Nat} {l : List XEntry} (h : ListC EntryC 7 w Q [.slice A n c] l) (k : Nat) (hk : k ≤ l.length) : ListC EntryC 7 w Q [.slice A k c] (l.take k) := by
 obtain ⟨A', c', e, h1, h2, hel⟩ := h
 simp only [List.cons.injEq, and_true, Value.slice.injEq] at e
 obtain ⟨rfl, rfl, rfl⟩ := e
 have hl : (l.take k).length = k := by rw [List.length_take]; omega
 refine ⟨A, c, by rw [hl], by omega, h2, fun hn => ?_⟩
 obtain ⟨b, o, rfl, hb, hx⟩ := hel (by omega)
 refine ⟨b, o, rfl, hb, fun i x hi => ?_⟩
 have hik : i < k := by
  have := (List.getElem?_eq_some_iff.1 hi).1
  omega
 rw [List.getElem?_take_of_lt hik] at hi
 exact hx i x hi
set_option maxHeartbeats 4000000 in
theorem rjcheck_c (g : XGroup) (l : List XEntry) (gl : List Value) (A : Option Addr) (c : Nat) (w : World) (hg : GroupC w (· < w.heap.size) gl g) (hl : ListC EntryC 7 w (· < w.heap.size) [.slice A l.length c] l) (hsm : smallG g) (hmo : modest l) :
 Calls Tryz.prog 85 #[.agg gl.toArray, .slice A l.length c] w (JChkPost g l w) := by
 have HVAL := Lib.hid (rgroup_v hg hsm)
 have HGI := Lib.hid (show (Tryz.prog.info? 29).map (·.size) = some gl.length by rw [info_group, hg.len])
 have HGS := Lib.hid (show gl.toArray.size = 21 by have := hg.len; simpa using this)
 have HG := Lib.hid hg
 have HL := Lib.hid hl
 have HMO := Lib.hid hmo
 have HSM := Lib.hid hsm
 have hbn := hl.cap
 unfold maxLen at hbn
 obtain ⟨n, hnl⟩ : ∃ n, l.length = n := ⟨_, rfl⟩
 have HN := Lib.hid hnl
 rw [hnl] at hbn ⊢
 have hn9 : n ≤ 9223372036854775807 := by omega
 obtain ⟨bg, hbg⟩ : ∃ b, groupB g = b := ⟨_, rfl⟩
 have HBG := Lib.hid hbg
 rw [hbg] at HVAL
 have HCAP := Lib.hid hbn
 clear hg hl hnl hbn hmo hsm hbg
 go_enter Tryz.func85, Tryz.ntmps85
 go_upto_region 1 with fail
 have H1 := heap_alloc_new w (.cells gl.toArray 29)
 have HB1 := below1 w (.cells gl.toArray 29)
 have HS1 := blk_lt H1
 generalize hW1 : w.alloc (Obj.cells gl.toArray 29) = W at *
 clear hW1
 have HK := Lib.hid H1
 have HB1h := Lib.hid HB1
 clear H1
 go_wp2_with (show wpList _ _ _ (Oper.mk (some 8) _ _ _ _ _ :: _) _ _; refine wpList_load_row_g rfl 29 (.tmp 2) rfl (w.heap.size) rfl _ _ _ _ HK.out Tryz.underlying29 rfl (by rw [info_group]; exact congrArg some HGS.out.symm) ?_)
 refine (HVAL.out W HB1).mono ?_
 rintro e w2 ⟨rfl, hb2⟩
 have hb02 := HB1h.out.trans (hb2.mono HB1h.out.size)
 have HB02 := Lib.hid hb02
 have hs2 := hb2.size
 have HB2 := Lib.hid hb2
 clear hb2
 cases bg with
 | false =>
  go_wp2_with fail
  go_ret2
  exact ⟨0, 1, rfl, ⟨fun h => absurd h (by decide), fun h => by have := h.1; rw [HBG.out] at this; cases this⟩, hb02⟩
 | true =>
 clear hb02
 go_wp2_with fail
 go_loopw [6] (fun i wr => ∃ k : Nat, k ≤ n ∧ i = .int .i64 (k : Int) ∧ Below W.heap.size W wr ∧ okJ g (l.take k)) (fun i _ => n - (intOf i).toNat)
 case atStart => exact ⟨0, by omega, rfl, HB2.out, okJ_nil g⟩
 case round =>
  obtain ⟨k, hk, rfl, hbW, hok⟩ := hrel
  generalize wr = w3 at *
  have hb := HB1h.out.trans (hbW.mono HB1h.out.size)
  have HBR := Lib.hid hb
  by_cases hlt : k < n
  case pos =>
   have hltI : (k : Int) < (n : Int) := by omega
   have hkl : k < l.length := by rw [HN.out]; exact hlt
   obtain ⟨b, o, cs, hAe, hbw, hes, hat⟩ := ListC.get HL.out k hkl
   subst hAe
   obtain ⟨Al, cl, hcs, hxb, hls⟩ := EntryC.lit hes
   have hfx := HMO.out.1 _ (List.getElem_mem hkl)
   have HOKK := Lib.hid hok
   have HBAD := Lib.hid (okJ_bad (g := g) hkl)
   have HSUC := Lib.hid (okJ_succ hkl hok)
   obtain ⟨x, hx⟩ : ∃ x, l[k] = x := ⟨_, rfl⟩
   rw [hx] at hcs hxb hls hfx hes HBAD HSUC
   subst hcs
   obtain ⟨ES, hES⟩ : ∃ ES, l.take k = ES := ⟨_, rfl⟩
   have HEL := Lib.hid (show ES.length = k by rw [← hES, List.length_take, HN.out]; omega)
   have HLE := Lib.hid (show ListC EntryC 7 w (· < w.heap.size) [.slice (some ⟨b, o, none⟩) k c] ES by rw [← hES]; exact entries_take HL.out k (by omega))
   rw [hES] at HBAD HSUC HOKK
   obtain ⟨R, hR⟩ : ∃ R, postE g ES x = R := ⟨_, rfl⟩
   rw [hR] at HBAD HSUC
   have HRP := Lib.hid (fun (w2 : World) (hS : Below w3.heap.size w3 w2) => show Calls Tryz.prog 116 #[.agg gl.toArray, .slice (some ⟨b, o, none⟩) k c, .agg #[.int .i64 x.id, .int .i64 x.entity, .int .i64 x.date, .int .i64 x.kind, .int .i64 x.of_, .string x.text, .slice Al x.lines.length cl]] w2 (Quiet w2 (.int .i64 R)) by
    have hb9 := HBR.out.trans (hS.mono HBR.out.size)
    have h := rpost_c g ES x gl _ (some ⟨b, o, none⟩) c w2 (HG.out.keep hb9) HSM.out (by rw [HEL.out]; exact entries_keep HLE.out hb9) (hes.keep hb9) (by omega) HOKK.out
    rw [HEL.out, hR] at h
    exact h)
   have hat2 := hat.fr (Fr.ofBelow hb)
   obtain ⟨xi, xe, xd, xk, xo, xt, ls⟩ := x
   simp only at hat2 HRP
   obtain ⟨nl, hnl⟩ : ∃ n, ls.length = n := ⟨_, rfl⟩
   rw [hnl] at hat2 HRP
   have HKR := Lib.hid ((hbW.block _ HS1).trans HK.out)
   have HATX := Lib.hid (hat2.mono (Q' := (· < w3.heap.size)) (fun q hq => Nat.lt_of_lt_of_le hq hb.size))
   have HATG := Lib.hid (box_at (cs := gl) HKR.out)
   have HBW := Lib.hid hbW
   have HKC := Lib.hid (show k ≤ c ∧ c ≤ 9223372036854775807 from by have := HCAP.out; omega)
   have hnz : 0 < n := by omega
   clear hat hat2 hes hls hxb hfx hnl hb hES hx hok hR hbW
   go_upto_region 6 with fail
   refine wp_region_inv (Ks w3 [.val (.agg gl.toArray), .val (.slice (some ⟨b, o, none⟩) n c), .val (.int .i64 (k : Int)), .val (.slice (some ⟨b, o, none⟩) k c), .val (.slice (some ⟨b, o, none⟩) n c), .val (.int .i64 (k : Int)), .val (.pointer (some ⟨b, o + k * 7, none⟩)), .val (.agg #[.int .i64 xi, .int .i64 xe, .int .i64 xd, .int .i64 xk, .int .i64 xo, .string xt, .slice Al nl cl]), .val (.int .i64 R), .val (.int .i64 R)])
    (fun w' => Below w3.heap.size w3 w') (by kernel_rfl) (by kernel_rfl) (by kernel_rfl) (Below.refl _ _).drew ?_ ?_
   · refine ⟨?_, ?_, ?_, ?_, ?_, ?_, ?_, ?_, ?_, ?_, trivial⟩
     · intro _ A0 w2 hI hd hnd K hK; have e0 := hI.q hnd 2; have hS := hI.world; have hrange : w2.rangeAt w.heap.size 0 gl := (HATG.out.fr (Fr.ofBelow hS)).range
       have hisize := HGI.out
       refine wanted_go rfl ?_; clear hI hd hnd
       refine wp_load_mid 29 (.tmp 2) rfl _ _ (by simpa [Act.eval, Array.getD_eq_getD_getElem?] using e0) _ _ hrange Tryz.underlying29 rfl hisize ?_
       exact kq hK hS rfl
     · intro _ A0 w2 hI hd hnd K hK; have e0 := hI.q hnd 1; exact hI.z hK
     · intro _ A0 w2 hI hd hnd K hK; have e0 := hI.q hnd 6; exact hI.z hK
     · intro _ A0 w2 hI hd hnd K hK; have e0 := hI.p hd 1 18; have e1 := hI.p hd 2 19; have hS := hI.world
       have hkc := HKC.out.1
       have hkc2 := HKC.out.2
       exact hI.z hK
     · intro _ A0 w2 hI hd hnd K hK; have e0 := hI.q hnd 1; exact hI.z hK
     · intro _ A0 w2 hI hd hnd K hK; have e0 := hI.q hnd 6; exact hI.z hK
     · intro _ A0 w2 hI hd hnd K hK; have e0 := hI.p hd 4 21; have e1 := hI.p hd 5 22; exact hI.z hK
     · intro _ A0 w2 hI hd hnd K hK; have e0 := hI.p hd 6 23; have hS := hI.world; have hrange : w2.rangeAt b (o + k * 7) [.int .i64 xi, .int .i64 xe, .int .i64 xd, .int .i64 xk, .int .i64 xo, .string xt, .slice Al nl cl] := (HATX.out.fr (Fr.ofBelow hS)).range; have hisize := info_entry; refine wanted_go rfl ?_; clear hI hd hnd
       refine wp_load_mid 46 (.tmp 23) rfl _ _ (by simpa [Act.eval, Array.getD_eq_getD_getElem?] using e0) _ _ hrange Tryz.underlying46 rfl hisize ?_
       exact kq hK hS rfl
     · intro _ A0 w2 hI hd hnd K hK; have e0 := hI.p hd 0 17; have e1 := hI.p hd 3 20; have e2 := hI.p hd 7 24; have hS := hI.world; refine wanted_go rfl ?_; clear hI hd hnd; go_simp
       go_at_call 116
       refine (HRP.out w2 hS).mono ?_
       rintro e w3 ⟨rfl, h3⟩
       exact hK.out _ _ (hS.trans (h3.mono hS.size)) (Ks.of rfl rfl) (Ks.keep h3)
     · intro _ A0 w2 hI hd hnd K hK; have e0 := hI.p hd 8 25; exact hI.z hK
   · intro _ A0 w2 hI hall; have hS := hI.world; have c9 := hI.ch hall [17, 18, 19, 20, 21, 22, 23, 24, 25, 7]; obtain ⟨x0, x1, x2, x3, x4, x5, x6, x7, x8, x9, hA, hV⟩ := c9
     obtain rfl : x9 = .int .i64 R := hV 9 _ _ rfl _ rfl
     clear hV hI hall
     simp only [setAll, List.foldl, List.setIfInBounds_toArray, List.set_cons_zero, List.set_cons_succ] at hA
     rw [hA]
     clear hA
     have HBS := Lib.hid (HBW.out.trans (hS.mono HBW.out.size))
     by_cases hR0 : R = 0
     case neg =>
      have hRb : (R != 0) = true := by simpa using hR0
      have HNV := Lib.hid (HBAD.out hR0)
      have HR0 := Lib.hid hR0
      clear hR0
      go_wp2_with fail
      go_ret2
      exact ⟨(k : Int), R, rfl, ⟨fun h => absurd h HR0.out, fun h => absurd h HNV.out⟩, HB1h.out.trans (HBS.out.mono HB1h.out.size)⟩
     case pos =>
      have hRb : (R != 0) = false := by simpa using hR0
      have HSU := Lib.hid (HSUC.out hR0)
      clear hR0
      go_wp2_with fail
      go_roundw
      case rel => exact ⟨k + 1, by omega, by go_num, HBS.out, HSU.out⟩
      case measure => first | exact meas_v hlt | (simp only [intOf]; omega)
  case neg =>
   have hltI : ¬ (k : Int) < (n : Int) := by omega
   have hta : l.take k = l := List.take_of_length_le (by rw [HN.out]; omega)
   have HV := Lib.hid (show validJ g l from ⟨HBG.out, by rw [hta] at hok; exact hok⟩)
   clear hta hbW hb
   go_wp2_with fail
   go_ret2
   exact ⟨0, 0, rfl, ⟨fun _ => HV.out, fun _ => rfl⟩, HBR.out⟩
def JValPost (g : XGroup) (l : List XEntry) (w : World) (e : Ending) (w' : World) : Prop := ∃ b : Bool, e = .returned (.bool b) ∧ (b = true ↔ validJ g l) ∧ Below w.heap.size w w'
theorem rjvalid_c (g : XGroup) (l : List XEntry) (gl : List Value) (A : Option Addr) (c : Nat) (w : World) (hg : GroupC w (· < w.heap.size) gl g) (hl : ListC EntryC 7 w (· < w.heap.size) [.slice A l.length c] l) (hsm : smallG g) (hmo : modest l) :
 Calls Tryz.prog 58 #[.agg gl.toArray, .slice A l.length c] w (JValPost g l w) := by
 have HCK := Lib.hid (fun (w2 : World) (hb : Below w.heap.size w w2) => rjcheck_c g l gl A c w2 (hg.keep hb) (entries_keep hl hb) hsm hmo)
 have HGS := Lib.hid (show gl.toArray.size = 21 by have := hg.len; simpa using this)
 obtain ⟨n, hnl⟩ : ∃ n, l.length = n := ⟨_, rfl⟩
 rw [hnl] at HCK ⊢
 clear hg hl hsm hmo hnl
 go_enter Tryz.func58, Tryz.ntmps58
 go_upto_region 1 with fail
 have H1 := heap_alloc_new w (.cells gl.toArray 29)
 have HB1 := below1 w (.cells gl.toArray 29)
 have HS1 := blk_lt H1
 generalize hW1 : w.alloc (Obj.cells gl.toArray 29) = W at *
 clear hW1
 have HK := Lib.hid H1
 have HB1h := Lib.hid HB1
 clear H1
 go_wp2_with (show wpList _ _ _ (Oper.mk (some 8) _ _ _ _ _ :: _) _ _; refine wpList_load_row_g rfl 29 (.tmp 2) rfl (w.heap.size) rfl _ _ _ _ HK.out Tryz.underlying29 rfl (by rw [info_group]; exact congrArg some HGS.out.symm) ?_)
 refine (HCK.out W HB1).mono ?_
 rintro e w2 ⟨i, r, rfl, hr, hb2⟩
 have hb02 := HB1h.out.trans (hb2.mono HB1h.out.size)
 have HR := Lib.hid hr
 clear hr
 go_wp2_with fail
 go_ret
 refine ⟨_, rfl, ?_, hb02⟩
 rw [← HR.out]
 simp
end Go.Proofs.YtekelchdbkjjjaaGreat
namespace Go.Proofs.YtekelchdbkjjjaaGreat
open Go Go.RowKit Go.Shelf
attribute [local go_sem] Oper.semAt_some
section
variable {F : Fence} {n : Nat} {P : Program} {ops : Array Oper} {rest : List Oper} {o : Oper} {a : Act} {Q : Exit → Act → World → Prop}
theorem wpListIn_load_mid {w : World} (hgd : o.guard = none) (ty : TypeId) (x : Operand) (ho : o.op = .load ty x)
 (b k : Nat) (hx : a.eval x = .pointer (some ⟨b, k, none⟩)) (cs : List Value) (d : TypeDesc) (hc : w.rangeAt b k cs)
 (hu : P.underlying ty = some d) (hd : d.isRow = true) (hi : (P.info? ty).map (·.size) = some cs.length)
 (h : wpListIn F n P ops Q rest (a.put o.dst (.agg cs.toArray)) w) : wpListIn F n P ops Q (o :: rest) a w := by
 refine wpListIn_plain hgd fun K hK => ?_
 unfold Oper.wpIn
 refine ⟨by simp [Oper.about, ho], ?_⟩
 rw [Oper.semAt_plain F _ _ (by rw [ho]; intro c hc'; cases hc')]
 have hrun := run_loadVar_mid (P := P) w b k ty cs d hc hu hd hi
 unfold execOp
 simp only [ho, hx, Instr.loadAt, Instr.sureAddr, Sem.run_bind, Sem.run_pure, Result.andThen_ok]
 rw [hrun]
 simp only [Result.andThen_ok]
 exact hK _ _ h
theorem wpListIn_store_fresh {w0 : World} (hgd : o.guard = none) (ty : TypeId) (x y : Operand) (ho : o.op = .store ty x y) (hd : o.dst = none)
 (w1 : World) (old : Array Value) (t : TypeId) (cells : Array Value) (hw : w0 = w1.alloc (.cells old t)) (hx : a.eval x = .pointer (some ⟨w1.heap.size, 0, none⟩)) (hy : a.eval y = .agg cells)
 (hi : (P.info? ty).map (·.size) = some cells.size) (hold : old.size = cells.size) (h1 : cells.all (·.oneCell') = true)
 (h : ∀ w2 : World, w2.heap[w1.heap.size]? = some (.cells cells t (0, 0)) → w1.grownBy w2 none → w2.heap.size = w1.heap.size + 1 → wpListIn F n P ops Q rest a w2) :
 wpListIn F n P ops Q (o :: rest) a w0 := by
 subst hw
 have hg : (w1.alloc (.cells old t)).heap[w1.heap.size]? = some (.cells old t (0, 0)) := heap_alloc_new w1 _
 have f := ((Fr.refl (· < w1.heap.size) w1).alloc (fun _ h => h) (.cells old t)).trans ((fr_setRow (w1.alloc (.cells old t)) w1.heap.size cells).mono (fun k (hk : k < w1.heap.size) => by show k ≠ w1.heap.size; omega))
 have hsz : ((w1.alloc (.cells old t)).setRow w1.heap.size cells).heap.size = w1.heap.size + 1 := by simp [World.setRow]
 have hfin := h _ (heap_setRow hg cells) ⟨f.os, f.tape, f.output, f.size, fun k hk _ => f.block k hk⟩ hsz
 refine wpListIn_plain hgd fun K hK => ?_
 unfold Oper.wpIn
 refine ⟨by simp [Oper.about, ho], ?_⟩
 rw [Oper.semAt_plain F _ _ (by rw [ho]; intro c hc'; cases hc')]
 have hrun := run_storeVar_row (P := P) (w1.alloc (.cells old t)) w1.heap.size t ty old cells hg hi hold h1
 unfold execOp
 simp only [ho, hx, hy, Instr.storeAt, Instr.sureAddr, Sem.run_bind, Sem.run_pure, Result.andThen_ok]
 rw [hrun]
 simp only [Sem.run_pure, Result.andThen_ok]
 refine hK _ _ ?_
 rw [hd]
 exact hfin
end
def KeepN (n₀ : Nat) (T : Nat → Prop) (w w' : World) : Prop := Below n₀ w w' ∧ ∀ k o, ¬ T k → w.heap[k]? = some o → o.isCells = true → w'.heap[k]? = some o
theorem KeepN.refl {n₀ : Nat} {T : Nat → Prop} (w : World) : KeepN n₀ T w w := ⟨Below.refl _ _, fun _ _ _ h _ => h⟩
theorem KeepN.trans {n₀ : Nat} {T : Nat → Prop} {a b c : World} (h : KeepN n₀ T a b) (k : KeepN n₀ T b c) : KeepN n₀ T a c := ⟨h.1.trans k.1, fun q o h1 h2 h3 => k.2 q o h1 (h.2 q o h1 h2 h3) h3⟩
theorem KeepN.putObj {n₀ : Nat} {T : Nat → Prop} {w : World} (hn : n₀ ≤ w.heap.size) (W : World) (l : Nat) (o o' : Obj) (hl : w.heap.size ≤ l) (h : W.heap[l]? = some o) (hc : o.isCells = false) (hw : o.isWalk = false) : KeepN n₀ T W (W.putObj l o') :=
 ⟨belowK_b hn W l o o' hl h hc hw, fun k q _ h2 h3 => by
  have hne : k ≠ l := fun e => by subst e; rw [h] at h2; cases h2; rw [hc] at h3; cases h3
  exact (World.putObj_heap_other hne).trans h2⟩
theorem KeepN.grown {n₀ : Nat} {T : Nat → Prop} {w w' : World} (h : w.grownBy w' none) (hn : n₀ ≤ w.heap.size) : KeepN n₀ T w w' :=
 ⟨(Below.refl n₀ w).grown h hn (fun k e => by cases e), fun k o _ h2 _ => (h.block k (Array.getElem?_eq_some_iff.1 h2).1 (by simp)).trans h2⟩
theorem KeepN.cells {n₀ : Nat} {T : Nat → Prop} {w w' : World} (h : KeepN n₀ T w w') {k : Nat} {cs : Array Value} {t : TypeId} {fr : Nat × Nat} (hk : ¬ T k) (hc : w.heap[k]? = some (.cells cs t fr)) : w'.heap[k]? = some (.cells cs t fr) := h.2 k _ hk hc rfl
abbrev DL (p : Int → XLine → Prop) := {z : Int × XLine // p z.1 z.2}
def encDL {p : Int → XLine → Prop} (z : DL p) : Array Value := #[.int .i64 z.1.1, .agg (lineL z.1.2).toArray]
theorem linesD_take (es : List XEntry) (k : Nat) (ent d : Int) : (linesD (es.take k) ent d).length ≤ (linesD es ent d).length := by
 have h : linesD (es.take k ++ es.drop k) ent d = linesD (es.take k) ent d ++ linesD (es.drop k) ent d := by simp only [linesD, List.flatMap_append]
 rw [List.take_append_drop] at h
 rw [h, List.length_append]
 omega
theorem linesD_succ {es : List XEntry} {k : Nat} (hk : k < es.length) (ent d : Int) : linesD (es.take (k + 1)) ent d = linesD (es.take k) ent d ++ (if es[k].entity = ent ∧ es[k].date ≤ d then es[k].lines.map (fun y => (es[k].date, y)) else []) := by
 rw [List.take_add_one, List.getElem?_eq_getElem hk]
 simp only [linesD, List.flatMap_append]
 simp
set_option maxRecDepth 100000 in
set_option maxHeartbeats 4000000 in
theorem lines1_in (F : Fence) (m : Nat) (hF : F.fn 57) (hro : F.round = none) (hn : 1 ≤ m) (l Be Bn Bd n₀ : Nat) (T : Nat → Prop) (es : List XEntry) (A : Option Addr) (c : Nat) (ent d : Int) (pp : Int → XLine → Prop) (N0 : Nat) (J Jx : List (DL pp) → World → Prop)
 (hY : ∀ pre x W, J pre W → pre.length < N0 → YieldAt F (m - 1) Tryz.prog l (encDL x) W fun e W' => (e = .returned (.bool true) ∧ J (pre ++ [x]) W' ∧ KeepN n₀ T W W') ∨ (e = .returned (.bool false) ∧ Jx (pre ++ [x]) W'))
 (W : World) (hn0 : n₀ ≤ W.heap.size) (hJ : AbidesFrom W.heap.size J) (hT : ∀ q, T q → q < W.heap.size) (hBe : ¬ T Be ∧ W.heap[Be]? = some (.cells #[.slice A es.length c] 30 (0, 0))) (hBn : ¬ T Bn ∧ W.heap[Bn]? = some (.cells #[.int .i64 ent] 3 (0, 0))) (hBd : ¬ T Bd ∧ W.heap[Bd]? = some (.cells #[.int .i64 d] 3 (0, 0)))
 (hl : ListC EntryC 7 W (· < n₀) [.slice A es.length c] es) (hln : ∀ x ∈ es, x.lines.length ≤ 100000) (hes : es.length ≤ 100000) (hp : ∀ x ∈ es, x.entity = ent → x.date ≤ d → ∀ y ∈ x.lines, pp x.date y) (hN0 : (linesD es ent d).length ≤ N0) (h0 : J [] W) :
 CallsIn F m Tryz.prog 57 #[.func (.yield l) #[] #[], .pointer (some ⟨Be, 0, none⟩), .pointer (some ⟨Bn, 0, none⟩), .pointer (some ⟨Bd, 0, none⟩)] W fun e W' => (∃ v, e = .returned v) ∧
  ((∃ ys : List (DL pp), ys.map (·.1) = linesD es ent d ∧ J ys W') ∨ (∃ pre : List (DL pp), True ∧ Jx pre W')) := by
 have h1 : 1 ≤ m := hn
 obtain ⟨N, hN⟩ : ∃ N, es.length = N := ⟨_, rfl⟩
 have HN := Lib.hid hN
 have HL := Lib.hid hl
 have HLN := Lib.hid hln
 rw [hN] at hBe hes
 have HBE := Lib.hid hBe
 have HBN := Lib.hid hBn
 have HBD := Lib.hid hBd
 have HJA := Lib.hid hJ
 have HT := Lib.hid hT
 have HPP := Lib.hid hp
 have HN0 := Lib.hid hN0
 have c1 := blk_cell hBe.2 0
 clear hl hln hBe hBn hBd hN hJ hT hp hN0
 refine callsIn_of_wp Tryz.func57 rfl hF ?_ hro
 simp only [Tryz.ntmps57, List.size_toArray, List.length_cons, List.length_nil, Nat.reduceAdd, Nat.reduceSub, Array.replicate_succ, Array.replicate_zero, List.push_toArray, List.append_toArray, List.nil_append, List.cons_append]
 gi_wp2_with fail
 gi_loopw [11] (fun i wr => ∃ (k : Nat) (ys : List (DL pp)), k ≤ N ∧ i = .int .i64 (k : Int) ∧ ys.map (·.1) = linesD (es.take k) ent d ∧ J ys wr ∧ KeepN n₀ T W wr) (fun i _ => N - (intOf i).toNat)
 case atStart => exact ⟨0, [], by omega, rfl, rfl, h0, KeepN.refl _⟩
 case round =>
  obtain ⟨k, ys, hk, rfl, hys, hJs, hkp⟩ := hrel
  generalize wr = w3 at *
  have HKP := Lib.hid hkp
  have HJS := Lib.hid hJs
  have HYS := Lib.hid hys
  clear hkp hJs hys
  by_cases hlt : k < N
  case pos =>
   have hltI : (k : Int) < (N : Int) := by omega
   have hkl : k < es.length := by rw [HN.out]; exact hlt
   obtain ⟨eb, eo, cs, hAe, hbw, hxc, hat⟩ := ListC.get HL.out k hkl
   subst hAe
   have hxm : es[k] ∈ es := List.getElem_mem hkl
   have HSUC := Lib.hid (linesD_succ hkl ent d)
   have HTK := Lib.hid (linesD_take es (k + 1) ent d)
   have HPX := Lib.hid (HPP.out es[k] hxm)
   obtain ⟨x, hx⟩ : ∃ x, es[k] = x := ⟨_, rfl⟩
   rw [hx] at hxc hxm HSUC HPX
   have hxl := HLN.out x hxm
   obtain ⟨Al, cl, hcs, hxb, hls⟩ := EntryC.lit hxc
   subst hcs
   have HLS := Lib.hid hls
   have HXD := Lib.hid hxb.2.2.1
   obtain ⟨xi, xe, xd, xk, xo, xt, ls⟩ := x
   simp only at hat HLS hxl HXD HSUC HPX
   obtain ⟨nl, hnl⟩ : ∃ n, ls.length = n := ⟨_, rfl⟩
   have HNL := Lib.hid hnl
   rw [hnl] at hat hxl
   have HAR := Lib.hid ((hat.fr (Fr.ofBelow HKP.out.1)).range)
   have hnz : 0 < N := by omega
   clear hxc hls hat hxm hx hnl hbw hxb
   have HSZ := Lib.hid (show n₀ ≤ w3.heap.size ∧ W.heap.size ≤ w3.heap.size from ⟨by have := HKP.out.1.size; omega, HKP.out.1.size⟩)
   have HJ4 := Lib.hid (fun (w4 : World) (hg : w3.grownBy w4 none) => HJA.out ys w3 w4 none HJS.out hg (fun r e => by cases e))
   by_cases hp : xe = ent ∧ xd ≤ d
   case neg =>
    have HSK := Lib.hid (show linesD (es.take (k + 1)) ent d = linesD (es.take k) ent d by rw [HSUC.out, if_neg hp, List.append_nil])
    obtain ⟨q1, hq1⟩ : ∃ q, (xe != ent) = q := ⟨_, rfl⟩
    obtain ⟨q2, hq2⟩ : ∃ q, decide (d < xd) = q := ⟨_, rfl⟩
    have hq : q1 = true ∨ (q1 = false ∧ q2 = true) := by
     by_cases he : xe = ent
     · right; exact ⟨by rw [← hq1]; simpa using he, by rw [← hq2]; exact decide_eq_true (by have := fun h => hp ⟨he, h⟩; omega)⟩
     · left; rw [← hq1]; simpa using he
    clear hp
    rcases hq with rfl | ⟨rfl, rfl⟩
    · gi_wp2_with (first | (show wpListIn _ _ _ _ _ (Oper.mk (some 14) _ _ _ _ _ :: _) _ _; refine wpListIn_load_mid rfl 46 (.tmp 13) rfl eb (eo + k * 7) rfl [.int .i64 xi, .int .i64 xe, .int .i64 xd, .int .i64 xk, .int .i64 xo, .string xt, .slice Al nl cl] _ HAR.out Tryz.underlying46 rfl info_entry ?_) | (show wpListIn _ _ _ _ _ (Oper.mk none (Op.store _ (Operand.tmp 6) _) _ _ _ _ :: _) _ _; refine wpListIn_store_fresh rfl 46 (.tmp 6) (.tmp 14) rfl rfl w3 #[.int .i64 0, .int .i64 0, .int .i64 0, .int .i64 0, .int .i64 0, .string ⟨#[]⟩, .slice none 0 0] 46 #[.int .i64 xi, .int .i64 xe, .int .i64 xd, .int .i64 xk, .int .i64 xo, .string xt, .slice Al nl cl] rfl rfl rfl info_entry rfl (by simp [Value.oneCell']) ?_; intro w4 H4 HG4 HS4; have f1 := blk_cell H4 1; have f2 := blk_cell H4 2; have f6 := blk_cell H4 6; have e2 := blk_cell ((HKP.out.trans (KeepN.grown HG4 HSZ.out.1)).cells HBN.out.1 HBN.out.2) 0; have e3 := blk_cell ((HKP.out.trans (KeepN.grown HG4 HSZ.out.1)).cells HBD.out.1 HBD.out.2) 0))
      go_roundw
      case rel => exact ⟨k + 1, ys, by omega, by go_num, by rw [HSK.out]; exact HYS.out, HJ4.out _ HG4, HKP.out.trans (KeepN.grown HG4 HSZ.out.1)⟩
      case measure => first | exact meas_v hlt | (simp only [intOf]; omega)
    · gi_wp2_with (first | (show wpListIn _ _ _ _ _ (Oper.mk (some 14) _ _ _ _ _ :: _) _ _; refine wpListIn_load_mid rfl 46 (.tmp 13) rfl eb (eo + k * 7) rfl [.int .i64 xi, .int .i64 xe, .int .i64 xd, .int .i64 xk, .int .i64 xo, .string xt, .slice Al nl cl] _ HAR.out Tryz.underlying46 rfl info_entry ?_) | (show wpListIn _ _ _ _ _ (Oper.mk none (Op.store _ (Operand.tmp 6) _) _ _ _ _ :: _) _ _; refine wpListIn_store_fresh rfl 46 (.tmp 6) (.tmp 14) rfl rfl w3 #[.int .i64 0, .int .i64 0, .int .i64 0, .int .i64 0, .int .i64 0, .string ⟨#[]⟩, .slice none 0 0] 46 #[.int .i64 xi, .int .i64 xe, .int .i64 xd, .int .i64 xk, .int .i64 xo, .string xt, .slice Al nl cl] rfl rfl rfl info_entry rfl (by simp [Value.oneCell']) ?_; intro w4 H4 HG4 HS4; have f1 := blk_cell H4 1; have f2 := blk_cell H4 2; have f6 := blk_cell H4 6; have e2 := blk_cell ((HKP.out.trans (KeepN.grown HG4 HSZ.out.1)).cells HBN.out.1 HBN.out.2) 0; have e3 := blk_cell ((HKP.out.trans (KeepN.grown HG4 HSZ.out.1)).cells HBD.out.1 HBD.out.2) 0))
      go_roundw
      case rel => exact ⟨k + 1, ys, by omega, by go_num, by rw [HSK.out]; exact HYS.out, HJ4.out _ HG4, HKP.out.trans (KeepN.grown HG4 HSZ.out.1)⟩
      case measure => first | exact meas_v hlt | (simp only [intOf]; omega)
   case pos =>
    have hq1 : (xe != ent) = false := by simpa using hp.1
    have hq2 : decide (d < xd) = false := decide_eq_false (by omega)
    have HSK := Lib.hid (show linesD (es.take (k + 1)) ent d = linesD (es.take k) ent d ++ ls.map (fun y => (xd, y)) by rw [HSUC.out, if_pos hp])
    have HPL := Lib.hid (HPX.out hp.1 hp.2)
    clear hp
    gi_wp2_with (first | (show wpListIn _ _ _ _ _ (Oper.mk (some 14) _ _ _ _ _ :: _) _ _; refine wpListIn_load_mid rfl 46 (.tmp 13) rfl eb (eo + k * 7) rfl [.int .i64 xi, .int .i64 xe, .int .i64 xd, .int .i64 xk, .int .i64 xo, .string xt, .slice Al nl cl] _ HAR.out Tryz.underlying46 rfl info_entry ?_) | (show wpListIn _ _ _ _ _ (Oper.mk none (Op.store _ (Operand.tmp 6) _) _ _ _ _ :: _) _ _; refine wpListIn_store_fresh rfl 46 (.tmp 6) (.tmp 14) rfl rfl w3 #[.int .i64 0, .int .i64 0, .int .i64 0, .int .i64 0, .int .i64 0, .string ⟨#[]⟩, .slice none 0 0] 46 #[.int .i64 xi, .int .i64 xe, .int .i64 xd, .int .i64 xk, .int .i64 xo, .string xt, .slice Al nl cl] rfl rfl rfl info_entry rfl (by simp [Value.oneCell']) ?_; intro w4 H4 HG4 HS4; have f1 := blk_cell H4 1; have f2 := blk_cell H4 2; have f6 := blk_cell H4 6; have e2 := blk_cell ((HKP.out.trans (KeepN.grown HG4 HSZ.out.1)).cells HBN.out.1 HBN.out.2) 0; have e3 := blk_cell ((HKP.out.trans (KeepN.grown HG4 HSZ.out.1)).cells HBD.out.1 HBD.out.2) 0))
    have HX4 := Lib.hid H4
    have HDT := Lib.hid (show ¬ T w3.heap.size from fun ht => by have h1 := HT.out _ ht; have h2 := HSZ.out.2; omega)
    have HKP4 := Lib.hid (HKP.out.trans (KeepN.grown HG4 HSZ.out.1))
    have HSZ4 := Lib.hid (show n₀ ≤ w4.heap.size ∧ W.heap.size ≤ w4.heap.size from ⟨by have := HSZ.out.1; omega, by have := HSZ.out.2; omega⟩)
    have HJ5 := Lib.hid (HJ4.out _ HG4)
    clear H4 HG4 HS4 e2 e3 f1 f2 f6 HJ4 HJS HAR
    gi_loopw [28] (fun i wr => ∃ (j : Nat) (zs : List (DL pp)), j ≤ nl ∧ i = .int .i64 (j : Int) ∧ zs.map (·.1) = linesD (es.take k) ent d ++ (ls.take j).map (fun y => (xd, y)) ∧ J zs wr ∧ KeepN n₀ T w4 wr) (fun i _ => nl - (intOf i).toNat)
    case atStart => exact ⟨0, ys, by omega, rfl, by simp [HYS.out], HJ5.out, KeepN.refl _⟩
    case round =>
     obtain ⟨j, zs, hj, rfl, hzs, hJz, hkz⟩ := hrel
     generalize wr = w5 at *
     have HKZ := Lib.hid hkz
     have HJZ := Lib.hid hJz
     have HZS := Lib.hid hzs
     clear hkz hJz hzs
     by_cases hlj : j < nl
     case pos =>
      have hljI : (j : Int) < (nl : Int) := by omega
      have hjl : j < ls.length := by rw [HNL.out]; exact hlj
      obtain ⟨lb, lo, lcs, hAl, hlbw, hlc, hlat⟩ := ListC.get HLS.out j hjl
      subst hAl
      obtain ⟨hlcs, hlbd⟩ := LineC.lit hlc
      subst hlcs
      have HSUJ := Lib.hid (show (ls.take (j + 1)).map (fun y => (xd, y)) = (ls.take j).map (fun y => (xd, y)) ++ [(xd, ls[j])] by rw [List.take_add_one, List.getElem?_eq_getElem hjl, List.map_append]; rfl)
      obtain ⟨y, hy⟩ : ∃ y, ls[j] = y := ⟨_, rfl⟩
      have hpy := HPL.out ls[j] (List.getElem_mem hjl)
      rw [hy] at hlat hlbd HSUJ hpy
      have HPY := Lib.hid hpy
      have HLB := Lib.hid hlbd
      obtain ⟨la, lm, lp⟩ := y
      have hkall := HKP4.out.trans HKZ.out
      have HLR := Lib.hid (show w5.rangeAt lb (lo + j * 3) [.int .i64 la, .int .i64 lm, .int .i64 lp] from (hlat.fr (Fr.ofBelow hkall.1)).range)
      have g2 := blk_cell (HKZ.out.cells HDT.out HX4.out) 2
      have g6 := blk_cell (HKZ.out.cells HDT.out HX4.out) 6
      have HSZ5 := Lib.hid (show n₀ ≤ w5.heap.size ∧ W.heap.size ≤ w5.heap.size from ⟨by have := HSZ4.out.1; have := HKZ.out.1.size; omega, by have := HSZ4.out.2; have := HKZ.out.1.size; omega⟩)
      have HLT := Lib.hid (show zs.length < N0 by
       have h1 := congrArg List.length HZS.out
       have h2 := congrArg List.length HSK.out
       have h3 := HTK.out
       have h4 := HN0.out
       rw [List.length_map, List.length_append, List.length_map, List.length_take] at h1
       rw [List.length_append, List.length_map] at h2
       have h5 := HNL.out
       omega)
      have HYW := Lib.hid (fun (w6 : World) (hg : w5.grownBy w6 none) => show YieldAt F (m - 1) Tryz.prog l #[.int .i64 xd, .agg #[.int .i64 la, .int .i64 lm, .int .i64 lp]] w6 (fun e W' => (e = .returned (.bool true) ∧ J (zs ++ [⟨(xd, ⟨la, lm, lp⟩), HPY.out⟩]) W' ∧ KeepN n₀ T w6 W') ∨ (e = .returned (.bool false) ∧ Jx (zs ++ [⟨(xd, ⟨la, lm, lp⟩), HPY.out⟩]) W')) from hY zs ⟨(xd, ⟨la, lm, lp⟩), HPY.out⟩ w6 (HJA.out zs w5 w6 none HJZ.out hg (fun r e => by cases e)) HLT.out)
      have hnzl : 0 < nl := by omega
      clear hlat hlc hlbw hlbd hy hkall hpy
      gi_wp2_with (first | (show wpListIn _ _ _ _ _ (Oper.mk (some 31) _ _ _ _ _ :: _) _ _; refine wpListIn_load_mid rfl 76 (.tmp 30) rfl lb (lo + j * 3) rfl [.int .i64 la, .int .i64 lm, .int .i64 lp] _ HLR.out Tryz.underlying76 rfl info_line ?_) | (show wpListIn _ _ _ _ _ (Oper.mk none (Op.store _ (Operand.tmp 8) _) _ _ _ _ :: _) _ _; refine wpListIn_store_fresh rfl 76 (.tmp 8) (.tmp 31) rfl rfl w5 #[.int .i64 0, .int .i64 0, .int .i64 0] 76 #[.int .i64 la, .int .i64 lm, .int .i64 lp] rfl rfl rfl info_line rfl (by simp [Value.oneCell']) ?_; intro w6 H6 HG6 HS6; have g2 := blk_cell ((HKZ.out.trans (KeepN.grown HG6 HSZ5.out.1)).cells HDT.out HX4.out) 2; obtain ⟨fn, tmps, assign, body, hyr, hR⟩ := HYW.out w6 HG6; have hh6 := H6) | (show wpListIn _ _ _ _ _ (Oper.mk (some 35) _ _ _ _ _ :: _) _ _; refine wpListIn_load_row rfl 76 (.tmp 8) rfl w5.heap.size rfl _ _ _ _ hh6 Tryz.underlying76 rfl info_line ?_))
      refine hR.mono ?_
      rintro e w7 (⟨rfl, hJ7, hk7⟩ | ⟨rfl, hJ7⟩)
      rotate_left
      · have HJ7 := Lib.hid hJ7
        clear hJ7 hR hyr g2 g6 H6 hh6 HG6 HS6
        gi_wp2_with fail
        refine bodyPost_ret (results_none rfl _ _ _) rfl ?_
        exact ⟨⟨_, rfl⟩, .inr ⟨_, trivial, HJ7.out⟩⟩
      have HJ7 := Lib.hid hJ7
      have HK7 := Lib.hid hk7
      have HG6h := Lib.hid HG6
      clear hJ7 hk7 hR hyr g2 g6 H6 hh6 HG6 HS6
      gi_wp2_with fail
      go_roundw
      case rel => exact ⟨j + 1, zs ++ [⟨(xd, ⟨la, lm, lp⟩), HPY.out⟩], by omega, by go_num, by rw [List.map_append, HZS.out, HSUJ.out, List.append_assoc]; rfl, HJ7.out, HKZ.out.trans ((KeepN.grown HG6h.out HSZ5.out.1).trans HK7.out)⟩
      case measure => first | exact meas_v hlj | (simp only [intOf]; omega)
     case neg =>
      have hljI : ¬ (j : Int) < (nl : Int) := by omega
      have hta : ls.take j = ls := List.take_of_length_le (by rw [HNL.out]; omega)
      have HZS2 := Lib.hid (show zs.map (·.1) = linesD (es.take (k + 1)) ent d by rw [HSK.out, HZS.out, hta])
      gi_wp2_with fail
      go_roundw
      case rel => exact ⟨k + 1, zs, by omega, by go_num, HZS2.out, HJZ.out, HKP4.out.trans HKZ.out⟩
      case measure => first | exact meas_v hlt | (simp only [intOf]; omega)
  case neg =>
   have hltI : ¬ (k : Int) < (N : Int) := by omega
   have hta : es.take k = es := List.take_of_length_le (by rw [HN.out]; omega)
   have HYS2 := Lib.hid (show ys.map (·.1) = linesD es ent d by have := HYS.out; rwa [hta] at this)
   gi_wp2_with fail
   go_end0
   exact ⟨⟨_, rfl⟩, .inl ⟨ys, HYS2.out, HJS.out⟩⟩
theorem lines_gives (F : Fence) (m : Nat) (hF : F.fn 57) (hro : F.round = none) (hn : 1 ≤ m) (Be Bn Bd n₀ : Nat) (T : Nat → Prop) (es : List XEntry) (A : Option Addr) (c : Nat) (ent d : Int) (pp : Int → XLine → Prop) (N0 : Nat) (w : World)
 (hn0 : n₀ ≤ w.heap.size) (hT : ∀ q, T q → q < w.heap.size) (hBe : ¬ T Be ∧ w.heap[Be]? = some (.cells #[.slice A es.length c] 30 (0, 0))) (hBn : ¬ T Bn ∧ w.heap[Bn]? = some (.cells #[.int .i64 ent] 3 (0, 0))) (hBd : ¬ T Bd ∧ w.heap[Bd]? = some (.cells #[.int .i64 d] 3 (0, 0)))
 (hl : ListC EntryC 7 w (· < n₀) [.slice A es.length c] es) (hln : ∀ x ∈ es, x.lines.length ≤ 100000) (hes : es.length ≤ 100000) (hp : ∀ x ∈ es, x.entity = ent → x.date ≤ d → ∀ y ∈ x.lines, pp x.date y) (hN0 : (linesD es ent d).length ≤ N0) :
 SeqStopsK F m Tryz.prog 57 #[.pointer (some ⟨Be, 0, none⟩), .pointer (some ⟨Bn, 0, none⟩), .pointer (some ⟨Bd, 0, none⟩)] (encDL (p := pp)) (KeepN n₀ T) (fun ys => ys.map (·.1) = linesD es ent d) (fun _ => True) N0 w := fun l J Jx W hW hJ hJx hY h0 => by
 have hs := hW.size
 have kp : ∀ {q : Nat} {o : Obj}, w.heap[q]? = some o → W.heap[q]? = some o := fun {q o} h => (hW.block q (Array.getElem?_eq_some_iff.1 h).1).trans h
 exact lines1_in F m hF hro hn l Be Bn Bd n₀ T es A c ent d pp N0 J Jx (fun pre x W1 h1 h2 => hY pre x W1 h1 h2) W (by omega) hJ (fun q h => by have := hT q h; omega) ⟨hBe.1, kp hBe.2⟩ ⟨hBn.1, kp hBn.2⟩ ⟨hBd.1, kp hBd.2⟩
  (hl.fr (fun h => EntryC.fr h ((Fr.ofBelow hW).mono (fun q (hq : q < n₀) => (by omega : q < w.heap.size)))) ((Fr.ofBelow hW).mono (fun q (hq : q < n₀) => (by omega : q < w.heap.size)))) hln hes hp hN0 h0
end Go.Proofs.YtekelchdbkjjjaaGreat
