/- Locks as keys of a map; the set of locks. -/
import Derived.Test.YtebdajkknkapcaaGreatG12xB0B2
import Derived.Test.YtebdajkknkapcaaGreatG12xB3B8
import Derived.Test.YtebdajkknkapcaaGreatG12xB9B13
import Derived.Test.YtebdajkknkapcaaGreatG12xB14
import Derived.Test.YtebdajkknkapcaaGreatG12xB16
import Derived.Test.YtebdajkknkapcaaGreatG12xB17B24
import Derived.Test.YtebdajkknkapcaaGreatG12xB25B28
import Derived.Test.YtebdajkknkapcaaGreatG12xB29B32
import Derived.Test.YtebdajkknkapcaaGreatG12xB33S2
import Derived.Test.YtebdajkknkapcaaGreatG12xC4E3
import Derived.Test.YtebdajkknkapcaaGreatG12xE6F6
import Derived.Test.YtebdajkknkapcaaGreatG12xF4I7
import Derived.Test.YtebdajkknkapcaaGreatG12xI8I11
import Derived.Test.YtebdajkknkapcaaGreatG12xI12
import Derived.Test.YtebdajkknkapcaaGreatG12xI13I15
import Derived.Test.YtebdajkknkapcaaGreatG12xI16I17
import Derived.Test.YtebdajkknkapcaaGreatG12xI19Q2
import Derived.Test.YtebdajkknkapcaaGreatProg
import Derived.Maps.RangeWalk
import Derived.Shelf.SlSortCmp.WholeK
import Derived.Shelf.SlSortCmp.NoneTotal
import Derived.Shelf.SlIter.Collect
import Derived.Maps.OwnSet
import Derived.Shelf.SlMaps.Clone
set_option linter.unusedVariables false
set_option linter.unusedSimpArgs false
set_option maxRecDepth 4000
attribute [local go_sem ↓] Go.wp_at_zero Go.wp_at_succ
namespace Go.Proofs.YtebdajkknkapcaaGreat
open Go Go.RowKit Go.ChangeMaps
open Go.Maps (Keyed)
open Go.WideMaps (KeyLaw)
theorem lock_row : (143 : TypeId) < Tryz.prog.types.size := of_decide_eq_true (by kernel_rfl)
theorem lock_wide : (match Tryz.prog.underlying 143 with | some (.array _ _) | some (.struct _) => true | _ => false) = true := by kernel_rfl
theorem lock_law : KeyLaw Tryz.prog 143 := deep_law_laid try_laidOut (m := 2) (by omega) lock_row (by kernel_rfl) lock_wide
theorem lock_keyed : Keyed Tryz.prog 143 := Keyed.of_law lock_law
theorem lock_cells : Tryz.prog.cellsOf 143 = 2 := by kernel_rfl
theorem lock_keyLits {d : Nat} {a z : Int} (ha : intBd a) (hz : intBd z) : Tryz.prog.keyLits (d + 2) 143 [.int .i64 a, .int .i64 z] = some [.int .i64 a, .int .i64 z] := by
 unfold Program.keyLits
 rw [Tryz.underlying143]
 have h1 := keyLits_int (d := d) ha
 have h2 := keyLits_int (d := d) hz
 simp [lock_cells, int_cells, h1, h2]
theorem lock_keyType : Tryz.prog.keyType 143 = true := by kernel_rfl
theorem lock_isStruct : ∃ fs, Tryz.prog.underlying 143 = some (.struct fs) := ⟨_, Tryz.underlying143⟩
theorem lock_formed {a b : Value} : (Value.agg #[a, b]).formed Tryz.prog 143 = true := by
 obtain ⟨fs, hu⟩ := lock_isStruct
 simp [Value.formed, hu, lock_cells]
abbrev KK := {p : Int × Int // intBd p.1 ∧ intBd p.2}
def kKey (c : KK) : Lit := .string (keyBytes [.int .i64 c.1.1, .int .i64 c.1.2])
def kVal (c : KK) : Value := .agg #[.int .i64 c.1.1, .int .i64 c.1.2]
theorem kKey_of (c : KK) : keyOf Tryz.prog 143 (kVal c) = some (kKey c) := by
 obtain ⟨fs, hu⟩ := lock_isStruct
 obtain ⟨d, hd⟩ := types_size
 unfold keyOf kVal
 rw [hu]
 simp only [lock_keyType, lock_formed, Bool.and_self, if_true, hd, Value.cells]
 rw [lock_keyLits c.2.1 c.2.2]; rfl
theorem kKey_inj (x y : KK) (h : kKey x = kKey y) : x = y := by
 have h1 := kKey_of x
 have h2 := kKey_of y
 rw [← h] at h2
 have h3 := lock_keyed.inj h1 h2
 have h4 := congrArg Array.toList (Value.agg.inj h3)
 simp only [List.cons.injEq, Value.int.injEq, true_and, and_true] at h4
 exact Subtype.ext (Prod.ext h4.1 h4.2)
theorem kKey_lit (x : KK) : WideAt.IsKeyLit (kKey x) := trivial
theorem kmap_uty : Tryz.prog.underlying 137 = some (.map 143 4) := by kernel_rfl
def MapL (w : World) (b n : Nat) (f : KK → Bool) : Prop :=
 ∃ D : UD, w.ownsMap Tryz.prog 143 (plainElem Tryz.prog 4) b n D ∧ ∀ c : KK, Maps.has D (kKey c) = f c ∧ D.atKey (kKey c) (.lit (.bool false)) = .lit (.bool (f c))
section
variable {w w' : World} {b n : Nat} {f : KK → Bool}
theorem MapL.made (w : World) : MapL (w.alloc (.map #[] 0)) w.heap.size 0 (fun _ => false) := ⟨_, World.ownsMap_made w Tryz.prog 143 _, fun _ => ⟨rfl, rfl⟩⟩
theorem MapL.lt (h : MapL w b n f) : b < w.heap.size := by
 obtain ⟨D, h1, h2⟩ := h
 exact h1.lt
theorem MapL.same (h : MapL w b n f) (hb : w'.heap[b]? = w.heap[b]?) : MapL w' b n f := by
 obtain ⟨D, ⟨es, clock, h1, h3, h4, h5⟩, h2⟩ := h
 exact ⟨D, ⟨es, clock, hb.trans h1, h3, h4, h5⟩, h2⟩
theorem MapL.fr {Q : Nat → Prop} (h : MapL w b n f) (hf : Fr Q w w') (hb : Q b) : MapL w' b n f := h.same (hf.block b hb)
theorem MapL.below (h : MapL w b n f) (hb : Below w.heap.size w w') : MapL w' b n f := h.fr (Fr.ofBelow hb) h.lt
theorem MapL.mono (h : MapL w b n f) {n' : Nat} (hn : n ≤ n') : MapL w b n' f := by
 obtain ⟨D, h1, h2⟩ := h
 exact ⟨D, h1.mono hn, h2⟩
theorem MapL.eqv {g : KK → Bool} (h : MapL w b n f) (hg : ∀ c, f c = g c) : MapL w b n g := by
 obtain ⟨D, h1, h2⟩ := h
 exact ⟨D, h1, fun c => by rw [← hg c]; exact h2 c⟩
theorem MapL.look (h : MapL w b n f) (c : KK) : (Instr.lookup 137 (.map (some b)) (kVal c) false).run Tryz.prog w = .ok (.bool (f c)) w := by
 obtain ⟨D, h1, h2⟩ := h
 obtain ⟨v, ps, hrun, hv⟩ := h1.lookup lock_keyed kmap_uty (bool_zero w) (plainElem_bool bool_uty false) (kKey_of c)
 obtain ⟨a, rfl, ha⟩ := plainElem_bool_inv bool_uty hv
 rw [(h2 c).2] at ha
 simp only [Prod.mk.injEq, DataW.lit.injEq, Lit.bool.injEq] at ha
 rw [hrun, ha.1]
theorem fr_turned {w w' : World} {b : Nat} (h : w.mapTurned w' b) : Fr (fun q => q ≠ b) w w' ∧ w'.heap.size = w.heap.size := by
 obtain ⟨es, clock, es', clock', hb, rfl⟩ := h
 exact ⟨⟨rfl, rfl, rfl, by simp [setBlock], fun i hi => heap_setBlock_other hb _ hi⟩, by simp [setBlock]⟩
theorem MapL.store (h : MapL w b n f) (hn : n < maxLen) (c : KK) :
 ∃ w', (Instr.mapUpdate 137 (.map (some b)) (kVal c) (.bool true)).run Tryz.prog w = .ok () w' ∧ MapL w' b (n + 1) (fun d => if d = c then true else f d) ∧ Fr (fun q => q ≠ b) w w' ∧ w'.heap.size = w.heap.size := by
 obtain ⟨D, h1, h2⟩ := h
 obtain ⟨w2, hrun, h3, h4⟩ := h1.store lock_keyed kmap_uty hn (kKey_of c) (plainElem_bool bool_uty true)
 have hm : Maps.IsMap D := h1.isMap
 refine ⟨w2, hrun, ⟨_, h3, fun d => ?_⟩, fr_turned h4⟩
 by_cases hd : d = c
 · subst hd
   rw [Maps.atKey_put_same hm (kKey_lit d), Maps.has_put_same hm (kKey_lit d)]; simp
 · have hne : kKey d ≠ kKey c := fun e => hd (kKey_inj _ _ e)
   rw [Maps.atKey_put_other hne, Maps.has_put_other hne]; simp only [if_neg hd]; exact h2 d
theorem MapL.drop (h : MapL w b n f) (c : KK) (ty : TypeId) :
 ∃ w', (Builtin.delete_ #[137, 143] ty #[.map (some b), kVal c]).run Tryz.prog w = .ok (.tuple #[]) w' ∧ MapL w' b n (fun d => if d = c then false else f d) ∧ Fr (fun q => q ≠ b) w w' ∧ w'.heap.size = w.heap.size := by
 obtain ⟨D, h1, h2⟩ := h
 obtain ⟨w2, hrun, h3, h4⟩ := h1.drop lock_keyed kmap_uty (kKey_of c) ty
 refine ⟨w2, hrun, ⟨_, h3, fun d => ?_⟩, fr_turned h4⟩
 by_cases hd : d = c
 · subst hd
   rw [Maps.atKey_del_same, Maps.has_del_same]; simp
 · have hne : kKey d ≠ kKey c := fun e => hd (kKey_inj _ _ e)
   rw [Maps.atKey_del_other hne, Maps.has_del_other hne]; simp only [if_neg hd]; exact h2 d
end
end Go.Proofs.YtebdajkknkapcaaGreat
namespace Go.Proofs.YtebdajkknkapcaaGreat
open Go Go.RowKit
def LkC (w : World) (L b : Nat) (y m p ne : Int) (n : Nat) (f : KK → Bool) : Prop :=
 w.heap[L]? = some (.cells #[.int .i64 y, .int .i64 m, .int .i64 p, .int .i64 ne, .map (some b)] 139 (0, 0)) ∧ MapL w b n f ∧ L ≠ b
theorem LkC.fr {w w' : World} {Q : Nat → Prop} {L b : Nat} {y m p ne : Int} {n : Nat} {f : KK → Bool} (h : LkC w L b y m p ne n f) (hf : Fr Q w w') (hL : Q L) (hb : Q b) : LkC w' L b y m p ne n f := ⟨(hf.block L hL).trans h.1, h.2.1.fr hf hb, h.2.2⟩
theorem LkC.below {w w' : World} {L b : Nat} {y m p ne : Int} {n : Nat} {f : KK → Bool} (h : LkC w L b y m p ne n f) (hb : Below w.heap.size w w') : LkC w' L b y m p ne n f := h.fr (Fr.ofBelow hb) (blk_lt h.1) h.2.1.lt
end Go.Proofs.YtebdajkknkapcaaGreat
namespace Go.Proofs.YtebdajkknkapcaaGreat
open Go Go.RowKit Go.ChangeMaps
open Go.Maps (Keyed)
theorem kKey_same {a c : KK} : (kKey a).sameKey (kKey c) = true ↔ a = c :=
 ⟨fun h => kKey_inj _ _ (WideAt.sameKey_eq h), fun h => by rw [h]; exact WideAt.sameKey_self (kKey_lit c)⟩
def MostP (f : KK → Bool) (e last : Int) : Prop := (∀ c : KK, f c = true → c.1.1 = e → c.1.2 ≤ last) ∧ (last = -1 ∨ ∃ c : KK, f c = true ∧ c.1.1 = e ∧ c.1.2 = last)
theorem MostP.uniq {f : KK → Bool} {e a b : Int} (hp : ∀ c, f c = true → 0 ≤ c.1.2) (ha : MostP f e a) (hb : MostP f e b) : a = b := by
 rcases ha.2 with h1 | ⟨c, h1, h2, h3⟩ <;> rcases hb.2 with k1 | ⟨d, k1, k2, k3⟩
 · omega
 · have := ha.1 d k1 k2; have := hp d k1; omega
 · have := hb.1 c h1 h2; have := hp c h1; omega
 · have := ha.1 d k1 k2; have := hb.1 c h1 h2; omega
def KInv (f : KK → Bool) (e : Int) (left : Lit → Bool) (last : Int) : Prop := (∀ c : KK, left (kKey c) = true → f c = true) ∧ (∀ c : KK, f c = true → c.1.1 = e → left (kKey c) = false → c.1.2 ≤ last) ∧ (last = -1 ∨ ∃ c : KK, f c = true ∧ c.1.1 = e ∧ c.1.2 = last) ∧ -1 ≤ last ∧ last ≤ 1000
theorem KInv.step {f : KK → Bool} {e last : Int} {left : Lit → Bool} (h : KInv f e left last) {c : KK} (hl : left (kKey c) = true) (hc : c.1.1 = e) (hb : 0 ≤ c.1.2 ∧ c.1.2 ≤ 1000) {l2 : Int} (hm : (c.1.2 ≤ last ∧ l2 = last) ∨ (last < c.1.2 ∧ l2 = c.1.2)) : KInv f e (fun z => left z && !z.sameKey (kKey c)) l2 := by
 obtain ⟨h1, h2, h3, h4, h5⟩ := h
 have hf := h1 c hl
 refine ⟨fun d hd => h1 d (by simp at hd; exact hd.1), fun d hf hd hl => ?_, ?_, by omega, by omega⟩
 · simp only [Bool.and_eq_false_iff, Bool.not_eq_false'] at hl
   rcases hl with hl | hl
   · have := h2 d hf hd hl; omega
   · rw [kKey_same.1 hl]; omega
 · rcases hm with ⟨hm, rfl⟩ | ⟨hm, rfl⟩
   · exact h3
   · exact Or.inr ⟨c, hf, hc, rfl⟩
theorem KInv.done {f : KK → Bool} {e last : Int} {left : Lit → Bool} (h : KInv f e left last) (hl : ∀ kl, left kl = false) : MostP f e last := ⟨fun c hf hc => h.2.1 c hf hc (hl _), h.2.2.1⟩
def untD (y m p last : Int) : Int := if last < 0 then 0 else (calLast y m p last).1
end Go.Proofs.YtebdajkknkapcaaGreat
namespace Go.Proofs.YtebdajkknkapcaaGreat
open Go Go.RowKit
def chkL (y m p ne e d last : Int) : Int := if e < 0 ∨ ne ≤ e then 1 else if 0 ≤ last ∧ d ≤ untD y m p last then 12 else 0
theorem LkC.more {w : World} {L b : Nat} {y m p ne : Int} {n : Nat} {f : KK → Bool} (h : LkC w L b y m p ne n f) : LkC w L b y m p ne (n + 1) f := ⟨h.1, h.2.1.mono (Nat.le_succ n), h.2.2⟩
def bdS (x : XStep) : Prop := intBd x.entity ∧ intBd x.period
instance (x : XStep) : Decidable (bdS x) := by unfold bdS intBd; infer_instance
theorem kk0 : intBd ((0 : Int), (0 : Int)).1 ∧ intBd ((0 : Int), (0 : Int)).2 := by unfold intBd; omega
theorem MostP.same {f g : KK → Bool} {e a : Int} (h : ∀ c : KK, c.1.1 = e → f c = g c) (ha : MostP f e a) : MostP g e a :=
 ⟨fun c hc he => ha.1 c ((h c he).trans hc) he, ha.2.imp id (fun ⟨c, h1, h2, h3⟩ => ⟨c, (h c h2).symm.trans h1, h2, h3⟩)⟩
def ckP (y m p ne : Int) (f : KK → Bool) (e d r : Int) : Prop := (e < 0 ∨ ne ≤ e) ∧ r = 1 ∨ ∃ last, MostP f e last ∧ -1 ≤ last ∧ r = chkL y m p ne e d last
theorem ckP.uniq {y m p ne : Int} {f g : KK → Bool} {e d r s : Int} (hf : ∀ c, f c = true → 0 ≤ c.1.2) (h : ∀ c : KK, c.1.1 = e → f c = g c) (h1 : ckP y m p ne f e d r) (h2 : ckP y m p ne g e d s) : r = s := by
 rcases h1 with ⟨a, rfl⟩ | ⟨l1, m1, b1, rfl⟩
 · rcases h2 with ⟨_, rfl⟩ | ⟨l2, m2, b2, rfl⟩
   · rfl
   · unfold chkL; rw [if_pos a]
 · rcases h2 with ⟨a, rfl⟩ | ⟨l2, m2, b2, rfl⟩
   · unfold chkL; rw [if_pos a]
   · rw [m1.uniq hf (m2.same (fun c hc => (h c hc).symm))]
def ltK (a c : KK) : Prop := a.1.1 < c.1.1 ∨ a.1.1 = c.1.1 ∧ a.1.2 < c.1.2
theorem ltK_irr (a : KK) : ¬ ltK a a := fun h => by unfold ltK at h; omega
theorem ltK_trans {a b c : KK} (h : ltK a b) (h2 : ltK b c) : ltK a c := by unfold ltK at *; omega
theorem sortedK_uniq : ∀ {a b : List KK}, a.Pairwise ltK → b.Pairwise ltK → (∀ c, c ∈ a ↔ c ∈ b) → a = b
 | [], [], _, _, _ => rfl
 | [], y :: b, _, _, h => absurd ((h y).2 (List.mem_cons_self ..)) (by simp)
 | x :: a, [], _, _, h => absurd ((h x).1 (List.mem_cons_self ..)) (by simp)
 | x :: a, y :: b, ha, hb, h => by
  obtain ⟨ha1, ha2⟩ := List.pairwise_cons.1 ha
  obtain ⟨hb1, hb2⟩ := List.pairwise_cons.1 hb
  have hxy : x = y := by
   rcases List.mem_cons.1 ((h x).1 (List.mem_cons_self ..)) with e | hx
   · exact e
   · rcases List.mem_cons.1 ((h y).2 (List.mem_cons_self ..)) with e | hy
     · exact e.symm
     · exact absurd (ltK_trans (hb1 x hx) (ha1 y hy)) (ltK_irr y)
  subst hxy
  rw [sortedK_uniq ha2 hb2 (fun c => ?_)]
  constructor
  · intro hc
    rcases List.mem_cons.1 ((h c).1 (List.mem_cons_of_mem _ hc)) with e | h2
    · subst e; exact absurd (ha1 c hc) (ltK_irr c)
    · exact h2
  · intro hc
    rcases List.mem_cons.1 ((h c).2 (List.mem_cons_of_mem _ hc)) with e | h2
    · subst e; exact absurd (hb1 c hc) (ltK_irr c)
    · exact h2
def ListK (f : KK → Bool) (ks : List KK) : Prop := ks.Pairwise ltK ∧ ∀ c, c ∈ ks ↔ f c = true
theorem ListK.uniq {f g : KK → Bool} {a b : List KK} (h : ∀ c, f c = g c) (ha : ListK f a) (hb : ListK g b) : a = b := sortedK_uniq ha.1 hb.1 (fun c => by rw [ha.2, hb.2, h])
abbrev stepL (x : XStep) : List Value := [.int .i64 x.entity, .int .i64 x.period, .bool x.unlock]
theorem StepC.lit {w : World} {Q : Nat → Prop} {cs : List Value} {x : XStep} (h : StepC w Q cs x) : cs = stepL x ∧ bdS x := by
 obtain ⟨c0, c1, c2, rfl, ⟨rfl, h0⟩, ⟨rfl, h1⟩, h2⟩ := h
 have e2 : c2 = _ := h2
 subst e2
 exact ⟨rfl, h0, h1⟩
end Go.Proofs.YtebdajkknkapcaaGreat
namespace Go.Proofs.YtebdajkknkapcaaGreat
open Go Go.RowKit Go.Sort
def kL (c : KK) : List Value := [.int .i64 c.1.1, .int .i64 c.1.2]
end Go.Proofs.YtebdajkknkapcaaGreat
namespace Go.Proofs.YtebdajkknkapcaaGreat
open Go Go.RowKit Go.Shelf Go.Lib
open Go.Sort hiding Below
instance : Inhabited KK := ⟨⟨(0, 0), kk0⟩⟩
def KC (w : World) (Q : Nat → Prop) (cs : List Value) (c : KK) : Prop := cs = kL c
end Go.Proofs.YtebdajkknkapcaaGreat
namespace Go.Proofs.YtebdajkknkapcaaGreat
open Go Go.RowKit Go.Shelf
open Go.Maps (Keyed)
def CollK (f : KK → Bool) (left : Lit → Bool) (ss : List KK) : Prop := ss.Nodup ∧ (∀ c, c ∈ ss ↔ (f c = true ∧ left (kKey c) = false)) ∧ ∀ c, left (kKey c) = true → f c = true
theorem CollK.step {f : KK → Bool} {left : Lit → Bool} {ss : List KK} (h : CollK f left ss) {c : KK} (hl : left (kKey c) = true) : CollK f (fun z => left z && !z.sameKey (kKey c)) (ss ++ [c]) := by
 obtain ⟨h1, h2, h3⟩ := h
 have hnew : c ∉ ss := fun hx => by have := ((h2 c).1 hx).2; rw [hl] at this; cases this
 refine ⟨List.nodup_append.2 ⟨h1, by simp, fun a ha b hb => by simp at hb; subst hb; exact fun e => hnew (e ▸ ha)⟩, fun d => ?_, fun d hd => h3 d (by simp at hd; exact hd.1)⟩
 by_cases hd : d = c
 · subst hd
   have hs : (kKey d).sameKey (kKey d) = true := kKey_same.2 rfl
   simp [h3 d hl, hs]
 · have hs : (kKey d).sameKey (kKey c) = false := by
    cases e : (kKey d).sameKey (kKey c) with
    | false => rfl
    | true => exact absurd (kKey_same.1 e) hd
   simp [h2 d, hd, hs]
def AllK (f : KK → Bool) (ss : List KK) : Prop := ss.Nodup ∧ ∀ c, c ∈ ss ↔ f c = true
theorem CollK.done {f : KK → Bool} {left : Lit → Bool} {ss : List KK} (h : CollK f left ss) (hl : ∀ kl, left kl = false) : AllK f ss := ⟨h.1, fun c => by rw [h.2.1 c, hl]; simp⟩
end Go.Proofs.YtebdajkknkapcaaGreat
namespace Go.Proofs.YtebdajkknkapcaaGreat
open Go Go.RowKit
theorem KC.fr {w w' : World} {Q : Nat → Prop} {cs : List Value} {c : KK} (h : KC w Q cs c) : KC w' Q cs c := h
theorem KC.mono {w : World} {Q Q' : Nat → Prop} {cs : List Value} {c : KK} (h : KC w Q cs c) : KC w Q' cs c := h
def IsLk (B : Nat) (y m p ne : Int) (f : KK → Bool) (v : Value) (w : World) : Prop := ∃ L b n : Nat, v = .pointer (some ⟨L, 0, none⟩) ∧ n ≤ 60 ∧ LkC w L b y m p ne n f ∧ B ≤ b
theorem IsLk.keep {B : Nat} {y m p ne : Int} {f : KK → Bool} : ∀ v w w', Below w.heap.size w w' → IsLk B y m p ne f v w → IsLk B y m p ne f v w' := fun v w w' hb ⟨L, b, n, h1, h2, h3, h4⟩ => ⟨L, b, n, h1, h2, h3.below hb, h4⟩
def OutN (B : Nat) (es : List XEntry) (v : Value) (w : World) : Prop := ∃ css : List (List Value), css.length = es.length ∧ w.ownsRow B 42 7 v es.length css.flatten ∧ (∀ cs ∈ css, cs.length = 7) ∧ ∀ (i : Nat) x, es[i]? = some x → ∃ cs, css[i]? = some cs ∧ EntryC w (fun q => (B ≤ q ∧ q < w.heap.size) ∧ v.ownBlock ≠ some q) cs x
theorem OutN.list {B : Nat} {es : List XEntry} {v : Value} {w : World} (h : OutN B es v w) : ListC EntryC 7 w (fun q => B ≤ q ∧ q < w.heap.size) [v] es := by
 obtain ⟨css, h1, h2, h3, h4⟩ := h
 exact own_list h3 h2 (fun i x hx => by
  obtain ⟨cs, k1, k2⟩ := h4 i x hx
  exact ⟨cs, k1, EntryC.mono k2 (fun q hq => hq.1)⟩) (fun q hq => h2.lt _ hq)
theorem OutN.app {B : Nat} {es : List XEntry} {css : List (List Value)} {v v2 : Value} {w w1 w2 : World} {x : XEntry} {cs : List Value} (h1 : css.length = es.length) (h2 : w.ownsRow B 42 7 v es.length css.flatten) (h3 : ∀ cs ∈ css, cs.length = 7)
 (h4 : ∀ (i : Nat) x, es[i]? = some x → ∃ cs, css[i]? = some cs ∧ EntryC w (fun q => (B ≤ q ∧ q < w.heap.size) ∧ v.ownBlock ≠ some q) cs x) (hb : Below w.heap.size w w1) (hBw : B ≤ w.heap.size)
 (hx : EntryC w1 (fun q => w.heap.size ≤ q ∧ q < w1.heap.size) cs x) (hg : w1.grownBy w2 v.ownBlock) (hat : v2.ownBlock = v.ownBlock ∨ v2.ownBlock = some w1.heap.size) (hown : w2.ownsRow B 42 7 v2 (es.length + 1) (css.flatten ++ cs)) : OutN B (es ++ [x]) v2 w2 := by
 have hs := hb.size
 have hs2 := hg.size
 have hF : Fr (fun q => q < w.heap.size ∧ v.ownBlock ≠ some q) w w2 := ((Fr.ofBelow hb).mono (fun q hq => hq.1)).grown hg (fun q hq => hq.1) (fun q hq hr => hr.2 hq)
 have hF1 : Fr (fun q => w.heap.size ≤ q ∧ q < w1.heap.size) w1 w2 := (Fr.refl _ w1).grown hg (fun q hq => hq.2) (fun q hq hr => by have := (h2.lt _ hq).2; omega)
 have hno : ∀ q, q < w1.heap.size → v.ownBlock ≠ some q → v2.ownBlock ≠ some q := fun q hq hn e => by
  rcases hat with h | h
  · exact hn (h.symm.trans e)
  · rw [h] at e; injection e with e; omega
 refine ⟨css ++ [cs], by simp [h1], by rw [List.length_append]; simpa using hown, fun c hc => ?_, fun i y hy => ?_⟩
 · rcases List.mem_append.1 hc with hc | hc
   · exact h3 c hc
   · simp at hc; subst hc; exact hx.len
 · rcases Nat.lt_or_ge i es.length with hi | hi
   · rw [List.getElem?_append_left hi] at hy
     obtain ⟨c, k1, k2⟩ := h4 i y hy
     refine ⟨c, by rw [List.getElem?_append_left (by omega)]; exact k1, ?_⟩
     exact EntryC.mono (EntryC.fr k2 (hF.mono (fun q hq => ⟨hq.1.2, hq.2⟩))) (fun q hq => ⟨⟨hq.1.1, by have := hq.1.2; omega⟩, hno q (by have := hq.1.2; omega) hq.2⟩)
   · have hie : i = es.length := by
      have := (List.getElem?_eq_some_iff.1 hy).1
      simp at this; omega
     subst hie
     simp at hy
     subst hy
     refine ⟨cs, by rw [List.getElem?_append_right (by omega)]; simp [h1], ?_⟩
     refine EntryC.mono (EntryC.fr hx hF1) (fun q hq => ⟨⟨by omega, by omega⟩, hno q hq.2 (fun e => by have := (h2.lt _ e).2; omega)⟩)
def EntsN (es : List XEntry) (w : World) (e : Ending) (w' : World) : Prop := ∃ (A : Option Addr) (c : Nat), e = .returned (.slice A es.length c) ∧ OutN w.heap.size es (.slice A es.length c) w' ∧ Below w.heap.size w w'
set_option maxHeartbeats 4000000 in
theorem entries_n (D O : Nat → Prop) (J : Nat) (g : XGroup) (es : List XEntry) (w : World) (hj : JC w D O J g es) (hln : ∀ x ∈ es, x.lines.length ≤ 100000) (hes : es.length ≤ 100000) : Calls Tryz.prog 21 #[.pointer (some ⟨J, 0, none⟩)] w (EntsN es w) := by
 obtain ⟨ia, hia, hzia, hsia, hbia⟩ := info_parts info_entryA
 obtain ⟨gl, css, v, bi, br, hj⟩ := hj
 have HL := Lib.hid hj.list
 have HD := Lib.hid (show ∀ q, D q ∨ O q → q < w.heap.size from fun q hq => hq.elim (hj.ltD q) (hj.ltO q))
 have HLN := Lib.hid hln
 have c21 := hj.cell.1
 obtain ⟨Av, nv, cv, rfl⟩ := own_shape hj.row
 obtain rfl : nv = es.length := own_val hj.row
 have hcap := hj.list.cap
 unfold maxLen at hcap
 obtain ⟨n, hnl⟩ : ∃ n, es.length = n := ⟨_, rfl⟩
 have HN := Lib.hid hnl
 rw [hnl] at HL c21 hcap hes
 clear hj hln hnl
 go_enter Tryz.func21, Tryz.ntmps21
 go_wp2_with fail
 go_loopw [3, 13] (fun v i wr => ∃ k : Nat, k ≤ n ∧ i = .int .i64 (k : Int) ∧ OutN w.heap.size (es.take k) v wr ∧ Below w.heap.size w wr) (fun _ i _ => n - (intOf i).toNat)
 case atStart => exact ⟨0, by omega, rfl, ⟨[], rfl, World.ownsRow_nil _ _ _ _, by simp, fun i x h => by simp at h⟩, Below.refl _ _⟩
 case round =>
  obtain ⟨k, hk, rfl, hout, hb8⟩ := hrel
  generalize wr = w8 at *
  have HB8 := Lib.hid hb8
  obtain ⟨cs3, q1, q2, q3, q4⟩ := hout
  have HOUT := Lib.hid (show OutN w.heap.size (es.take k) u3 w8 from ⟨cs3, q1, q2, q3, q4⟩)
  by_cases hlt : k < n
  case pos =>
   have hltI : (k : Int) < (n : Int) := by omega
   have hkl : k < es.length := by rw [HN.out]; exact hlt
   obtain ⟨b, o, cs, hAe, hbw, hxc, hat⟩ := ListC.get HL.out k hkl
   subst hAe
   have hxm : es[k] ∈ es := List.getElem_mem hkl
   have HTK := Lib.hid (show es.take (k + 1) = es.take k ++ [es[k]] by rw [List.take_add_one, List.getElem?_eq_getElem hkl]; rfl)
   obtain ⟨x, hx⟩ : ∃ x, es[k] = x := ⟨_, rfl⟩
   rw [hx] at hxc hxm HTK
   have hxl := HLN.out x hxm
   obtain ⟨Al, cl, hcs, hxb, hls⟩ := EntryC.lit hxc
   subst hcs
   have HXB := Lib.hid hxb
   obtain ⟨xi, xe, xd, xk, xo, xt, ls⟩ := x
   simp only at hat hls hxl
   have hat2 := hat.fr ((Fr.ofBelow hb8).mono (fun q hq => HD.out q hq))
   obtain ⟨nl, hnl⟩ : ∃ n, ls.length = n := ⟨_, rfl⟩
   have HNL := Lib.hid hnl
   rw [hnl] at hat2
   have HAR := Lib.hid hat2.range
   have HLS := Lib.hid (show ListC LineC 3 w (· < w.heap.size) [.slice Al ls.length cl] ls from hls.mono (fun h => LineC.mono h (fun q hq => HD.out q hq)) (fun q hq => HD.out q hq))
   have hnz : 0 < n := by omega
   have HQ := Lib.hid (And.intro q1 (And.intro q2 (And.intro q3 q4)))
   clear hxc hls hat hat2 hxm hx hnl hxb hbw q1 q2 q3 q4 hb8
   go_upto_region 6 with (first | (show wpList _ _ _ (Oper.mk (some 16) _ _ _ _ _ :: _) _ _; refine wpList_load_mid rfl 42 (.tmp 15) rfl b (o + k * 7) rfl [.int .i64 xi, .int .i64 xe, .int .i64 xd, .int .i64 xk, .int .i64 xo, .string xt, .slice Al nl cl] _ HAR.out Tryz.underlying42 rfl info_entry ?_) | (show wpList _ _ _ (Oper.mk none (Op.store _ (Operand.tmp 5) _) _ _ _ _ :: _) _ _; refine wpList_store_fresh3 rfl 42 (.tmp 5) (.tmp 16) rfl rfl w8 #[.int .i64 0, .int .i64 0, .int .i64 0, .int .i64 0, .int .i64 0, .string ⟨#[]⟩, .slice none 0 0] 42 #[.int .i64 xi, .int .i64 xe, .int .i64 xd, .int .i64 xk, .int .i64 xo, .string xt, .slice Al nl cl] rfl rfl rfl info_entry rfl (by simp [Value.oneCell']) ?_; intro wx HX HBX HSX))
   have HXX := Lib.hid HX
   have hbx := HB8.out.trans (HBX.mono HB8.out.size)
   have HCP := Lib.hid (copied_c xi xe xd xk xo xt ls Al cl wx (lines_keep HLS.out hbx) hxl)
   rw [HNL.out] at HCP
   have HBX2 := Lib.hid HBX
   clear HX HSX HBX hbx
   go_wp2_with (show wpList _ _ _ (Oper.mk (some 18) _ _ _ _ _ :: _) _ _; refine wpList_load_row_g rfl 42 (.tmp 5) rfl w8.heap.size rfl _ _ _ _ HXX.out Tryz.underlying42 rfl info_entry ?_)
   refine HCP.out.mono ?_
   rintro e w9 ⟨A2, c2, he, hlc, hb9⟩
   simp only at he hlc
   rw [HNL.out] at he hlc
   subst he
   have hb89 := HBX2.out.trans (hb9.mono HBX2.out.size)
   have HLC := Lib.hid hlc
   have HB89 := Lib.hid hb89
   have hs89 := hb89.size
   have hs8 := HB8.out.size
   have hlk : (es.take k).length ≤ 100000 := by rw [List.length_take]; omega
   have HOW9 := Lib.hid (own_below HQ.out.2.1 hb89)
   clear hlc hb9 hb89 HCP
   go_wp2_with (at_builtin; go_loud (refine wpList_app _ rfl (.tmp 17) (.tmp 20) 30 rfl w.heap.size 42 ia _ 7 80 Tryz.underlying30 hia hzia hsia hbia rfl (by decide) u3 (es.take k).length cs3.flatten rfl (HOW9.out.alloc _) (fun _ => True) (some ⟨w9.heap.size, 0, none⟩) 1 1 [.int .i64 xi, .int .i64 xe, .int .i64 xd, .int .i64 xk, .int .i64 xo, .string xt, .slice A2 nl c2] rfl (rd_new (heap_alloc_new _ _) rfl) (by simp [Value.oneCell']) (by simp only [maxLen]; omega) (by omega) (by simp; omega) ?_); intro v9 wa hown9 hg9 hat9)
   go_roundw
   case rel =>
    have hxn := EntryC.mk (w := w9) (Q := fun q => w8.heap.size ≤ q ∧ q < w9.heap.size) (x := ⟨xi, xe, xd, xk, xo, xt, ls⟩) (A := A2) (c := c2) HXB.out (by
     show ListC LineC 3 w9 _ [.slice A2 ls.length c2] ls
     rw [HNL.out]
     exact HLC.out.mono (fun h => LineC.mono h (fun q hq => ⟨by have := HBX2.out.size; omega, hq.2⟩)) (fun q hq => ⟨by have := HBX2.out.size; omega, hq.2⟩))
    simp only [HNL.out] at hxn
    refine ⟨k + 1, by omega, by go_num, ?_, below_grown ((HB8.out.trans (HB89.out.mono hs8)).alloc (by omega) _) hg9 (fun q hq => (HOW9.out.lt _ hq).1) (Nat.le_refl _)⟩
    rw [HTK.out]
    exact OutN.app HQ.out.1 HQ.out.2.1 HQ.out.2.2.1 HQ.out.2.2.2 (HB89.out.alloc hs89 _) hs8 (EntryC.mono (EntryC.fr hxn ((Fr.ofBelow (below1 w9 _)).mono (fun q hq => hq.2))) (fun q hq => ⟨hq.1, by have := hq.2; simp; omega⟩)) hg9 hat9 hown9
   case measure => first | exact meas_v hlt | (simp only [intOf]; omega)
  case neg =>
   have hltI : ¬ (k : Int) < (n : Int) := by omega
   have hkn : k = es.length := by have := HN.out; omega
   have hl := HOUT.out
   rw [hkn, List.take_length] at hl
   rw [hkn, List.take_length] at q2
   obtain ⟨Ao, no, co, rfl⟩ := own_shape q2
   obtain rfl : no = es.length := own_val q2
   have HLX := Lib.hid hl
   have HKN := Lib.hid hkn
   obtain ⟨no, hno⟩ : ∃ x, es.length = x := ⟨_, rfl⟩
   have HNO := Lib.hid hno
   rw [hno]
   clear hkn hl hno q1 q2 q3 q4 HOUT
   go_wp2_with fail
   go_ret
   exact ⟨Ao, co, by rw [HNO.out]; rfl, HLX.out, HB8.out⟩
set_option maxHeartbeats 2000000 in
theorem equal_c (xi xe xd xk xo : Int) (xt : ByteArray) (ls : List XLine) (A1 A2 : Option Addr) (nl c1 c2 : Nat) (w : World) (hn : ls.length = nl) (h1 : ListC LineC 3 w (· < w.heap.size) [.slice A1 nl c1] ls) (h2 : ListC LineC 3 w (· < w.heap.size) [.slice A2 nl c2] ls) : Calls Tryz.prog 56 #[.agg #[.int .i64 xi, .int .i64 xe, .int .i64 xd, .int .i64 xk, .int .i64 xo, .string xt, .slice A1 nl c1], .agg #[.int .i64 xi, .int .i64 xe, .int .i64 xd, .int .i64 xk, .int .i64 xo, .string xt, .slice A2 nl c2]] w (Quiet w (.bool true)) := by
 have HSM := Lib.hid (fun (w2 : World) (hb : Below w.heap.size w w2) => (by subst hn; have h := same_c ls ls A1 A2 c1 c2 w2 (lines_keep h1 hb) (lines_keep h2 hb); rw [decide_eq_true rfl] at h; exact h : Calls Tryz.prog 103 #[.slice A1 nl c1, .slice A2 nl c2] w2 (Quiet w2 (.bool true))))
 clear h1 h2 hn
 go_enter Tryz.func56, Tryz.ntmps56
 go_upto_region 1 with fail
 have H := heap_alloc_new w (.cells #[.int .i64 xi, .int .i64 xe, .int .i64 xd, .int .i64 xk, .int .i64 xo, .string xt, .slice A1 nl c1] 42)
 have HB := below1 w (.cells #[.int .i64 xi, .int .i64 xe, .int .i64 xd, .int .i64 xk, .int .i64 xo, .string xt, .slice A1 nl c1] 42)
 have HS := blk_lt H
 generalize hW : w.alloc (Obj.cells #[.int .i64 xi, .int .i64 xe, .int .i64 xd, .int .i64 xk, .int .i64 xo, .string xt, .slice A1 nl c1] 42) = W at *
 have H2 := heap_alloc_new W (.cells #[.int .i64 xi, .int .i64 xe, .int .i64 xd, .int .i64 xk, .int .i64 xo, .string xt, .slice A2 nl c2] 42)
 have HB2 := below1 W (.cells #[.int .i64 xi, .int .i64 xe, .int .i64 xd, .int .i64 xk, .int .i64 xo, .string xt, .slice A2 nl c2] 42)
 have HS2 := blk_lt H2
 replace H := alloc_keep H (Obj.cells #[.int .i64 xi, .int .i64 xe, .int .i64 xd, .int .i64 xk, .int .i64 xo, .string xt, .slice A2 nl c2] 42)
 generalize hW2 : W.alloc (Obj.cells #[.int .i64 xi, .int .i64 xe, .int .i64 xd, .int .i64 xk, .int .i64 xo, .string xt, .slice A2 nl c2] 42) = W2 at *
 clear hW2
 have eW : W.heap.size = w.heap.size + 1 := by rw [← hW]; simp
 rw [eW] at H2
 clear hW
 have hb2 := HB.trans (HB2.mono HB.size)
 have hs2 := HB2.size
 have LT1 := blk_lt H2
 have LT0 : w.heap.size < W2.heap.size := by omega
 have HH := Lib.hid H
 have HZ := Lib.hid H2
 have EW := Lib.hid eW
 clear H H2 eW
 have x0 := blk_cell HH.out 0
 have y0 := blk_cell HZ.out 0
 have x1 := blk_cell HH.out 1
 have y1 := blk_cell HZ.out 1
 have x2 := blk_cell HH.out 2
 have y2 := blk_cell HZ.out 2
 have x3 := blk_cell HH.out 3
 have y3 := blk_cell HZ.out 3
 have x4 := blk_cell HH.out 4
 have y4 := blk_cell HZ.out 4
 have x5 := blk_cell HH.out 5
 have y5 := blk_cell HZ.out 5
 have x6 := blk_cell HH.out 6
 have y6 := blk_cell HZ.out 6
 go_wp2_with fail
 refine (HSM.out W2 hb2).mono ?_
 rintro e w3 ⟨rfl, hb3⟩
 go_wp2_with fail
 go_ret
 exact ⟨rfl, hb2.trans (hb3.mono hb2.size)⟩
set_option maxHeartbeats 2000000 in
theorem same12_c (es : List XEntry) (A1 A2 : Option Addr) (cc1 cc2 : Nat) (w : World) (h1 : ListC EntryC 7 w (· < w.heap.size) [.slice A1 es.length cc1] es) (h2 : ListC EntryC 7 w (· < w.heap.size) [.slice A2 es.length cc2] es) : Calls Tryz.prog 15 #[.slice A1 es.length cc1, .slice A2 es.length cc2] w (Quiet w (.bool true)) := by
 have HL1 := Lib.hid h1
 have HL2 := Lib.hid h2
 have hcap1 := h1.cap
 have hcap2 := h2.cap
 unfold maxLen at hcap1 hcap2
 obtain ⟨n, hnl⟩ : ∃ n, es.length = n := ⟨_, rfl⟩
 have HN := Lib.hid hnl
 rw [hnl] at hcap1 hcap2 ⊢
 clear h1 h2 hnl
 go_enter Tryz.func15, Tryz.ntmps15
 go_wp2_with fail
 go_loopw [5] (fun i wr => ∃ k : Nat, k ≤ n ∧ i = .int .i64 (k : Int) ∧ Below w.heap.size w wr) (fun i _ => n - (intOf i).toNat)
 case atStart => exact ⟨0, by omega, rfl, Below.refl _ _⟩
 case round =>
  obtain ⟨k, hk, rfl, hb⟩ := hrel
  by_cases hlt : k < n
  case pos =>
   have hltI : (k : Int) < (n : Int) := by omega
   have hltI2 : 0 < n := by omega
   have hkl : k < es.length := by rw [HN.out]; exact hlt
   obtain ⟨b1, o1, cs1, hAe1, hbw1, hes1, hat1⟩ := ListC.get HL1.out k hkl
   obtain ⟨b2, o2, cs2, hAe2, hbw2, hes2, hat2⟩ := ListC.get HL2.out k hkl
   subst hAe1 hAe2
   obtain ⟨A1, c1, hcs1, hxb, hls1⟩ := EntryC.lit hes1
   obtain ⟨A2, c2, hcs2, _, hls2⟩ := EntryC.lit hes2
   subst hcs1 hcs2
   obtain ⟨x, hx⟩ : ∃ x, es[k] = x := ⟨_, rfl⟩
   rw [hx] at hat1 hat2 hls1 hls2
   obtain ⟨xi, xe, xd, xk, xo, xt, ls⟩ := x
   simp only at hat1 hat2 hls1 hls2
   obtain ⟨nl, hnl⟩ : ∃ n, ls.length = n := ⟨_, rfl⟩
   rw [hnl] at hat1 hat2 hls1 hls2
   have hf1 := hat1.fr (Fr.ofBelow hb)
   have hf2 := hat2.fr (Fr.ofBelow hb)
   have HA1 := Lib.hid (show At wr (· < wr.heap.size) ⟨b1, o1 + k * 7, none⟩ [.int .i64 xi, .int .i64 xe, .int .i64 xd, .int .i64 xk, .int .i64 xo, .string xt, .slice A1 nl c1] from hf1.mono (fun q hq => Nat.lt_of_lt_of_le hq hb.size))
   have HA2 := Lib.hid (show At wr (· < wr.heap.size) ⟨b2, o2 + k * 7, none⟩ [.int .i64 xi, .int .i64 xe, .int .i64 xd, .int .i64 xk, .int .i64 xo, .string xt, .slice A2 nl c2] from hf2.mono (fun q hq => Nat.lt_of_lt_of_le hq hb.size))
   have HEQ := Lib.hid (fun (w2 : World) (hb2 : Below wr.heap.size wr w2) => equal_c xi xe xd xk xo xt ls A1 A2 nl c1 c2 w2 hnl (lines_keep hls1 (hb.trans (hb2.mono hb.size))) (lines_keep hls2 (hb.trans (hb2.mono hb.size))))
   have HB8 := Lib.hid hb
   clear hes1 hes2 hat1 hat2 hx hbw1 hbw2 hf1 hf2 hb hls1 hls2 hnl hxb
   go_upto_region 6 with fail
   refine wp_region_inv (Ks wr [.val (.slice (some ⟨b1, o1, none⟩) n cc1), .val (.int .i64 (k : Int)), .val (.pointer (some ⟨b1, o1 + k * 7, none⟩)), .val (.agg #[.int .i64 xi, .int .i64 xe, .int .i64 xd, .int .i64 xk, .int .i64 xo, .string xt, .slice A1 nl c1]), .val (.slice (some ⟨b2, o2, none⟩) n cc2), .val (.int .i64 (k : Int)), .val (.pointer (some ⟨b2, o2 + k * 7, none⟩)), .val (.agg #[.int .i64 xi, .int .i64 xe, .int .i64 xd, .int .i64 xk, .int .i64 xo, .string xt, .slice A2 nl c2]), .val (.bool true), .val (.bool false)])
    (fun w' => Below wr.heap.size wr w') (by kernel_rfl) (by kernel_rfl) (by kernel_rfl) (Below.refl _ _).drew ?_ ?_
   · refine ⟨?_, ?_, ?_, ?_, ?_, ?_, ?_, ?_, ?_, ?_, trivial⟩
     · intro _ A0 w2 hI hd hnd K hK; have e0 := hI.slot hnd 0 _ rfl (by kernel_rfl); have hS := hI.world; refine wanted_go rfl ?_; clear hI hd hnd; go_simp; exact kq hK hS rfl
     · intro _ A0 w2 hI hd hnd K hK; have e0 := hI.slot hnd 5 _ rfl (by kernel_rfl); have hS := hI.world; refine wanted_go rfl ?_; clear hI hd hnd; go_simp; exact kq hK hS rfl
     · intro _ A0 w2 hI hd hnd K hK; have e0 := hI.depv hd 0 17 _ rfl rfl rfl (by kernel_rfl); have e1 := hI.depv hd 1 18 _ rfl rfl rfl (by kernel_rfl); have hS := hI.world; refine wanted_go rfl ?_; clear hI hd hnd; go_simp; exact kq hK hS rfl
     · intro _ A0 w2 hI hd hnd K hK; have e0 := hI.depv hd 2 19 _ rfl rfl rfl (by kernel_rfl); have hS := hI.world; have hrange : w2.rangeAt b1 (o1 + k * 7) [.int .i64 xi, .int .i64 xe, .int .i64 xd, .int .i64 xk, .int .i64 xo, .string xt, .slice A1 nl c1] := (HA1.out.fr (Fr.ofBelow hS)).range; have hisize := info_entry; refine wanted_go rfl ?_; clear hI hd hnd
       refine wp_load_mid 42 (.tmp 19) rfl _ _ (by simpa [Act.eval, Array.getD_eq_getD_getElem?] using e0) _ _ hrange Tryz.underlying42 rfl hisize ?_
       exact kq hK hS rfl
     · intro _ A0 w2 hI hd hnd K hK; have e0 := hI.slot hnd 1 _ rfl (by kernel_rfl); have hS := hI.world; refine wanted_go rfl ?_; clear hI hd hnd; go_simp; exact kq hK hS rfl
     · intro _ A0 w2 hI hd hnd K hK; have e0 := hI.slot hnd 5 _ rfl (by kernel_rfl); have hS := hI.world; refine wanted_go rfl ?_; clear hI hd hnd; go_simp; exact kq hK hS rfl
     · intro _ A0 w2 hI hd hnd K hK; have e0 := hI.depv hd 4 21 _ rfl rfl rfl (by kernel_rfl); have e1 := hI.depv hd 5 22 _ rfl rfl rfl (by kernel_rfl); have hS := hI.world; refine wanted_go rfl ?_; clear hI hd hnd; go_simp; exact kq hK hS rfl
     · intro _ A0 w2 hI hd hnd K hK; have e0 := hI.depv hd 6 23 _ rfl rfl rfl (by kernel_rfl); have hS := hI.world; have hrange : w2.rangeAt b2 (o2 + k * 7) [.int .i64 xi, .int .i64 xe, .int .i64 xd, .int .i64 xk, .int .i64 xo, .string xt, .slice A2 nl c2] := (HA2.out.fr (Fr.ofBelow hS)).range; have hisize := info_entry; refine wanted_go rfl ?_; clear hI hd hnd
       refine wp_load_mid 42 (.tmp 23) rfl _ _ (by simpa [Act.eval, Array.getD_eq_getD_getElem?] using e0) _ _ hrange Tryz.underlying42 rfl hisize ?_
       exact kq hK hS rfl
     · intro _ A0 w2 hI hd hnd K hK; have e0 := hI.depv hd 3 20 _ rfl rfl rfl (by kernel_rfl); have e1 := hI.depv hd 7 24 _ rfl rfl rfl (by kernel_rfl); have hS := hI.world; refine wanted_go rfl ?_; clear hI hd hnd; go_simp
       go_at_call 56
       refine (HEQ.out w2 hS).mono ?_
       rintro e w3 ⟨rfl, h3⟩
       exact hK.out _ _ (hS.trans (h3.mono hS.size)) (Ks.of rfl rfl) (Ks.keep h3)
     · intro _ A0 w2 hI hd hnd K hK; have e0 := hI.depv hd 8 25 _ rfl rfl rfl (by kernel_rfl); have hS := hI.world; refine wanted_go rfl ?_; clear hI hd hnd; go_simp; exact kq hK hS rfl
   · intro _ A0 w2 hI hall; obtain ⟨x0, g0, h0⟩ := hI.got 0 _ 17 rfl rfl (hall 0 (by decide)); obtain ⟨x1, g1, h1⟩ := hI.got 1 _ 18 rfl rfl (hall 1 (by decide)); obtain ⟨x2, g2, h2⟩ := hI.got 2 _ 19 rfl rfl (hall 2 (by decide)); obtain ⟨x3, g3, h3⟩ := hI.got 3 _ 20 rfl rfl (hall 3 (by decide)); obtain ⟨x4, g4, h4⟩ := hI.got 4 _ 21 rfl rfl (hall 4 (by decide)); obtain ⟨x5, g5, h5⟩ := hI.got 5 _ 22 rfl rfl (hall 5 (by decide)); obtain ⟨x6, g6, h6⟩ := hI.got 6 _ 23 rfl rfl (hall 6 (by decide)); obtain ⟨x7, g7, h7⟩ := hI.got 7 _ 24 rfl rfl (hall 7 (by decide)); obtain ⟨x8, g8, h8⟩ := hI.got 8 _ 25 rfl rfl (hall 8 (by decide)); obtain ⟨x9, g9, h9⟩ := hI.got 9 _ 26 rfl rfl (hall 9 (by decide)); have hS := hI.world
     have hA : A0 = _ := hI.tmps [(17, x0), (18, x1), (19, x2), (20, x3), (21, x4), (22, x5), (23, x6), (24, x7), (25, x8), (26, x9)] (by simp only [List.mem_cons, List.not_mem_nil, or_false, forall_eq_or_imp, forall_eq]; exact ⟨g0, g1, g2, g3, g4, g5, g6, g7, g8, g9⟩) (by kernel_rfl)
     obtain rfl : x9 = .bool false := h9 _ rfl
     clear h0 g0 h1 g1 h2 g2 h3 g3 h4 g4 h5 g5 h6 g6 h7 g7 h8 g8 h9 g9 hI hall
     simp only [setAll, List.foldl, List.setIfInBounds_toArray, List.set_cons_zero, List.set_cons_succ] at hA
     rw [hA]
     clear hA
     have HB9 := Lib.hid (HB8.out.trans (hS.mono HB8.out.size))
     clear hS
     go_wp2_with fail
     go_roundw
     case rel => exact ⟨k + 1, by omega, by go_num, HB9.out⟩
     case measure => first | exact meas_v hlt | (simp only [intOf]; omega)
  case neg =>
   have hltI : ¬ (k : Int) < (n : Int) := by omega
   go_wp2_with fail
   go_ret
   exact ⟨rfl, hb⟩
end Go.Proofs.YtebdajkknkapcaaGreat
namespace Go.Proofs.YtebdajkknkapcaaGreat
open Go Go.RowKit Go.Shelf
def IsMp (B n : Nat) (f : KK → Bool) (v : Value) (w : World) : Prop := ∃ b : Nat, v = .map (some b) ∧ MapL w b n f ∧ B ≤ b
theorem IsMp.keep {B n : Nat} {f : KK → Bool} : ∀ v w w', Below w.heap.size w w' → IsMp B n f v w → IsMp B n f v w' := fun v w w' hb ⟨b, h1, h2, h3⟩ => ⟨b, h1, h2.below hb, h3⟩
def IsBl (B : Nat) (y m p ne : Int) (n : Nat) (f : KK → Bool) (v : Value) (w : World) : Prop := ∃ b : Nat, v = .agg #[.int .i64 y, .int .i64 m, .int .i64 p, .int .i64 ne, .map (some b)] ∧ MapL w b n f ∧ B ≤ b
theorem IsBl.keep {B : Nat} {y m p ne : Int} {n : Nat} {f : KK → Bool} : ∀ v w w', Below w.heap.size w w' → IsBl B y m p ne n f v w → IsBl B y m p ne n f v w' := fun v w w' hb ⟨b, h1, h2, h3⟩ => ⟨b, h1, h2.below hb, h3⟩
def IsLx (B : Nat) (y m p ne : Int) (n : Nat) (f : KK → Bool) (v : Value) (w : World) : Prop := ∃ L b : Nat, v = .pointer (some ⟨L, 0, none⟩) ∧ LkC w L b y m p ne n f ∧ B ≤ L ∧ B ≤ b
theorem IsLx.keep {B : Nat} {y m p ne : Int} {n : Nat} {f : KK → Bool} : ∀ v w w', Below w.heap.size w w' → IsLx B y m p ne n f v w → IsLx B y m p ne n f v w' := fun v w w' hb ⟨L, b, h1, h2, h3⟩ => ⟨L, b, h1, h2.below hb, h3⟩
theorem IsLx.made {B : Nat} {y m p ne : Int} {n b : Nat} {f : KK → Bool} {w : World} (h : MapL w b n f) (hb : B ≤ b) (hw : B ≤ w.heap.size) : IsLx B y m p ne n f (.pointer (some ⟨w.heap.size, 0, none⟩)) (w.alloc (.cells #[.int .i64 y, .int .i64 m, .int .i64 p, .int .i64 ne, .map (some b)] 139)) :=
 ⟨w.heap.size, b, rfl, ⟨heap_alloc_new w _, h.below (below1 w _), by have := h.lt; omega⟩, hw, hb⟩
end Go.Proofs.YtebdajkknkapcaaGreat
namespace Go.Proofs.YtebdajkknkapcaaGreat
open Go Go.RowKit
set_option maxHeartbeats 1000000 in
theorem del_c (xi xe xd xk xo : Int) (xt : ByteArray) (Al : Option Addr) (nl cl : Nat) (k : Int) (B : Nat) (w : World) (hB : w.cell? ⟨B, 0, none⟩ = some (.int .i64 k)) (hl : B < w.heap.size) : Calls Tryz.prog 55 #[.agg #[.int .i64 xi, .int .i64 xe, .int .i64 xd, .int .i64 xk, .int .i64 xo, .string xt, .slice Al nl cl], .pointer (some ⟨B, 0, none⟩)] w (Quiet w (.bool (xe != k))) := by
 go_enter Tryz.func55, Tryz.ntmps55
 go_upto_region 1 with fail
 have H1 := heap_alloc_new w (.cells #[.int .i64 xi, .int .i64 xe, .int .i64 xd, .int .i64 xk, .int .i64 xo, .string xt, .slice Al nl cl] 42)
 have HB1 := below1 w (.cells #[.int .i64 xi, .int .i64 xe, .int .i64 xd, .int .i64 xk, .int .i64 xo, .string xt, .slice Al nl cl] 42)
 have HS1 := blk_lt H1
 generalize hW1 : w.alloc (Obj.cells #[.int .i64 xi, .int .i64 xe, .int .i64 xd, .int .i64 xk, .int .i64 xo, .string xt, .slice Al nl cl] 42) = W at *
 clear hW1
 have c1 := blk_cell H1 1
 have hk : W.cell? ⟨B, 0, none⟩ = some (.int .i64 k) := (HB1.cell (p := ⟨B, 0, none⟩) hl).trans hB
 clear H1 hB
 go_wp2_with fail
 go_ret
 exact ⟨rfl, HB1⟩
def frontE (k : Int) : List XEntry → Nat
 | [] => 0
 | x :: l => if x.entity = k then frontE k l + 1 else 0
theorem frontE_le (k : Int) : ∀ l : List XEntry, frontE k l ≤ l.length
 | [] => Nat.le_refl _
 | x :: l => by
  unfold frontE
  have := frontE_le k l
  split
  · simp; omega
  · simp
theorem frontE_at {k : Int} : ∀ (l : List XEntry) (i : Nat) (hi : i < l.length), (∀ j (hj : j < l.length), j < i → l[j].entity = k) → l[i].entity ≠ k → frontE k l = i
 | [], i, hi, _, _ => by simp at hi
 | x :: l, 0, _, _, h => by
  unfold frontE
  rw [if_neg (show ¬ x.entity = k from fun e => h e)]
 | x :: l, i + 1, hi, ha, h => by
  unfold frontE
  rw [if_pos (show x.entity = k from ha 0 (by simp) (by omega))]
  rw [frontE_at l i (by simpa using hi) (fun j hj hji => (show l[j].entity = k from ha (j + 1) (by simp; omega) (by omega))) (fun e => h e)]
theorem frontE_all {k : Int} : ∀ (l : List XEntry), (∀ x ∈ l, x.entity = k) → frontE k l = l.length
 | [], _ => rfl
 | x :: l, h => by
  unfold frontE
  rw [if_pos (h x (List.mem_cons_self ..)), frontE_all l (fun y hy => h y (List.mem_cons_of_mem _ hy))]
  rfl
set_option maxHeartbeats 2000000 in
theorem indexE_c (es : List XEntry) (A : Option Addr) (c : Nat) (k : Int) (B : Nat) (w : World) (hl : ListC EntryC 7 w (· < w.heap.size) [.slice A es.length c] es) (hB : w.cell? ⟨B, 0, none⟩ = some (.int .i64 k)) (hBl : B < w.heap.size) :
 Calls Tryz.prog 102 #[.slice A es.length c, .func (.func 55) #[] #[.pointer (some ⟨B, 0, none⟩)]] w (Quiet w (.int .i64 (if frontE k es = es.length then -1 else (frontE k es : Int)))) := by
 obtain ⟨R, hR⟩ : ∃ R, (if frontE k es = es.length then (-1 : Int) else (frontE k es : Int)) = R := ⟨_, rfl⟩
 have HR := Lib.hid hR
 rw [hR]
 have HL := Lib.hid hl
 have HBC := Lib.hid hB
 have hcap := hl.cap
 unfold maxLen at hcap
 obtain ⟨n, hnl⟩ : ∃ n, es.length = n := ⟨_, rfl⟩
 have HN := Lib.hid hnl
 rw [hnl] at hcap ⊢
 clear hl hR hB hnl
 go_enter Tryz.func102, Tryz.ntmps102
 go_wp2_with fail
 go_loopw [8] (fun i wr => ∃ q : Nat, q ≤ n ∧ i = .int .i64 (q : Int) ∧ Below w.heap.size w wr ∧ ∀ j (hj : j < es.length), j < q → es[j].entity = k) (fun i _ => n - (intOf i).toNat)
 case atStart => exact ⟨0, by omega, rfl, Below.refl _ _, fun j _ h => by omega⟩
 case round =>
  obtain ⟨q, hq, rfl, hb, hall⟩ := hrel
  generalize wr = w8 at *
  have HALL := Lib.hid hall
  clear hall
  by_cases hlt : q < n
  case pos =>
   have hltI : (q : Int) < (n : Int) := by omega
   have hql : q < es.length := by rw [HN.out]; exact hlt
   obtain ⟨b, o, cs, hAe, hbw, hxc, hat⟩ := ListC.get HL.out q hql
   subst hAe
   obtain ⟨Al, cl, hcs, hxb, hls⟩ := EntryC.lit hxc
   subst hcs
   obtain ⟨x, hx⟩ : ∃ x, es[q] = x := ⟨_, rfl⟩
   rw [hx] at hat
   have HX := Lib.hid hx
   obtain ⟨xi, xe, xd, xk, xo, xt, ls⟩ := x
   simp only at hat
   obtain ⟨nl, hnl⟩ : ∃ n, ls.length = n := ⟨_, rfl⟩
   rw [hnl] at hat
   have HAR := Lib.hid ((hat.fr (Fr.ofBelow hb)).range)
   have HDL := Lib.hid (del_c xi xe xd xk xo xt Al nl cl k B w8 ((hb.cell (p := ⟨B, 0, none⟩) hBl).trans HBC.out) (Nat.lt_of_lt_of_le hBl hb.size))
   have HB8 := Lib.hid hb
   have hnz : 0 < n := by omega
   clear hxc hat hls hxb hx hbw hnl hb
   go_wp2_with (show wpList _ _ _ (Oper.mk (some 15) _ _ _ _ _ :: _) _ _; refine wpList_load_mid rfl 42 (.tmp 14) rfl b (o + q * 7) rfl [.int .i64 xi, .int .i64 xe, .int .i64 xd, .int .i64 xk, .int .i64 xo, .string xt, .slice Al nl cl] _ HAR.out Tryz.underlying42 rfl info_entry ?_)
   refine HDL.out.mono ?_
   rintro e w9 ⟨rfl, hb9⟩
   replace hb9 := HB8.out.trans (hb9.mono HB8.out.size)
   by_cases hxe : xe = k
   case pos =>
    have hxb : (xe != k) = false := by simpa using hxe
    have HE := Lib.hid hxe
    rw [hxb]
    clear hxe
    go_wp2_with fail
    go_roundw
    case rel => exact ⟨q + 1, by omega, by go_num, hb9, fun j hj h => by
     rcases Nat.lt_or_ge j q with h1 | h1
     · exact HALL.out j hj h1
     · have : j = q := by omega
       subst this
       rw [HX.out]; exact HE.out⟩
    case measure => first | exact meas_v hlt | (simp only [intOf]; omega)
   case neg =>
    have hxb : (xe != k) = true := by simpa using hxe
    have hf := Lib.hid (show R = (q : Int) by
     have h1 := frontE_at es q hql HALL.out (by rw [HX.out]; exact hxe)
     rw [← HR.out, h1, if_neg (by omega)])
    rw [hxb]
    clear hxe
    go_wp2_with fail
    go_ret
    exact ⟨by rw [hf.out]; rfl, hb9⟩
  case neg =>
   have hltI : ¬ (q : Int) < (n : Int) := by omega
   have hf := Lib.hid (show R = -1 by
    rw [← HR.out, if_pos (frontE_all es (fun x hx => by obtain ⟨j, hj, rfl⟩ := List.getElem_of_mem hx; exact HALL.out j hj (by have := HN.out; omega)))])
   go_wp2_with fail
   go_ret
   exact ⟨by rw [hf.out]; rfl, hb⟩
theorem cell_lt {w : World} {a : Addr} {v : Value} (h : w.cell? a = some v) : a.block < w.heap.size := by
 rcases Nat.lt_or_ge a.block w.heap.size with h' | h'
 · exact h'
 · simp [World.cell?, Array.getElem?_eq_none h'] at h
def RowsAt (w : World) (g : Nat) (R : List (List Value)) : Prop := ∀ (i : Nat) cs, R[i]? = some cs → At w (fun q => q = g) ⟨g, i * 7, none⟩ cs
theorem at_cells {w : World} {g o : Nat} {cs : List Value} (h : At w (fun q => q = g) ⟨g, o, none⟩ cs) (j : Nat) (u : Value) (hu : cs[j]? = some u) : w.cell? ⟨g, o + j, none⟩ = some u ∧ w.frozen? ⟨g, o + j, none⟩ = false := by
 have := h.2 j u hu
 rw [Addr.add_lit] at this
 exact this
theorem at_out {w : World} {g o o2 : Nat} {cs vs : List Value} (h : At w (fun q => q = g) ⟨g, o, none⟩ cs) (hap : o + cs.length ≤ o2 ∨ o2 + vs.length ≤ o) : At (w.setCells g o2 vs) (fun q => q = g) ⟨g, o, none⟩ cs := by
 refine ⟨rfl, fun j u hu => ?_⟩
 have hj : j < cs.length := (List.getElem?_eq_some_iff.1 hu).1
 have := at_cells h j u hu
 rw [Addr.add_lit, World.cell?_setCells_out g vs o2 w _ (fun _ _ => by show o + j < o2 ∨ o2 + vs.length ≤ o + j; omega), World.frozen?_setCells]
 exact this
theorem at_in {w : World} {g o : Nat} {cs vs : List Value} (h : At w (fun q => q = g) ⟨g, o, none⟩ cs) (hl : vs.length = cs.length) : At (w.setCells g o vs) (fun q => q = g) ⟨g, o, none⟩ vs := by
 refine ⟨rfl, fun j u hu => ?_⟩
 have hj : j < vs.length := (List.getElem?_eq_some_iff.1 hu).1
 have hs : ∀ j, j < vs.length → (w.cell? ⟨g, o + j, none⟩).isSome = true := fun j hj => by
  have := (at_cells h j cs[j] (List.getElem?_eq_getElem (by omega))).1
  rw [this]; rfl
 rw [Addr.add_lit, World.cell?_setCells_in g vs o w hs j hj, World.frozen?_setCells]
 have h2 := (at_cells h j cs[j] (List.getElem?_eq_getElem (by omega))).2
 rw [List.getElem?_eq_getElem hj] at hu
 exact ⟨hu, h2⟩
theorem RowsAt.set {w : World} {g i : Nat} {R : List (List Value)} {cs : List Value} (h : RowsAt w g R) (hR : ∀ r ∈ R, r.length = 7) (hi : i < R.length) (hc : cs.length = 7) : RowsAt (w.setCells g (i * 7) cs) g (R.set i cs) := by
 intro q r hr
 by_cases hq : q = i
 · subst hq
   rw [List.getElem?_set_self hi] at hr
   obtain rfl := Option.some.inj hr
   exact at_in (h q R[q] (List.getElem?_eq_getElem hi)) (by rw [hc, hR _ (List.getElem_mem hi)])
 · rw [List.getElem?_set_ne (fun e => hq e.symm)] at hr
   have hl : r.length = 7 := hR r (List.mem_of_getElem? hr)
   refine at_out (h q r hr) ?_
   rw [hl, hc]
   rcases Nat.lt_or_gt_of_ne hq with h1 | h1
   · exact .inl (by omega)
   · exact .inr (by omega)
theorem RowsAt.fr {w w' : World} {g : Nat} {R : List (List Value)} {Q : Nat → Prop} (h : RowsAt w g R) (hf : Fr Q w w') (hg : Q g) : RowsAt w' g R := fun i cs hi =>
 ((h i cs hi).mono (Q' := fun q => q = g ∧ Q q) (fun q hq => ⟨hq, by rw [hq]; exact hg⟩)).fr (hf.mono (fun q hq => hq.2)) |>.mono (fun q hq => hq.1)
theorem wpList_store_rows {ops : Array Oper} {rest : List Oper} {o : Oper} {a : Act} {Q : Exit → Act → World → Prop} (hgd : o.guard = none) (hd : o.dst = none) (x y : Operand) (ho : o.op = .store 42 x y) (w : World) (g i : Nat) (R : List (List Value)) (cs : List Value)
 (hx : a.eval x = .pointer (some ⟨g, i * 7, none⟩)) (hy : a.eval y = .agg cs.toArray) (h : RowsAt w g R) (hR : ∀ r ∈ R, r.length = 7) (hi : i < R.length) (hc : cs.length = 7) (h1 : ∀ v ∈ cs, v.oneCell' = true)
 (hK : ∀ w2 : World, RowsAt w2 g (R.set i cs) → Fr (fun q => q ≠ g) w w2 → wpList Tryz.prog ops Q rest a w2) : wpList Tryz.prog ops Q (o :: rest) a w := by
 refine wpList_store_mid hgd 42 x y ho g (i * 7) cs.toArray hx hy (fun j hj => ?_) (by rw [info_entry]; simp [hc]) (by simpa using h1) ?_
 · have hj7 : j < 7 := by simpa [hc] using hj
   have hat := h i R[i] (List.getElem?_eq_getElem hi)
   have hl := hR _ (List.getElem_mem hi)
   have := at_cells hat j (R[i][j]'(by omega)) (List.getElem?_eq_getElem (by omega))
   exact ⟨by rw [this.1]; rfl, this.2⟩
 · rw [hd]
   exact hK _ (by simpa using h.set hR hi hc) (fr_setCells _ _ _)
theorem wpList_clear_rows {ops : Array Oper} {rest : List Oper} {o : Oper} {a : Act} {Q : Exit → Act → World → Prop} (hgd : o.guard = none) (x : Operand) (ho : o.op = Op.call { callee := Callee.builtin Builtin.clear, args := #[x], argTypes := #[30] }) (w : World) (g i m c : Nat) (R : List (List Value))
 (hx : a.eval x = .slice (some ⟨g, i * 7, none⟩) m c) (hm : 0 < m) (hlen : i + m = R.length) (h : RowsAt w g R) (hR : ∀ r ∈ R, r.length = 7)
 (hK : ∀ w2 : World, RowsAt w2 g (R.take i) → Fr (fun q => q ≠ g) w w2 → wpList Tryz.prog ops Q rest (a.put o.dst (.tuple #[])) w2) : wpList Tryz.prog ops Q (o :: rest) a w := by
 refine wpList_plain hgd fun K hK' => ?_
 have hzl : (Builtin.zeroCells #[.int .i64 0, .int .i64 0, .int .i64 0, .int .i64 0, .int .i64 0, .string ⟨#[]⟩, .slice none 0 0] m).toList.length = m * 7 := by simp [Builtin.zeroCells]
 have hz1 : ∀ v ∈ (Builtin.zeroCells #[.int .i64 0, .int .i64 0, .int .i64 0, .int .i64 0, .int .i64 0, .string ⟨#[]⟩, .slice none 0 0] m).toList, v.oneCell' = true := by
  intro v hv
  simp only [Builtin.zeroCells, Array.toList_map, List.mem_map] at hv
  obtain ⟨q, _, rfl⟩ := hv
  have hq : q % 7 < 7 := Nat.mod_lt _ (by omega)
  show Value.oneCell' ((#[.int .i64 0, .int .i64 0, .int .i64 0, .int .i64 0, .int .i64 0, .string ⟨#[]⟩, .slice none 0 0] : Array Value)[q % 7]!) = true
  generalize q % 7 = r at hq
  rcases r with _ | _ | _ | _ | _ | _ | _ | r
  all_goals first | rfl | omega
 have hcell : ∀ j, j < m * 7 → ∃ u, w.cell? ⟨g, i * 7 + j, none⟩ = some u ∧ w.frozen? ⟨g, i * 7 + j, none⟩ = false := fun j hj => by
  have hq : i + j / 7 < R.length := by omega
  have hat := h (i + j / 7) R[i + j / 7] (List.getElem?_eq_getElem hq)
  have hl := hR _ (List.getElem_mem hq)
  have hj7 : j % 7 < 7 := Nat.mod_lt _ (by omega)
  have := at_cells hat (j % 7) (R[i + j / 7][j % 7]'(by omega)) (List.getElem?_eq_getElem (by omega))
  rw [show (i + j / 7) * 7 + j % 7 = i * 7 + j by omega] at this
  exact ⟨_, this⟩
 have hst := run_storeCells_cells (P := Tryz.prog) g (i * 7) (Builtin.zeroCells #[.int .i64 0, .int .i64 0, .int .i64 0, .int .i64 0, .int .i64 0, .string ⟨#[]⟩, .slice none 0 0] m).toList 0 w (fun j hj => by obtain ⟨u, h1, _⟩ := hcell j (by omega); rw [Nat.add_zero, h1]; rfl) (fun j hj => by obtain ⟨u, _, h1⟩ := hcell j (by omega); rw [Nat.add_zero]; exact h1) hz1
 rw [Nat.add_zero] at hst
 obtain ⟨m', rfl⟩ : ∃ m', m = m' + 1 := ⟨m - 1, by omega⟩
 have hrun : ∀ ty, (Builtin.clear_ #[30] ty #[.slice (some ⟨g, i * 7, none⟩) (m' + 1) c]).run Tryz.prog w = .ok (.tuple #[]) (w.setCells g (i * 7) (Builtin.zeroCells #[.int .i64 0, .int .i64 0, .int .i64 0, .int .i64 0, .int .i64 0, .string ⟨#[]⟩, .slice none 0 0] (m' + 1)).toList) := fun ty => by
  have hv := Tryz.zeroValue42 w
  simp [Builtin.clear_, run_underlying Tryz.underlying30, hv, Value.cells, hst]
 unfold Oper.wp
 simp [execOp, ho, resolve, invoke, builtin, hx, hrun, Result.andThen]
 refine hK' _ _ (hK _ (fun q r hr => ?_) (fr_setCells _ _ _))
 have hq : q < i := by
  have := (List.getElem?_eq_some_iff.1 hr).1
  simp at this
  omega
 rw [List.getElem?_take_of_lt hq] at hr
 have hl : r.length = 7 := hR r (List.mem_of_getElem? hr)
 exact at_out (h q r hr) (.inl (by omega))
def ofE (k : Int) (es : List XEntry) : List XEntry := es.filter (fun x => decide (x.entity = k))
theorem ofE_succ {k : Int} {es : List XEntry} {j : Nat} (hj : j < es.length) : ofE k (es.take (j + 1)) = if es[j].entity = k then ofE k (es.take j) ++ [es[j]] else ofE k (es.take j) := by
 rw [List.take_add_one, List.getElem?_eq_getElem hj]
 unfold ofE
 rw [List.filter_append]
 split
 · rename_i h
   rw [show (some es[j]).toList = [es[j]] from rfl, List.filter_cons_of_pos (by simpa using h)]
   rfl
 · rename_i h
   rw [show (some es[j]).toList = [es[j]] from rfl, List.filter_cons_of_neg (by simpa using h), List.filter_nil, List.append_nil]
theorem frontE_take {k : Int} : ∀ (l : List XEntry), ofE k (l.take (frontE k l)) = l.take (frontE k l) ∧ ∀ (h : frontE k l < l.length), l[frontE k l].entity ≠ k
 | [] => ⟨rfl, fun h => by simp at h⟩
 | x :: l => by
  by_cases hx : x.entity = k
  · have he : frontE k (x :: l) = frontE k l + 1 := by show (if x.entity = k then _ else _) = _; rw [if_pos hx]
    obtain ⟨h1, h2⟩ := frontE_take (k := k) l
    rw [he]
    refine ⟨?_, fun h => h2 (by simpa using h)⟩
    rw [List.take_succ_cons]
    show List.filter _ (x :: _) = _
    rw [List.filter_cons_of_pos (by simpa using hx)]
    exact congrArg _ h1
  · have he : frontE k (x :: l) = 0 := by show (if x.entity = k then _ else _) = _; rw [if_neg hx]
    rw [he]
    exact ⟨rfl, fun h => hx⟩
def DelPost (k : Int) (es : List XEntry) (G : Nat → Prop) (w : World) (e : Ending) (w' : World) : Prop := ∃ (A : Option Addr) (c : Nat), e = .returned (.slice A (ofE k es).length c) ∧ ListC EntryC 7 w' (· < w'.heap.size) [.slice A (ofE k es).length c] (ofE k es) ∧ Fr (fun q => q < w.heap.size ∧ ¬ G q) w w'
set_option maxHeartbeats 8000000 in
theorem delete_c (es : List XEntry) (css : List (List Value)) (A : Option Addr) (c g : Nat) (k : Int) (B : Nat) (w : World) (hl : ListC EntryC 7 w (· < w.heap.size) [.slice A es.length c] es) (hA : 0 < es.length → A = some ⟨g, 0, none⟩) (hlen : css.length = es.length) (hrl : ∀ r ∈ css, r.length = 7) (hR : RowsAt w g css)
 (hE : ∀ (i : Nat) x, es[i]? = some x → ∃ cs, css[i]? = some cs ∧ EntryC w (fun q => q < w.heap.size ∧ q ≠ g) cs x) (hB : w.cell? ⟨B, 0, none⟩ = some (.int .i64 k)) (hBl : B < w.heap.size) (hBg : B ≠ g) :
 Calls Tryz.prog 54 #[.slice A es.length c, .func (.func 55) #[] #[.pointer (some ⟨B, 0, none⟩)]] w (DelPost k es (fun q => q = g) w) := by
 have HIX := Lib.hid (indexE_c es A c k B w hl hB hBl)
 have HL := Lib.hid hl
 have HB := Lib.hid hB
 have HE := Lib.hid hE
 have HRL := Lib.hid hrl
 have HR := Lib.hid hR
 have HLN := Lib.hid hlen
 have hcap := hl.cap
 unfold maxLen at hcap
 obtain ⟨n, hnl⟩ : ∃ n, es.length = n := ⟨_, rfl⟩
 have HN := Lib.hid hnl
 obtain ⟨fr, hfr⟩ : ∃ fr, frontE k es = fr := ⟨_, rfl⟩
 have HF := Lib.hid (frontE_take (k := k) es)
 have hfl := frontE_le k es
 rw [hfr] at HIX HF hfl
 rw [hnl] at hcap HIX hA hfl ⊢
 clear hl hB hE hrl hR hlen hnl
 go_enter Tryz.func54, Tryz.ntmps54
 go_wp2_with fail
 refine HIX.out.mono ?_
 rintro e w2 ⟨rfl, hb2⟩
 by_cases hfn : fr = n
 case pos =>
  rw [if_pos hfn]
  have HALL := Lib.hid (show ofE k es = es by
   have h := HF.out.1
   rw [hfn, List.take_of_length_le (by have := HN.out; omega)] at h
   exact h)
  clear hfn HIX hA
  go_wp2_with fail
  go_ret
  unfold DelPost
  rw [HALL.out, HN.out]
  exact ⟨A, c, rfl, by have h := entries_keep HL.out hb2; rw [HN.out] at h; exact h, (Fr.ofBelow hb2).mono (fun q hq => hq.1)⟩
 case neg =>
 rw [if_neg hfn]
 have hfn2 : fr < n := by omega
 obtain rfl := hA (by omega)
 have hfi : ((fr : Int) == -1) = false := by simp
 have hgl : g < w.heap.size := by
  have h0 : 0 < css.length := by rw [HLN.out, HN.out]; omega
  have h1 := HR.out 0 css[0] (List.getElem?_eq_getElem h0)
  have h2 := HRL.out _ (List.getElem_mem h0)
  have h3 := (at_cells h1 0 (css[0][0]'(by omega)) (List.getElem?_eq_getElem (by omega))).1
  exact cell_lt h3
 have hG := HR.out.fr (Fr.ofBelow hb2) hgl
 have HG := Lib.hid hG
 have HB2 := Lib.hid hb2
 clear hG HIX
 go_wp2_with fail
 go_loopw [5, 6] (fun vi vj wr => ∃ (i j : Nat) (R : List (List Value)), vi = .int .i64 (i : Int) ∧ vj = .int .i64 (j : Int) ∧ i = (ofE k (es.take j)).length ∧ i < j ∧ j ≤ n ∧ R.length = n ∧ (∀ r ∈ R, r.length = 7) ∧ RowsAt wr g R ∧ (∀ q, j ≤ q → R[q]? = css[q]?) ∧
  (∀ (q : Nat) x, (ofE k (es.take j))[q]? = some x → ∃ cs, R[q]? = some cs ∧ EntryC wr (fun q => q < w.heap.size ∧ q ≠ g) cs x) ∧ Fr (fun q => q < w.heap.size ∧ q ≠ g) w wr) (fun _ vj _ => n - (intOf vj).toNat)
 case atStart =>
  have hne := HF.out.2 (by rw [HN.out]; exact hfn2)
  have hof : ofE k (es.take (fr + 1)) = es.take fr := by rw [ofE_succ (by rw [HN.out]; exact hfn2), if_neg hne]; exact HF.out.1
  refine ⟨fr, fr + 1, css, rfl, by first | rfl | (congr 1), ?_, by omega, by omega, by rw [HLN.out, HN.out], HRL.out, HG.out, fun q _ => rfl, fun q x hx => ?_, (Fr.ofBelow HB2.out).mono (fun q hq => hq.1)⟩
  · rw [hof, List.length_take, HN.out]; omega
  · rw [hof] at hx
    have hq : q < fr := by
     have := (List.getElem?_eq_some_iff.1 hx).1
     rw [List.length_take] at this
     omega
    rw [List.getElem?_take_of_lt hq] at hx
    obtain ⟨cs, h1, h2⟩ := HE.out q x hx
    exact ⟨cs, h1, EntryC.fr h2 ((Fr.ofBelow HB2.out).mono (fun q hq => hq.1))⟩
 case round =>
  obtain ⟨i, j, R, rfl, rfl, hi, hij, hjn, hRn, hR7, hRA, hRd, hKe, hF8⟩ := hrel
  generalize wr = w8 at *
  have HI := Lib.hid hi
  have HRA := Lib.hid hRA
  have HR7 := Lib.hid hR7
  have HRD := Lib.hid hRd
  have HKE := Lib.hid hKe
  have HF8 := Lib.hid hF8
  have hs8 := hF8.size
  have hg8 : g < w8.heap.size := by omega
  clear hRA hR7 hRd hKe hF8 hi
  by_cases hlt : j < n
  case pos =>
   have hltI : (j : Int) < (n : Int) := by omega
   have hjl : j < es.length := by rw [HN.out]; exact hlt
   have HST := Lib.hid (ofE_succ (k := k) hjl)
   obtain ⟨cs, hcj, hxc⟩ := HE.out j _ (List.getElem?_eq_getElem hjl)
   have hxc8 := EntryC.fr hxc HF8.out
   obtain ⟨Al, cl, hcs, hxb, hls⟩ := EntryC.lit hxc8
   subst hcs
   obtain ⟨x, hx⟩ : ∃ x, es[j] = x := ⟨_, rfl⟩
   rw [hx] at HST hxc8 hcj
   have HX := Lib.hid hx
   have HXC := Lib.hid hxc8
   have HCJ := Lib.hid hcj
   have hrow := HRA.out j _ (by rw [HRD.out j (Nat.le_refl _)]; exact hcj)
   obtain ⟨xi, xe, xd, xk, xo, xt, ls⟩ := x
   obtain ⟨nl, hnl⟩ : ∃ n, ls.length = n := ⟨_, rfl⟩
   simp only [hnl] at hrow HXC HCJ
   have HAR := Lib.hid (show w8.rangeAt g (j * 7) [.int .i64 xi, .int .i64 xe, .int .i64 xd, .int .i64 xk, .int .i64 xo, .string xt, .slice Al nl cl] from fun q u hu => (at_cells hrow q u hu).1)
   have hnz : 0 < n := by omega
   have hBw : w8.cell? ⟨B, 0, none⟩ = some (.int .i64 k) := (HF8.out.cell (p := ⟨B, 0, none⟩) ⟨hBl, hBg⟩).trans HB.out
   have HBW := Lib.hid hBw
   clear hcj hxc hxc8 hxb hls hx hrow hnl hBw
   go_upto_region 8 with (first | (show wpList _ _ _ (Oper.mk (some 25) _ _ _ _ _ :: _) _ _; refine wpList_load_mid rfl 42 (.tmp 24) rfl g (j * 7) rfl [.int .i64 xi, .int .i64 xe, .int .i64 xd, .int .i64 xk, .int .i64 xo, .string xt, .slice Al nl cl] _ HAR.out Tryz.underlying42 rfl info_entry ?_) | (show wpList _ _ _ (Oper.mk none (Op.store _ (Operand.tmp 7) _) _ _ _ _ :: _) _ _; refine wpList_store_fresh3 rfl 42 (.tmp 7) (.tmp 25) rfl rfl w8 #[.int .i64 0, .int .i64 0, .int .i64 0, .int .i64 0, .int .i64 0, .string ⟨#[]⟩, .slice none 0 0] 42 #[.int .i64 xi, .int .i64 xe, .int .i64 xd, .int .i64 xk, .int .i64 xo, .string xt, .slice Al nl cl] rfl rfl rfl info_entry rfl (by simp [Value.oneCell']) ?_; intro wx HX2 HBX HSX))
   have HXX := Lib.hid HX2
   have HDL := Lib.hid (del_c xi xe xd xk xo xt Al nl cl k B wx ((HBX.cell (p := ⟨B, 0, none⟩) (by show B < _; omega)).trans HBW.out) (by have := HBX.size; omega))
   have HBX2 := Lib.hid HBX
   clear HX2 HBX
   go_wp2_with (show wpList _ _ _ (Oper.mk (some 27) _ _ _ _ _ :: _) _ _; refine wpList_load_row_g rfl 42 (.tmp 7) rfl w8.heap.size rfl _ _ _ _ HXX.out Tryz.underlying42 rfl info_entry ?_)
   refine HDL.out.mono ?_
   rintro e w9 ⟨rfl, hb9⟩
   have HXX9 := Lib.hid ((hb9.block _ HSX).trans HXX.out)
   have hb89 := HBX2.out.trans (hb9.mono HBX2.out.size)
   have HRA9 := Lib.hid (HRA.out.fr (Fr.ofBelow hb89) hg8)
   have HF9 := Lib.hid (HF8.out.trans ((Fr.ofBelow hb89).mono (fun q hq => Nat.lt_of_lt_of_le hq.1 hs8)))
   have HB89 := Lib.hid hb89
   clear hb9 hb89
   by_cases hxe : xe = k
   case pos =>
    have hxb : (xe != k) = false := by simpa using hxe
    have HEQ := Lib.hid (show ofE k (es.take (j + 1)) = ofE k (es.take j) ++ [⟨xi, xe, xd, xk, xo, xt, ls⟩] by rw [HST.out, if_pos hxe])
    have hin : i < n := by omega
    have hinI : (i : Int) < (n : Int) := by omega
    rw [hxb]
    clear hxe
    go_wp2_with (first | (show wpList _ _ _ (Oper.mk (some 32) _ _ _ _ _ :: _) _ _; refine wpList_load_row_g rfl 42 (.tmp 7) rfl w8.heap.size rfl _ _ _ _ HXX9.out Tryz.underlying42 rfl info_entry ?_) | (show wpList _ _ _ (Oper.mk none (Op.store _ (Operand.tmp 33) _) _ _ _ _ :: _) _ _; refine wpList_store_rows rfl rfl (.tmp 33) (.tmp 32) rfl w9 g i R [.int .i64 xi, .int .i64 xe, .int .i64 xd, .int .i64 xk, .int .i64 xo, .string xt, .slice Al nl cl] rfl rfl HRA9.out HR7.out (by rw [hRn]; exact hin) rfl (by simp [Value.oneCell']) ?_; intro wa hra hfa))
    go_roundw
    case rel =>
     have hfr : Fr (fun q => q < w.heap.size ∧ q ≠ g) w8 wa := ((Fr.ofBelow HB89.out).mono (fun q hq => Nat.lt_of_lt_of_le hq.1 hs8)).trans (hfa.mono (fun q hq => hq.2))
     refine ⟨i + 1, j + 1, R.set i [.int .i64 xi, .int .i64 xe, .int .i64 xd, .int .i64 xk, .int .i64 xo, .string xt, .slice Al nl cl], by go_num, by go_num, by rw [HEQ.out, List.length_append, ← HI.out]; rfl, by omega, by omega, by rw [List.length_set]; exact hRn, fun r hr => ?_, hra, fun q hq => ?_, fun q y hy => ?_, HF9.out.trans (hfa.mono (fun q hq => hq.2))⟩
     · rcases List.mem_or_eq_of_mem_set hr with h | h
       · exact HR7.out r h
       · rw [h]; rfl
     · rw [List.getElem?_set_ne (by omega)]
       exact HRD.out q (by omega)
     · rw [HEQ.out] at hy
       rcases Nat.lt_or_ge q i with h | h
       · rw [List.getElem?_append_left (by rw [← HI.out]; exact h)] at hy
         obtain ⟨cs, h1, h2⟩ := HKE.out q y hy
         exact ⟨cs, by rw [List.getElem?_set_ne (by omega)]; exact h1, EntryC.fr h2 hfr⟩
       · have hqi : q = i := by
          have := (List.getElem?_eq_some_iff.1 hy).1
          rw [List.length_append, ← HI.out] at this
          simp at this
          omega
         subst hqi
         rw [List.getElem?_append_right (by rw [← HI.out]; exact Nat.le_refl _), ← HI.out, Nat.sub_self] at hy
         obtain rfl := Option.some.inj hy
         exact ⟨_, by rw [List.getElem?_set_self (by rw [hRn]; exact hin)], EntryC.fr HXC.out hfr⟩
    case measure => first | exact meas_v hlt | (simp only [intOf]; omega)
   case neg =>
    have hxb : (xe != k) = true := by simpa using hxe
    have HEQ := Lib.hid (show ofE k (es.take (j + 1)) = ofE k (es.take j) by rw [HST.out, if_neg hxe])
    rw [hxb]
    clear hxe
    go_wp2_with fail
    go_roundw
    case rel =>
     have hfr : Fr (fun q => q < w.heap.size ∧ q ≠ g) w8 w9 := (Fr.ofBelow HB89.out).mono (fun q hq => Nat.lt_of_lt_of_le hq.1 hs8)
     refine ⟨i, j + 1, R, rfl, by go_num, by rw [HEQ.out]; exact HI.out, by omega, by omega, hRn, HR7.out, HRA9.out, fun q hq => HRD.out q (by omega), fun q y hy => ?_, HF9.out⟩
     rw [HEQ.out] at hy
     obtain ⟨cs, h1, h2⟩ := HKE.out q y hy
     exact ⟨cs, h1, EntryC.fr h2 hfr⟩
    case measure => first | exact meas_v hlt | (simp only [intOf]; omega)
  case neg =>
   have hltI : ¬ (j : Int) < (n : Int) := by omega
   have hjn2 : j = n := by omega
   have HOF := Lib.hid (show ofE k (es.take j) = ofE k es by rw [List.take_of_length_le (by have := HN.out; omega)])
   have hin : i < n := by omega
   have hinc : i < c := by omega
   have hinI : (i : Int) < (n : Int) := by omega
   have hilen : i = (ofE k es).length := by rw [← HOF.out]; exact HI.out
   have HIL := Lib.hid hilen
   clear hjn2 hilen
   go_wp2_with (show wpList _ _ _ (Oper.mk none (Op.call _) _ _ _ _ :: _) _ _; refine wpList_clear_rows rfl (.tmp 38) rfl w8 g i (n - i) (c - i) R rfl (by omega) (by omega) HRA.out HR7.out ?_; intro w9 hra hf9)
   go_ret
   have hlen2 : (ofE k es).length ≤ c := by rw [← HIL.out]; omega
   refine ⟨some ⟨g, 0, none⟩, c, by rw [← HIL.out]; rfl, ⟨some ⟨g, 0, none⟩, c, rfl, hlen2, by unfold maxLen; omega, fun _ => ⟨g, 0, rfl, by have := hf9.size; show g < _; omega, fun q y hy => ?_⟩⟩, (HF8.out.trans (hf9.mono (fun q hq => hq.2))).mono (fun q hq => ⟨hq.1, hq.2⟩)⟩
   have hy2 : (ofE k (es.take j))[q]? = some y := by rw [HOF.out]; exact hy
   obtain ⟨cs, h1, h2⟩ := HKE.out q y hy2
   have hqi : q < i := by
    have := (List.getElem?_eq_some_iff.1 hy2).1
    rw [← HI.out] at this
    exact this
   have h3 := hra q cs (by rw [List.getElem?_take_of_lt hqi]; exact h1)
   refine ⟨cs, EntryC.mono (EntryC.fr h2 (hf9.mono (fun q hq => hq.2))) (fun q hq => by have := hf9.size; omega), ?_⟩
   rw [Nat.zero_add]
   exact h3.mono (fun q hq => by have := hf9.size; rw [hq]; omega)
def OfPost (k : Int) (es : List XEntry) (w : World) (e : Ending) (w' : World) : Prop := ∃ (A : Option Addr) (c : Nat), e = .returned (.slice A (ofE k es).length c) ∧ ListC EntryC 7 w' (· < w'.heap.size) [.slice A (ofE k es).length c] (ofE k es) ∧ Below w.heap.size w w'
theorem outN_delete {es : List XEntry} {A : Option Addr} {c B : Nat} {k : Int} {B0 : Nat} {w : World} (h : OutN B0 es (.slice A es.length c) w) (hB : w.cell? ⟨B, 0, none⟩ = some (.int .i64 k)) (hBl : B < B0) (hw : B0 ≤ w.heap.size) :
 ∃ g, B0 ≤ g ∧ Calls Tryz.prog 54 #[.slice A es.length c, .func (.func 55) #[] #[.pointer (some ⟨B, 0, none⟩)]] w (DelPost k es (fun q => q = g) w) := by
 have hl := h.list.mono (Q' := (· < w.heap.size)) (fun h => EntryC.mono h (fun q hq => hq.2)) (fun q hq => hq.2)
 obtain ⟨css, h1, h2, h3, h4⟩ := h
 rcases h2.2 with ⟨he, h0⟩ | ⟨g, cap, cur, he, hb, hg, _⟩
 · have hes : es = [] := List.eq_nil_of_length_eq_zero h0
   subst hes
   have hcs : css = [] := List.eq_nil_of_length_eq_zero (by rw [h1]; rfl)
   subst hcs
   exact ⟨B0, Nat.le_refl _, delete_c [] [] A c B0 k B w hl (fun h => by simp at h) rfl (by simp) (fun i cs h => by simp at h) (fun i x h => by simp at h) hB (by omega) (by omega)⟩
 · simp only [Value.slice.injEq] at he
   obtain ⟨rfl, _, rfl⟩ := he
   refine ⟨g, hb, delete_c es css _ c g k B w hl (fun _ => rfl) h1 h3 (fun i cs hi => ?_) (fun i x hx => ?_) hB (by omega) (by omega)⟩
   · have := At.flat (Q := fun q => q = g) h3 0 (own_at h2 rfl) i cs hi
     rw [Nat.zero_add] at this
     exact this
   · obtain ⟨cs, k1, k2⟩ := h4 i x hx
     exact ⟨cs, k1, EntryC.mono k2 (fun q hq => ⟨hq.1.2, fun e => hq.2 (by rw [e]; rfl)⟩)⟩
set_option maxHeartbeats 2000000 in
theorem jof_c (D O : Nat → Prop) (J : Nat) (g : XGroup) (es : List XEntry) (k : Int) (w : World) (hj : JC w D O J g es) (hln : ∀ x ∈ es, x.lines.length ≤ 100000) (hes : es.length ≤ 100000) : Calls Tryz.prog 14 #[.pointer (some ⟨J, 0, none⟩), .int .i64 k] w (OfPost k es w) := by
 go_enter Tryz.func14, Tryz.ntmps14
 go_upto_region 1 with fail
 have H := heap_alloc_new w (.cells #[.int .i64 k] 3)
 have HB := below1 w (.cells #[.int .i64 k] 3)
 generalize w.alloc (.cells #[.int .i64 k] 3) = W at *
 have HS := blk_lt H
 have HK := Lib.hid (blk_cell H 0)
 have HEN := Lib.hid (entries_n D O J g es W (hj.below HB) hln hes)
 clear H hj hln
 go_wp2_with fail
 refine HEN.out.mono ?_
 rintro e w2 ⟨A, c, rfl, hout, hb2⟩
 obtain ⟨g2, hg2, hdel⟩ := outN_delete (k := k) (B := w.heap.size) hout ((hb2.cell (p := ⟨w.heap.size, 0, none⟩) HS).trans HK.out) HS hb2.size
 have HDL := Lib.hid hdel
 have hb02 := HB.trans (hb2.mono HB.size)
 clear hout hdel HEN
 obtain ⟨n, hn⟩ : ∃ n, es.length = n := ⟨_, rfl⟩
 rw [hn] at HDL ⊢
 clear hn
 go_wp2_with fail
 refine HDL.out.mono ?_
 rintro e w3 ⟨A3, c3, rfl, hl3, hf3⟩
 have HL3 := Lib.hid hl3
 have HB3 := Lib.hid (show Below w.heap.size w w3 from ((Fr.ofBelow hb02).trans (hf3.mono (fun q hq => ⟨Nat.lt_of_lt_of_le hq hb02.size, by omega⟩))).below)
 obtain ⟨m, hm⟩ : ∃ m, (ofE k es).length = m := ⟨_, rfl⟩
 have HM := Lib.hid hm
 rw [hm]
 clear hl3 hf3 hm
 go_wp2_with fail
 go_ret
 exact ⟨A3, c3, by rw [HM.out]; rfl, HL3.out, HB3.out⟩
theorem OutAt.app {B : Nat} {es : List XEntry} {css : List (List Value)} {v v2 : Value} {w w1 w2 : World} {x : XEntry} {cs : List Value} (h1 : css.length = es.length) (h2 : w.ownsRow B 42 7 v es.length css.flatten) (h3 : ∀ cs ∈ css, cs.length = 7)
 (h4 : ∀ (i : Nat) x, es[i]? = some x → ∃ cs, css[i]? = some cs ∧ EntryC w (fun q => q < B) cs x) (hb : Below w.heap.size w w1) (hBw : B ≤ w.heap.size)
 (hx : EntryC w (fun q => q < B) cs x) (hg : w1.grownBy w2 v.ownBlock) (hown : w2.ownsRow B 42 7 v2 (es.length + 1) (css.flatten ++ cs)) : OutAt B (es ++ [x]) v2 w2 := by
 have hs := hb.size
 have hF : Fr (fun q => q < B) w w2 := ((Fr.ofBelow hb).mono (fun q hq => Nat.lt_of_lt_of_le hq hBw)).grown hg (fun q hq => Nat.lt_of_lt_of_le hq hBw) (fun q hq hr => by have h : B ≤ q := (h2.lt _ hq).1; omega)
 refine ⟨css ++ [cs], by simp [h1], by rw [List.length_append]; simpa using hown, fun c hc => ?_, fun i y hy => ?_⟩
 · rcases List.mem_append.1 hc with hc | hc
   · exact h3 c hc
   · simp at hc; subst hc; exact hx.len
 · rcases Nat.lt_or_ge i es.length with hi | hi
   · rw [List.getElem?_append_left hi] at hy
     obtain ⟨c, k1, k2⟩ := h4 i y hy
     exact ⟨c, by rw [List.getElem?_append_left (by omega)]; exact k1, EntryC.fr k2 hF⟩
   · have hie : i = es.length := by
      have := (List.getElem?_eq_some_iff.1 hy).1
      simp at this; omega
     subst hie
     simp at hy
     subst hy
     exact ⟨cs, by rw [List.getElem?_append_right (by omega)]; simp [h1], EntryC.fr hx hF⟩
theorem OutAt.list {B : Nat} {es : List XEntry} {v : Value} {w : World} (h : OutAt B es v w) (hB : B ≤ w.heap.size) : ListC EntryC 7 w (· < w.heap.size) [v] es := by
 obtain ⟨css, h1, h2, h3, h4⟩ := h
 exact own_list h3 h2 (fun i x hx => by
  obtain ⟨cs, k1, k2⟩ := h4 i x hx
  exact ⟨cs, k1, EntryC.mono k2 (fun q hq => by omega)⟩) (fun q hq => (h2.lt _ hq).2)
set_option maxHeartbeats 4000000 in
theorem rof_c (es : List XEntry) (A : Option Addr) (c : Nat) (k : Int) (w : World) (hl : ListC EntryC 7 w (· < w.heap.size) [.slice A es.length c] es) (hes : es.length ≤ 100000) : Calls Tryz.prog 16 #[.slice A es.length c, .int .i64 k] w (OfPost k es w) := by
 obtain ⟨ia, hia, hzia, hsia, hbia⟩ := info_parts info_entryA
 have HL := Lib.hid hl
 have hcap := hl.cap
 unfold maxLen at hcap
 obtain ⟨n, hnl⟩ : ∃ n, es.length = n := ⟨_, rfl⟩
 have HN := Lib.hid hnl
 rw [hnl] at hcap hes ⊢
 clear hl hnl
 go_enter Tryz.func16, Tryz.ntmps16
 go_wp2_with fail
 go_loopw [5, 6] (fun v i wr => ∃ j : Nat, j ≤ n ∧ i = .int .i64 (j : Int) ∧ OutAt w.heap.size (ofE k (es.take j)) v wr ∧ Below w.heap.size w wr) (fun _ i _ => n - (intOf i).toNat)
 case atStart => exact ⟨0, by omega, rfl, ⟨[], rfl, World.ownsRow_nil _ _ _ _, by simp, fun i x h => by simp [ofE] at h⟩, Below.refl _ _⟩
 case round =>
  obtain ⟨j, hj, rfl, hout, hb8⟩ := hrel
  generalize wr = w8 at *
  have HB8 := Lib.hid hb8
  obtain ⟨cs3, q1, q2, q3, q4⟩ := hout
  have HOUT := Lib.hid (show OutAt w.heap.size (ofE k (es.take j)) u5 w8 from ⟨cs3, q1, q2, q3, q4⟩)
  by_cases hlt : j < n
  case pos =>
   have hltI : (j : Int) < (n : Int) := by omega
   have hjl : j < es.length := by rw [HN.out]; exact hlt
   obtain ⟨b, o, cs, hAe, hbw, hxc, hat⟩ := ListC.get HL.out j hjl
   subst hAe
   have HST := Lib.hid (ofE_succ (k := k) hjl)
   obtain ⟨Al, cl, hcs, hxb, hls⟩ := EntryC.lit hxc
   subst hcs
   obtain ⟨x, hx⟩ : ∃ x, es[j] = x := ⟨_, rfl⟩
   rw [hx] at hxc HST hat
   obtain ⟨xi, xe, xd, xk, xo, xt, ls⟩ := x
   obtain ⟨nl, hnl⟩ : ∃ n, ls.length = n := ⟨_, rfl⟩
   simp only [hnl] at hat hxc
   have hat2 := hat.fr (Fr.ofBelow hb8)
   have hc1 : w8.cell? ⟨b, o + j * 7 + 1, none⟩ = some (.int .i64 xe) := hat2.c (j := 1) rfl
   have HAR := Lib.hid hat2.range
   have HXC := Lib.hid (EntryC.fr hxc (Fr.ofBelow hb8))
   have hnz : 0 < n := by omega
   have HQ := Lib.hid (And.intro q1 (And.intro q2 (And.intro q3 q4)))
   have hlk : (ofE k (es.take j)).length ≤ 100000 := Nat.le_trans (List.length_filter_le _ _) (by rw [List.length_take]; omega)
   have hs8 := hb8.size
   clear hxc hat hat2 hls hxb hx hbw hnl q1 q2 q3 q4 hb8
   by_cases hxe : xe = k
   case neg =>
    have hxb : (xe == k) = false := by simpa using hxe
    have HEQ := Lib.hid (show ofE k (es.take (j + 1)) = ofE k (es.take j) by rw [HST.out, if_neg hxe])
    clear hxe
    go_wp2_with fail
    go_roundw
    case rel => exact ⟨j + 1, by omega, by go_num, by rw [HEQ.out]; exact HOUT.out, HB8.out⟩
    case measure => first | exact meas_v hlt | (simp only [intOf]; omega)
   case pos =>
    have hxb : (xe == k) = true := by simpa using hxe
    have HEQ := Lib.hid (show ofE k (es.take (j + 1)) = ofE k (es.take j) ++ [⟨xi, xe, xd, xk, xo, xt, ls⟩] by rw [HST.out, if_pos hxe])
    clear hxe
    go_wp2_with (first | (show wpList _ _ _ (Oper.mk (some 24) _ _ _ _ _ :: _) _ _; refine wpList_load_mid rfl 42 (.tmp 23) rfl b (o + j * 7) rfl [.int .i64 xi, .int .i64 xe, .int .i64 xd, .int .i64 xk, .int .i64 xo, .string xt, .slice Al nl cl] _ HAR.out Tryz.underlying42 rfl info_entry ?_) | (at_builtin; go_loud (refine wpList_app _ rfl (.tmp 20) (.tmp 25) 30 rfl w.heap.size 42 ia _ 7 80 Tryz.underlying30 hia hzia hsia hbia rfl (by decide) u5 (ofE k (es.take j)).length cs3.flatten rfl (HQ.out.2.1.alloc _) (fun _ => True) (some ⟨w8.heap.size, 0, none⟩) 1 1 [.int .i64 xi, .int .i64 xe, .int .i64 xd, .int .i64 xk, .int .i64 xo, .string xt, .slice Al nl cl] rfl (rd_new (heap_alloc_new _ _) rfl) (by simp [Value.oneCell']) (by simp only [maxLen]; omega) (by omega) (by simp; omega) ?_); intro v9 wa hown9 hg9 hat9))
    go_roundw
    case rel =>
     refine ⟨j + 1, by omega, by go_num, ?_, below_grown (HB8.out.alloc (by omega) _) hg9 (fun q hq => (HQ.out.2.1.lt _ hq).1) (Nat.le_refl _)⟩
     rw [HEQ.out]
     exact OutAt.app HQ.out.1 HQ.out.2.1 HQ.out.2.2.1 HQ.out.2.2.2 (below1 w8 _) hs8 HXC.out hg9 hown9
    case measure => first | exact meas_v hlt | (simp only [intOf]; omega)
  case neg =>
   have hltI : ¬ (j : Int) < (n : Int) := by omega
   have hjn : j = es.length := by have := HN.out; omega
   have hl := HOUT.out.list hb8.size
   rw [hjn, List.take_length] at hl q2
   obtain ⟨Ao, no, co, rfl⟩ := own_shape q2
   obtain rfl : no = (ofE k es).length := own_val q2
   have HLX := Lib.hid hl
   obtain ⟨no, hno⟩ : ∃ x, (ofE k es).length = x := ⟨_, rfl⟩
   have HNO := Lib.hid hno
   rw [hno]
   clear hjn hl hno q1 q2 q3 q4 HOUT
   go_wp2_with fail
   go_ret
   exact ⟨Ao, co, by rw [HNO.out]; rfl, HLX.out, HB8.out⟩
end Go.Proofs.YtebdajkknkapcaaGreat
