/- Locks as keys of a map; the set of locks. -/
import Derived.Test.YtebdajkknkapcaaGreatG13xB0B2
import Derived.Test.YtebdajkknkapcaaGreatG13xB3B8
import Derived.Test.YtebdajkknkapcaaGreatG13xB9B13
import Derived.Test.YtebdajkknkapcaaGreatG13xB14
import Derived.Test.YtebdajkknkapcaaGreatG13xB16
import Derived.Test.YtebdajkknkapcaaGreatG13xB17B24
import Derived.Test.YtebdajkknkapcaaGreatG13xB25B28
import Derived.Test.YtebdajkknkapcaaGreatG13xB29B32
import Derived.Test.YtebdajkknkapcaaGreatG13xB33S2
import Derived.Test.YtebdajkknkapcaaGreatG13xC4E3
import Derived.Test.YtebdajkknkapcaaGreatG13xE6F6
import Derived.Test.YtebdajkknkapcaaGreatG13xF4I7
import Derived.Test.YtebdajkknkapcaaGreatG13xI8I11
import Derived.Test.YtebdajkknkapcaaGreatG13xI13I15
import Derived.Test.YtebdajkknkapcaaGreatG13xI16I18
import Derived.Test.YtebdajkknkapcaaGreatG13xI19Q2
import Derived.Test.YtebdajkknkapcaaGreatProg
import Derived.Maps.RangeWalk
import Derived.Shelf.SlSortCmp.WholeK
import Derived.Shelf.SlSortCmp.NoneTotal
import Derived.Shelf.SlIter.Collect
import Derived.Maps.OwnSet
set_option linter.unusedVariables false
set_option linter.unusedSimpArgs false
set_option maxRecDepth 4000
attribute [local go_sem ↓] Go.wp_at_zero Go.wp_at_succ
namespace Go.Proofs.YtebdajkknkapcaaGreat
open Go Go.RowKit Go.ChangeMaps
open Go.Maps (Keyed)
open Go.WideMaps (KeyLaw)
theorem lock_row : (143 : TypeId) < Tryz.prog.types.size := of_decide_eq_true (by kernel_rfl)
theorem lock_wide : (match Tryz.prog.underlying 143 with | some (.array _ _) | some (.struct _) => true | _ => false) = true := by kernel_rfl
theorem lock_law : KeyLaw Tryz.prog 143 := deep_law_laid try_laidOut (m := 2) (by omega) lock_row (by kernel_rfl) lock_wide
theorem lock_keyed : Keyed Tryz.prog 143 := Keyed.of_law lock_law
theorem lock_cells : Tryz.prog.cellsOf 143 = 2 := by kernel_rfl
theorem lock_keyLits {d : Nat} {a z : Int} (ha : intBd a) (hz : intBd z) : Tryz.prog.keyLits (d + 2) 143 [.int .i64 a, .int .i64 z] = some [.int .i64 a, .int .i64 z] := by
 unfold Program.keyLits
 rw [Tryz.underlying143]
 have h1 := keyLits_int (d := d) ha
 have h2 := keyLits_int (d := d) hz
 simp [lock_cells, int_cells, h1, h2]
theorem lock_keyType : Tryz.prog.keyType 143 = true := by kernel_rfl
theorem lock_isStruct : ∃ fs, Tryz.prog.underlying 143 = some (.struct fs) := ⟨_, Tryz.underlying143⟩
theorem lock_formed {a b : Value} : (Value.agg #[a, b]).formed Tryz.prog 143 = true := by
 obtain ⟨fs, hu⟩ := lock_isStruct
 simp [Value.formed, hu, lock_cells]
abbrev KK := {p : Int × Int // intBd p.1 ∧ intBd p.2}
def kKey (c : KK) : Lit := .string (keyBytes [.int .i64 c.1.1, .int .i64 c.1.2])
def kVal (c : KK) : Value := .agg #[.int .i64 c.1.1, .int .i64 c.1.2]
theorem kKey_of (c : KK) : keyOf Tryz.prog 143 (kVal c) = some (kKey c) := by
 obtain ⟨fs, hu⟩ := lock_isStruct
 obtain ⟨d, hd⟩ := types_size
 unfold keyOf kVal
 rw [hu]
 simp only [lock_keyType, lock_formed, Bool.and_self, if_true, hd, Value.cells]
 rw [lock_keyLits c.2.1 c.2.2]; rfl
theorem kKey_inj (x y : KK) (h : kKey x = kKey y) : x = y := by
 have h1 := kKey_of x
 have h2 := kKey_of y
 rw [← h] at h2
 have h3 := lock_keyed.inj h1 h2
 have h4 := congrArg Array.toList (Value.agg.inj h3)
 simp only [List.cons.injEq, Value.int.injEq, true_and, and_true] at h4
 exact Subtype.ext (Prod.ext h4.1 h4.2)
theorem kKey_lit (x : KK) : WideAt.IsKeyLit (kKey x) := trivial
theorem kmap_uty : Tryz.prog.underlying 137 = some (.map 143 4) := by kernel_rfl
def MapL (w : World) (b n : Nat) (f : KK → Bool) : Prop :=
 ∃ D : UD, w.ownsMap Tryz.prog 143 (plainElem Tryz.prog 4) b n D ∧ ∀ c : KK, Maps.has D (kKey c) = f c ∧ D.atKey (kKey c) (.lit (.bool false)) = .lit (.bool (f c))
section
variable {w w' : World} {b n : Nat} {f : KK → Bool}
theorem MapL.made (w : World) : MapL (w.alloc (.map #[] 0)) w.heap.size 0 (fun _ => false) := ⟨_, World.ownsMap_made w Tryz.prog 143 _, fun _ => ⟨rfl, rfl⟩⟩
theorem MapL.lt (h : MapL w b n f) : b < w.heap.size := by
 obtain ⟨D, h1, h2⟩ := h
 exact h1.lt
theorem MapL.same (h : MapL w b n f) (hb : w'.heap[b]? = w.heap[b]?) : MapL w' b n f := by
 obtain ⟨D, ⟨es, clock, h1, h3, h4, h5⟩, h2⟩ := h
 exact ⟨D, ⟨es, clock, hb.trans h1, h3, h4, h5⟩, h2⟩
theorem MapL.fr {Q : Nat → Prop} (h : MapL w b n f) (hf : Fr Q w w') (hb : Q b) : MapL w' b n f := h.same (hf.block b hb)
theorem MapL.below (h : MapL w b n f) (hb : Below w.heap.size w w') : MapL w' b n f := h.fr (Fr.ofBelow hb) h.lt
theorem MapL.mono (h : MapL w b n f) {n' : Nat} (hn : n ≤ n') : MapL w b n' f := by
 obtain ⟨D, h1, h2⟩ := h
 exact ⟨D, h1.mono hn, h2⟩
theorem MapL.eqv {g : KK → Bool} (h : MapL w b n f) (hg : ∀ c, f c = g c) : MapL w b n g := by
 obtain ⟨D, h1, h2⟩ := h
 exact ⟨D, h1, fun c => by rw [← hg c]; exact h2 c⟩
theorem MapL.look (h : MapL w b n f) (c : KK) : (Instr.lookup 137 (.map (some b)) (kVal c) false).run Tryz.prog w = .ok (.bool (f c)) w := by
 obtain ⟨D, h1, h2⟩ := h
 obtain ⟨v, ps, hrun, hv⟩ := h1.lookup lock_keyed kmap_uty (bool_zero w) (plainElem_bool bool_uty false) (kKey_of c)
 obtain ⟨a, rfl, ha⟩ := plainElem_bool_inv bool_uty hv
 rw [(h2 c).2] at ha
 simp only [Prod.mk.injEq, DataW.lit.injEq, Lit.bool.injEq] at ha
 rw [hrun, ha.1]
theorem fr_turned {w w' : World} {b : Nat} (h : w.mapTurned w' b) : Fr (fun q => q ≠ b) w w' ∧ w'.heap.size = w.heap.size := by
 obtain ⟨es, clock, es', clock', hb, rfl⟩ := h
 exact ⟨⟨rfl, rfl, rfl, by simp [setBlock], fun i hi => heap_setBlock_other hb _ hi⟩, by simp [setBlock]⟩
theorem MapL.store (h : MapL w b n f) (hn : n < maxLen) (c : KK) :
 ∃ w', (Instr.mapUpdate 137 (.map (some b)) (kVal c) (.bool true)).run Tryz.prog w = .ok () w' ∧ MapL w' b (n + 1) (fun d => if d = c then true else f d) ∧ Fr (fun q => q ≠ b) w w' ∧ w'.heap.size = w.heap.size := by
 obtain ⟨D, h1, h2⟩ := h
 obtain ⟨w2, hrun, h3, h4⟩ := h1.store lock_keyed kmap_uty hn (kKey_of c) (plainElem_bool bool_uty true)
 have hm : Maps.IsMap D := h1.isMap
 refine ⟨w2, hrun, ⟨_, h3, fun d => ?_⟩, fr_turned h4⟩
 by_cases hd : d = c
 · subst hd
   rw [Maps.atKey_put_same hm (kKey_lit d), Maps.has_put_same hm (kKey_lit d)]; simp
 · have hne : kKey d ≠ kKey c := fun e => hd (kKey_inj _ _ e)
   rw [Maps.atKey_put_other hne, Maps.has_put_other hne]; simp only [if_neg hd]; exact h2 d
theorem MapL.drop (h : MapL w b n f) (c : KK) (ty : TypeId) :
 ∃ w', (Builtin.delete_ #[137, 143] ty #[.map (some b), kVal c]).run Tryz.prog w = .ok (.tuple #[]) w' ∧ MapL w' b n (fun d => if d = c then false else f d) ∧ Fr (fun q => q ≠ b) w w' ∧ w'.heap.size = w.heap.size := by
 obtain ⟨D, h1, h2⟩ := h
 obtain ⟨w2, hrun, h3, h4⟩ := h1.drop lock_keyed kmap_uty (kKey_of c) ty
 refine ⟨w2, hrun, ⟨_, h3, fun d => ?_⟩, fr_turned h4⟩
 by_cases hd : d = c
 · subst hd
   rw [Maps.atKey_del_same, Maps.has_del_same]; simp
 · have hne : kKey d ≠ kKey c := fun e => hd (kKey_inj _ _ e)
   rw [Maps.atKey_del_other hne, Maps.has_del_other hne]; simp only [if_neg hd]; exact h2 d
end
end Go.Proofs.YtebdajkknkapcaaGreat
namespace Go.Proofs.YtebdajkknkapcaaGreat
open Go Go.RowKit
def LkC (w : World) (L b : Nat) (y m p ne : Int) (n : Nat) (f : KK → Bool) : Prop :=
 w.heap[L]? = some (.cells #[.int .i64 y, .int .i64 m, .int .i64 p, .int .i64 ne, .map (some b)] 139 (0, 0)) ∧ MapL w b n f ∧ L ≠ b
theorem LkC.fr {w w' : World} {Q : Nat → Prop} {L b : Nat} {y m p ne : Int} {n : Nat} {f : KK → Bool} (h : LkC w L b y m p ne n f) (hf : Fr Q w w') (hL : Q L) (hb : Q b) : LkC w' L b y m p ne n f := ⟨(hf.block L hL).trans h.1, h.2.1.fr hf hb, h.2.2⟩
theorem LkC.below {w w' : World} {L b : Nat} {y m p ne : Int} {n : Nat} {f : KK → Bool} (h : LkC w L b y m p ne n f) (hb : Below w.heap.size w w') : LkC w' L b y m p ne n f := h.fr (Fr.ofBelow hb) (blk_lt h.1) h.2.1.lt
end Go.Proofs.YtebdajkknkapcaaGreat
namespace Go.Proofs.YtebdajkknkapcaaGreat
open Go Go.RowKit Go.ChangeMaps
open Go.Maps (Keyed)
theorem kKey_same {a c : KK} : (kKey a).sameKey (kKey c) = true ↔ a = c :=
 ⟨fun h => kKey_inj _ _ (WideAt.sameKey_eq h), fun h => by rw [h]; exact WideAt.sameKey_self (kKey_lit c)⟩
def MostP (f : KK → Bool) (e last : Int) : Prop := (∀ c : KK, f c = true → c.1.1 = e → c.1.2 ≤ last) ∧ (last = -1 ∨ ∃ c : KK, f c = true ∧ c.1.1 = e ∧ c.1.2 = last)
theorem MostP.uniq {f : KK → Bool} {e a b : Int} (hp : ∀ c, f c = true → 0 ≤ c.1.2) (ha : MostP f e a) (hb : MostP f e b) : a = b := by
 rcases ha.2 with h1 | ⟨c, h1, h2, h3⟩ <;> rcases hb.2 with k1 | ⟨d, k1, k2, k3⟩
 · omega
 · have := ha.1 d k1 k2; have := hp d k1; omega
 · have := hb.1 c h1 h2; have := hp c h1; omega
 · have := ha.1 d k1 k2; have := hb.1 c h1 h2; omega
def KInv (f : KK → Bool) (e : Int) (left : Lit → Bool) (last : Int) : Prop := (∀ c : KK, left (kKey c) = true → f c = true) ∧ (∀ c : KK, f c = true → c.1.1 = e → left (kKey c) = false → c.1.2 ≤ last) ∧ (last = -1 ∨ ∃ c : KK, f c = true ∧ c.1.1 = e ∧ c.1.2 = last) ∧ -1 ≤ last ∧ last ≤ 1000
theorem KInv.start {f : KK → Bool} {e : Int} {D : UD} (hat : ∀ c, Maps.has D (kKey c) = f c) : KInv f e (Maps.has D) (-1) := by
 refine ⟨fun c hc => by rw [← hat c]; exact hc, fun c hf _ hl => ?_, Or.inl rfl, by omega, by omega⟩
 rw [hat c, hf] at hl
 cases hl
theorem KInv.step {f : KK → Bool} {e last : Int} {left : Lit → Bool} (h : KInv f e left last) {c : KK} (hl : left (kKey c) = true) (hc : c.1.1 = e) (hb : 0 ≤ c.1.2 ∧ c.1.2 ≤ 1000) {l2 : Int} (hm : (c.1.2 ≤ last ∧ l2 = last) ∨ (last < c.1.2 ∧ l2 = c.1.2)) : KInv f e (fun z => left z && !z.sameKey (kKey c)) l2 := by
 obtain ⟨h1, h2, h3, h4, h5⟩ := h
 have hf := h1 c hl
 refine ⟨fun d hd => h1 d (by simp at hd; exact hd.1), fun d hf hd hl => ?_, ?_, by omega, by omega⟩
 · simp only [Bool.and_eq_false_iff, Bool.not_eq_false'] at hl
   rcases hl with hl | hl
   · have := h2 d hf hd hl; omega
   · rw [kKey_same.1 hl]; omega
 · rcases hm with ⟨hm, rfl⟩ | ⟨hm, rfl⟩
   · exact h3
   · exact Or.inr ⟨c, hf, hc, rfl⟩
theorem KInv.done {f : KK → Bool} {e last : Int} {left : Lit → Bool} (h : KInv f e left last) (hl : ∀ kl, left kl = false) : MostP f e last := ⟨fun c hf hc => h.2.1 c hf hc (hl _), h.2.2.1⟩
def untD (y m p last : Int) : Int := if last < 0 then 0 else (calLast y m p last).1
end Go.Proofs.YtebdajkknkapcaaGreat
namespace Go.Proofs.YtebdajkknkapcaaGreat
open Go Go.RowKit
def chkL (y m p ne e d last : Int) : Int := if e < 0 ∨ ne ≤ e then 1 else if 0 ≤ last ∧ d ≤ untD y m p last then 12 else 0
theorem LkC.more {w : World} {L b : Nat} {y m p ne : Int} {n : Nat} {f : KK → Bool} (h : LkC w L b y m p ne n f) : LkC w L b y m p ne (n + 1) f := ⟨h.1, h.2.1.mono (Nat.le_succ n), h.2.2⟩
def bdS (x : XStep) : Prop := intBd x.entity ∧ intBd x.period
instance (x : XStep) : Decidable (bdS x) := by unfold bdS intBd; infer_instance
theorem kk0 : intBd ((0 : Int), (0 : Int)).1 ∧ intBd ((0 : Int), (0 : Int)).2 := by unfold intBd; omega
theorem MostP.same {f g : KK → Bool} {e a : Int} (h : ∀ c : KK, c.1.1 = e → f c = g c) (ha : MostP f e a) : MostP g e a :=
 ⟨fun c hc he => ha.1 c ((h c he).trans hc) he, ha.2.imp id (fun ⟨c, h1, h2, h3⟩ => ⟨c, (h c h2).symm.trans h1, h2, h3⟩)⟩
def ckP (y m p ne : Int) (f : KK → Bool) (e d r : Int) : Prop := (e < 0 ∨ ne ≤ e) ∧ r = 1 ∨ ∃ last, MostP f e last ∧ -1 ≤ last ∧ r = chkL y m p ne e d last
theorem ckP.uniq {y m p ne : Int} {f g : KK → Bool} {e d r s : Int} (hf : ∀ c, f c = true → 0 ≤ c.1.2) (h : ∀ c : KK, c.1.1 = e → f c = g c) (h1 : ckP y m p ne f e d r) (h2 : ckP y m p ne g e d s) : r = s := by
 rcases h1 with ⟨a, rfl⟩ | ⟨l1, m1, b1, rfl⟩
 · rcases h2 with ⟨_, rfl⟩ | ⟨l2, m2, b2, rfl⟩
   · rfl
   · unfold chkL; rw [if_pos a]
 · rcases h2 with ⟨a, rfl⟩ | ⟨l2, m2, b2, rfl⟩
   · unfold chkL; rw [if_pos a]
   · rw [m1.uniq hf (m2.same (fun c hc => (h c hc).symm))]
def ltK (a c : KK) : Prop := a.1.1 < c.1.1 ∨ a.1.1 = c.1.1 ∧ a.1.2 < c.1.2
theorem ltK_irr (a : KK) : ¬ ltK a a := fun h => by unfold ltK at h; omega
theorem ltK_trans {a b c : KK} (h : ltK a b) (h2 : ltK b c) : ltK a c := by unfold ltK at *; omega
theorem sortedK_uniq : ∀ {a b : List KK}, a.Pairwise ltK → b.Pairwise ltK → (∀ c, c ∈ a ↔ c ∈ b) → a = b
 | [], [], _, _, _ => rfl
 | [], y :: b, _, _, h => absurd ((h y).2 (List.mem_cons_self ..)) (by simp)
 | x :: a, [], _, _, h => absurd ((h x).1 (List.mem_cons_self ..)) (by simp)
 | x :: a, y :: b, ha, hb, h => by
  obtain ⟨ha1, ha2⟩ := List.pairwise_cons.1 ha
  obtain ⟨hb1, hb2⟩ := List.pairwise_cons.1 hb
  have hxy : x = y := by
   rcases List.mem_cons.1 ((h x).1 (List.mem_cons_self ..)) with e | hx
   · exact e
   · rcases List.mem_cons.1 ((h y).2 (List.mem_cons_self ..)) with e | hy
     · exact e.symm
     · exact absurd (ltK_trans (hb1 x hx) (ha1 y hy)) (ltK_irr y)
  subst hxy
  rw [sortedK_uniq ha2 hb2 (fun c => ?_)]
  constructor
  · intro hc
    rcases List.mem_cons.1 ((h c).1 (List.mem_cons_of_mem _ hc)) with e | h2
    · subst e; exact absurd (ha1 c hc) (ltK_irr c)
    · exact h2
  · intro hc
    rcases List.mem_cons.1 ((h c).2 (List.mem_cons_of_mem _ hc)) with e | h2
    · subst e; exact absurd (hb1 c hc) (ltK_irr c)
    · exact h2
def ListK (f : KK → Bool) (ks : List KK) : Prop := ks.Pairwise ltK ∧ ∀ c, c ∈ ks ↔ f c = true
theorem ListK.uniq {f g : KK → Bool} {a b : List KK} (h : ∀ c, f c = g c) (ha : ListK f a) (hb : ListK g b) : a = b := sortedK_uniq ha.1 hb.1 (fun c => by rw [ha.2, hb.2, h])
abbrev stepL (x : XStep) : List Value := [.int .i64 x.entity, .int .i64 x.period, .bool x.unlock]
theorem StepC.lit {w : World} {Q : Nat → Prop} {cs : List Value} {x : XStep} (h : StepC w Q cs x) : cs = stepL x ∧ bdS x := by
 obtain ⟨c0, c1, c2, rfl, ⟨rfl, h0⟩, ⟨rfl, h1⟩, h2⟩ := h
 have e2 : c2 = _ := h2
 subst e2
 exact ⟨rfl, h0, h1⟩
end Go.Proofs.YtebdajkknkapcaaGreat
namespace Go.Proofs.YtebdajkknkapcaaGreat
open Go Go.RowKit Go.Sort
def kL (c : KK) : List Value := [.int .i64 c.1.1, .int .i64 c.1.2]
end Go.Proofs.YtebdajkknkapcaaGreat
namespace Go.Proofs.YtebdajkknkapcaaGreat
open Go Go.RowKit Go.Shelf Go.Lib
open Go.Sort hiding Below
instance : Inhabited KK := ⟨⟨(0, 0), kk0⟩⟩
def KC (w : World) (Q : Nat → Prop) (cs : List Value) (c : KK) : Prop := cs = kL c
end Go.Proofs.YtebdajkknkapcaaGreat
namespace Go.Proofs.YtebdajkknkapcaaGreat
open Go Go.RowKit Go.Shelf
open Go.Maps (Keyed)
def CollK (f : KK → Bool) (left : Lit → Bool) (ss : List KK) : Prop := ss.Nodup ∧ (∀ c, c ∈ ss ↔ (f c = true ∧ left (kKey c) = false)) ∧ ∀ c, left (kKey c) = true → f c = true
theorem CollK.start {f : KK → Bool} {D : UD} (hat : ∀ c, Maps.has D (kKey c) = f c) : CollK f (Maps.has D) [] :=
 ⟨List.nodup_nil, fun c => by rw [hat c]; cases f c <;> simp, fun c hc => by rw [← hat c]; exact hc⟩
theorem CollK.step {f : KK → Bool} {left : Lit → Bool} {ss : List KK} (h : CollK f left ss) {c : KK} (hl : left (kKey c) = true) : CollK f (fun z => left z && !z.sameKey (kKey c)) (ss ++ [c]) := by
 obtain ⟨h1, h2, h3⟩ := h
 have hnew : c ∉ ss := fun hx => by have := ((h2 c).1 hx).2; rw [hl] at this; cases this
 refine ⟨List.nodup_append.2 ⟨h1, by simp, fun a ha b hb => by simp at hb; subst hb; exact fun e => hnew (e ▸ ha)⟩, fun d => ?_, fun d hd => h3 d (by simp at hd; exact hd.1)⟩
 by_cases hd : d = c
 · subst hd
   have hs : (kKey d).sameKey (kKey d) = true := kKey_same.2 rfl
   simp [h3 d hl, hs]
 · have hs : (kKey d).sameKey (kKey c) = false := by
    cases e : (kKey d).sameKey (kKey c) with
    | false => rfl
    | true => exact absurd (kKey_same.1 e) hd
   simp [h2 d, hd, hs]
def AllK (f : KK → Bool) (ss : List KK) : Prop := ss.Nodup ∧ ∀ c, c ∈ ss ↔ f c = true
theorem CollK.done {f : KK → Bool} {left : Lit → Bool} {ss : List KK} (h : CollK f left ss) (hl : ∀ kl, left kl = false) : AllK f ss := ⟨h.1, fun c => by rw [h.2.1 c, hl]; simp⟩
end Go.Proofs.YtebdajkknkapcaaGreat
namespace Go.Proofs.YtebdajkknkapcaaGreat
open Go Go.RowKit
theorem KC.fr {w w' : World} {Q : Nat → Prop} {cs : List Value} {c : KK} (h : KC w Q cs c) : KC w' Q cs c := h
theorem KC.mono {w : World} {Q Q' : Nat → Prop} {cs : List Value} {c : KK} (h : KC w Q cs c) : KC w Q' cs c := h
def IsLk (B : Nat) (y m p ne : Int) (f : KK → Bool) (v : Value) (w : World) : Prop := ∃ L b n : Nat, v = .pointer (some ⟨L, 0, none⟩) ∧ n ≤ 60 ∧ LkC w L b y m p ne n f ∧ B ≤ b
theorem IsLk.keep {B : Nat} {y m p ne : Int} {f : KK → Bool} : ∀ v w w', Below w.heap.size w w' → IsLk B y m p ne f v w → IsLk B y m p ne f v w' := fun v w w' hb ⟨L, b, n, h1, h2, h3, h4⟩ => ⟨L, b, n, h1, h2, h3.below hb, h4⟩
def GetPost (es : List XEntry) (id : Int) (w : World) (e : Ending) (w' : World) : Prop := Below w.heap.size w w' ∧
 ((idxE es id = none ∧ e = .returned (.tuple #[.agg #[.int .i64 0, .int .i64 0, .int .i64 0, .int .i64 0, .int .i64 0, .string ⟨#[]⟩, .slice none 0 0], .bool false])) ∨
  ∃ (k : Nat) (x : XEntry) (A : Option Addr) (c : Nat), idxE es id = some k ∧ es[k]? = some x ∧ e = .returned (.tuple #[.agg #[.int .i64 x.id, .int .i64 x.entity, .int .i64 x.date, .int .i64 x.kind, .int .i64 x.of_, .string x.text, .slice A x.lines.length c], .bool true]) ∧
   (intBd x.id ∧ intBd x.entity ∧ intBd x.date ∧ intBd x.kind ∧ intBd x.of_) ∧ ListC LineC 3 w' (fun q => w.heap.size ≤ q ∧ q < w'.heap.size) [.slice A x.lines.length c] x.lines)
set_option maxHeartbeats 2000000 in
theorem get_c (D O : Nat → Prop) (J : Nat) (g : XGroup) (es : List XEntry) (id : Int) (w : World) (hj : JC w D O J g es) (hid : intBd id) (hln : ∀ x ∈ es, x.lines.length ≤ 100000) (hes : es.length ≤ 100000) : Calls Tryz.prog 57 #[.pointer (some ⟨J, 0, none⟩), .int .i64 id] w (GetPost es id w) := by
 obtain ⟨gl, css, v, bi, br, hj⟩ := hj
 have HJ := Lib.hid hj
 have HID := Lib.hid hid
 have HLN := Lib.hid hln
 obtain ⟨Av, nv, cv, rfl⟩ := own_shape hj.row
 obtain rfl := own_val hj.row
 clear hj hid hln
 go_enter Tryz.func57, Tryz.ntmps57
 go_upto_region 1 with fail
 have H := heap_alloc_new w (.cells #[.int .i64 0, .int .i64 0, .int .i64 0, .int .i64 0, .int .i64 0, .string ⟨#[]⟩, .slice none 0 0] 42)
 have HB := below1 w (.cells #[.int .i64 0, .int .i64 0, .int .i64 0, .int .i64 0, .int .i64 0, .string ⟨#[]⟩, .slice none 0 0] 42)
 generalize w.alloc (.cells #[.int .i64 0, .int .i64 0, .int .i64 0, .int .i64 0, .int .i64 0, .string ⟨#[]⟩, .slice none 0 0] 42) = W at *
 have HZ := Lib.hid H
 have hj1 := HJ.out.below HB
 have HIX := Lib.hid hj1.idx
 have c22 := hj1.cell.2.1
 have c21 := hj1.cell.1
 have HS := blk_lt H
 clear H
 cases hix : idxE es id with
 | none =>
  have HLKE := Lib.hid (show (idxE es id).map (fun k : Nat => (k : Int)) = none by rw [hix]; rfl)
  have HXX := Lib.hid hix
  clear hix hj1
  go_wp2_with (first | (at_lookup; refine wpList_look_o rfl _ _ rfl bi _ _ rfl HIX.out id rfl HID.out ?_; rw [HLKE.out]) | (show wpList _ _ _ (Oper.mk none (Op.store _ (Operand.tmp 4) _) _ _ _ _ :: _) _ _; refine wpList_store_row rfl 42 (.tmp 4) (.tmp 22) rfl w.heap.size #[.int .i64 0, .int .i64 0, .int .i64 0, .int .i64 0, .int .i64 0, .string ⟨#[]⟩, .slice none 0 0] rfl rfl 42 #[.int .i64 0, .int .i64 0, .int .i64 0, .int .i64 0, .int .i64 0, .string ⟨#[]⟩, .slice none 0 0] HZ.out (by rw [info_entry]; rfl) rfl (by simp [Value.oneCell']) ?_))
  refine bodyPost_ret (v := _) (results_cell_tmp rfl _ _ w.heap.size 42 #[.int .i64 0, .int .i64 0, .int .i64 0, .int .i64 0, .int .i64 0, .string ⟨#[]⟩, .slice none 0 0] (0, 0) _ rfl (heap_setRow HZ.out _) Tryz.underlying42 rfl info_entry _ rfl) rfl ⟨below_setRow HB (Nat.le_refl _) _, .inl ⟨HXX.out, rfl⟩⟩
 | some k =>
  have HLKE := Lib.hid (show (idxE es id).map (fun k : Nat => (k : Int)) = some (k : Int) by rw [hix]; rfl)
  have HXX := Lib.hid hix
  obtain ⟨hk, hki⟩ := idxE_some hix
  clear hki
  have hl := hj1.list
  have hltO := hj1.ltO
  have hltD := hj1.ltD
  obtain ⟨b, o, cs, hAe, hbw, hxc, hat⟩ := ListC.get (n := es.length) hl k hk
  subst hAe
  have hxm : es[k] ∈ es := List.getElem_mem hk
  have hkx : es[k]? = some es[k] := List.getElem?_eq_getElem hk
  obtain ⟨x, hx⟩ : ∃ x, es[k] = x := ⟨_, rfl⟩
  rw [hx] at hxc hxm hkx
  have HKX := Lib.hid hkx
  have hxl := HLN.out x hxm
  obtain ⟨Al, cl, hcs, hxb, hls⟩ := EntryC.lit hxc
  subst hcs
  have HXB := Lib.hid hxb
  have hls2 : ListC LineC 3 W (· < W.heap.size) [.slice Al x.lines.length cl] x.lines := hls.mono (fun h => LineC.mono h (fun q hq => hq.elim (hltD q) (hltO q))) (fun q hq => hq.elim (hltD q) (hltO q))
  obtain ⟨xi, xe, xd, xk, xo, xt, ls⟩ := x
  simp only at hat hls2 hxl
  have HCP := Lib.hid (copied_c xi xe xd xk xo xt ls Al cl W hls2 hxl)
  obtain ⟨nl, hnl⟩ : ∃ n, ls.length = n := ⟨_, rfl⟩
  have HNL := Lib.hid hnl
  rw [hnl] at hat HCP
  have HAR := Lib.hid hat.range
  have hkn : k < es.length := hk
  obtain ⟨n, hn⟩ : ∃ n, es.length = n := ⟨_, rfl⟩
  rw [hn] at c21 hkn hes
  have hkI : (k : Int) < (n : Int) := by omega
  have hn0 : 0 < n := by omega
  clear hix hl hxc hls hat hxm hkx hx hls2 hnl hxb hbw hj1 hk hn
  go_wp2_with (first | (at_lookup; refine wpList_look_o rfl _ _ rfl bi _ _ rfl HIX.out id rfl HID.out ?_; rw [HLKE.out]) | (show wpList _ _ _ (Oper.mk (some 29) _ _ _ _ _ :: _) _ _; refine wpList_load_mid rfl 42 (.tmp 28) rfl b (o + k * 7) rfl [.int .i64 xi, .int .i64 xe, .int .i64 xd, .int .i64 xk, .int .i64 xo, .string xt, .slice Al nl cl] _ HAR.out Tryz.underlying42 rfl info_entry ?_))
  refine HCP.out.mono ?_
  rintro e w3 ⟨A2, c2, he, hlc, hb3⟩
  simp only at he hlc
  rw [HNL.out] at he hlc
  subst he
  have HLC := Lib.hid hlc
  have HZ3 := Lib.hid ((hb3.block _ HS).trans HZ.out)
  have hb03 := HB.trans (hb3.mono HB.size)
  have HW := Lib.hid HB
  clear hlc
  go_wp2_with (show wpList _ _ _ (Oper.mk none (Op.store _ (Operand.tmp 4) _) _ _ _ _ :: _) _ _; refine wpList_store_row rfl 42 (.tmp 4) (.tmp 30) rfl w.heap.size #[.int .i64 xi, .int .i64 xe, .int .i64 xd, .int .i64 xk, .int .i64 xo, .string xt, .slice A2 nl c2] rfl rfl 42 #[.int .i64 0, .int .i64 0, .int .i64 0, .int .i64 0, .int .i64 0, .string ⟨#[]⟩, .slice none 0 0] HZ3.out (by rw [info_entry]; rfl) rfl (by simp [Value.oneCell']) ?_)
  refine bodyPost_ret (v := _) (results_cell_tmp rfl _ _ w.heap.size 42 #[.int .i64 xi, .int .i64 xe, .int .i64 xd, .int .i64 xk, .int .i64 xo, .string xt, .slice A2 nl c2] (0, 0) _ rfl (heap_setRow HZ3.out _) Tryz.underlying42 rfl info_entry _ rfl) rfl ?_
  have hfr := fr_setRow w3 w.heap.size #[.int .i64 xi, .int .i64 xe, .int .i64 xd, .int .i64 xk, .int .i64 xo, .string xt, .slice A2 nl c2]
  have hL := HLC.out.fr (w' := w3.setRow w.heap.size #[.int .i64 xi, .int .i64 xe, .int .i64 xd, .int .i64 xk, .int .i64 xo, .string xt, .slice A2 nl c2]) (fun h => LineC.fr h (hfr.mono (fun q (hq : W.heap.size ≤ q ∧ q < w3.heap.size) => by have := hq.1; omega))) (hfr.mono (fun q (hq : W.heap.size ≤ q ∧ q < w3.heap.size) => by have := hq.1; omega))
  refine ⟨below_setRow hb03 (Nat.le_refl _) _, .inr ⟨k, ⟨xi, xe, xd, xk, xo, xt, ls⟩, A2, c2, HXX.out, HKX.out, by rw [show ls.length = nl from HNL.out]; rfl, HXB.out, ?_⟩⟩
  show ListC LineC 3 _ _ [.slice A2 ls.length c2] ls
  rw [HNL.out]
  have hsz : (w3.setRow w.heap.size #[.int .i64 xi, .int .i64 xe, .int .i64 xd, .int .i64 xk, .int .i64 xo, .string xt, .slice A2 nl c2]).heap.size = w3.heap.size := by simp
  have hWs := HW.out.size
  exact hL.mono (fun h => LineC.mono h (fun q hq => ⟨by omega, by omega⟩)) (fun q hq => ⟨by omega, by omega⟩)
def OutN (B : Nat) (es : List XEntry) (v : Value) (w : World) : Prop := ∃ css : List (List Value), css.length = es.length ∧ w.ownsRow B 42 7 v es.length css.flatten ∧ (∀ cs ∈ css, cs.length = 7) ∧ ∀ (i : Nat) x, es[i]? = some x → ∃ cs, css[i]? = some cs ∧ EntryC w (fun q => (B ≤ q ∧ q < w.heap.size) ∧ v.ownBlock ≠ some q) cs x
theorem OutN.list {B : Nat} {es : List XEntry} {v : Value} {w : World} (h : OutN B es v w) : ListC EntryC 7 w (fun q => B ≤ q ∧ q < w.heap.size) [v] es := by
 obtain ⟨css, h1, h2, h3, h4⟩ := h
 exact own_list h3 h2 (fun i x hx => by
  obtain ⟨cs, k1, k2⟩ := h4 i x hx
  exact ⟨cs, k1, EntryC.mono k2 (fun q hq => hq.1)⟩) (fun q hq => h2.lt _ hq)
theorem OutN.app {B : Nat} {es : List XEntry} {css : List (List Value)} {v v2 : Value} {w w1 w2 : World} {x : XEntry} {cs : List Value} (h1 : css.length = es.length) (h2 : w.ownsRow B 42 7 v es.length css.flatten) (h3 : ∀ cs ∈ css, cs.length = 7)
 (h4 : ∀ (i : Nat) x, es[i]? = some x → ∃ cs, css[i]? = some cs ∧ EntryC w (fun q => (B ≤ q ∧ q < w.heap.size) ∧ v.ownBlock ≠ some q) cs x) (hb : Below w.heap.size w w1) (hBw : B ≤ w.heap.size)
 (hx : EntryC w1 (fun q => w.heap.size ≤ q ∧ q < w1.heap.size) cs x) (hg : w1.grownBy w2 v.ownBlock) (hat : v2.ownBlock = v.ownBlock ∨ v2.ownBlock = some w1.heap.size) (hown : w2.ownsRow B 42 7 v2 (es.length + 1) (css.flatten ++ cs)) : OutN B (es ++ [x]) v2 w2 := by
 have hs := hb.size
 have hs2 := hg.size
 have hF : Fr (fun q => q < w.heap.size ∧ v.ownBlock ≠ some q) w w2 := ((Fr.ofBelow hb).mono (fun q hq => hq.1)).grown hg (fun q hq => hq.1) (fun q hq hr => hr.2 hq)
 have hF1 : Fr (fun q => w.heap.size ≤ q ∧ q < w1.heap.size) w1 w2 := (Fr.refl _ w1).grown hg (fun q hq => hq.2) (fun q hq hr => by have := (h2.lt _ hq).2; omega)
 have hno : ∀ q, q < w1.heap.size → v.ownBlock ≠ some q → v2.ownBlock ≠ some q := fun q hq hn e => by
  rcases hat with h | h
  · exact hn (h.symm.trans e)
  · rw [h] at e; injection e with e; omega
 refine ⟨css ++ [cs], by simp [h1], by rw [List.length_append]; simpa using hown, fun c hc => ?_, fun i y hy => ?_⟩
 · rcases List.mem_append.1 hc with hc | hc
   · exact h3 c hc
   · simp at hc; subst hc; exact hx.len
 · rcases Nat.lt_or_ge i es.length with hi | hi
   · rw [List.getElem?_append_left hi] at hy
     obtain ⟨c, k1, k2⟩ := h4 i y hy
     refine ⟨c, by rw [List.getElem?_append_left (by omega)]; exact k1, ?_⟩
     exact EntryC.mono (EntryC.fr k2 (hF.mono (fun q hq => ⟨hq.1.2, hq.2⟩))) (fun q hq => ⟨⟨hq.1.1, by have := hq.1.2; omega⟩, hno q (by have := hq.1.2; omega) hq.2⟩)
   · have hie : i = es.length := by
      have := (List.getElem?_eq_some_iff.1 hy).1
      simp at this; omega
     subst hie
     simp at hy
     subst hy
     refine ⟨cs, by rw [List.getElem?_append_right (by omega)]; simp [h1], ?_⟩
     refine EntryC.mono (EntryC.fr hx hF1) (fun q hq => ⟨⟨by omega, by omega⟩, hno q hq.2 (fun e => by have := (h2.lt _ e).2; omega)⟩)
def EntsPost (es : List XEntry) (w : World) (e : Ending) (w' : World) : Prop := ∃ (A : Option Addr) (c : Nat), e = .returned (.slice A es.length c) ∧ ListC EntryC 7 w' (fun q => w.heap.size ≤ q ∧ q < w'.heap.size) [.slice A es.length c] es ∧ Below w.heap.size w w'
def EntsN (es : List XEntry) (w : World) (e : Ending) (w' : World) : Prop := ∃ (A : Option Addr) (c : Nat), e = .returned (.slice A es.length c) ∧ OutN w.heap.size es (.slice A es.length c) w' ∧ Below w.heap.size w w'
set_option maxHeartbeats 4000000 in
theorem entries_n (D O : Nat → Prop) (J : Nat) (g : XGroup) (es : List XEntry) (w : World) (hj : JC w D O J g es) (hln : ∀ x ∈ es, x.lines.length ≤ 100000) (hes : es.length ≤ 100000) : Calls Tryz.prog 21 #[.pointer (some ⟨J, 0, none⟩)] w (EntsN es w) := by
 obtain ⟨ia, hia, hzia, hsia, hbia⟩ := info_parts info_entryA
 obtain ⟨gl, css, v, bi, br, hj⟩ := hj
 have HL := Lib.hid hj.list
 have HD := Lib.hid (show ∀ q, D q ∨ O q → q < w.heap.size from fun q hq => hq.elim (hj.ltD q) (hj.ltO q))
 have HLN := Lib.hid hln
 have c21 := hj.cell.1
 obtain ⟨Av, nv, cv, rfl⟩ := own_shape hj.row
 obtain rfl : nv = es.length := own_val hj.row
 have hcap := hj.list.cap
 unfold maxLen at hcap
 obtain ⟨n, hnl⟩ : ∃ n, es.length = n := ⟨_, rfl⟩
 have HN := Lib.hid hnl
 rw [hnl] at HL c21 hcap hes
 clear hj hln hnl
 go_enter Tryz.func21, Tryz.ntmps21
 go_wp2_with fail
 go_loopw [3, 13] (fun v i wr => ∃ k : Nat, k ≤ n ∧ i = .int .i64 (k : Int) ∧ OutN w.heap.size (es.take k) v wr ∧ Below w.heap.size w wr) (fun _ i _ => n - (intOf i).toNat)
 case atStart => exact ⟨0, by omega, rfl, ⟨[], rfl, World.ownsRow_nil _ _ _ _, by simp, fun i x h => by simp at h⟩, Below.refl _ _⟩
 case round =>
  obtain ⟨k, hk, rfl, hout, hb8⟩ := hrel
  generalize wr = w8 at *
  have HB8 := Lib.hid hb8
  obtain ⟨cs3, q1, q2, q3, q4⟩ := hout
  have HOUT := Lib.hid (show OutN w.heap.size (es.take k) u3 w8 from ⟨cs3, q1, q2, q3, q4⟩)
  by_cases hlt : k < n
  case pos =>
   have hltI : (k : Int) < (n : Int) := by omega
   have hkl : k < es.length := by rw [HN.out]; exact hlt
   obtain ⟨b, o, cs, hAe, hbw, hxc, hat⟩ := ListC.get HL.out k hkl
   subst hAe
   have hxm : es[k] ∈ es := List.getElem_mem hkl
   have HTK := Lib.hid (show es.take (k + 1) = es.take k ++ [es[k]] by rw [List.take_add_one, List.getElem?_eq_getElem hkl]; rfl)
   obtain ⟨x, hx⟩ : ∃ x, es[k] = x := ⟨_, rfl⟩
   rw [hx] at hxc hxm HTK
   have hxl := HLN.out x hxm
   obtain ⟨Al, cl, hcs, hxb, hls⟩ := EntryC.lit hxc
   subst hcs
   have HXB := Lib.hid hxb
   obtain ⟨xi, xe, xd, xk, xo, xt, ls⟩ := x
   simp only at hat hls hxl
   have hat2 := hat.fr ((Fr.ofBelow hb8).mono (fun q hq => HD.out q hq))
   obtain ⟨nl, hnl⟩ : ∃ n, ls.length = n := ⟨_, rfl⟩
   have HNL := Lib.hid hnl
   rw [hnl] at hat2
   have HAR := Lib.hid hat2.range
   have HLS := Lib.hid (show ListC LineC 3 w (· < w.heap.size) [.slice Al ls.length cl] ls from hls.mono (fun h => LineC.mono h (fun q hq => HD.out q hq)) (fun q hq => HD.out q hq))
   have hnz : 0 < n := by omega
   have HQ := Lib.hid (And.intro q1 (And.intro q2 (And.intro q3 q4)))
   clear hxc hls hat hat2 hxm hx hnl hxb hbw q1 q2 q3 q4 hb8
   go_upto_region 6 with (first | (show wpList _ _ _ (Oper.mk (some 16) _ _ _ _ _ :: _) _ _; refine wpList_load_mid rfl 42 (.tmp 15) rfl b (o + k * 7) rfl [.int .i64 xi, .int .i64 xe, .int .i64 xd, .int .i64 xk, .int .i64 xo, .string xt, .slice Al nl cl] _ HAR.out Tryz.underlying42 rfl info_entry ?_) | (show wpList _ _ _ (Oper.mk none (Op.store _ (Operand.tmp 5) _) _ _ _ _ :: _) _ _; refine wpList_store_fresh3 rfl 42 (.tmp 5) (.tmp 16) rfl rfl w8 #[.int .i64 0, .int .i64 0, .int .i64 0, .int .i64 0, .int .i64 0, .string ⟨#[]⟩, .slice none 0 0] 42 #[.int .i64 xi, .int .i64 xe, .int .i64 xd, .int .i64 xk, .int .i64 xo, .string xt, .slice Al nl cl] rfl rfl rfl info_entry rfl (by simp [Value.oneCell']) ?_; intro wx HX HBX HSX))
   have HXX := Lib.hid HX
   have hbx := HB8.out.trans (HBX.mono HB8.out.size)
   have HCP := Lib.hid (copied_c xi xe xd xk xo xt ls Al cl wx (lines_keep HLS.out hbx) hxl)
   rw [HNL.out] at HCP
   have HBX2 := Lib.hid HBX
   clear HX HSX HBX hbx
   go_wp2_with (show wpList _ _ _ (Oper.mk (some 18) _ _ _ _ _ :: _) _ _; refine wpList_load_row_g rfl 42 (.tmp 5) rfl w8.heap.size rfl _ _ _ _ HXX.out Tryz.underlying42 rfl info_entry ?_)
   refine HCP.out.mono ?_
   rintro e w9 ⟨A2, c2, he, hlc, hb9⟩
   simp only at he hlc
   rw [HNL.out] at he hlc
   subst he
   have hb89 := HBX2.out.trans (hb9.mono HBX2.out.size)
   have HLC := Lib.hid hlc
   have HB89 := Lib.hid hb89
   have hs89 := hb89.size
   have hs8 := HB8.out.size
   have hlk : (es.take k).length ≤ 100000 := by rw [List.length_take]; omega
   have HOW9 := Lib.hid (own_below HQ.out.2.1 hb89)
   clear hlc hb9 hb89 HCP
   go_wp2_with (at_builtin; go_loud (refine wpList_app _ rfl (.tmp 17) (.tmp 20) 30 rfl w.heap.size 42 ia _ 7 80 Tryz.underlying30 hia hzia hsia hbia rfl (by decide) u3 (es.take k).length cs3.flatten rfl (HOW9.out.alloc _) (fun _ => True) (some ⟨w9.heap.size, 0, none⟩) 1 1 [.int .i64 xi, .int .i64 xe, .int .i64 xd, .int .i64 xk, .int .i64 xo, .string xt, .slice A2 nl c2] rfl (rd_new (heap_alloc_new _ _) rfl) (by simp [Value.oneCell']) (by simp only [maxLen]; omega) (by omega) (by simp; omega) ?_); intro v9 wa hown9 hg9 hat9)
   go_roundw
   case rel =>
    have hxn := EntryC.mk (w := w9) (Q := fun q => w8.heap.size ≤ q ∧ q < w9.heap.size) (x := ⟨xi, xe, xd, xk, xo, xt, ls⟩) (A := A2) (c := c2) HXB.out (by
     show ListC LineC 3 w9 _ [.slice A2 ls.length c2] ls
     rw [HNL.out]
     exact HLC.out.mono (fun h => LineC.mono h (fun q hq => ⟨by have := HBX2.out.size; omega, hq.2⟩)) (fun q hq => ⟨by have := HBX2.out.size; omega, hq.2⟩))
    simp only [HNL.out] at hxn
    refine ⟨k + 1, by omega, by go_num, ?_, below_grown ((HB8.out.trans (HB89.out.mono hs8)).alloc (by omega) _) hg9 (fun q hq => (HOW9.out.lt _ hq).1) (Nat.le_refl _)⟩
    rw [HTK.out]
    exact OutN.app HQ.out.1 HQ.out.2.1 HQ.out.2.2.1 HQ.out.2.2.2 (HB89.out.alloc hs89 _) hs8 (EntryC.mono (EntryC.fr hxn ((Fr.ofBelow (below1 w9 _)).mono (fun q hq => hq.2))) (fun q hq => ⟨hq.1, by have := hq.2; simp; omega⟩)) hg9 hat9 hown9
   case measure => first | exact meas_v hlt | (simp only [intOf]; omega)
  case neg =>
   have hltI : ¬ (k : Int) < (n : Int) := by omega
   have hkn : k = es.length := by have := HN.out; omega
   have hl := HOUT.out
   rw [hkn, List.take_length] at hl
   rw [hkn, List.take_length] at q2
   obtain ⟨Ao, no, co, rfl⟩ := own_shape q2
   obtain rfl : no = es.length := own_val q2
   have HLX := Lib.hid hl
   have HKN := Lib.hid hkn
   obtain ⟨no, hno⟩ : ∃ x, es.length = x := ⟨_, rfl⟩
   have HNO := Lib.hid hno
   rw [hno]
   clear hkn hl hno q1 q2 q3 q4 HOUT
   go_wp2_with fail
   go_ret
   exact ⟨Ao, co, by rw [HNO.out]; rfl, HLX.out, HB8.out⟩
theorem entries_c (D O : Nat → Prop) (J : Nat) (g : XGroup) (es : List XEntry) (w : World) (hj : JC w D O J g es) (hln : ∀ x ∈ es, x.lines.length ≤ 100000) (hes : es.length ≤ 100000) : Calls Tryz.prog 21 #[.pointer (some ⟨J, 0, none⟩)] w (EntsPost es w) :=
 (entries_n D O J g es w hj hln hes).mono fun e w' ⟨A, c, h1, h2, h3⟩ => ⟨A, c, h1, h2.list, h3⟩
def lineJ (es : List XEntry) (re rl : Int) : Option XLine := match idxE es re with
 | none => none
 | some k => if 0 ≤ rl then (es[k]?).bind (fun x => x.lines[rl.toNat]?) else none
def lineV (o : Option XLine) : Value := match o with
 | some x => .tuple #[.agg #[.int .i64 x.account, .int .i64 x.amount, .int .i64 x.partner], .bool true]
 | none => .tuple #[.agg #[.int .i64 0, .int .i64 0, .int .i64 0], .bool false]
set_option maxHeartbeats 4000000 in
theorem line_c (D O : Nat → Prop) (J : Nat) (g : XGroup) (es : List XEntry) (re rl : Int) (w : World) (hj : JC w D O J g es) (hid : intBd re) (hln : ∀ x ∈ es, x.lines.length ≤ 100000) (hes : es.length ≤ 100000) : Calls Tryz.prog 59 #[.pointer (some ⟨J, 0, none⟩), .agg #[.int .i64 re, .int .i64 rl]] w (Quiet w (lineV (lineJ es re rl))) := by
 have HGT := Lib.hid (fun (w2 : World) (hb : Below w.heap.size w w2) => get_c D O J g es re w2 (hj.below hb) hid hln hes)
 obtain ⟨R, hR⟩ : ∃ R, lineJ es re rl = R := ⟨_, rfl⟩
 have HR := Lib.hid hR
 rw [hR]
 clear hj hR
 go_enter Tryz.func59, Tryz.ntmps59
 go_upto_region 1 with fail
 have H := heap_alloc_new w (.cells #[.int .i64 re, .int .i64 rl] 45)
 have HB := below1 w (.cells #[.int .i64 re, .int .i64 rl] 45)
 have HS := blk_lt H
 generalize hW : w.alloc (Obj.cells #[.int .i64 re, .int .i64 rl] 45) = W at *
 have H2 := heap_alloc_new W (.cells #[.int .i64 0, .int .i64 0, .int .i64 0] 52)
 have HB2 := below1 W (.cells #[.int .i64 0, .int .i64 0, .int .i64 0] 52)
 have HS2 := blk_lt H2
 replace H := alloc_keep H (Obj.cells #[.int .i64 0, .int .i64 0, .int .i64 0] 52)
 generalize hW2 : W.alloc (Obj.cells #[.int .i64 0, .int .i64 0, .int .i64 0] 52) = W2 at *
 clear hW2
 have eW : W.heap.size = w.heap.size + 1 := by rw [← hW]; simp
 rw [eW] at H2
 clear hW
 have hb2 := HB.trans (HB2.mono HB.size)
 have hs2 := HB2.size
 have LT1 := blk_lt H2
 have LT0 : w.heap.size < W2.heap.size := by omega
 have HH := Lib.hid H
 have HZ := Lib.hid H2
 have EW := Lib.hid eW
 clear H H2 eW
 have c0 := blk_cell HH.out 0
 go_wp2_with fail
 refine (HGT.out W2 hb2).mono ?_
 rintro e w3 ⟨hb3, hcase⟩
 have hb03 := hb2.trans (hb3.mono hb2.size)
 have LT13 := Nat.lt_of_lt_of_le LT1 hb3.size
 have LT03 := Nat.lt_of_lt_of_le LT0 hb3.size
 clear c0
 rcases hcase with ⟨hno, rfl⟩ | ⟨k, x, A2, c2, hix, hkx, rfl, hxb, hls⟩
 case inl =>
  have HF := Lib.hid (show R = none by rw [← HR.out]; unfold lineJ; rw [hno])
  clear hno
  go_upto_region 2 with (show wpList _ _ _ (Oper.mk none (Op.store _ (Operand.tmp 6) _) _ _ _ _ :: _) _ _; refine wpList_store_fresh3 rfl 42 (.tmp 6) (.tmp 13) rfl rfl w3 #[.int .i64 0, .int .i64 0, .int .i64 0, .int .i64 0, .int .i64 0, .string ⟨#[]⟩, .slice none 0 0] 42 #[.int .i64 0, .int .i64 0, .int .i64 0, .int .i64 0, .int .i64 0, .string ⟨#[]⟩, .slice none 0 0] rfl rfl rfl info_entry rfl (by simp [Value.oneCell']) ?_; intro w4 H4 HB4 HS4)
  have hb04 := hb03.trans (HB4.mono hb03.size)
  have HZ4 := Lib.hid ((HB4.block _ LT13).trans ((hb3.block _ LT1).trans HZ.out))
  clear H4
  go_wp2_with (show wpList _ _ _ (Oper.mk none (Op.store _ (Operand.tmp 4) _) _ _ _ _ :: _) _ _; refine wpList_store_row rfl 52 (.tmp 4) (.tmp 30) rfl (w.heap.size + 1) #[.int .i64 0, .int .i64 0, .int .i64 0] rfl rfl 52 #[.int .i64 0, .int .i64 0, .int .i64 0] HZ4.out (by rw [info_line]; rfl) rfl (by simp [Value.oneCell']) ?_)
  refine bodyPost_ret (v := _) (results_cell_tmp rfl _ _ (w.heap.size + 1) 52 #[.int .i64 0, .int .i64 0, .int .i64 0] (0, 0) _ rfl (heap_setRow HZ4.out _) Tryz.underlying52 rfl info_line _ rfl) rfl ⟨by rw [HF.out]; rfl, below_setRow hb04 (by omega) _⟩
 case inr =>
 have HLN := Lib.hid (hln x (List.mem_of_getElem? hkx))
 obtain ⟨xi, xe, xd, xk, xo, xt, ls⟩ := x
 simp only at hls
 have HLS := Lib.hid hls
 have HR2 := Lib.hid (show (if 0 ≤ rl then ls[rl.toNat]? else none) = R by rw [← HR.out]; unfold lineJ; rw [hix]; show _ = if 0 ≤ rl then (es[k]?).bind (fun x => x.lines[rl.toNat]?) else none; rw [hkx]; rfl)
 have hcap := hls.cap
 unfold maxLen at hcap
 obtain ⟨nl, hnl⟩ : ∃ n, ls.length = n := ⟨_, rfl⟩
 have HNL := Lib.hid hnl
 simp only [hnl] at hcap ⊢
 clear hls hix hkx hxb hnl HGT HR
 go_upto_region 2 with (show wpList _ _ _ (Oper.mk none (Op.store _ (Operand.tmp 6) _) _ _ _ _ :: _) _ _; refine wpList_store_fresh3 rfl 42 (.tmp 6) (.tmp 13) rfl rfl w3 #[.int .i64 0, .int .i64 0, .int .i64 0, .int .i64 0, .int .i64 0, .string ⟨#[]⟩, .slice none 0 0] 42 #[.int .i64 xi, .int .i64 xe, .int .i64 xd, .int .i64 xk, .int .i64 xo, .string xt, .slice A2 nl c2] rfl rfl rfl info_entry rfl (by simp [Value.oneCell']) ?_; intro w4 H4 HB4 HS4)
 have hb04 := hb03.trans (HB4.mono hb03.size)
 have hs4 := HB4.size
 have HZ4 := Lib.hid ((HB4.block _ LT13).trans ((hb3.block _ LT1).trans HZ.out))
 have HH4 := Lib.hid ((HB4.block _ LT03).trans ((hb3.block _ LT0).trans HH.out))
 have c1 := blk_cell HH4.out 1
 have c6 := blk_cell H4 6
 have HXL := Lib.hid H4
 clear H4
 by_cases h1 : rl < 0
 case pos =>
  have h1d : decide (rl < 0) = true := decide_eq_true h1
  have HF := Lib.hid (show R = none by rw [← HR2.out, if_neg (by omega)])
  clear h1
  go_wp2_with (show wpList _ _ _ (Oper.mk none (Op.store _ (Operand.tmp 4) _) _ _ _ _ :: _) _ _; refine wpList_store_row rfl 52 (.tmp 4) (.tmp 30) rfl (w.heap.size + 1) #[.int .i64 0, .int .i64 0, .int .i64 0] rfl rfl 52 #[.int .i64 0, .int .i64 0, .int .i64 0] HZ4.out (by rw [info_line]; rfl) rfl (by simp [Value.oneCell']) ?_)
  refine bodyPost_ret (v := _) (results_cell_tmp rfl _ _ (w.heap.size + 1) 52 #[.int .i64 0, .int .i64 0, .int .i64 0] (0, 0) _ rfl (heap_setRow HZ4.out _) Tryz.underlying52 rfl info_line _ rfl) rfl ⟨by rw [HF.out]; rfl, below_setRow hb04 (by omega) _⟩
 case neg =>
 have h1d : decide (rl < 0) = false := decide_eq_false h1
 by_cases h2 : (nl : Int) ≤ rl
 case pos =>
  have h2d : decide ((nl : Int) ≤ rl) = true := decide_eq_true h2
  have HF := Lib.hid (show R = none by rw [← HR2.out, if_pos (by omega)]; exact List.getElem?_eq_none (by rw [HNL.out]; omega))
  clear h1 h2
  go_wp2_with (show wpList _ _ _ (Oper.mk none (Op.store _ (Operand.tmp 4) _) _ _ _ _ :: _) _ _; refine wpList_store_row rfl 52 (.tmp 4) (.tmp 30) rfl (w.heap.size + 1) #[.int .i64 0, .int .i64 0, .int .i64 0] rfl rfl 52 #[.int .i64 0, .int .i64 0, .int .i64 0] HZ4.out (by rw [info_line]; rfl) rfl (by simp [Value.oneCell']) ?_)
  refine bodyPost_ret (v := _) (results_cell_tmp rfl _ _ (w.heap.size + 1) 52 #[.int .i64 0, .int .i64 0, .int .i64 0] (0, 0) _ rfl (heap_setRow HZ4.out _) Tryz.underlying52 rfl info_line _ rfl) rfl ⟨by rw [HF.out]; rfl, below_setRow hb04 (by omega) _⟩
 case neg =>
 have h2d : decide ((nl : Int) ≤ rl) = false := decide_eq_false h2
 obtain ⟨q, rfl⟩ : ∃ q : Nat, rl = (q : Int) := ⟨rl.toNat, by omega⟩
 have hq : q < ls.length := by rw [HNL.out]; omega
 have hql : q < nl := by omega
 have hqI : (q : Int) < (nl : Int) := by omega
 have hn0 : 0 < nl := by omega
 obtain ⟨b, o, cs, hAe, hbw, hxc, hat⟩ := ListC.get (n := ls.length) HLS.out q hq
 subst hAe
 obtain ⟨hcs, _⟩ := LineC.lit hxc
 subst hcs
 have hyx : ls[q]? = some ls[q] := List.getElem?_eq_getElem hq
 obtain ⟨y, hy⟩ : ∃ y, ls[q] = y := ⟨_, rfl⟩
 rw [hy] at hat hyx
 have HF := Lib.hid (show R = some y by rw [← HR2.out, if_pos (by omega)]; exact hyx)
 obtain ⟨la, lm, lp⟩ := y
 have HAT := Lib.hid (show w4.rangeAt b (o + q * 3) [.int .i64 la, .int .i64 lm, .int .i64 lp] from (hat.fr ((Fr.ofBelow HB4).mono (fun q2 (hq2 : W2.heap.size ≤ q2 ∧ q2 < w3.heap.size) => hq2.2))).range)
 clear hxc hat hyx hy hbw h1 h2
 go_wp2_with (first | (show wpList _ _ _ (Oper.mk (some 36) _ _ _ _ _ :: _) _ _; refine wpList_load_mid rfl 52 (.tmp 35) rfl b (o + q * 3) rfl [.int .i64 la, .int .i64 lm, .int .i64 lp] _ HAT.out Tryz.underlying52 rfl info_line ?_) | (show wpList _ _ _ (Oper.mk none (Op.store _ (Operand.tmp 4) _) _ _ _ _ :: _) _ _; refine wpList_store_row rfl 52 (.tmp 4) (.tmp 36) rfl (w.heap.size + 1) #[.int .i64 la, .int .i64 lm, .int .i64 lp] rfl rfl 52 #[.int .i64 0, .int .i64 0, .int .i64 0] HZ4.out (by rw [info_line]; rfl) rfl (by simp [Value.oneCell']) ?_))
 refine bodyPost_ret (v := _) (results_cell_tmp rfl _ _ (w.heap.size + 1) 52 #[.int .i64 la, .int .i64 lm, .int .i64 lp] (0, 0) _ rfl (heap_setRow HZ4.out _) Tryz.underlying52 rfl info_line _ rfl) rfl ⟨by rw [HF.out]; rfl, below_setRow hb04 (by omega) _⟩
set_option maxHeartbeats 2000000 in
theorem equal_c (xi xe xd xk xo : Int) (xt : ByteArray) (ls : List XLine) (A1 A2 : Option Addr) (nl c1 c2 : Nat) (w : World) (hn : ls.length = nl) (h1 : ListC LineC 3 w (· < w.heap.size) [.slice A1 nl c1] ls) (h2 : ListC LineC 3 w (· < w.heap.size) [.slice A2 nl c2] ls) : Calls Tryz.prog 56 #[.agg #[.int .i64 xi, .int .i64 xe, .int .i64 xd, .int .i64 xk, .int .i64 xo, .string xt, .slice A1 nl c1], .agg #[.int .i64 xi, .int .i64 xe, .int .i64 xd, .int .i64 xk, .int .i64 xo, .string xt, .slice A2 nl c2]] w (Quiet w (.bool true)) := by
 have HSM := Lib.hid (fun (w2 : World) (hb : Below w.heap.size w w2) => (by subst hn; have h := same_c ls ls A1 A2 c1 c2 w2 (lines_keep h1 hb) (lines_keep h2 hb); rw [decide_eq_true rfl] at h; exact h : Calls Tryz.prog 103 #[.slice A1 nl c1, .slice A2 nl c2] w2 (Quiet w2 (.bool true))))
 clear h1 h2 hn
 go_enter Tryz.func56, Tryz.ntmps56
 go_upto_region 1 with fail
 have H := heap_alloc_new w (.cells #[.int .i64 xi, .int .i64 xe, .int .i64 xd, .int .i64 xk, .int .i64 xo, .string xt, .slice A1 nl c1] 42)
 have HB := below1 w (.cells #[.int .i64 xi, .int .i64 xe, .int .i64 xd, .int .i64 xk, .int .i64 xo, .string xt, .slice A1 nl c1] 42)
 have HS := blk_lt H
 generalize hW : w.alloc (Obj.cells #[.int .i64 xi, .int .i64 xe, .int .i64 xd, .int .i64 xk, .int .i64 xo, .string xt, .slice A1 nl c1] 42) = W at *
 have H2 := heap_alloc_new W (.cells #[.int .i64 xi, .int .i64 xe, .int .i64 xd, .int .i64 xk, .int .i64 xo, .string xt, .slice A2 nl c2] 42)
 have HB2 := below1 W (.cells #[.int .i64 xi, .int .i64 xe, .int .i64 xd, .int .i64 xk, .int .i64 xo, .string xt, .slice A2 nl c2] 42)
 have HS2 := blk_lt H2
 replace H := alloc_keep H (Obj.cells #[.int .i64 xi, .int .i64 xe, .int .i64 xd, .int .i64 xk, .int .i64 xo, .string xt, .slice A2 nl c2] 42)
 generalize hW2 : W.alloc (Obj.cells #[.int .i64 xi, .int .i64 xe, .int .i64 xd, .int .i64 xk, .int .i64 xo, .string xt, .slice A2 nl c2] 42) = W2 at *
 clear hW2
 have eW : W.heap.size = w.heap.size + 1 := by rw [← hW]; simp
 rw [eW] at H2
 clear hW
 have hb2 := HB.trans (HB2.mono HB.size)
 have hs2 := HB2.size
 have LT1 := blk_lt H2
 have LT0 : w.heap.size < W2.heap.size := by omega
 have HH := Lib.hid H
 have HZ := Lib.hid H2
 have EW := Lib.hid eW
 clear H H2 eW
 have x0 := blk_cell HH.out 0
 have y0 := blk_cell HZ.out 0
 have x1 := blk_cell HH.out 1
 have y1 := blk_cell HZ.out 1
 have x2 := blk_cell HH.out 2
 have y2 := blk_cell HZ.out 2
 have x3 := blk_cell HH.out 3
 have y3 := blk_cell HZ.out 3
 have x4 := blk_cell HH.out 4
 have y4 := blk_cell HZ.out 4
 have x5 := blk_cell HH.out 5
 have y5 := blk_cell HZ.out 5
 have x6 := blk_cell HH.out 6
 have y6 := blk_cell HZ.out 6
 go_wp2_with fail
 refine (HSM.out W2 hb2).mono ?_
 rintro e w3 ⟨rfl, hb3⟩
 go_wp2_with fail
 go_ret
 exact ⟨rfl, hb2.trans (hb3.mono hb2.size)⟩
set_option maxHeartbeats 2000000 in
theorem same12_c (es : List XEntry) (A1 A2 : Option Addr) (cc1 cc2 : Nat) (w : World) (h1 : ListC EntryC 7 w (· < w.heap.size) [.slice A1 es.length cc1] es) (h2 : ListC EntryC 7 w (· < w.heap.size) [.slice A2 es.length cc2] es) : Calls Tryz.prog 15 #[.slice A1 es.length cc1, .slice A2 es.length cc2] w (Quiet w (.bool true)) := by
 have HL1 := Lib.hid h1
 have HL2 := Lib.hid h2
 have hcap1 := h1.cap
 have hcap2 := h2.cap
 unfold maxLen at hcap1 hcap2
 obtain ⟨n, hnl⟩ : ∃ n, es.length = n := ⟨_, rfl⟩
 have HN := Lib.hid hnl
 rw [hnl] at hcap1 hcap2 ⊢
 clear h1 h2 hnl
 go_enter Tryz.func15, Tryz.ntmps15
 go_wp2_with fail
 go_loopw [5] (fun i wr => ∃ k : Nat, k ≤ n ∧ i = .int .i64 (k : Int) ∧ Below w.heap.size w wr) (fun i _ => n - (intOf i).toNat)
 case atStart => exact ⟨0, by omega, rfl, Below.refl _ _⟩
 case round =>
  obtain ⟨k, hk, rfl, hb⟩ := hrel
  by_cases hlt : k < n
  case pos =>
   have hltI : (k : Int) < (n : Int) := by omega
   have hltI2 : 0 < n := by omega
   have hkl : k < es.length := by rw [HN.out]; exact hlt
   obtain ⟨b1, o1, cs1, hAe1, hbw1, hes1, hat1⟩ := ListC.get HL1.out k hkl
   obtain ⟨b2, o2, cs2, hAe2, hbw2, hes2, hat2⟩ := ListC.get HL2.out k hkl
   subst hAe1 hAe2
   obtain ⟨A1, c1, hcs1, hxb, hls1⟩ := EntryC.lit hes1
   obtain ⟨A2, c2, hcs2, _, hls2⟩ := EntryC.lit hes2
   subst hcs1 hcs2
   obtain ⟨x, hx⟩ : ∃ x, es[k] = x := ⟨_, rfl⟩
   rw [hx] at hat1 hat2 hls1 hls2
   obtain ⟨xi, xe, xd, xk, xo, xt, ls⟩ := x
   simp only at hat1 hat2 hls1 hls2
   obtain ⟨nl, hnl⟩ : ∃ n, ls.length = n := ⟨_, rfl⟩
   rw [hnl] at hat1 hat2 hls1 hls2
   have hf1 := hat1.fr (Fr.ofBelow hb)
   have hf2 := hat2.fr (Fr.ofBelow hb)
   have HA1 := Lib.hid (show At wr (· < wr.heap.size) ⟨b1, o1 + k * 7, none⟩ [.int .i64 xi, .int .i64 xe, .int .i64 xd, .int .i64 xk, .int .i64 xo, .string xt, .slice A1 nl c1] from hf1.mono (fun q hq => Nat.lt_of_lt_of_le hq hb.size))
   have HA2 := Lib.hid (show At wr (· < wr.heap.size) ⟨b2, o2 + k * 7, none⟩ [.int .i64 xi, .int .i64 xe, .int .i64 xd, .int .i64 xk, .int .i64 xo, .string xt, .slice A2 nl c2] from hf2.mono (fun q hq => Nat.lt_of_lt_of_le hq hb.size))
   have HEQ := Lib.hid (fun (w2 : World) (hb2 : Below wr.heap.size wr w2) => equal_c xi xe xd xk xo xt ls A1 A2 nl c1 c2 w2 hnl (lines_keep hls1 (hb.trans (hb2.mono hb.size))) (lines_keep hls2 (hb.trans (hb2.mono hb.size))))
   have HB8 := Lib.hid hb
   clear hes1 hes2 hat1 hat2 hx hbw1 hbw2 hf1 hf2 hb hls1 hls2 hnl hxb
   go_upto_region 6 with fail
   refine wp_region_inv (Ks wr [.val (.slice (some ⟨b1, o1, none⟩) n cc1), .val (.int .i64 (k : Int)), .val (.pointer (some ⟨b1, o1 + k * 7, none⟩)), .val (.agg #[.int .i64 xi, .int .i64 xe, .int .i64 xd, .int .i64 xk, .int .i64 xo, .string xt, .slice A1 nl c1]), .val (.slice (some ⟨b2, o2, none⟩) n cc2), .val (.int .i64 (k : Int)), .val (.pointer (some ⟨b2, o2 + k * 7, none⟩)), .val (.agg #[.int .i64 xi, .int .i64 xe, .int .i64 xd, .int .i64 xk, .int .i64 xo, .string xt, .slice A2 nl c2]), .val (.bool true), .val (.bool false)])
    (fun w' => Below wr.heap.size wr w') (by kernel_rfl) (by kernel_rfl) (by kernel_rfl) (Below.refl _ _).drew ?_ ?_
   · refine ⟨?_, ?_, ?_, ?_, ?_, ?_, ?_, ?_, ?_, ?_, trivial⟩
     · intro _ A0 w2 hI hd hnd K hK; have e0 := hI.q hnd 0; exact hI.z hK
     · intro _ A0 w2 hI hd hnd K hK; have e0 := hI.q hnd 5; exact hI.z hK
     · intro _ A0 w2 hI hd hnd K hK; have e0 := hI.p hd 0 17; have e1 := hI.p hd 1 18; exact hI.z hK
     · intro _ A0 w2 hI hd hnd K hK; have e0 := hI.p hd 2 19; have hS := hI.world; have hrange : w2.rangeAt b1 (o1 + k * 7) [.int .i64 xi, .int .i64 xe, .int .i64 xd, .int .i64 xk, .int .i64 xo, .string xt, .slice A1 nl c1] := (HA1.out.fr (Fr.ofBelow hS)).range; have hisize := info_entry; refine wanted_go rfl ?_; clear hI hd hnd
       refine wp_load_mid 42 (.tmp 19) rfl _ _ (by simpa [Act.eval, Array.getD_eq_getD_getElem?] using e0) _ _ hrange Tryz.underlying42 rfl hisize ?_
       exact kq hK hS rfl
     · intro _ A0 w2 hI hd hnd K hK; have e0 := hI.q hnd 1; exact hI.z hK
     · intro _ A0 w2 hI hd hnd K hK; have e0 := hI.q hnd 5; exact hI.z hK
     · intro _ A0 w2 hI hd hnd K hK; have e0 := hI.p hd 4 21; have e1 := hI.p hd 5 22; exact hI.z hK
     · intro _ A0 w2 hI hd hnd K hK; have e0 := hI.p hd 6 23; have hS := hI.world; have hrange : w2.rangeAt b2 (o2 + k * 7) [.int .i64 xi, .int .i64 xe, .int .i64 xd, .int .i64 xk, .int .i64 xo, .string xt, .slice A2 nl c2] := (HA2.out.fr (Fr.ofBelow hS)).range; have hisize := info_entry; refine wanted_go rfl ?_; clear hI hd hnd
       refine wp_load_mid 42 (.tmp 23) rfl _ _ (by simpa [Act.eval, Array.getD_eq_getD_getElem?] using e0) _ _ hrange Tryz.underlying42 rfl hisize ?_
       exact kq hK hS rfl
     · intro _ A0 w2 hI hd hnd K hK; have e0 := hI.p hd 3 20; have e1 := hI.p hd 7 24; have hS := hI.world; refine wanted_go rfl ?_; clear hI hd hnd; go_simp
       go_at_call 56
       refine (HEQ.out w2 hS).mono ?_
       rintro e w3 ⟨rfl, h3⟩
       exact hK.out _ _ (hS.trans (h3.mono hS.size)) (Ks.of rfl rfl) (Ks.keep h3)
     · intro _ A0 w2 hI hd hnd K hK; have e0 := hI.p hd 8 25; exact hI.z hK
   · intro _ A0 w2 hI hall; have hS := hI.world; obtain ⟨x0, -, x1, -, x2, -, x3, -, x4, -, x5, -, x6, -, x7, -, x8, -, x9, h9, hA⟩ := hI.ch hall [17, 18, 19, 20, 21, 22, 23, 24, 25, 26]
     obtain rfl : x9 = .bool false := h9 _ rfl
     clear h9 hI hall
     simp only [Ch, setAll, List.foldl, List.setIfInBounds_toArray, List.set_cons_zero, List.set_cons_succ] at hA
     rw [hA]
     clear hA
     have HB9 := Lib.hid (HB8.out.trans (hS.mono HB8.out.size))
     clear hS
     go_wp2_with fail
     go_roundw
     case rel => exact ⟨k + 1, by omega, by go_num, HB9.out⟩
     case measure => first | exact meas_v hlt | (simp only [intOf]; omega)
  case neg =>
   have hltI : ¬ (k : Int) < (n : Int) := by omega
   go_wp2_with fail
   go_ret
   exact ⟨rfl, hb⟩
end Go.Proofs.YtebdajkknkapcaaGreat
