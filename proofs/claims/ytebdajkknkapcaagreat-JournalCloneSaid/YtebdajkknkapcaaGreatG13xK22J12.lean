/- Clone of locks; all methods on nil. Written by gen_k22.py. -/
import Derived.Test.YtebdajkknkapcaaGreatG13xB0B2
import Derived.Test.YtebdajkknkapcaaGreatG13xB3B8
import Derived.Test.YtebdajkknkapcaaGreatG13xB9B13
import Derived.Test.YtebdajkknkapcaaGreatG13xB14
import Derived.Test.YtebdajkknkapcaaGreatG13xB16
import Derived.Test.YtebdajkknkapcaaGreatG13xB17B24
import Derived.Test.YtebdajkknkapcaaGreatG13xB33S2
import Derived.Test.YtebdajkknkapcaaGreatG13xC4E3
import Derived.Test.YtebdajkknkapcaaGreatG13xE6F6
import Derived.Test.YtebdajkknkapcaaGreatG13xF4I7
import Derived.Test.YtebdajkknkapcaaGreatG13xI8I11
import Derived.Test.YtebdajkknkapcaaGreatG13xI13I15
import Derived.Test.YtebdajkknkapcaaGreatG13xI16I18
import Derived.Test.YtebdajkknkapcaaGreatG13xI19Q2
import Derived.Test.YtebdajkknkapcaaGreatG13xK1J3
import Derived.Test.YtebdajkknkapcaaGreatProg
import Derived.Shelf.SlMaps.Clone
import Derived.RangeFuncNested
import Derived.RangeFuncBound
import Derived.RangeFuncCalls
import Derived.RangeFuncLeaves
import Derived.Shelf.Abstract
import Derived.Shelf.RegionOpen
import Derived.WalkKit
import Derived.OwnWalkIn
import Derived.TacticsInMore
import Derived.LoopNIn
import Derived.LoopIn
set_option linter.unusedVariables false
set_option linter.unusedSimpArgs false
set_option maxRecDepth 4000
attribute [local go_sem ↓] Go.wp_at_zero Go.wp_at_succ
namespace Go.Proofs.YtebdajkknkapcaaGreat
open Go Go.RowKit Go.Shelf
def IsMp (B n : Nat) (f : KK → Bool) (v : Value) (w : World) : Prop := ∃ b : Nat, v = .map (some b) ∧ MapL w b n f ∧ B ≤ b
theorem IsMp.keep {B n : Nat} {f : KK → Bool} : ∀ v w w', Below w.heap.size w w' → IsMp B n f v w → IsMp B n f v w' := fun v w w' hb ⟨b, h1, h2, h3⟩ => ⟨b, h1, h2.below hb, h3⟩
def IsBl (B : Nat) (y m p ne : Int) (n : Nat) (f : KK → Bool) (v : Value) (w : World) : Prop := ∃ b : Nat, v = .agg #[.int .i64 y, .int .i64 m, .int .i64 p, .int .i64 ne, .map (some b)] ∧ MapL w b n f ∧ B ≤ b
theorem IsBl.keep {B : Nat} {y m p ne : Int} {n : Nat} {f : KK → Bool} : ∀ v w w', Below w.heap.size w w' → IsBl B y m p ne n f v w → IsBl B y m p ne n f v w' := fun v w w' hb ⟨b, h1, h2, h3⟩ => ⟨b, h1, h2.below hb, h3⟩
def IsLx (B : Nat) (y m p ne : Int) (n : Nat) (f : KK → Bool) (v : Value) (w : World) : Prop := ∃ L b : Nat, v = .pointer (some ⟨L, 0, none⟩) ∧ LkC w L b y m p ne n f ∧ B ≤ L ∧ B ≤ b
theorem IsLx.keep {B : Nat} {y m p ne : Int} {n : Nat} {f : KK → Bool} : ∀ v w w', Below w.heap.size w w' → IsLx B y m p ne n f v w → IsLx B y m p ne n f v w' := fun v w w' hb ⟨L, b, h1, h2, h3⟩ => ⟨L, b, h1, h2.below hb, h3⟩
theorem IsLx.made {B : Nat} {y m p ne : Int} {n b : Nat} {f : KK → Bool} {w : World} (h : MapL w b n f) (hb : B ≤ b) (hw : B ≤ w.heap.size) : IsLx B y m p ne n f (.pointer (some ⟨w.heap.size, 0, none⟩)) (w.alloc (.cells #[.int .i64 y, .int .i64 m, .int .i64 p, .int .i64 ne, .map (some b)] 139)) :=
 ⟨w.heap.size, b, rfl, ⟨heap_alloc_new w _, h.below (below1 w _), by have := h.lt; omega⟩, hw, hb⟩
end Go.Proofs.YtebdajkknkapcaaGreat
namespace Go.Proofs.YtebdajkknkapcaaGreat
open Go Go.RowKit
def RowsAt (w : World) (g : Nat) (R : List (List Value)) : Prop := ∀ (i : Nat) cs, R[i]? = some cs → At w (fun q => q = g) ⟨g, i * 7, none⟩ cs
theorem at_cells {w : World} {g o : Nat} {cs : List Value} (h : At w (fun q => q = g) ⟨g, o, none⟩ cs) (j : Nat) (u : Value) (hu : cs[j]? = some u) : w.cell? ⟨g, o + j, none⟩ = some u ∧ w.frozen? ⟨g, o + j, none⟩ = false := by
 have := h.2 j u hu
 rw [Addr.add_lit] at this
 exact this
theorem at_out {w : World} {g o o2 : Nat} {cs vs : List Value} (h : At w (fun q => q = g) ⟨g, o, none⟩ cs) (hap : o + cs.length ≤ o2 ∨ o2 + vs.length ≤ o) : At (w.setCells g o2 vs) (fun q => q = g) ⟨g, o, none⟩ cs := by
 refine ⟨rfl, fun j u hu => ?_⟩
 have hj : j < cs.length := (List.getElem?_eq_some_iff.1 hu).1
 have := at_cells h j u hu
 rw [Addr.add_lit, World.cell?_setCells_out g vs o2 w _ (fun _ _ => by show o + j < o2 ∨ o2 + vs.length ≤ o + j; omega), World.frozen?_setCells]
 exact this
theorem at_in {w : World} {g o : Nat} {cs vs : List Value} (h : At w (fun q => q = g) ⟨g, o, none⟩ cs) (hl : vs.length = cs.length) : At (w.setCells g o vs) (fun q => q = g) ⟨g, o, none⟩ vs := by
 refine ⟨rfl, fun j u hu => ?_⟩
 have hj : j < vs.length := (List.getElem?_eq_some_iff.1 hu).1
 have hs : ∀ j, j < vs.length → (w.cell? ⟨g, o + j, none⟩).isSome = true := fun j hj => by
  have := (at_cells h j cs[j] (List.getElem?_eq_getElem (by omega))).1
  rw [this]; rfl
 rw [Addr.add_lit, World.cell?_setCells_in g vs o w hs j hj, World.frozen?_setCells]
 have h2 := (at_cells h j cs[j] (List.getElem?_eq_getElem (by omega))).2
 rw [List.getElem?_eq_getElem hj] at hu
 exact ⟨hu, h2⟩
theorem RowsAt.set {w : World} {g i : Nat} {R : List (List Value)} {cs : List Value} (h : RowsAt w g R) (hR : ∀ r ∈ R, r.length = 7) (hi : i < R.length) (hc : cs.length = 7) : RowsAt (w.setCells g (i * 7) cs) g (R.set i cs) := by
 intro q r hr
 by_cases hq : q = i
 · subst hq
   rw [List.getElem?_set_self hi] at hr
   obtain rfl := Option.some.inj hr
   exact at_in (h q R[q] (List.getElem?_eq_getElem hi)) (by rw [hc, hR _ (List.getElem_mem hi)])
 · rw [List.getElem?_set_ne (fun e => hq e.symm)] at hr
   have hl : r.length = 7 := hR r (List.mem_of_getElem? hr)
   refine at_out (h q r hr) ?_
   rw [hl, hc]
   rcases Nat.lt_or_gt_of_ne hq with h1 | h1
   · exact .inl (by omega)
   · exact .inr (by omega)
theorem RowsAt.fr {w w' : World} {g : Nat} {R : List (List Value)} {Q : Nat → Prop} (h : RowsAt w g R) (hf : Fr Q w w') (hg : Q g) : RowsAt w' g R := fun i cs hi =>
 ((h i cs hi).mono (Q' := fun q => q = g ∧ Q q) (fun q hq => ⟨hq, by rw [hq]; exact hg⟩)).fr (hf.mono (fun q hq => hq.2)) |>.mono (fun q hq => hq.1)
theorem OutAt.app {B : Nat} {es : List XEntry} {css : List (List Value)} {v v2 : Value} {w w1 w2 : World} {x : XEntry} {cs : List Value} (h1 : css.length = es.length) (h2 : w.ownsRow B 42 7 v es.length css.flatten) (h3 : ∀ cs ∈ css, cs.length = 7)
 (h4 : ∀ (i : Nat) x, es[i]? = some x → ∃ cs, css[i]? = some cs ∧ EntryC w (fun q => q < B) cs x) (hb : Below w.heap.size w w1) (hBw : B ≤ w.heap.size)
 (hx : EntryC w (fun q => q < B) cs x) (hg : w1.grownBy w2 v.ownBlock) (hown : w2.ownsRow B 42 7 v2 (es.length + 1) (css.flatten ++ cs)) : OutAt B (es ++ [x]) v2 w2 := by
 have hs := hb.size
 have hF : Fr (fun q => q < B) w w2 := ((Fr.ofBelow hb).mono (fun q hq => Nat.lt_of_lt_of_le hq hBw)).grown hg (fun q hq => Nat.lt_of_lt_of_le hq hBw) (fun q hq hr => by have h : B ≤ q := (h2.lt _ hq).1; omega)
 refine ⟨css ++ [cs], by simp [h1], by rw [List.length_append]; simpa using hown, fun c hc => ?_, fun i y hy => ?_⟩
 · rcases List.mem_append.1 hc with hc | hc
   · exact h3 c hc
   · simp at hc; subst hc; exact hx.len
 · rcases Nat.lt_or_ge i es.length with hi | hi
   · rw [List.getElem?_append_left hi] at hy
     obtain ⟨c, k1, k2⟩ := h4 i y hy
     exact ⟨c, by rw [List.getElem?_append_left (by omega)]; exact k1, EntryC.fr k2 hF⟩
   · have hie : i = es.length := by
      have := (List.getElem?_eq_some_iff.1 hy).1
      simp at this; omega
     subst hie
     simp at hy
     subst hy
     exact ⟨cs, by rw [List.getElem?_append_right (by omega)]; simp [h1], EntryC.fr hx hF⟩
theorem OutAt.list {B : Nat} {es : List XEntry} {v : Value} {w : World} (h : OutAt B es v w) (hB : B ≤ w.heap.size) : ListC EntryC 7 w (· < w.heap.size) [v] es := by
 obtain ⟨css, h1, h2, h3, h4⟩ := h
 exact own_list h3 h2 (fun i x hx => by
  obtain ⟨cs, k1, k2⟩ := h4 i x hx
  exact ⟨cs, k1, EntryC.mono k2 (fun q hq => by omega)⟩) (fun q hq => (h2.lt _ hq).2)
def IsTri (f : Int → Int) (l : List XBalance) : Prop := l.Pairwise (fun x y => x.account < y.account) ∧ ∀ z, z ∈ l ↔ (f z.account ≠ 0 ∧ z.amount = f z.account)
theorem pair_uniq : ∀ {a b : List XBalance}, a.Pairwise (fun x y => x.account < y.account) → b.Pairwise (fun x y => x.account < y.account) → (∀ x, x ∈ a ↔ x ∈ b) → a = b
 | [], [], _, _, _ => rfl
 | [], y :: b, _, _, h => by have := (h y).2 (List.mem_cons_self ..); simp at this
 | x :: a, [], _, _, h => by have := (h x).1 (List.mem_cons_self ..); simp at this
 | x :: a, y :: b, ha, hb, h => by
  obtain ⟨h1, h2⟩ := List.pairwise_cons.1 ha
  obtain ⟨h3, h4⟩ := List.pairwise_cons.1 hb
  have hxy : x = y := by
   rcases List.mem_cons.1 ((h x).1 (List.mem_cons_self ..)) with e | e
   · exact e
   · rcases List.mem_cons.1 ((h y).2 (List.mem_cons_self ..)) with e2 | e2
     · exact e2.symm
     · have := h3 x e; have := h1 y e2; omega
  subst hxy
  congr 1
  refine pair_uniq h2 h4 (fun z => ?_)
  constructor
  · intro hz
    rcases List.mem_cons.1 ((h z).1 (List.mem_cons_of_mem _ hz)) with e | e
    · subst e; have := h1 z hz; omega
    · exact e
  · intro hz
    rcases List.mem_cons.1 ((h z).2 (List.mem_cons_of_mem _ hz)) with e | e
    · subst e; have := h3 z hz; omega
    · exact e
theorem IsTri.uniq {f : Int → Int} {a b : List XBalance} (ha : IsTri f a) (hb : IsTri f b) : a = b := pair_uniq ha.1 hb.1 (fun x => (ha.2 x).trans (hb.2 x).symm)
theorem IsTri.eqv {f g : Int → Int} {a : List XBalance} (ha : IsTri f a) (h : ∀ c, f c = g c) : IsTri g a := ⟨ha.1, fun z => by rw [ha.2 z, h]⟩
end Go.Proofs.YtebdajkknkapcaaGreat
namespace Go.Proofs.YtebdajkknkapcaaGreat
open Go Go.RowKit Go.Shelf
attribute [local go_sem] Oper.semAt_some
section
variable {F : Fence} {n : Nat} {P : Program} {ops : Array Oper} {rest : List Oper} {o : Oper} {a : Act} {Q : Exit → Act → World → Prop}
end
def KeepN (n₀ : Nat) (T : Nat → Prop) (w w' : World) : Prop := Below n₀ w w' ∧ ∀ k o, ¬ T k → w.heap[k]? = some o → o.isCells = true → w'.heap[k]? = some o
theorem KeepN.refl {n₀ : Nat} {T : Nat → Prop} (w : World) : KeepN n₀ T w w := ⟨Below.refl _ _, fun _ _ _ h _ => h⟩
theorem KeepN.trans {n₀ : Nat} {T : Nat → Prop} {a b c : World} (h : KeepN n₀ T a b) (k : KeepN n₀ T b c) : KeepN n₀ T a c := ⟨h.1.trans k.1, fun q o h1 h2 h3 => k.2 q o h1 (h.2 q o h1 h2 h3) h3⟩
theorem KeepN.grown {n₀ : Nat} {T : Nat → Prop} {w w' : World} (h : w.grownBy w' none) (hn : n₀ ≤ w.heap.size) : KeepN n₀ T w w' :=
 ⟨(Below.refl n₀ w).grown h hn (fun k e => by cases e), fun k o _ h2 _ => (h.block k (Array.getElem?_eq_some_iff.1 h2).1 (by simp)).trans h2⟩
theorem KeepN.cells {n₀ : Nat} {T : Nat → Prop} {w w' : World} (h : KeepN n₀ T w w') {k : Nat} {cs : Array Value} {t : TypeId} {fr : Nat × Nat} (hk : ¬ T k) (hc : w.heap[k]? = some (.cells cs t fr)) : w'.heap[k]? = some (.cells cs t fr) := h.2 k _ hk hc rfl
/-! A region that draws, by an invariant with a word R on what has been done. -/
def OpStepR (P : Program) (md : Region.Mode) (ops : Array Oper) (Q : Exit → Act → World → Prop) (R : Array Bool → Act → World → Prop) (V : Nat → Value → World → Prop) (S : World → Prop) (a0 : Act) (i : Nat) (o : Oper) : Prop :=
 ∀ listed a w, Inv md ops V S a0 listed a w → R listed a w → (∀ e ∈ o.after, Region.binds md e = true → Done listed e.on) → ¬ Done listed i →
  ∀ K : Act → World → Prop, Shut (∀ v w', S w' → V i v w' → (∀ j u, V j u w → V j u w') → R (listed.setIfInBounds i true) (a.put o.dst v) w' → K (a.put o.dst v) w') → if Region.wanted o (yielded ops a.tmps) = true then o.wp P a w K Q else K (a.put o.dst undef) w
theorem wpAny_invR {P : Program} {md : Region.Mode} {ops : Array Oper} {Q : Exit → Act → World → Prop} {R : Array Bool → Act → World → Prop} {V : Nat → Value → World → Prop} {S : World → Prop} {a0 : Act}
 (hord : ∀ (i : Nat) (o : Oper), ops[i]? = some o → ∀ e ∈ o.after, e.on < i)
 (hdst : ∀ (i j : Nat) (oi oj : Oper) (d : Nat), ops[i]? = some oi → ops[j]? = some oj → oi.dst = some d → oj.dst = some d → i = j)
 (hlt : ∀ (i : Nat) (o : Oper) (d : Nat), ops[i]? = some o → o.dst = some d → d < a0.tmps.size)
 (hstep : ∀ i o, ops[i]? = some o → OpStepR P md ops Q R V S a0 i o)
 (hend : ∀ listed a w, Inv md ops V S a0 listed a w → (∀ i, i < ops.size → Done listed i) → Q .normal a w) :
 ∀ fuel listed a w, Inv md ops V S a0 listed a w → R listed a w → left ops.size listed ≤ fuel → wpAny P md ops Q fuel listed a w
 | 0, listed, a, w, hI, _, hf => by
  have hr : Region.ready md ops listed = [] := by
   rw [List.eq_nil_iff_forall_not_mem]
   intro i hi
   obtain ⟨h1, o, h2, _⟩ := mem_ready.1 hi
   have := left_set hI.lsize (Array.getElem?_eq_some_iff.1 h2).1 h1
   omega
  exact ⟨hr, hend listed a w hI (fun i hi => all_done hI.lsize hord hr (i + 1) i (by omega) hi)⟩
 | fuel + 1, listed, a, w, hI, hR, hf => by
  refine ⟨fun hr => hend listed a w hI (fun i hi => all_done hI.lsize hord hr (i + 1) i (by omega) hi), fun i hi => ?_⟩
  obtain ⟨h1, o, h2, h3⟩ := mem_ready.1 hi
  have hsz : i < ops.size := (Array.getElem?_eq_some_iff.1 h2).1
  have hnd : ¬ Done listed i := by
   unfold Done
   rw [← getD_tf (by rw [hI.lsize]; exact hsz), h1]
   simp
  refine wpOp_step h2 (fun K hK => hstep i o h2 listed a w hI hR h3 hnd K (fun v w' hS hv hst hR2 => hK _ _ ?_))
  refine wpAny_invR hord hdst hlt hstep hend fuel _ _ _ (hI.step hdst hlt h2 h3 hS hv hst) hR2 ?_
  have := left_set hI.lsize hsz h1
  omega
theorem wp_region_invR {P : Program} {ops : Array Oper} {Q : Exit → Act → World → Prop} (R : Array Bool → Act → World → Prop) (V : Nat → Value → World → Prop) (S : World → Prop) {id : Nat} {a : Act} {w : World}
 (hm : P.follows .mixedOrders = true) (ho : ordB ops = true) (hd : dstB ops a.tmps.size = true) (hS : S w.drew) (hR : R (Array.replicate ops.size false) a w.drew)
 (hstep : AllOps (OpStepR P .any ops Q R V S a) 0 ops.toList)
 (hend : ∀ listed a' w', Inv .any ops V S a listed a' w' → (∀ i, i < ops.size → Done listed i) → Q .normal a' w') : (Code.region id ops true).wp P Q a w := by
 refine wp_region_any hm (wpAny_invR (R := R) (V := V) (S := S) (a0 := a) (ordB_spec ho) (fun i j oi oj d hi hj hid hjd => (dstB_spec hd i oi d hi hid).2 j oj hj hjd) (fun i o d hi hid => (dstB_spec hd i o d hi hid).1)
  (fun i o hi => ?_) hend _ _ _ _ ?_ hR ?_)
 · have := AllOps.get hstep (i := i) (o := o) (by simpa using hi)
   rw [Nat.zero_add] at this
   exact this
 · have hno : ∀ i, ¬ Done (Array.replicate ops.size false) i := fun i h => by
    unfold Done at h
    by_cases hi : i < ops.size <;> simp [Array.getD_eq_getD_getElem?, hi] at h
   exact ⟨by simp, hS, rfl, rfl, fun i _ _ h => absurd h (hno i), fun i _ _ _ _ h => absurd h (hno i), fun _ _ => rfl⟩
 · unfold left
   exact Nat.le_trans (List.length_filter_le _ _) (by simp)
def Apart (i j di dj : Nat) (listed : Array Bool) (a : Act) (w : World) : Prop := Done listed i → Done listed j → a.tmps[di]?.getD undef ≠ a.tmps[dj]?.getD undef
theorem Apart.start {i j di dj n : Nat} (a : Act) (w : World) : Apart i j di dj (Array.replicate n false) a w := fun h => by
 unfold Done at h
 by_cases hi : i < n <;> simp [Array.getD_eq_getD_getElem?, hi] at h
theorem Apart.put {i j di dj k : Nat} {listed : Array Bool} {a : Act} {w w' : World} {o : Option Nat} {v : Value} (h : Apart i j di dj listed a w) (h1 : k ≠ i) (h2 : k ≠ j) (h3 : o ≠ some di) (h4 : o ≠ some dj) : Apart i j di dj (listed.setIfInBounds k true) (a.put o v) w' := fun d1 d2 => by
 have := h (d1.inv.resolve_left (fun e => h1 e.symm)) (d2.inv.resolve_left (fun e => h2 e.symm))
 cases o with
 | none => exact this
 | some d =>
  have e1 : d ≠ di := fun e => h3 (by rw [e])
  have e2 : d ≠ dj := fun e => h4 (by rw [e])
  simpa [Act.put, Array.getElem?_setIfInBounds, e1, e2] using this
theorem Apart.other {i j di dj k : Nat} {listed : Array Bool} {a : Act} {w : World} {o : Option Nat} {V : Nat → Value → World → Prop} {S : World → Prop} {K : Act → World → Prop} (h : Apart i j di dj listed a w) (h1 : k ≠ i) (h2 : k ≠ j) (h3 : o ≠ some di) (h4 : o ≠ some dj)
 (hK : Shut (∀ v w', S w' → V k v w' → (∀ j u, V j u w → V j u w') → Apart i j di dj (listed.setIfInBounds k true) (a.put o v) w' → K (a.put o v) w')) : Shut (∀ v w', S w' → V k v w' → (∀ j u, V j u w → V j u w') → K (a.put o v) w') :=
 fun v w' a1 a2 a3 => hK v w' a1 a2 a3 (h.put h1 h2 h3 h4)
theorem Apart.newL {md : Region.Mode} {ops : Array Oper} {W : World} {ks : List Kind} {S : World → Prop} {a0 : Act} {i j di dj : Nat} {listed : Array Bool} {a : Act} {w w' : World} {u : Value} {P : Value → World → Prop} {hP : ∀ v w w', Below w.heap.size w w' → P v w → P v w'} {oj : Oper} (hI : Inv md ops (Ks W ks) S a0 listed a w)
 (h1 : i ≠ j) (h2 : di ≠ dj) (h3 : di < a0.tmps.size) (hk : ks[j]? = some (.own P hP)) (hj : ops[j]? = some oj) (hjd : oj.dst = some dj) (hne : ∀ v, P v w → u ≠ v) : Apart i j di dj (listed.setIfInBounds i true) (a.put (some di) u) w' := fun _ d2 => by
 obtain ⟨x, hx, hV⟩ := hI.got j oj dj hj hjd (d2.inv.resolve_left (fun e => h1 e.symm))
 have h3' : di < a.tmps.size := by rw [hI.size]; exact h3
 have := hne x (hV _ hk)
 simpa [Act.put, Array.getElem?_setIfInBounds, h2, h3', hx] using this
theorem Apart.newR {md : Region.Mode} {ops : Array Oper} {W : World} {ks : List Kind} {S : World → Prop} {a0 : Act} {i j di dj : Nat} {listed : Array Bool} {a : Act} {w w' : World} {u : Value} {P : Value → World → Prop} {hP : ∀ v w w', Below w.heap.size w w' → P v w → P v w'} {oi : Oper} (hI : Inv md ops (Ks W ks) S a0 listed a w)
 (h1 : i ≠ j) (h2 : di ≠ dj) (h3 : dj < a0.tmps.size) (hk : ks[i]? = some (.own P hP)) (hj : ops[i]? = some oi) (hjd : oi.dst = some di) (hne : ∀ v, P v w → u ≠ v) : Apart i j di dj (listed.setIfInBounds j true) (a.put (some dj) u) w' := fun d1 _ => by
 obtain ⟨x, hx, hV⟩ := hI.got i oi di hj hjd (d1.inv.resolve_left (fun e => h1 e))
 have h3' : dj < a.tmps.size := by rw [hI.size]; exact h3
 have := hne x (hV _ hk)
 simpa [Act.put, Array.getElem?_setIfInBounds, h2.symm, h3', hx] using fun e => this e.symm
theorem Done.dep {md : Region.Mode} {o : Oper} {listed : Array Bool} (hd : ∀ e ∈ o.after, Region.binds md e = true → Done listed e.on) (j : Nat) (h : (o.after.toList.any fun e => Region.binds md e && e.on == j) = true) : Done listed j := by
 simp only [List.any_eq_true, Bool.and_eq_true, beq_iff_eq] at h
 obtain ⟨e, he, hb, rfl⟩ := h
 exact hd e (by simpa using he) hb
theorem wp_built {P : Program} {o : Oper} {a : Act} {w : World} {K : Act → World → Prop} {Q : Exit → Act → World → Prop} (t : TypeId) (parts : Array (Nat × Operand)) (ho : o.op = .build t parts) (vals : List (Nat × Value)) (hv : (parts.map fun (i, x) => (i, a.eval x)).toList = vals) (cells : Array Value) (hc : P.built t vals = some cells)
 (h : K (a.put o.dst (.agg cells)) w) : o.wp P a w K Q := wp_build t parts ho (by rw [hv, hc]; rfl) (by rw [hv, hc]; exact h)
def cloneI_ren : Go.Shelf.Ren := ⟨fun | 5 => 64 | 7 => 104 | n => n, fun | 23 => 109 | 25 => 3 | 3 => 3 | 4 => 4 | 20 => 20 | n => n, fun | n => n⟩
theorem cloneI : Go.Proofs.SlLaysW.n5 Tryz.prog cloneI_ren := {
 mixed := by kernel_rfl,
 f5 := ⟨Tryz.f64.name, by decide, Tryz.func64.trans (congrArg some (by kernel_rfl))⟩,
 f7 := Tryz.func104.trans (congrArg some (by kernel_rfl)),
 t4 := Tryz.underlying4,
 a4 := Tryz.isAgg4,
 z4 := Tryz.sizeOf4,
 v4 := Tryz.zeroValue4,
 t20 := Tryz.underlying20,
 a20 := Tryz.isAgg20,
 z20 := Tryz.sizeOf20,
 v20 := Tryz.zeroValue20,
 t23 := Tryz.underlying109,
 a23 := Tryz.isAgg109,
 z23 := Tryz.sizeOf109,
 v23 := Tryz.zeroValue109 }
theorem clonei_c (b n : Nat) (f : Int → Option Int) (w : World) (h : MapO w b n f) : Calls Tryz.prog 64 #[.map (some b)] w (fun e w' => e = .returned (.map (some w.heap.size)) ∧ MapO w' w.heap.size n f ∧ Below w.heap.size w w') := by
 obtain ⟨D, h1, h2⟩ := h
 exact (AnyW.maps_Clone_owns cloneI 3 (plainElem Tryz.prog 3) b n D w h1).mono fun e w' ⟨he, h3, _, h4⟩ => ⟨he, ⟨D, h3, h2⟩, h4⟩
def IsRwX (B n : Nat) (cf : List Value) (v : Value) (w : World) : Prop := w.ownsRow B 42 7 v n cf
theorem IsRwX.keep {B n : Nat} {cf : List Value} : ∀ v w w', Below w.heap.size w w' → IsRwX B n cf v w → IsRwX B n cf v w' := fun v w w' hb h => own_below h hb
def IsMo (B n : Nat) (f : Int → Option Int) (v : Value) (w : World) : Prop := ∃ b : Nat, v = .map (some b) ∧ MapO w b n f ∧ B ≤ b
theorem IsMo.keep {B n : Nat} {f : Int → Option Int} : ∀ v w w', Below w.heap.size w w' → IsMo B n f v w → IsMo B n f v w' := fun v w w' hb ⟨b, h1, h2, h3⟩ => ⟨b, h1, h2.below hb, h3⟩
theorem IsMo.ne {B n : Nat} {f : Int → Option Int} {v : Value} {w : World} (h : IsMo B n f v w) : Value.map (some w.heap.size) ≠ v := by
 obtain ⟨b, rfl, hm, _⟩ := h
 have := hm.lt
 intro e
 simp only [Value.map.injEq, Option.some.injEq] at e
 omega
def IsJb (B n : Nat) (cf : List Value) (fi fr : Int → Option Int) (gl : List Value) (u : Value) (w : World) : Prop := ∃ (cs : Array Value) (v : Value) (b2 b3 : Nat), u = .agg cs ∧ (gl ++ [v, .map (some b2), .map (some b3)]).toArray = cs ∧ IsRwX B n cf v w ∧ MapO w b2 n fi ∧ MapO w b3 n fr ∧ B ≤ b2 ∧ B ≤ b3 ∧ b2 ≠ b3
theorem IsJb.keep {B n : Nat} {cf : List Value} {fi fr : Int → Option Int} {gl : List Value} : ∀ v w w', Below w.heap.size w w' → IsJb B n cf fi fr gl v w → IsJb B n cf fi fr gl v w' := fun v w w' hb ⟨cs, u, b2, b3, h1, h2, h3, h4, h5, h6⟩ => ⟨cs, u, b2, b3, h1, h2, own_below h3 hb, h4.below hb, h5.below hb, h6⟩
def IsJx (B : Nat) (D : Nat → Prop) (g : XGroup) (es : List XEntry) (u : Value) (w : World) : Prop := ∃ (L : Nat) (O : Nat → Prop), u = .pointer (some ⟨L, 0, none⟩) ∧ JC w D O L g es ∧ ∀ q, O q → B ≤ q
theorem IsJx.keep {B : Nat} {D : Nat → Prop} {g : XGroup} {es : List XEntry} : ∀ v w w', Below w.heap.size w w' → IsJx B D g es v w → IsJx B D g es v w' := fun v w w' hb ⟨L, O, h1, h2, h3⟩ => ⟨L, O, h1, h2.below hb, h3⟩
structure JKeep (w : World) (D : Nat → Prop) (g : XGroup) (es : List XEntry) (gl : List Value) (css : List (List Value)) : Prop where
 grp : GroupC w D gl g
 len : css.length = es.length
 ent : ∀ (i : Nat) x, es[i]? = some x → ∃ cs, css[i]? = some cs ∧ EntryC w D cs x
 ltD : ∀ q, D q → q < w.heap.size
 ok : okJ g es
theorem own_type {w : World} {base q : Nat} {e : TypeId} {size n : Nat} {v : Value} {xs : List Value} (h : w.ownsRow base e size v n xs) (hq : v.ownBlock = some q) : ∃ cs fz, w.heap[q]? = some (.cells cs e fz) := by
 rcases h.2 with ⟨rfl, _⟩ | ⟨g, cap, cur, rfl, _, hg, _⟩
 · simp [Value.ownBlock] at hq
 · simp [Value.ownBlock] at hq
   subst hq
   exact ⟨_, _, hg⟩
theorem MapO.obj {w : World} {b n : Nat} {f : Int → Option Int} (h : MapO w b n f) : ∃ es c, w.heap[b]? = some (.map es c) := by
 obtain ⟨D, ⟨es, clock, h1, _⟩, _⟩ := h
 exact ⟨es, clock, h1⟩
theorem IsJx.made {w w2 : World} {D : Nat → Prop} {g : XGroup} {es : List XEntry} {gl : List Value} {css : List (List Value)} {cs : Array Value} {v : Value} {n b2 b3 : Nat} {cf : List Value} {fi fr : Int → Option Int} (hk : JKeep w D g es gl css) (hS : Below w.heap.size w w2)
 (hc : css.flatten = cf ∧ es.length = n ∧ (fun id => Option.map (fun k : Nat => (k : Int)) (idxE es id)) = fi ∧ revO es = fr) (hcs : (gl ++ [v, .map (some b2), .map (some b3)]).toArray = cs) (h1 : IsRwX w.heap.size n cf v w2) (hm2 : MapO w2 b2 n fi) (hm3 : MapO w2 b3 n fr) (hge2 : w.heap.size ≤ b2) (hge3 : w.heap.size ≤ b3) (hne : b2 ≠ b3) :
 IsJx w.heap.size D g es (.pointer (some ⟨w2.heap.size, 0, none⟩)) (w2.alloc (.cells cs 111)) := by
 obtain ⟨rfl, rfl, rfl, rfl⟩ := hc
 subst hcs
 have hb := below1 w2 (.cells (gl ++ [v, .map (some b2), .map (some b3)]).toArray 111)
 have hs := hS.size
 have l2 := hm2.lt
 have l3 := hm3.lt
 have hov : ∀ q, v.ownBlock = some q → w.heap.size ≤ q ∧ q < w2.heap.size := fun q hq => h1.lt q hq
 obtain ⟨ms2, mc2, o2⟩ := hm2.obj
 obtain ⟨ms3, mc3, o3⟩ := hm3.obj
 refine ⟨w2.heap.size, fun q => q = w2.heap.size ∨ q = b2 ∨ q = b3 ∨ v.ownBlock = some q, rfl, ⟨gl, css, v, b2, b3, ?_⟩, fun q hq => ?_⟩
 · exact {
    blk := heap_alloc_new w2 _
    grp := GroupC.fr (GroupC.fr hk.grp ((Fr.ofBelow hS).mono (fun q hq => hk.ltD q hq))) ((Fr.ofBelow hb).mono (fun q hq => Nat.lt_of_lt_of_le (hk.ltD q hq) hs))
    len := hk.len
    row := own_base (own_below h1 hb) (Nat.zero_le _)
    ent := fun i x hx => by
     obtain ⟨cs, k1, k2⟩ := hk.ent i x hx
     exact ⟨cs, k1, EntryC.fr (EntryC.fr k2 ((Fr.ofBelow hS).mono (fun q hq => hk.ltD q hq))) ((Fr.ofBelow hb).mono (fun q hq => Nat.lt_of_lt_of_le (hk.ltD q hq) hs))⟩
    idx := hm2.below hb
    rev := hm3.below hb
    oj := .inl rfl
    oi := .inr (.inl rfl)
    orr := .inr (.inr (.inl rfl))
    ov := fun q hq => .inr (.inr (.inr hq))
    ne1 := by omega
    ne2 := by omega
    ne3 := hne
    ne4 := fun q hq => by
     have hh := hov q hq
     obtain ⟨xs, fz, ho⟩ := own_type h1 hq
     refine ⟨by omega, fun e => ?_, fun e => ?_⟩
     · subst e; rw [o2] at ho; simp at ho
     · subst e; rw [o3] at ho; simp at ho
    dis := fun q h h' => by
     have := hk.ltD q h
     rcases h' with h' | h' | h' | h'
     · omega
     · omega
     · omega
     · have := hov q h'; omega
    ltD := fun q h => by have := hk.ltD q h; have := hb.size; omega
    ltO := fun q h' => by
     have hlt : w2.heap.size < (w2.alloc (.cells (gl ++ [v, .map (some b2), .map (some b3)]).toArray 111)).heap.size := by simp
     rcases h' with h' | h' | h' | h'
     · omega
     · omega
     · omega
     · have := hov q h'; omega
    ok := hk.ok }
 · rcases hq with h' | h' | h' | h'
   · omega
   · omega
   · omega
   · exact (hov q h').1
set_option maxRecDepth 100000 in
theorem journal_built4 (gl : List Value) (hl : gl.length = 21) (A : Option Addr) (n c a b : Nat) : Tryz.prog.built 111 [(0, .agg gl.toArray), (1, .slice A n c), (2, .map (some a)), (3, .map (some b))] = some (gl ++ [Value.slice A n c, Value.map (some a), Value.map (some b)]).toArray :=
 match gl, hl with
 | [x0, x1, x2, x3, x4, x5, x6, x7, x8, x9, x10, x11, x12, x13, x14, x15, x16, x17, x18, x19, x20], _ => by kernel_rfl
theorem own_rd {w : World} {base : Nat} {e : TypeId} {size n c : Nat} {A : Option Addr} {xs : List Value} (h : w.ownsRow base e size (.slice A n c) n xs) {Q : Nat → Prop} (hQ : ∀ g, (Value.slice A n c).ownBlock = some g → Q g) : Rd w Q A n size xs := by
 refine ⟨h.1, fun hn => ?_⟩
 rcases h.2 with ⟨he, h0⟩ | ⟨g, cap, cur, he, _⟩
 · omega
 · simp only [Value.slice.injEq] at he
   obtain ⟨rfl, _, rfl⟩ := he
   exact ⟨_, rfl, own_at h (hQ g rfl)⟩
set_option maxHeartbeats 4000000 in
theorem jclone_c (D O : Nat → Prop) (J : Nat) (g : XGroup) (es : List XEntry) (w : World) (hj : JC w D O J g es) (hes : es.length ≤ 100000) : Calls Tryz.prog 19 #[.pointer (some ⟨J, 0, none⟩)] w (fun e w' => ∃ (L : Nat) (O2 : Nat → Prop), e = .returned (.pointer (some ⟨L, 0, none⟩)) ∧ JC w' D O2 L g es ∧ (∀ q, O2 q → w.heap.size ≤ q) ∧ Below w.heap.size w w') := by
 obtain ⟨gl, css, v, bi, br, h⟩ := hj
 obtain ⟨A, n, c, rfl⟩ := own_shape h.row
 obtain rfl := own_val h.row
 have HGR := Lib.hid (show JKeep w D g es gl css from ⟨h.grp, h.len, h.ent, h.ltD, h.ok⟩)
 have HGL := Lib.hid h.glen
 have HGI := Lib.hid (show (Tryz.prog.info? 29).map (·.size) = some gl.length by rw [info_group, h.glen])
 have X21 := Lib.hid h.cell.1
 have X22 := Lib.hid h.cell.2.1
 have X23 := Lib.hid h.cell.2.2
 have LTJ := Lib.hid (blk_lt h.blk)
 have HAG := Lib.hid ((box_at h.blk).split.1)
 have HONE := Lib.hid (css_one (fun _ _ h => entry_one h) h.len h.ent)
 have HRD := Lib.hid (own_rd h.row (Q := (· < w.heap.size)) (fun q hq => (h.row.lt q hq).2))
 have HI := Lib.hid h.idx
 have HV := Lib.hid h.rev
 clear h
 obtain ⟨n, hn⟩ : ∃ n, es.length = n := ⟨_, rfl⟩
 obtain ⟨cf, hcf⟩ : ∃ cf, css.flatten = cf := ⟨_, rfl⟩
 obtain ⟨fi, hfi⟩ : ∃ fi, (fun id => Option.map (fun k : Nat => (k : Int)) (idxE es id)) = fi := ⟨_, rfl⟩
 obtain ⟨fr, hfr⟩ : ∃ fr, revO es = fr := ⟨_, rfl⟩
 have HCL := Lib.hid (And.intro hcf (And.intro hn (And.intro hfi hfr)))
 rw [hcf, hn] at HRD
 rw [hcf] at HONE
 rw [hn] at X21 hes
 rw [hfi, hn] at HI
 rw [hfr, hn] at HV
 have HN2 := Lib.hid hes
 clear hn hcf hfi hfr hes
 go_enter Tryz.func19, Tryz.ntmps19
 go_upto_region 3 with fail
 refine wp_region_invR (Apart 13 18 18 23) (Ks w [.val (.pointer (some ⟨J, 0, none⟩)), .val (.pointer (some ⟨J, 0, none⟩)), .val (.pointer (some ⟨J, 0, none⟩)), .val (.agg gl.toArray), .val (.pointer (some ⟨J, 0, none⟩)), .val (.pointer (some ⟨J, 0, none⟩)), .val (.pointer (some ⟨J, 21, none⟩)), .val (.slice A n c), .own (IsRwX w.heap.size n cf) (IsRwX.keep), .val (.pointer (some ⟨J, 0, none⟩)), .val (.pointer (some ⟨J, 0, none⟩)), .val (.pointer (some ⟨J, 22, none⟩)), .val (.map (some bi)), .own (IsMo w.heap.size n fi) (IsMo.keep), .val (.pointer (some ⟨J, 0, none⟩)), .val (.pointer (some ⟨J, 0, none⟩)), .val (.pointer (some ⟨J, 23, none⟩)), .val (.map (some br)), .own (IsMo w.heap.size n fr) (IsMo.keep), .own (IsJb w.heap.size n cf fi fr gl) (IsJb.keep), .own (IsJx w.heap.size D g es) (IsJx.keep), .own (IsJx w.heap.size D g es) (IsJx.keep)])
  (fun w' => Below w.heap.size w w') (by kernel_rfl) (by kernel_rfl) (by kernel_rfl) (Below.refl _ _).drew (Apart.start _ _) ?_ ?_
 · refine ⟨?_, ?_, ?_, ?_, ?_, ?_, ?_, ?_, ?_, ?_, ?_, ?_, ?_, ?_, ?_, ?_, ?_, ?_, ?_, ?_, ?_, ?_, trivial⟩
   · intro _ A0 w2 hI hR hd hnd K hK
     replace hK := Apart.other hR (by decide) (by decide) (by decide) (by decide) hK
     have e0 := hI.q hnd 0; exact hI.z hK
   · intro _ A0 w2 hI hR hd hnd K hK
     replace hK := Apart.other hR (by decide) (by decide) (by decide) (by decide) hK
     have e0 := hI.p hd 0 5; exact hI.z hK
   · intro _ A0 w2 hI hR hd hnd K hK
     replace hK := Apart.other hR (by decide) (by decide) (by decide) (by decide) hK
     have e0 := hI.p hd 1 6; exact hI.z hK
   · intro _ A0 w2 hI hR hd hnd K hK
     replace hK := Apart.other hR (by decide) (by decide) (by decide) (by decide) hK
     have e0 := hI.p hd 2 7; have hS := hI.world; have hrange : w2.rangeAt J 0 gl := (HAG.out.fr (Fr.ofBelow hS)).range
     have hisize := HGI.out
     refine wanted_go rfl ?_; clear hI hd hnd
     refine wp_load_mid 29 (.tmp 7) rfl _ _ (by simpa [Act.eval, Array.getD_eq_getD_getElem?] using e0) _ _ hrange Tryz.underlying29 rfl hisize ?_
     exact kq hK hS rfl
   · intro _ A0 w2 hI hR hd hnd K hK
     replace hK := Apart.other hR (by decide) (by decide) (by decide) (by decide) hK
     have e0 := hI.q hnd 0; exact hI.z hK
   · intro _ A0 w2 hI hR hd hnd K hK
     replace hK := Apart.other hR (by decide) (by decide) (by decide) (by decide) hK
     have e0 := hI.p hd 4 9; exact hI.z hK
   · intro _ A0 w2 hI hR hd hnd K hK
     replace hK := Apart.other hR (by decide) (by decide) (by decide) (by decide) hK
     have e0 := hI.p hd 5 10; exact hI.z hK
   · intro _ A0 w2 hI hR hd hnd K hK
     replace hK := Apart.other hR (by decide) (by decide) (by decide) (by decide) hK
     have e0 := hI.p hd 6 11; have hS := hI.world; have hcc : w2.cell? ⟨J, 21, none⟩ = _ := (hS.cell (p := ⟨J, 21, none⟩) LTJ.out).trans X21.out; exact hI.z hK
   · intro _ A0 w2 hI hR hd hnd K hK
     replace hK := Apart.other hR (by decide) (by decide) (by decide) (by decide) hK
     have e0 := hI.p hd 7 12; have hS := hI.world; refine wanted_go rfl ?_; clear hI hd hnd; go_simp
     go_at_call 63
     refine (cloneX_c A n c cf w2 ((HRD.out.fr (Fr.ofBelow hS)).mono (fun q hq => Nat.lt_of_lt_of_le hq hS.size)) HONE.out HN2.out).mono ?_
     rintro e w3 ⟨v, rfl, hown, h3⟩
     exact hK.out _ _ (hS.trans (h3.mono hS.size)) (Ks.of rfl (own_base hown hS.size)) (Ks.keep h3)
   · intro _ A0 w2 hI hR hd hnd K hK
     replace hK := Apart.other hR (by decide) (by decide) (by decide) (by decide) hK
     have e0 := hI.q hnd 0; exact hI.z hK
   · intro _ A0 w2 hI hR hd hnd K hK
     replace hK := Apart.other hR (by decide) (by decide) (by decide) (by decide) hK
     have e0 := hI.p hd 9 14; exact hI.z hK
   · intro _ A0 w2 hI hR hd hnd K hK
     replace hK := Apart.other hR (by decide) (by decide) (by decide) (by decide) hK
     have e0 := hI.p hd 10 15; exact hI.z hK
   · intro _ A0 w2 hI hR hd hnd K hK
     replace hK := Apart.other hR (by decide) (by decide) (by decide) (by decide) hK
     have e0 := hI.p hd 11 16; have hS := hI.world; have hcc : w2.cell? ⟨J, 22, none⟩ = _ := (hS.cell (p := ⟨J, 22, none⟩) LTJ.out).trans X22.out; exact hI.z hK
   · intro _ A0 w2 hI hR hd hnd K hK; have e0 := hI.p hd 12 17; have hS := hI.world
     have hap := fun w3 => Apart.newL (i := 13) (j := 18) (di := 18) (dj := 23) (w' := w3) (u := .map (some w2.heap.size)) hI (by decide) (by decide) (show (18 : Nat) < 26 by decide) (show _ = some (Kind.own (IsMo w.heap.size n fr) IsMo.keep) from rfl) rfl rfl (fun v hv => IsMo.ne hv)
     refine wanted_go rfl ?_; clear hI hd hnd; go_simp
     go_at_call 64
     refine (clonei_c bi n fi w2 (HI.out.below hS)).mono ?_
     rintro e w3 ⟨rfl, hm3, h3⟩
     exact hK.out _ _ (hS.trans (h3.mono hS.size)) (Ks.of rfl ⟨_, rfl, hm3, hS.size⟩) (Ks.keep h3) (hap _)
   · intro _ A0 w2 hI hR hd hnd K hK
     replace hK := Apart.other hR (by decide) (by decide) (by decide) (by decide) hK
     have e0 := hI.q hnd 0; exact hI.z hK
   · intro _ A0 w2 hI hR hd hnd K hK
     replace hK := Apart.other hR (by decide) (by decide) (by decide) (by decide) hK
     have e0 := hI.p hd 14 19; exact hI.z hK
   · intro _ A0 w2 hI hR hd hnd K hK
     replace hK := Apart.other hR (by decide) (by decide) (by decide) (by decide) hK
     have e0 := hI.p hd 15 20; exact hI.z hK
   · intro _ A0 w2 hI hR hd hnd K hK
     replace hK := Apart.other hR (by decide) (by decide) (by decide) (by decide) hK
     have e0 := hI.p hd 16 21; have hS := hI.world; have hcc : w2.cell? ⟨J, 23, none⟩ = _ := (hS.cell (p := ⟨J, 23, none⟩) LTJ.out).trans X23.out; exact hI.z hK
   · intro _ A0 w2 hI hR hd hnd K hK; have e0 := hI.p hd 17 22; have hS := hI.world
     have hap := fun w3 => Apart.newR (i := 13) (j := 18) (di := 18) (dj := 23) (w' := w3) (u := .map (some w2.heap.size)) hI (by decide) (by decide) (show (23 : Nat) < 26 by decide) (show _ = some (Kind.own (IsMo w.heap.size n fi) IsMo.keep) from rfl) rfl rfl (fun v hv => IsMo.ne hv)
     refine wanted_go rfl ?_; clear hI hd hnd; go_simp
     go_at_call 64
     refine (clonei_c br n fr w2 (HV.out.below hS)).mono ?_
     rintro e w3 ⟨rfl, hm3, h3⟩
     exact hK.out _ _ (hS.trans (h3.mono hS.size)) (Ks.of rfl ⟨_, rfl, hm3, hS.size⟩) (Ks.keep h3) (hap _)
   · intro _ A0 w2 hI hR hd hnd K hK
     replace hK := Apart.other hR (by decide) (by decide) (by decide) (by decide) hK
     have e0 := hI.p hd 3 8
     obtain ⟨x1, e1, h1⟩ := hI.dep hd 8 13 rfl rfl rfl (by kernel_rfl)
     obtain ⟨x2, e2, h2⟩ := hI.dep hd 13 18 rfl rfl rfl (by kernel_rfl)
     obtain ⟨x3, e3, h3⟩ := hI.dep hd 18 23 rfl rfl rfl (by kernel_rfl)
     have hS := hI.world
     have hne := hR (Done.dep hd 13 (by kernel_rfl)) (Done.dep hd 18 (by kernel_rfl))
     rw [e2, e3] at hne
     obtain ⟨A1, n1, c1, rfl⟩ := own_shape h1
     obtain rfl := own_val h1
     obtain ⟨b2, rfl, hm2, hge2⟩ := h2
     obtain ⟨b3, rfl, hm3, hge3⟩ := h3
     obtain ⟨cs, hcs⟩ : ∃ cs : Array Value, (gl ++ [Value.slice A1 n1 c1, Value.map (some b2), Value.map (some b3)]).toArray = cs := ⟨_, rfl⟩
     refine wanted_go rfl ?_; clear hI hd hnd
     refine wp_built 111 _ rfl [(0, .agg gl.toArray), (1, .slice A1 n1 c1), (2, .map (some b2)), (3, .map (some b3))] (by simp [Act.eval, Array.getD_eq_getD_getElem?, e0, e1, e2, e3]) cs ((journal_built4 gl HGL.out A1 n1 c1 b2 b3).trans (congrArg some hcs)) ?_
     exact hK.out _ _ hS (Ks.of rfl ⟨_, _, b2, b3, rfl, hcs, h1, hm2, hm3, hge2, hge3, fun e => hne (by rw [e])⟩) (fun _ _ h => h)
   · intro _ A0 w2 hI hR hd hnd K hK
     replace hK := Apart.other hR (by decide) (by decide) (by decide) (by decide) hK
     obtain ⟨x0, e0, h0⟩ := hI.dep hd 19 24 rfl rfl rfl (by kernel_rfl)
     have hS := hI.world
     obtain ⟨cs, v1, b2, b3, rfl, hcs, h1, hm2, hm3, hge2, hge3, hne⟩ := h0
     have HQ := Lib.hid (IsJx.made HGR.out hS HCL.out hcs h1 hm2 hm3 hge2 hge3 hne)
     clear hcs h1 hm2 hm3 hge2 hge3 hne; refine wanted_go rfl ?_; clear hI hd hnd; go_simp
     exact hK.out _ _ (hS.alloc hS.size _) (Ks.of rfl HQ.out) (Ks.keep (below1 w2 _))
   · intro _ A0 w2 hI hR hd hnd K hK
     replace hK := Apart.other hR (by decide) (by decide) (by decide) (by decide) hK
     obtain ⟨x0, e0, h0⟩ := hI.dep hd 20 25 rfl rfl rfl (by kernel_rfl)
     have hS := hI.world; refine wanted_go rfl ?_; clear hI hd hnd; go_simp
     exact hK.out _ _ hS (Ks.of rfl h0) (fun _ _ h => h)
 · intro _ A0 w2 hI hall; have hS := hI.world; obtain ⟨x0, -, x1, -, x2, -, x3, -, x4, -, x5, -, x6, -, x7, -, x8, -, x9, -, x10, -, x11, -, x12, -, x13, -, x14, -, x15, -, x16, -, x17, -, x18, -, x19, -, x20, -, x21, h21, hA⟩ := hI.ch hall [5, 6, 7, 8, 9, 10, 11, 12, 13, 14, 15, 16, 17, 18, 19, 20, 21, 22, 23, 24, 25, 2]
   have k21 : (IsJx w.heap.size D g es) x21 w2 := h21 _ rfl
   clear h21 hI hall
   simp only [Ch, setAll, List.foldl, List.setIfInBounds_toArray, List.set_cons_zero, List.set_cons_succ] at hA
   rw [hA]
   clear hA
   obtain ⟨L, O2, rfl, hlk, hL2⟩ := k21
   have HR := Lib.hid (And.intro hlk (And.intro hL2 hS))
   clear hlk hL2 hS
   go_wp2_with fail
   go_ret
   exact ⟨L, O2, rfl, HR.out.1, HR.out.2.1, HR.out.2.2⟩
end Go.Proofs.YtebdajkknkapcaaGreat
namespace Go.Proofs.YtebdajkknkapcaaGreat
open Go Go.RowKit
def IC (w : World) (p : Addr) : Prop := ∃ z : Int, w.cell? p = some (.int .i64 z) ∧ w.frozen? p = false
theorem IC.set {w : World} {p q : Addr} {z : Int} (hp : IC w p) (hq : IC w q) : IC (w.setCell q (.int .i64 z)) p := by
 obtain ⟨a, h1, h2⟩ := hp
 obtain ⟨b, h3, h4⟩ := hq
 by_cases e : q = p
 · subst e
   exact ⟨z, World.cell?_setCell_same _ _ _ h1, (World.frozen?_setCell _ _ _ _).trans h2⟩
 · exact ⟨a, (World.cell?_setCell_other _ _ _ _ e).trans h1, (World.frozen?_setCell _ _ _ _).trans h2⟩
theorem At.ic {w : World} {Q : Nat → Prop} {b o j : Nat} {cs : List Value} {z : Int} (h : At w Q ⟨b, o, none⟩ cs) (hj : cs[j]? = some (.int .i64 z)) : IC w ⟨b, o + j, none⟩ := by
 have h2 := h.2 j _ hj
 have e : (⟨b, o, none⟩ : Addr).add j = ⟨b, o + j, none⟩ := by
  unfold Addr.add
  split
  · rename_i h0; subst h0; rfl
  · rfl
 rw [e] at h2
 exact ⟨z, h2⟩
def RowI (A : Option Addr) (g n : Nat) (w : World) : Prop := ∀ k, k < n → A = some ⟨g, 0, none⟩ ∧ IC w ⟨g, k * 3 + 1, none⟩
theorem RowI.set {A : Option Addr} {g n k : Nat} {w : World} {z : Int} (h : RowI A g n w) (hk : k < n) : RowI A g n (w.setCell ⟨g, k * 3 + 1, none⟩ (.int .i64 z)) := fun j hj => ⟨(h j hj).1, (h j hj).2.set (h k hk).2⟩
theorem row_ints {w : World} {base c : Nat} {A : Option Addr} {l : List XLine} (h : w.ownsRow base 52 3 (.slice A l.length c) l.length (l.flatMap lineL)) (hb : base < w.heap.size) : ∃ g, base ≤ g ∧ g < w.heap.size ∧ (∀ q, (Value.slice A l.length c).ownBlock = some q → q = g) ∧ RowI A g l.length w := by
 rcases h.2 with ⟨he, h0⟩ | ⟨g, cap, cur, he, h1, hg, _⟩
 · simp only [Value.slice.injEq] at he
   obtain ⟨rfl, _, rfl⟩ := he
   exact ⟨base, Nat.le_refl _, hb, fun q hq => by simp [Value.ownBlock] at hq, fun k hk => by omega⟩
 · simp only [Value.slice.injEq] at he
   obtain ⟨rfl, _, rfl⟩ := he
   refine ⟨g, h1, blk_lt hg, fun q hq => by simpa [Value.ownBlock] using hq.symm, fun k hk => ⟨rfl, ?_⟩⟩
   have hat := own_at (Q := fun _ => True) h trivial
   rw [List.flatMap_def] at hat
   have := At.flat (size := 3) (css := l.map lineL) (fun cs hc => by obtain ⟨x, _, rfl⟩ := List.mem_map.1 hc; rfl) 0 hat k (lineL l[k]) (by simp [hk])
   rw [Nat.zero_add] at this
   exact this.ic (j := 1) rfl
def ShowAt (B : Nat) (A : Option Addr) (es : List XEntry) (w : World) : Prop := ∀ (i : Nat) x, es[i]? = some x → ∃ b o Al cl, A = some ⟨b, o, none⟩ ∧ w.cell? ⟨b, o + i * 7 + 6, none⟩ = some (.slice Al x.lines.length cl) ∧
 ∀ k, k < x.lines.length → ∃ bl ol, Al = some ⟨bl, ol, none⟩ ∧ B ≤ bl ∧ bl ≠ b ∧ IC w ⟨bl, ol + k * 3 + 1, none⟩
theorem ShowAt.set {B : Nat} {A : Option Addr} {es : List XEntry} {w : World} {q : Addr} {z : Int} (h : ShowAt B A es w) (hq : IC w q) (hb : ∀ b o, A = some ⟨b, o, none⟩ → q.block ≠ b) : ShowAt B A es (w.setCell q (.int .i64 z)) := fun i x hx => by
 obtain ⟨b, o, Al, cl, h1, h2, h3⟩ := h i x hx
 refine ⟨b, o, Al, cl, h1, (World.cell?_setCell_far _ _ _ _ (hb b o h1)).trans h2, fun k hk => ?_⟩
 obtain ⟨bl, ol, k1, k2, k3, k4⟩ := h3 k hk
 exact ⟨bl, ol, k1, k2, k3, k4.set hq⟩
theorem OutN.shown {B : Nat} {A : Option Addr} {c : Nat} {es : List XEntry} {w : World} (h : OutN B es (.slice A es.length c) w) : ShowAt B A es w := fun i x hx => by
 obtain ⟨css, h1, h2, h3, h4⟩ := h
 obtain ⟨cs, hc, hE⟩ := h4 i x hx
 rcases h2.2 with ⟨he, h0⟩ | ⟨g, cap, cur, he, hb, hg, _⟩
 · have : es = [] := List.eq_nil_of_length_eq_zero h0
   subst this
   simp at hx
 · simp only [Value.slice.injEq] at he
   obtain ⟨rfl, _, rfl⟩ := he
   obtain ⟨Al, cl, rfl, _, hl⟩ := hE.lit
   have hat := At.flat h3 0 (own_at (Q := fun _ => True) h2 trivial) i _ hc
   refine ⟨g, 0, Al, cl, rfl, (hat.2 6 _ rfl).1, fun k hk => ?_⟩
   obtain ⟨bl, ol, cl2, hA, hQ, hL, hA2⟩ := ListC.get hl k hk
   obtain ⟨rfl, _⟩ := LineC.lit hL
   exact ⟨bl, ol, hA, hQ.1.1, fun e => hQ.2 (by rw [e]; rfl), hA2.ic (j := 1) rfl⟩
theorem ListC.take {α : Type} {El : World → (Nat → Prop) → List Value → α → Prop} {size : Nat} {w : World} {Q : Nat → Prop} {A : Option Addr} {c m : Nat} {l : List α} (h : ListC El size w Q [.slice A l.length c] l) (hm : m ≤ l.length) : ListC El size w Q [.slice A (l.take m).length c] (l.take m) := by
 obtain ⟨A', c', he, h1, h2, h3⟩ := h
 simp only [List.cons.injEq, and_true, Value.slice.injEq] at he
 obtain ⟨rfl, _, rfl⟩ := he
 have hl : (l.take m).length = m := by rw [List.length_take]; omega
 refine ⟨_, _, rfl, by omega, h2, fun hp => ?_⟩
 obtain ⟨b, o, hA, hQ, hx⟩ := h3 (by omega)
 refine ⟨b, o, hA, hQ, fun i x hi => hx i x ?_⟩
 have him : i < m := by
  have := (List.getElem?_eq_some_iff.1 hi).1
  omega
 rw [List.getElem?_take_of_lt him] at hi
 exact hi
theorem fewJ.take {g : XGroup} {l : List XEntry} (h : fewJ g l) (m : Nat) : fewJ g (l.take m) := ⟨fun x hx => h.1 x (List.mem_of_mem_take hx), by have := h.2.1; rw [List.length_take]; omega, h.2.2⟩
def IsPd (B : Nat) (g : XGroup) (l : List XEntry) (v : Value) (w : World) : Prop := v = .tuple #[.pointer none, .slice none 0 0, .bool true] ∨
 ∃ (J : Nat) (D O : Nat → Prop) (A : Option Addr) (c : Nat), v = .tuple #[.pointer (some ⟨J, 0, none⟩), .slice A (accJ g l).length c, .bool true] ∧ JC w D O J g (accJ g l) ∧ (∀ q, D q ∨ O q → B ≤ q) ∧ ListC EntryC 7 w (fun q => q < w.heap.size ∧ ¬ (D q ∨ O q)) [.slice A (accJ g l).length c] (accJ g l)
theorem IsPd.keep {B : Nat} {g : XGroup} {l : List XEntry} : ∀ v w w', Below w.heap.size w w' → IsPd B g l v w → IsPd B g l v w' := fun v w w' hb h => by
 rcases h with h | ⟨J, D, O, A, c, h1, h2, h3, h4⟩
 · exact .inl h
 · have hf : Fr (fun q => q < w.heap.size ∧ ¬ (D q ∨ O q)) w w' := (Fr.ofBelow hb).mono (fun q hq => hq.1)
   exact .inr ⟨J, D, O, A, c, h1, h2.below hb, h3, (h4.fr (fun h => EntryC.fr h hf) hf).mono (fun h => EntryC.mono h (fun q hq => ⟨Nat.lt_of_lt_of_le hq.1 hb.size, hq.2⟩)) (fun q hq => ⟨Nat.lt_of_lt_of_le hq.1 hb.size, hq.2⟩)⟩
theorem IsPd.of {g : XGroup} {l : List XEntry} {w0 w w' : World} {e : Ending} (h : PostedPost g l w e w') (hB : w0.heap.size ≤ w.heap.size) : ∃ v, e = .returned v ∧ IsPd w0.heap.size g l v w' ∧ Below w.heap.size w w' := by
 obtain ⟨hb, ⟨_, rfl⟩ | ⟨_, J, D, O, A, c, rfl, h1, h2, h3⟩⟩ := h
 · exact ⟨_, rfl, .inl rfl, hb⟩
 · exact ⟨_, rfl, .inr ⟨J, D, O, A, c, rfl, h1, fun q hq => Nat.le_trans hB (h2 q hq), h3⟩, hb⟩
section
variable {P : Program} {w : World}
theorem wp_app_made2 {o : Oper} {a : Act} {K : Act → World → Prop} {Q' : Exit → Act → World → Prop} (s x : Operand) (t : TypeId)
 (ho : o.op = .call { callee := .builtin .append, args := #[s, x], argTypes := #[t, t] })
 (base : Nat) (e : TypeId) (i : TypeInfo) (z : Value) (size bytes : Nat) (ht : P.underlying t = some (.slice e)) (hi : P.info? e = some i) (hz : i.zero = some z)
 (hsize : i.size = size) (hby : i.bytes = bytes) (hzs : z.cells.size = size) (hsz : 0 < size)
 (g : Nat) (hs : a.eval s = .slice (some ⟨g, 0, none⟩) 0 0) (hg : w.heap[g]? = some (.cells #[] e (0, 0))) (hgb : base ≤ g)
 (Q : Nat → Prop) (A : Option Addr) (m c : Nat) (news : List Value) (hx : a.eval x = .slice A m c) (hr : Rd w Q A m size news) (h1 : ∀ u ∈ news, u.oneCell' = true)
 (h63 : m ≤ maxLen) (hbytes : m * bytes ≤ 140737488355328) (hbase : base ≤ w.heap.size)
 (h : ∀ v' w', w'.ownsRow base e size v' m news → Below w.heap.size w w' → K (a.put o.dst v') w') : o.wp P a w K Q' := by
 rcases Nat.eq_zero_or_pos m with h0 | hm
 · subst h0
   have hn : news = [] := List.eq_nil_of_length_eq_zero (by simpa using hr.1)
   subst hn
   have hown : w.ownsRow base e size (.slice (some ⟨g, 0, none⟩) 0 0) 0 [] := ⟨by simp, .inr ⟨g, 0, #[], rfl, hgb, hg, Nat.le_refl _, by simp [maxLen], by simp, by simp⟩⟩
   have hrun : (Builtin.append_ #[t, t] o.type #[.slice (some ⟨g, 0, none⟩) 0 0, .slice A 0 c]).run P w = .ok (.slice (some ⟨g, 0, none⟩) 0 0) w := by
    cases A with
    | none => exact run_app_none w base t o.type e i size ht hi _ 0 [] hown c
    | some ad =>
     have := run_append_room_cells (P := P) w t o.type e i ht hi g 0 0 0 ad 0 c [] (by simp) (by simp) (by simp) (Nat.le_refl _) (by simp) (by simp)
     simpa [World.setCells] using this
   unfold Oper.wp execOp
   simp only [ho, resolve, invoke, builtin, Sem.run_bind, Sem.run_pure, Result.andThen_ok, List.map_toArray, List.map_cons, List.map_nil, hs, hx, hrun]
   exact h _ w hown (Below.refl _ _)
 · exact wp_app_made w s x t ho base e i z size bytes ht hi hz hsize hby hzs hsz g hs hg hgb Q A m c news hx hr h1 hm h63 hbytes hbase h
end
def IsMdX (B : Nat) (v : Value) (w : World) : Prop := ∃ g, v = .slice (some ⟨g, 0, none⟩) 0 0 ∧ B ≤ g ∧ w.heap[g]? = some (.cells #[] 42 (0, 0))
theorem IsMdX.keep {B : Nat} : ∀ v w w', Below w.heap.size w w' → IsMdX B v w → IsMdX B v w' := fun v w w' hb ⟨g, e, h1, h2⟩ => ⟨g, e, h1, (hb.block g (blk_lt h2)).trans h2⟩
theorem IsMdX.made {B : Nat} {w : World} (h : B ≤ w.heap.size) : IsMdX B (.slice (some ⟨w.heap.size, 0, none⟩) 0 0) (w.alloc (.cells #[] 42)) := ⟨_, rfl, h, heap_alloc_new _ _⟩
def IsOneX (B : Nat) (cs : List Value) (v : Value) (w : World) : Prop := ∃ g, v = .slice (some ⟨g, 0, none⟩) 1 1 ∧ B ≤ g ∧ w.heap[g]? = some (.cells cs.toArray 42 (0, 0))
theorem IsOneX.keep {B : Nat} {cs : List Value} : ∀ v w w', Below w.heap.size w w' → IsOneX B cs v w → IsOneX B cs v w' := fun v w w' hb ⟨g, e, h1, h2⟩ => ⟨g, e, h1, (hb.block g (blk_lt h2)).trans h2⟩
theorem IsOneX.rd {B : Nat} {cs : List Value} {g : Nat} {w : World} (hc : cs.length = 7) (h : w.heap[g]? = some (.cells cs.toArray 42 (0, 0))) {Q : Nat → Prop} (hQ : Q g) : Rd w Q (some ⟨g, 0, none⟩) 1 7 cs := ⟨by omega, fun _ => ⟨_, rfl, hQ, (box_at (cs := cs) h).2⟩⟩
end Go.Proofs.YtebdajkknkapcaaGreat
