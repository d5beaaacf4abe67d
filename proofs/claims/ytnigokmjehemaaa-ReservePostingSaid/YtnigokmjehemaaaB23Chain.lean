/- Regions that draw: the operations behind the head, one by one. Written by gen_b23.py. -/
import Derived.Test.YtnigokmjehemaaaB16ValidRef
namespace Go.Proofs.Ytnigokmjehemaaa
open Go Go.RowKit
set_option linter.unusedVariables false
set_option linter.unusedSimpArgs false
/-- From operation m on, one operation alone is ready at a time. -/
def chainB (md : Region.Mode) (ops : Array Oper) (m : Nat) : Bool := (List.range (ops.size - m)).all (fun j => Region.ready md ops (headDone (m + j) ops.size) == [m + j]) && Region.ready md ops (headDone ops.size ops.size) == []
theorem headDone_set (m n : Nat) (h : m < n) : (headDone m n).setIfInBounds m true = headDone (m + 1) n := by
  apply Array.ext
  · simp [headDone]
  · intro i h1 h2
    simp only [headDone, List.size_toArray, List.length_map, List.length_range, Array.size_setIfInBounds] at h1 h2
    rw [Array.getElem_setIfInBounds (by simpa [headDone] using h1)]
    simp only [headDone, List.getElem_toArray, List.getElem_map, List.getElem_range]
    by_cases hi : m = i
    · subst hi; simp
    · rw [if_neg hi]
      have : (i < m) ↔ (i < m + 1) := by omega
      simp [this]
theorem wpAny_chain_aux {P : Program} {md : Region.Mode} {ops : Array Oper} {Q : Exit → Act → World → Prop} (f : Nat) : ∀ (d m : Nat) (a : Act) (w : World), m + d = ops.size → (∀ i, m ≤ i → i < ops.size → Region.ready md ops (headDone i ops.size) = [i]) → Region.ready md ops (headDone ops.size ops.size) = [] →
    wpList P ops Q (ops.toList.drop m) a w → wpAny P md ops Q (f + d) (headDone m ops.size) a w
  | 0, m, a, w, hm, hr, h0, h => by
    have hm' : m = ops.size := by omega
    subst hm'
    rw [List.drop_eq_nil_of_le (by simp)] at h
    exact wpAny_done h0 h _
  | d + 1, m, a, w, hm, hr, h0, h => by
    have hlt : m < ops.size := by omega
    refine wpAny_all (rs := [m]) (hr m (Nat.le_refl _) hlt) (by simp) (fun i hi => ?_)
    obtain rfl : i = m := by simpa using hi
    rw [headDone_set i ops.size hlt]
    have ho : ops[i]? = some ops[i] := Array.getElem?_eq_getElem hlt
    have hd : ops.toList.drop i = ops[i] :: ops.toList.drop (i + 1) := by
      rw [List.drop_eq_getElem_cons (by simpa using hlt)]; simp
    rw [hd] at h
    unfold wpOp
    rw [ho]
    simp only [wpList] at h
    have ih := fun a w => wpAny_chain_aux (P := P) (md := md) (ops := ops) (Q := Q) f d (i + 1) a w (by omega) (fun j hj => hr j (by omega)) h0
    show if Region.wanted ops[i] (yielded ops a.tmps) = true then _ else _
    split
    · rename_i hw
      rw [if_pos hw] at h
      rcases h with h | h
      · exact .inl (Oper.wp_mono ih h)
      · exact .inr h
    · rename_i hw
      rw [if_neg hw] at h
      exact ih _ _ h
theorem wpAny_chain {P : Program} {md : Region.Mode} {ops : Array Oper} {Q : Exit → Act → World → Prop} {f m : Nat} {a : Act} {w : World} (hc : chainB md ops m = true) (hm : m < ops.size) (h : wpList P ops Q (ops.toList.drop m) a w) : wpAny P md ops Q (f + (ops.size - m)) (headDone m ops.size) a w := by
  unfold chainB at hc
  simp only [Bool.and_eq_true, List.all_eq_true, beq_iff_eq, List.mem_range] at hc
  exact wpAny_chain_aux f _ m a w (by omega) (fun i h1 h2 => by have := hc.1 (i - m) (by omega); rwa [show m + (i - m) = i from by omega] at this) hc.2 h
theorem wp_region_inv3 {P : Program} {ops : Array Oper} {Q : Exit → Act → World → Prop} (m : Nat) (V : Nat → Value → World → Prop) (S : World → Prop) {id : Nat} {a : Act} {w : World}
    (hm : P.follows .mixedOrders = true) (ho : ordB' .any ops = true) (hd : dstB ops a.tmps.size = true) (hmn : m < ops.size) (hwait : waitsB .any ops m = true) (hbeh : behindB .any ops m = true) (hch : chainB .any ops m = true) (hS : S w.drew)
    (hstep : AllOps (OpStep P .any ops Q V S a) 0 (ops.toList.take m))
    (hmid : ∀ a' w', Inv .any ops V S a (headDone m ops.size) a' w' → wpList P ops Q (ops.toList.drop m) a' w') : (Code.region id ops true).wp P Q a w :=
  wp_region_inv2' m V S hm ho hd hmn hwait hbeh hS hstep (fun f a' w' hI => wpAny_chain hch hmn (hmid a' w' hI))
/-- Where the operation m waits, through others that are not late, for all of the first m that are not late. -/
def waitsL (md : Region.Mode) (late : Nat → Bool) (ops : Array Oper) (m : Nat) : Bool :=
  (List.range m).all fun i => late i || ((List.range ops.size).drop (i + 1)).any fun j => decide (j ≤ m) && !(decide (j < m) && late j) && match ops[j]? with
    | some o => o.after.toList.any fun e => Region.binds md e && e.on == i
    | none => false
theorem waitsL_spec {md : Region.Mode} {late : Nat → Bool} {ops : Array Oper} {V : Nat → Value → World → Prop} {S : World → Prop} {a0 : Act} {listed : Array Bool} {a : Act} {w : World} {m : Nat} (hI : Inv md ops V S a0 listed a w)
    (h : waitsL md late ops m = true) {o : Oper} (ho : ops[m]? = some o) (hd : ∀ e ∈ o.after, Region.binds md e = true → Done listed e.on) : ∀ k i, i < m → late i = false → m - i ≤ k → Done listed i
  | 0, i, hi, _, hk => absurd hk (by omega)
  | k + 1, i, hi, hl, hk => by
    simp only [waitsL, List.all_eq_true, List.mem_range] at h
    have h1 := h i hi
    rw [hl, Bool.false_or] at h1
    simp only [List.any_eq_true, Bool.and_eq_true, decide_eq_true_eq] at h1
    obtain ⟨j, hj, ⟨hjm, hlate⟩, h2⟩ := h1
    have hij : i < j := by
      rw [List.mem_drop_iff_getElem] at hj
      obtain ⟨q, hq, hq2⟩ := hj
      simp at hq2
      omega
    cases hoj : ops[j]? with
    | none => rw [hoj] at h2; simp at h2
    | some oj =>
      rw [hoj] at h2
      simp only [List.any_eq_true, Bool.and_eq_true, beq_iff_eq] at h2
      obtain ⟨e, he, hb, rfl⟩ := h2
      by_cases hjm2 : j = m
      · subst hjm2
        rw [ho] at hoj
        cases hoj
        exact hd e (by simpa using he) hb
      · have hlj : late j = false := by
          have : decide (j < m) = true := decide_eq_true (by omega)
          simpa [this] using hlate
        have := waitsL_spec hI (by simpa only [waitsL, List.all_eq_true, List.mem_range] using h) ho hd k j (by omega) hlj (by omega)
        exact hI.closed j oj hoj this e (by simpa using he) hb
/-- As wpAny_inv2', where what is not late is done already. -/
theorem wpAny_inv5 {P : Program} {md : Region.Mode} {ops : Array Oper} {Q : Exit → Act → World → Prop} {V : Nat → Value → World → Prop} {S : World → Prop} {a0 : Act} {m : Nat} (late : Nat → Bool)
    (hord : ∀ (i : Nat) (o : Oper), ops[i]? = some o → ∀ e ∈ o.after, Region.binds md e = true → e.on < i)
    (hdst : ∀ (i j : Nat) (oi oj : Oper) (d : Nat), ops[i]? = some oi → ops[j]? = some oj → oi.dst = some d → oj.dst = some d → i = j)
    (hlt : ∀ (i : Nat) (o : Oper) (d : Nat), ops[i]? = some o → o.dst = some d → d < a0.tmps.size)
    (hmn : m < ops.size) (hwait : waitsB md ops m = true) (hbeh : behindB md ops m = true)
    (hstep : ∀ i o, i < m → late i = true → ops[i]? = some o → ∀ listed a w, Inv md ops V S a0 listed a w → (∀ e ∈ o.after, Region.binds md e = true → Done listed e.on) → ¬ Done listed i →
      ∀ K : Act → World → Prop, (∀ v w', S w' → V i v w' → (∀ j u, V j u w → V j u w') → K (a.put o.dst v) w') → if Region.wanted o (yielded ops a.tmps) = true then o.wp P a w K Q else K (a.put o.dst undef) w)
    (hmid : ∀ f a w, Inv md ops V S a0 (headDone m ops.size) a w → wpAny P md ops Q (f + (ops.size - m)) (headDone m ops.size) a w) :
    ∀ fuel listed a w, Inv md ops V S a0 listed a w → (∀ i, m ≤ i → i < ops.size → ¬ Done listed i) → (∀ i, i < m → late i = false → Done listed i) → left ops.size listed ≤ fuel → wpAny P md ops Q fuel listed a w := by
  intro fuel
  induction fuel with
  | zero =>
    intro listed a w hI hno hE hf
    have hr : Region.ready md ops listed = [] := by
      rw [List.eq_nil_iff_forall_not_mem]
      intro i hi
      obtain ⟨h1, o, h2, _⟩ := mem_ready.1 hi
      have := left_set hI.lsize (Array.getElem?_eq_some_iff.1 h2).1 h1
      omega
    exact absurd (all_done' hI.lsize hord hr (m + 1) m (by omega) hmn) (hno m (by omega) hmn)
  | succ fuel ih =>
    intro listed a w hI hno hE hf
    by_cases hall : ∀ i, i < m → Done listed i
    · have hl := eq_headDone hI.lsize (fun i hi _ => hall i hi) hno
      subst hl
      have h1 := left_head m ops.size ops.size (Nat.le_refl _)
      unfold left at hf
      have h2 := hmid (fuel + 1 - (ops.size - m)) a w hI
      rwa [show fuel + 1 - (ops.size - m) + (ops.size - m) = fuel + 1 from by omega] at h2
    · refine ⟨fun hr => absurd (all_done' hI.lsize hord hr (m + 1) m (by omega) hmn) (hno m (by omega) hmn), fun i hi => ?_⟩
      obtain ⟨h1, o, h2, h3⟩ := mem_ready.1 hi
      have hsz : i < ops.size := (Array.getElem?_eq_some_iff.1 h2).1
      have him : i < m := by
        refine Nat.lt_of_not_le fun hle => ?_
        by_cases he : i = m
        · subst he
          exact hall fun j hj => waits_spec hI hwait h2 h3 (i - j) j hj (Nat.le_refl _)
        · simp only [behindB, List.all_eq_true] at hbeh
          have h4 := hbeh i (by rw [List.mem_drop_iff_getElem]; exact ⟨i - (m + 1), by simp; omega, by simp; omega⟩)
          rw [h2] at h4
          simp only [List.any_eq_true, Bool.and_eq_true, decide_eq_true_eq] at h4
          obtain ⟨e, hem, ⟨hb, hme⟩, hei⟩ := h4
          exact hno e.on hme (by omega) (h3 e (by simpa using hem) hb)
      have hnd : ¬ Done listed i := by
        unfold Done
        rw [← getD_tf (by rw [hI.lsize]; exact hsz), h1]
        simp
      have hli : late i = true := by
        cases h : late i with
        | true => rfl
        | false => exact absurd (hE i him h) hnd
      refine wpOp_step h2 (fun K hK => hstep i o him hli h2 listed a w hI h3 hnd K (fun v w' hS hv hst => hK _ _ ?_))
      refine ih _ _ _ (hI.step hdst hlt h2 h3 hS hv hst) (fun j hj hjs hdj => ?_) (fun j hj hl => (hE j hj hl).set) ?_
      · rcases hdj.inv with rfl | hdj
        · omega
        · exact hno j hj hjs hdj
      · have := left_set hI.lsize hsz h1
        omega
/-- A store, the operation m, that waits for all ahead of it but the late ones. -/
theorem wpAny_inv6 {P : Program} {md : Region.Mode} {ops : Array Oper} {Q : Exit → Act → World → Prop} {V V2 : Nat → Value → World → Prop} {S S2 : World → Prop} {a0 : Act} {m : Nat} (late : Nat → Bool) (om : Oper) (hom : ops[m]? = some om) (hod : om.dst = none)
    (hord : ∀ (i : Nat) (o : Oper), ops[i]? = some o → ∀ e ∈ o.after, Region.binds md e = true → e.on < i)
    (hdst : ∀ (i j : Nat) (oi oj : Oper) (d : Nat), ops[i]? = some oi → ops[j]? = some oj → oi.dst = some d → oj.dst = some d → i = j)
    (hlt : ∀ (i : Nat) (o : Oper) (d : Nat), ops[i]? = some o → o.dst = some d → d < a0.tmps.size)
    (hmn : m + 1 < ops.size) (hwaitL : waitsL md late ops m = true) (hbeh : behindB md ops m = true) (hwait : waitsB md ops (m + 1) = true) (hbeh2 : behindB md ops (m + 1) = true) (hlm : late m = false)
    (hstep : ∀ i o, i < m → ops[i]? = some o → ∀ listed a w, Inv md ops V S a0 listed a w → (∀ e ∈ o.after, Region.binds md e = true → Done listed e.on) → ¬ Done listed i →
      ∀ K : Act → World → Prop, (∀ v w', S w' → V i v w' → (∀ j u, V j u w → V j u w') → K (a.put o.dst v) w') → if Region.wanted o (yielded ops a.tmps) = true then o.wp P a w K Q else K (a.put o.dst undef) w)
    (hstore : ∀ listed a w, Inv md ops V S a0 listed a w → (∀ i, i < m → late i = false → Done listed i) →
      ∀ K : Act → World → Prop, (∀ w', S2 w' → (∀ i o d u, i < m → ops[i]? = some o → o.dst = some d → a.tmps[d]? = some u → V i u w → V2 i u w') → K (a.put om.dst undef) w') → if Region.wanted om (yielded ops a.tmps) = true then om.wp P a w K Q else K (a.put om.dst undef) w)
    (hstepL : ∀ i o, i < m + 1 → late i = true → ops[i]? = some o → ∀ listed a w, Inv md ops V2 S2 a0 listed a w → (∀ e ∈ o.after, Region.binds md e = true → Done listed e.on) → ¬ Done listed i →
      ∀ K : Act → World → Prop, (∀ v w', S2 w' → V2 i v w' → (∀ j u, V2 j u w → V2 j u w') → K (a.put o.dst v) w') → if Region.wanted o (yielded ops a.tmps) = true then o.wp P a w K Q else K (a.put o.dst undef) w)
    (hmid : ∀ f a w, Inv md ops V2 S2 a0 (headDone (m + 1) ops.size) a w → wpAny P md ops Q (f + (ops.size - (m + 1))) (headDone (m + 1) ops.size) a w) :
    ∀ fuel listed a w, Inv md ops V S a0 listed a w → (∀ i, m ≤ i → i < ops.size → ¬ Done listed i) → left ops.size listed ≤ fuel → wpAny P md ops Q fuel listed a w := by
  have hm1 : m < ops.size := by omega
  intro fuel
  induction fuel with
  | zero =>
    intro listed a w hI hno hf
    have hr : Region.ready md ops listed = [] := by
      rw [List.eq_nil_iff_forall_not_mem]
      intro i hi
      obtain ⟨h1, o, h2, _⟩ := mem_ready.1 hi
      have := left_set hI.lsize (Array.getElem?_eq_some_iff.1 h2).1 h1
      omega
    exact absurd (all_done' hI.lsize hord hr (m + 1) m (by omega) hm1) (hno m (by omega) hm1)
  | succ fuel ih =>
    intro listed a w hI hno hf
    refine ⟨fun hr => absurd (all_done' hI.lsize hord hr (m + 1) m (by omega) hm1) (hno m (by omega) hm1), fun i hi => ?_⟩
    obtain ⟨h1, o, h2, h3⟩ := mem_ready.1 hi
    have hsz : i < ops.size := (Array.getElem?_eq_some_iff.1 h2).1
    have him : i ≤ m := by
      refine Nat.le_of_not_lt fun hgt => ?_
      simp only [behindB, List.all_eq_true] at hbeh
      have h4 := hbeh i (by rw [List.mem_drop_iff_getElem]; exact ⟨i - (m + 1), by simp; omega, by simp; omega⟩)
      rw [h2] at h4
      simp only [List.any_eq_true, Bool.and_eq_true, decide_eq_true_eq] at h4
      obtain ⟨e, hem, ⟨hb, hme⟩, hei⟩ := h4
      exact hno e.on hme (by omega) (h3 e (by simpa using hem) hb)
    have hnd : ¬ Done listed i := by
      unfold Done
      rw [← getD_tf (by rw [hI.lsize]; exact hsz), h1]
      simp
    have hleft := left_set hI.lsize hsz h1
    by_cases he : i = m
    · subst he
      rw [hom] at h2
      cases h2
      have hE : ∀ j, j < i → late j = false → Done listed j := fun j hj hl => waitsL_spec hI hwaitL hom h3 (i - j) j hj hl (Nat.le_refl _)
      refine wpOp_step hom (fun K hK => hstore listed a w hI hE K (fun w' hS2 hV => hK _ _ ?_))
      refine wpAny_inv5 (V := V2) (S := S2) (a0 := a0) (m := i + 1) late hord hdst hlt hmn hwait hbeh2 hstepL hmid fuel _ _ _ ?_ (fun j hj hjs hdj => ?_) (fun j hj hl => ?_) (by omega)
      · refine ⟨by simp [hI.lsize], hS2, ?_, ?_, ?_, ?_, ?_⟩
        · rw [hod]; exact hI.defers
        · rw [hod]; exact hI.size
        · intro j oj hoj hdj e hem hb
          rcases hdj.inv with rfl | hdj
          · rw [hom] at hoj; cases hoj
            exact Done.set (h3 e hem hb)
          · exact (hI.closed j oj hoj hdj e hem hb).set
        · intro j oj d hoj hjd hdj
          rcases hdj.inv with rfl | hdj
          · rw [hom] at hoj; cases hoj
            rw [hod] at hjd; cases hjd
          · obtain ⟨v, hv, hV1⟩ := hI.got j oj d hoj hjd hdj
            have hjm : j < i := Nat.lt_of_not_le fun hle => hno j hle (Array.getElem?_eq_some_iff.1 hoj).1 hdj
            exact ⟨v, by rw [hod]; exact hv, hV j oj d v hjm hoj hjd hv hV1⟩
        · intro j hj
          rw [hod]
          exact hI.old j (fun q oq hoq hqd hdq => hj q oq hoq hqd hdq.set)
      · rcases hdj.inv with rfl | hdj
        · omega
        · exact hno j (by omega) hjs hdj
      · by_cases hji : j = i
        · subst hji
          exact Done.new (by rw [hI.lsize]; exact hsz)
        · exact (hE j (by omega) hl).set
    · refine wpOp_step h2 (fun K hK => hstep i o (by omega) h2 listed a w hI h3 hnd K (fun v w' hS hv hst => hK _ _ ?_))
      refine ih _ _ _ (hI.step hdst hlt h2 h3 hS hv hst) (fun j hj hjs hdj => ?_) (by omega)
      rcases hdj.inv with rfl | hdj
      · omega
      · exact hno j hj hjs hdj
/-- The step of the operation i, if it is late. -/
def LateStep (P : Program) (md : Region.Mode) (ops : Array Oper) (Q : Exit → Act → World → Prop) (V : Nat → Value → World → Prop) (S : World → Prop) (a0 : Act) (late : Nat → Bool) (i : Nat) (o : Oper) : Prop := late i = true → OpStep P md ops Q V S a0 i o
theorem wp_region_inv6 {P : Program} {ops : Array Oper} {Q : Exit → Act → World → Prop} (m : Nat) (late : Nat → Bool) (V : Nat → Value → World → Prop) (S : World → Prop) (V2 : Nat → Value → World → Prop) (S2 : World → Prop) {id : Nat} {a : Act} {w : World}
    (hm : P.follows .mixedOrders = true) (ho : ordB' .any ops = true) (hd : dstB ops a.tmps.size = true) (hmn : m + 1 < ops.size) (hwaitL : waitsL .any late ops m = true) (hbeh : behindB .any ops m = true) (hwait : waitsB .any ops (m + 1) = true) (hbeh2 : behindB .any ops (m + 1) = true) (hlm : late m = false) (hch : chainB .any ops (m + 1) = true)
    (om : Oper) (hom : ops[m]? = some om) (hod : om.dst = none) (hS : S w.drew)
    (hstep : AllOps (OpStep P .any ops Q V S a) 0 (ops.toList.take m))
    (hstore : ∀ listed A0 w2, Inv .any ops V S a listed A0 w2 → (∀ i, i < m → late i = false → Done listed i) →
      ∀ K : Act → World → Prop, (∀ w', S2 w' → (∀ i o d u, i < m → ops[i]? = some o → o.dst = some d → A0.tmps[d]? = some u → V i u w2 → V2 i u w') → K (A0.put om.dst undef) w') → if Region.wanted om (yielded ops A0.tmps) = true then om.wp P A0 w2 K Q else K (A0.put om.dst undef) w2)
    (hstepL : AllOps (LateStep P .any ops Q V2 S2 a late) 0 (ops.toList.take (m + 1)))
    (hmid : ∀ a' w', Inv .any ops V2 S2 a (headDone (m + 1) ops.size) a' w' → wpList P ops Q (ops.toList.drop (m + 1)) a' w') : (Code.region id ops true).wp P Q a w := by
  have hno : ∀ i, ¬ Done (Array.replicate ops.size false) i := fun i h => by
    unfold Done at h
    by_cases hi : i < ops.size <;> simp [Array.getD_eq_getD_getElem?, hi] at h
  refine wp_region_any hm (wpAny_inv6 (V := V) (S := S) (V2 := V2) (S2 := S2) (a0 := a) (m := m) late om hom hod (ordB_spec' ho) (fun i j oi oj d hi hj hid hjd => (dstB_spec hd i oi d hi hid).2 j oj hj hjd) (fun i o d hi hid => (dstB_spec hd i o d hi hid).1) hmn hwaitL hbeh hwait hbeh2 hlm
    (fun i o him hi listed a' w' hI hdn hnd K hK => ?_) hstore (fun i o him hl hi listed a' w' hI hdn hnd K hK => ?_) (fun f a' w' hI => wpAny_chain hch hmn (hmid a' w' hI)) _ _ _ _ ?_ (fun i _ _ => hno i) ?_)
  · have := AllOps.get hstep (i := i) (o := o) (by rw [List.getElem?_take_of_lt him]; simpa using hi)
    rw [Nat.zero_add] at this
    exact this listed a' w' hI hdn hnd K hK
  · have := AllOps.get hstepL (i := i) (o := o) (by rw [List.getElem?_take_of_lt him]; simpa using hi)
    rw [Nat.zero_add] at this
    exact this hl listed a' w' hI hdn hnd K hK
  · exact ⟨by simp, hS, rfl, rfl, fun i _ _ h => absurd h (hno i), fun i _ _ _ _ h => absurd h (hno i), fun _ _ => rfl⟩
  · unfold left
    exact Nat.le_trans (List.length_filter_le _ _) (by simp)
def isValB : Option Kind → Bool
  | some (.val _) => true
  | some _ => false
  | none => true
theorem Ks.store {W w w' : World} {ks : List Kind} {p i : Nat} {kn : Kind} {u : Value} (hv : ((List.range ks.length).all fun j => j == p || isValB ks[j]?) = true) (h : Ks W ks i u w) (hp : i = p → kn.holds W u w') : Ks W (ks.set p kn) i u w' := by
  intro k hk
  by_cases hip : i = p
  · subst hip
    rw [List.getElem?_set_self'] at hk
    cases hk2 : ks[i]? with
    | none => rw [hk2] at hk; cases hk
    | some k0 =>
      rw [hk2] at hk
      have hk3 : kn = k := Option.some.inj hk
      subst hk3
      exact hp rfl
  · rw [List.getElem?_set_ne (fun e => hip e.symm)] at hk
    have hlen : i < ks.length := (List.getElem?_eq_some_iff.1 hk).1
    rw [List.all_eq_true] at hv
    have h2 := hv i (List.mem_range.2 hlen)
    rw [hk] at h2
    have h3 := h k hk
    cases k with
    | val x => exact h3
    | own P hP => simp [isValB, hip] at h2
/-- A new variable: its block holds what it held when it was made. -/
def IsNew (W : World) (arr : Array Value) (t : TypeId) (v : Value) (w : World) : Prop := ∃ g, v = .pointer (some ⟨g, 0, none⟩) ∧ W.heap.size ≤ g ∧ w.heap[g]? = some (.cells arr t (0, 0))
theorem IsNew.keep (W : World) (arr : Array Value) (t : TypeId) : ∀ v w w', Below w.heap.size w w' → IsNew W arr t v w → IsNew W arr t v w' := by
  rintro v w w' hb ⟨g, rfl, h1, h2⟩
  exact ⟨g, rfl, h1, (hb.block _ (blk_lt h2)).trans h2⟩
theorem IsNew.made {W w : World} (h : W.heap.size ≤ w.heap.size) (arr : Array Value) (t : TypeId) : IsNew W arr t (.pointer (some ⟨w.heap.size, 0, none⟩)) (w.alloc (.cells arr t)) := ⟨_, rfl, h, heap_alloc_new _ _⟩
end Go.Proofs.Ytnigokmjehemaaa
