/- A region walked by an invariant up to its last operations. -/
import Derived.Test.YtgdibeegheddmaaH4RefRate
namespace Go.Proofs.Ytgdibeegheddmaa
open Go Go.RowKit
set_option linter.unusedVariables false
set_option linter.unusedSimpArgs false
theorem Inv.step {md : Region.Mode} {ops : Array Oper} {V : Nat → Value → World → Prop} {S : World → Prop} {a0 : Act} {listed : Array Bool} {a : Act} {w w' : World} {i : Nat} {o : Oper} {v : Value} (hI : Inv md ops V S a0 listed a w)
    (hdst : ∀ (i j : Nat) (oi oj : Oper) (d : Nat), ops[i]? = some oi → ops[j]? = some oj → oi.dst = some d → oj.dst = some d → i = j)
    (hlt : ∀ (i : Nat) (o : Oper) (d : Nat), ops[i]? = some o → o.dst = some d → d < a0.tmps.size)
    (h2 : ops[i]? = some o) (h3 : ∀ e ∈ o.after, Region.binds md e = true → Done listed e.on) (hS : S w') (hv : V i v w') (hst : ∀ j u, V j u w → V j u w') :
    Inv md ops V S a0 (listed.setIfInBounds i true) (a.put o.dst v) w' := by
  have hsz : i < ops.size := (Array.getElem?_eq_some_iff.1 h2).1
  refine ⟨by simpa using hI.lsize, hS, ?_, ?_, ?_, ?_, ?_⟩
  · cases o.dst <;> exact hI.defers
  · cases ho : o.dst <;> simp [Act.put, hI.size]
  · intro j oj hj hd e he hb
    rcases hd.inv with rfl | hd
    · rw [h2] at hj
      cases hj
      exact Done.set (h3 e he hb)
    · exact Done.set (hI.closed j oj hj hd e he hb)
  · intro j oj d hj hjd hd
    by_cases hji : j = i
    · subst hji
      rw [h2] at hj
      cases hj
      refine ⟨v, ?_, hv⟩
      have := hlt j o d h2 hjd
      simp [Act.put, hjd, hI.size, this]
    · rcases hd.inv with h | hd
      · exact absurd h hji
      · obtain ⟨u, hu, hV⟩ := hI.got j oj d hj hjd hd
        refine ⟨u, ?_, hst j u hV⟩
        cases ho : o.dst with
        | none => simpa [Act.put, ho] using hu
        | some d' =>
          have hne : d' ≠ d := fun e => hji (hdst j i oj o d hj h2 hjd (by rw [ho, e]))
          simpa [Act.put, Array.getElem?_setIfInBounds, hne] using hu
  · intro j hj
    have h4 := hI.old j (fun k ok hk hkd hd => hj k ok hk hkd hd.set)
    cases ho : o.dst with
    | none => simpa [Act.put] using h4
    | some d' =>
      have hne : d' ≠ j := fun e => hj i o h2 (by rw [ho, e]) (Done.new (by rw [hI.lsize]; exact hsz))
      simpa [Act.put, Array.getElem?_setIfInBounds, hne] using h4

/-- The first m operations are done, no other is. -/
def headDone (m n : Nat) : Array Bool := ((List.range n).map fun i => decide (i < m)).toArray
theorem headDone_get (m n i : Nat) (hi : i < n) : (headDone m n)[i]? = some (decide (i < m)) := by simp [headDone, hi]
theorem eq_headDone {m n : Nat} {listed : Array Bool} (hs : listed.size = n) (h1 : ∀ i, i < m → i < n → Done listed i) (h2 : ∀ i, m ≤ i → i < n → ¬ Done listed i) : listed = headDone m n := by
  refine Array.ext_getElem? fun i => ?_
  by_cases hi : i < n
  · rw [headDone_get m n i hi, Array.getElem?_eq_getElem (by omega)]
    by_cases him : i < m
    · have := h1 i him hi
      simp [Done, Array.getD_eq_getD_getElem?, hs, hi] at this
      simp [this, him]
    · have := h2 i (by omega) hi
      simp [Done, Array.getD_eq_getD_getElem?, hs, hi] at this
      simp [this, him]
  · rw [Array.getElem?_eq_none (by omega), Array.getElem?_eq_none (by simp [headDone]; omega)]
/-- Where the operation i waits, through others, for all of the first m. -/
def waitsB (md : Region.Mode) (ops : Array Oper) (m : Nat) : Bool :=
  (List.range m).all fun i => ((List.range ops.size).drop (i + 1)).any fun j => decide (j ≤ m) && match ops[j]? with
    | some o => o.after.toList.any fun e => Region.binds md e && e.on == i
    | none => false
/-- Each operation behind m waits for m. -/
def behindB (md : Region.Mode) (ops : Array Oper) (m : Nat) : Bool :=
  ((List.range ops.size).drop (m + 1)).all fun j => match ops[j]? with
    | some o => o.after.toList.any fun e => Region.binds md e && decide (m ≤ e.on) && decide (e.on < j)
    | none => true
/-- What is not done among the first m is waited for by something not done that is at most m: so nothing from m on is ready till all of them are done. -/
theorem waits_spec {md : Region.Mode} {ops : Array Oper} {V : Nat → Value → World → Prop} {S : World → Prop} {a0 : Act} {listed : Array Bool} {a : Act} {w : World} {m : Nat} (hI : Inv md ops V S a0 listed a w)
    (h : waitsB md ops m = true) {o : Oper} (ho : ops[m]? = some o) (hd : ∀ e ∈ o.after, Region.binds md e = true → Done listed e.on) : ∀ k i, i < m → m - i ≤ k → Done listed i
  | 0, i, hi, hk => absurd hk (by omega)
  | k + 1, i, hi, hk => by
    simp only [waitsB, List.all_eq_true, List.mem_range] at h
    have h1 := h i hi
    simp only [List.any_eq_true, Bool.and_eq_true, decide_eq_true_eq] at h1
    obtain ⟨j, hj, hjm, h2⟩ := h1
    have hij : i < j := by
      rw [List.mem_drop_iff_getElem] at hj
      obtain ⟨q, hq, hq2⟩ := hj
      simp at hq2
      omega
    cases hoj : ops[j]? with
    | none => rw [hoj] at h2; simp at h2
    | some oj =>
      rw [hoj] at h2
      simp only [List.any_eq_true, Bool.and_eq_true, beq_iff_eq] at h2
      obtain ⟨e, he, hb, rfl⟩ := h2
      by_cases hjm2 : j = m
      · subst hjm2
        rw [ho] at hoj
        cases hoj
        exact hd e (by simpa using he) hb
      · have := waits_spec hI (by simpa only [waitsB, List.all_eq_true, List.mem_range] using h) ho hd k j (by omega) (by omega)
        exact hI.closed j oj hoj this e (by simpa using he) hb
theorem left_head (m : Nat) : ∀ n k, k ≤ n → k - m ≤ ((List.range k).filter fun i => !(headDone m n).getD i true).length
  | n, 0, _ => by simp
  | n, k + 1, hk => by
    have ih := left_head m n k (by omega)
    have e := headDone_get m n k (by omega)
    rw [List.range_succ, List.filter_append, List.length_append]
    by_cases h : k < m
    · omega
    · have : ([k].filter fun i => !(headDone m n).getD i true).length = 1 := by simp [Array.getD_eq_getD_getElem?, e, h]
      omega
theorem wpAny_inv2 {P : Program} {md : Region.Mode} {ops : Array Oper} {Q : Exit → Act → World → Prop} {V : Nat → Value → World → Prop} {S : World → Prop} {a0 : Act} {m : Nat}
    (hord : ∀ (i : Nat) (o : Oper), ops[i]? = some o → ∀ e ∈ o.after, e.on < i)
    (hdst : ∀ (i j : Nat) (oi oj : Oper) (d : Nat), ops[i]? = some oi → ops[j]? = some oj → oi.dst = some d → oj.dst = some d → i = j)
    (hlt : ∀ (i : Nat) (o : Oper) (d : Nat), ops[i]? = some o → o.dst = some d → d < a0.tmps.size)
    (hmn : m < ops.size) (hwait : waitsB md ops m = true) (hbeh : behindB md ops m = true)
    (hstep : ∀ i o, i < m → ops[i]? = some o → ∀ listed a w, Inv md ops V S a0 listed a w → (∀ e ∈ o.after, Region.binds md e = true → Done listed e.on) → ¬ Done listed i →
      ∀ K : Act → World → Prop, (∀ v w', S w' → V i v w' → (∀ j u, V j u w → V j u w') → K (a.put o.dst v) w') → if Region.wanted o (yielded ops a.tmps) = true then o.wp P a w K Q else K (a.put o.dst undef) w)
    (hmid : ∀ f a w, Inv md ops V S a0 (headDone m ops.size) a w → wpAny P md ops Q (f + (ops.size - m)) (headDone m ops.size) a w) :
    ∀ fuel listed a w, Inv md ops V S a0 listed a w → (∀ i, m ≤ i → i < ops.size → ¬ Done listed i) → left ops.size listed ≤ fuel → wpAny P md ops Q fuel listed a w := by
  intro fuel
  induction fuel with
  | zero =>
    intro listed a w hI hno hf
    have hr : Region.ready md ops listed = [] := by
      rw [List.eq_nil_iff_forall_not_mem]
      intro i hi
      obtain ⟨h1, o, h2, _⟩ := mem_ready.1 hi
      have := left_set hI.lsize (Array.getElem?_eq_some_iff.1 h2).1 h1
      omega
    exact absurd (all_done hI.lsize hord hr (m + 1) m (by omega) hmn) (hno m (by omega) hmn)
  | succ fuel ih =>
    intro listed a w hI hno hf
    by_cases hall : ∀ i, i < m → Done listed i
    · have hl := eq_headDone hI.lsize (fun i hi _ => hall i hi) hno
      subst hl
      have h1 := left_head m ops.size ops.size (Nat.le_refl _)
      unfold left at hf
      have h2 := hmid (fuel + 1 - (ops.size - m)) a w hI
      rwa [show fuel + 1 - (ops.size - m) + (ops.size - m) = fuel + 1 from by omega] at h2
    · refine ⟨fun hr => absurd (all_done hI.lsize hord hr (m + 1) m (by omega) hmn) (hno m (by omega) hmn), fun i hi => ?_⟩
      obtain ⟨h1, o, h2, h3⟩ := mem_ready.1 hi
      have hsz : i < ops.size := (Array.getElem?_eq_some_iff.1 h2).1
      have him : i < m := by
        refine Nat.lt_of_not_le fun hle => ?_
        by_cases he : i = m
        · subst he
          exact hall fun j hj => waits_spec hI hwait h2 h3 (i - j) j hj (Nat.le_refl _)
        · simp only [behindB, List.all_eq_true] at hbeh
          have h4 := hbeh i (by rw [List.mem_drop_iff_getElem]; exact ⟨i - (m + 1), by simp; omega, by simp; omega⟩)
          rw [h2] at h4
          simp only [List.any_eq_true, Bool.and_eq_true, decide_eq_true_eq] at h4
          obtain ⟨e, hem, ⟨hb, hme⟩, hei⟩ := h4
          exact hno e.on hme (by omega) (h3 e (by simpa using hem) hb)
      have hnd : ¬ Done listed i := by
        unfold Done
        rw [← getD_tf (by rw [hI.lsize]; exact hsz), h1]
        simp
      refine wpOp_step h2 (fun K hK => hstep i o him h2 listed a w hI h3 hnd K (fun v w' hS hv hst => hK _ _ ?_))
      refine ih _ _ _ (hI.step hdst hlt h2 h3 hS hv hst) (fun j hj hjs hdj => ?_) ?_
      · rcases hdj.inv with rfl | hdj
        · omega
        · exact hno j hj hjs hdj
      · have := left_set hI.lsize hsz h1
        omega
theorem wp_region_inv2 {P : Program} {ops : Array Oper} {Q : Exit → Act → World → Prop} (m : Nat) (V : Nat → Value → World → Prop) (S : World → Prop) {id : Nat} {a : Act} {w : World}
    (hm : P.follows .mixedOrders = true) (ho : ordB ops = true) (hd : dstB ops a.tmps.size = true) (hmn : m < ops.size) (hwait : waitsB .any ops m = true) (hbeh : behindB .any ops m = true) (hS : S w.drew)
    (hstep : AllOps (OpStep P .any ops Q V S a) 0 (ops.toList.take m))
    (hmid : ∀ f a' w', Inv .any ops V S a (headDone m ops.size) a' w' → wpAny P .any ops Q (f + (ops.size - m)) (headDone m ops.size) a' w') : (Code.region id ops true).wp P Q a w := by
  have hno : ∀ i, ¬ Done (Array.replicate ops.size false) i := fun i h => by
    unfold Done at h
    by_cases hi : i < ops.size <;> simp [Array.getD_eq_getD_getElem?, hi] at h
  refine wp_region_any hm (wpAny_inv2 (V := V) (S := S) (a0 := a) (m := m) (ordB_spec ho) (fun i j oi oj d hi hj hid hjd => (dstB_spec hd i oi d hi hid).2 j oj hj hjd) (fun i o d hi hid => (dstB_spec hd i o d hi hid).1) hmn hwait hbeh
    (fun i o him hi listed a' w' hI hdn hnd K hK => ?_) hmid _ _ _ _ ?_ (fun i _ _ => hno i) ?_)
  · have := AllOps.get hstep (i := i) (o := o) (by rw [List.getElem?_take_of_lt him]; simpa using hi)
    rw [Nat.zero_add] at this
    exact this listed a' w' hI hdn hnd K hK
  · exact ⟨by simp, hS, rfl, rfl, fun i _ _ h => absurd h (hno i), fun i _ _ _ _ h => absurd h (hno i), fun _ _ => rfl⟩
  · unfold left
    exact Nat.le_trans (List.length_filter_le _ _) (by simp)
end Go.Proofs.Ytgdibeegheddmaa
