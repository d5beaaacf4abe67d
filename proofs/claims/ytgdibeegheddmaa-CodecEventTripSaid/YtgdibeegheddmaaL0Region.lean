/- The invariant rule for regions whose edges may also lead forward, where these do not bind. -/
import Derived.Test.YtgdibeegheddmaaJ1EventsWalk
namespace Go.Proofs.Ytgdibeegheddmaa
open Go Go.RowKit
set_option linter.unusedVariables false
set_option linter.unusedSimpArgs false
/-- Where nothing is ready all is done (each operation waits for earlier ones alone). -/
theorem all_done' {md : Region.Mode} {ops : Array Oper} {listed : Array Bool} (hl : listed.size = ops.size)
    (hord : ∀ (i : Nat) (o : Oper), ops[i]? = some o → ∀ e ∈ o.after, Region.binds md e = true → e.on < i) (h : Region.ready md ops listed = []) : ∀ n i, i < n → i < ops.size → Done listed i
  | 0, i, hi, _ => absurd hi (by omega)
  | n + 1, i, hi, hs => by
    have ih := all_done' hl hord h n
    have hmem : i ∉ Region.ready md ops listed := by rw [h]; simp
    rw [mem_ready] at hmem
    have hd : Done listed i ∨ listed.getD i true = false := by
      rw [getD_tf (by omega)]
      unfold Done
      cases listed.getD i false <;> simp
    rcases hd with hd | hd
    · exact hd
    · refine absurd ⟨hd, ops[i], Array.getElem?_eq_getElem hs, fun e he hb => ?_⟩ hmem
      have := hord i ops[i] (Array.getElem?_eq_getElem hs) e he hb
      exact ih e.on (by omega) (by omega)

theorem wpAny_inv' {P : Program} {md : Region.Mode} {ops : Array Oper} {Q : Exit → Act → World → Prop} {V : Nat → Value → World → Prop} {S : World → Prop} {a0 : Act}
    (hord : ∀ (i : Nat) (o : Oper), ops[i]? = some o → ∀ e ∈ o.after, Region.binds md e = true → e.on < i)
    (hdst : ∀ (i j : Nat) (oi oj : Oper) (d : Nat), ops[i]? = some oi → ops[j]? = some oj → oi.dst = some d → oj.dst = some d → i = j)
    (hlt : ∀ (i : Nat) (o : Oper) (d : Nat), ops[i]? = some o → o.dst = some d → d < a0.tmps.size)
    (hstep : ∀ i o, ops[i]? = some o → ∀ listed a w, Inv md ops V S a0 listed a w → (∀ e ∈ o.after, Region.binds md e = true → Done listed e.on) → ¬ Done listed i →
      ∀ K : Act → World → Prop, (∀ v w', S w' → V i v w' → (∀ j u, V j u w → V j u w') → K (a.put o.dst v) w') → if Region.wanted o (yielded ops a.tmps) = true then o.wp P a w K Q else K (a.put o.dst undef) w)
    (hend : ∀ listed a w, Inv md ops V S a0 listed a w → (∀ i, i < ops.size → Done listed i) → Q .normal a w) :
    ∀ fuel listed a w, Inv md ops V S a0 listed a w → left ops.size listed ≤ fuel → wpAny P md ops Q fuel listed a w
  | 0, listed, a, w, hI, hf => by
    have hr : Region.ready md ops listed = [] := by
      rw [List.eq_nil_iff_forall_not_mem]
      intro i hi
      obtain ⟨h1, o, h2, _⟩ := mem_ready.1 hi
      have := left_set hI.lsize (Array.getElem?_eq_some_iff.1 h2).1 h1
      omega
    exact ⟨hr, hend listed a w hI (fun i hi => all_done' hI.lsize hord hr (i + 1) i (by omega) hi)⟩
  | fuel + 1, listed, a, w, hI, hf => by
    refine ⟨fun hr => hend listed a w hI (fun i hi => all_done' hI.lsize hord hr (i + 1) i (by omega) hi), fun i hi => ?_⟩
    obtain ⟨h1, o, h2, h3⟩ := mem_ready.1 hi
    have hsz : i < ops.size := (Array.getElem?_eq_some_iff.1 h2).1
    have hnd : ¬ Done listed i := by
      unfold Done
      rw [← getD_tf (by rw [hI.lsize]; exact hsz), h1]
      simp
    refine wpOp_step h2 (fun K hK => hstep i o h2 listed a w hI h3 hnd K (fun v w' hS hv hst => hK _ _ ?_))
    refine wpAny_inv' hord hdst hlt hstep hend fuel _ _ _ ?_ ?_
    · refine ⟨by simpa using hI.lsize, hS, ?_, ?_, ?_, ?_, ?_⟩
      · cases o.dst <;> exact hI.defers
      · cases ho : o.dst <;> simp [Act.put, hI.size]
      · intro j oj hj hd e he hb
        rcases hd.inv with rfl | hd
        · rw [h2] at hj
          cases hj
          exact Done.set (h3 e he hb)
        · exact Done.set (hI.closed j oj hj hd e he hb)
      · intro j oj d hj hjd hd
        by_cases hji : j = i
        · subst hji
          rw [h2] at hj
          cases hj
          refine ⟨v, ?_, hv⟩
          have := hlt j o d h2 hjd
          simp [Act.put, hjd, hI.size, this]
        · rcases hd.inv with h | hd
          · exact absurd h hji
          · obtain ⟨u, hu, hV⟩ := hI.got j oj d hj hjd hd
            refine ⟨u, ?_, hst j u hV⟩
            cases ho : o.dst with
            | none => simpa [Act.put, ho] using hu
            | some d' =>
              have hne : d' ≠ d := fun e => hji (hdst j i oj o d hj h2 hjd (by rw [ho, e]))
              simpa [Act.put, Array.getElem?_setIfInBounds, hne] using hu
      · intro j hj
        have h4 := hI.old j (fun k ok hk hkd hd => hj k ok hk hkd hd.set)
        cases ho : o.dst with
        | none => simpa [Act.put] using h4
        | some d' =>
          have hne : d' ≠ j := fun e => hj i o h2 (by rw [ho, e]) (Done.new (by rw [hI.lsize]; exact hsz))
          simpa [Act.put, Array.getElem?_setIfInBounds, hne] using h4
    · have := left_set hI.lsize hsz h1
      omega

def ordB' (md : Region.Mode) (ops : Array Oper) : Bool := (List.range ops.size).all fun i => match ops[i]? with
  | some o => o.after.toList.all fun e => !Region.binds md e || decide (e.on < i)
  | none => true
theorem ordB_spec' {md : Region.Mode} {ops : Array Oper} (h : ordB' md ops = true) (i : Nat) (o : Oper) (ho : ops[i]? = some o) : ∀ e ∈ o.after, Region.binds md e = true → e.on < i := by
  intro e he hb
  simp only [ordB', List.all_eq_true, List.mem_range] at h
  have := h i (Array.getElem?_eq_some_iff.1 ho).1
  rw [ho] at this
  simp only [List.all_eq_true] at this
  have h2 := this e (by simpa using he)
  simpa [hb] using h2
theorem wp_region_inv' {P : Program} {ops : Array Oper} {Q : Exit → Act → World → Prop} (V : Nat → Value → World → Prop) (S : World → Prop) {id : Nat} {a : Act} {w : World}
    (hm : P.follows .mixedOrders = true) (ho : ordB' .any ops = true) (hd : dstB ops a.tmps.size = true) (hS : S w.drew)
    (hstep : AllOps (OpStep P .any ops Q V S a) 0 ops.toList)
    (hend : ∀ listed a' w', Inv .any ops V S a listed a' w' → (∀ i, i < ops.size → Done listed i) → Q .normal a' w') : (Code.region id ops true).wp P Q a w := by
  refine wp_region_any hm (wpAny_inv' (V := V) (S := S) (a0 := a) (ordB_spec' ho) (fun i j oi oj d hi hj hid hjd => (dstB_spec hd i oi d hi hid).2 j oj hj hjd) (fun i o d hi hid => (dstB_spec hd i o d hi hid).1)
    (fun i o hi listed a' w' hI hdn hnd K hK => ?_) hend _ _ _ _ ?_ ?_)
  · have := AllOps.get hstep (i := i) (o := o) (by simpa using hi)
    rw [Nat.zero_add] at this
    exact this listed a' w' hI hdn hnd K hK
  · have hno : ∀ i, ¬ Done (Array.replicate ops.size false) i := fun i h => by
      unfold Done at h
      by_cases hi : i < ops.size <;> simp [Array.getD_eq_getD_getElem?, hi] at h
    exact ⟨by simp, hS, rfl, rfl, fun i _ _ h => absurd h (hno i), fun i _ _ _ _ h => absurd h (hno i), fun _ _ => rfl⟩
  · unfold left
    exact Nat.le_trans (List.length_filter_le _ _) (by simp)

theorem wpAny_inv2' {P : Program} {md : Region.Mode} {ops : Array Oper} {Q : Exit → Act → World → Prop} {V : Nat → Value → World → Prop} {S : World → Prop} {a0 : Act} {m : Nat}
    (hord : ∀ (i : Nat) (o : Oper), ops[i]? = some o → ∀ e ∈ o.after, Region.binds md e = true → e.on < i)
    (hdst : ∀ (i j : Nat) (oi oj : Oper) (d : Nat), ops[i]? = some oi → ops[j]? = some oj → oi.dst = some d → oj.dst = some d → i = j)
    (hlt : ∀ (i : Nat) (o : Oper) (d : Nat), ops[i]? = some o → o.dst = some d → d < a0.tmps.size)
    (hmn : m < ops.size) (hwait : waitsB md ops m = true) (hbeh : behindB md ops m = true)
    (hstep : ∀ i o, i < m → ops[i]? = some o → ∀ listed a w, Inv md ops V S a0 listed a w → (∀ e ∈ o.after, Region.binds md e = true → Done listed e.on) → ¬ Done listed i →
      ∀ K : Act → World → Prop, (∀ v w', S w' → V i v w' → (∀ j u, V j u w → V j u w') → K (a.put o.dst v) w') → if Region.wanted o (yielded ops a.tmps) = true then o.wp P a w K Q else K (a.put o.dst undef) w)
    (hmid : ∀ f a w, Inv md ops V S a0 (headDone m ops.size) a w → wpAny P md ops Q (f + (ops.size - m)) (headDone m ops.size) a w) :
    ∀ fuel listed a w, Inv md ops V S a0 listed a w → (∀ i, m ≤ i → i < ops.size → ¬ Done listed i) → left ops.size listed ≤ fuel → wpAny P md ops Q fuel listed a w := by
  intro fuel
  induction fuel with
  | zero =>
    intro listed a w hI hno hf
    have hr : Region.ready md ops listed = [] := by
      rw [List.eq_nil_iff_forall_not_mem]
      intro i hi
      obtain ⟨h1, o, h2, _⟩ := mem_ready.1 hi
      have := left_set hI.lsize (Array.getElem?_eq_some_iff.1 h2).1 h1
      omega
    exact absurd (all_done' hI.lsize hord hr (m + 1) m (by omega) hmn) (hno m (by omega) hmn)
  | succ fuel ih =>
    intro listed a w hI hno hf
    by_cases hall : ∀ i, i < m → Done listed i
    · have hl := eq_headDone hI.lsize (fun i hi _ => hall i hi) hno
      subst hl
      have h1 := left_head m ops.size ops.size (Nat.le_refl _)
      unfold left at hf
      have h2 := hmid (fuel + 1 - (ops.size - m)) a w hI
      rwa [show fuel + 1 - (ops.size - m) + (ops.size - m) = fuel + 1 from by omega] at h2
    · refine ⟨fun hr => absurd (all_done' hI.lsize hord hr (m + 1) m (by omega) hmn) (hno m (by omega) hmn), fun i hi => ?_⟩
      obtain ⟨h1, o, h2, h3⟩ := mem_ready.1 hi
      have hsz : i < ops.size := (Array.getElem?_eq_some_iff.1 h2).1
      have him : i < m := by
        refine Nat.lt_of_not_le fun hle => ?_
        by_cases he : i = m
        · subst he
          exact hall fun j hj => waits_spec hI hwait h2 h3 (i - j) j hj (Nat.le_refl _)
        · simp only [behindB, List.all_eq_true] at hbeh
          have h4 := hbeh i (by rw [List.mem_drop_iff_getElem]; exact ⟨i - (m + 1), by simp; omega, by simp; omega⟩)
          rw [h2] at h4
          simp only [List.any_eq_true, Bool.and_eq_true, decide_eq_true_eq] at h4
          obtain ⟨e, hem, ⟨hb, hme⟩, hei⟩ := h4
          exact hno e.on hme (by omega) (h3 e (by simpa using hem) hb)
      have hnd : ¬ Done listed i := by
        unfold Done
        rw [← getD_tf (by rw [hI.lsize]; exact hsz), h1]
        simp
      refine wpOp_step h2 (fun K hK => hstep i o him h2 listed a w hI h3 hnd K (fun v w' hS hv hst => hK _ _ ?_))
      refine ih _ _ _ (hI.step hdst hlt h2 h3 hS hv hst) (fun j hj hjs hdj => ?_) ?_
      · rcases hdj.inv with rfl | hdj
        · omega
        · exact hno j hj hjs hdj
      · have := left_set hI.lsize hsz h1
        omega
theorem wp_region_inv2' {P : Program} {ops : Array Oper} {Q : Exit → Act → World → Prop} (m : Nat) (V : Nat → Value → World → Prop) (S : World → Prop) {id : Nat} {a : Act} {w : World}
    (hm : P.follows .mixedOrders = true) (ho : ordB' .any ops = true) (hd : dstB ops a.tmps.size = true) (hmn : m < ops.size) (hwait : waitsB .any ops m = true) (hbeh : behindB .any ops m = true) (hS : S w.drew)
    (hstep : AllOps (OpStep P .any ops Q V S a) 0 (ops.toList.take m))
    (hmid : ∀ f a' w', Inv .any ops V S a (headDone m ops.size) a' w' → wpAny P .any ops Q (f + (ops.size - m)) (headDone m ops.size) a' w') : (Code.region id ops true).wp P Q a w := by
  have hno : ∀ i, ¬ Done (Array.replicate ops.size false) i := fun i h => by
    unfold Done at h
    by_cases hi : i < ops.size <;> simp [Array.getD_eq_getD_getElem?, hi] at h
  refine wp_region_any hm (wpAny_inv2' (V := V) (S := S) (a0 := a) (m := m) (ordB_spec' ho) (fun i j oi oj d hi hj hid hjd => (dstB_spec hd i oi d hi hid).2 j oj hj hjd) (fun i o d hi hid => (dstB_spec hd i o d hi hid).1) hmn hwait hbeh
    (fun i o him hi listed a' w' hI hdn hnd K hK => ?_) hmid _ _ _ _ ?_ (fun i _ _ => hno i) ?_)
  · have := AllOps.get hstep (i := i) (o := o) (by rw [List.getElem?_take_of_lt him]; simpa using hi)
    rw [Nat.zero_add] at this
    exact this listed a' w' hI hdn hnd K hK
  · exact ⟨by simp, hS, rfl, rfl, fun i _ _ h => absurd h (hno i), fun i _ _ _ _ h => absurd h (hno i), fun _ _ => rfl⟩
  · unfold left
    exact Nat.le_trans (List.length_filter_le _ _) (by simp)
end Go.Proofs.Ytgdibeegheddmaa
