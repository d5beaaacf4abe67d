/- A region that draws its order, walked by an invariant: one goal for each operation. -/
import Derived.Test.YtgdibeegheddmaaF3Open
namespace Go.Proofs.Ytgdibeegheddmaa
open Go Go.RowKit
/-! A REGION THAT DRAWS ITS ORDER, BY AN INVARIANT: one goal for each operation, whatever the order. -/
/-- Operation i has been carried out. -/
def Done (listed : Array Bool) (i : Nat) : Prop := listed.getD i false = true
structure Inv (md : Region.Mode) (ops : Array Oper) (V : Nat → Value → World → Prop) (S : World → Prop) (a0 : Act) (listed : Array Bool) (a : Act) (w : World) : Prop where
  lsize : listed.size = ops.size
  world : S w
  defers : a.defers = a0.defers
  size : a.tmps.size = a0.tmps.size
  closed : ∀ i o, ops[i]? = some o → Done listed i → ∀ e ∈ o.after, Region.binds md e = true → Done listed e.on
  got : ∀ i o d, ops[i]? = some o → o.dst = some d → Done listed i → ∃ v, a.tmps[d]? = some v ∧ V i v w
  old : ∀ j, (∀ i o, ops[i]? = some o → o.dst = some j → ¬ Done listed i) → a.tmps[j]? = a0.tmps[j]?

theorem Done.set {listed : Array Bool} {i j : Nat} (h : Done listed j) : Done (listed.setIfInBounds i true) j := by
  unfold Done at *
  by_cases hij : i = j
  · subst hij
    by_cases hs : i < listed.size
    · simp [Array.getD_eq_getD_getElem?, hs]
    · simp [Array.getD_eq_getD_getElem?, hs] at h
  · simpa [Array.getD_eq_getD_getElem?, Array.getElem?_setIfInBounds, hij] using h
theorem Done.new {listed : Array Bool} {i : Nat} (h : i < listed.size) : Done (listed.setIfInBounds i true) i := by
  simp [Done, Array.getD_eq_getD_getElem?, h]
theorem Done.inv {listed : Array Bool} {i j : Nat} (h : Done (listed.setIfInBounds i true) j) : j = i ∨ Done listed j := by
  by_cases hij : i = j
  · exact .inl hij.symm
  · refine .inr ?_
    unfold Done at *
    simpa [Array.getD_eq_getD_getElem?, Array.getElem?_setIfInBounds, hij] using h
theorem getD_tf {listed : Array Bool} {i : Nat} (h : i < listed.size) : listed.getD i true = listed.getD i false := by
  simp [Array.getD_eq_getD_getElem?, h]

/-- Where nothing is ready all is done (each operation waits for earlier ones alone). -/
theorem all_done {md : Region.Mode} {ops : Array Oper} {listed : Array Bool} (hl : listed.size = ops.size)
    (hord : ∀ (i : Nat) (o : Oper), ops[i]? = some o → ∀ e ∈ o.after, e.on < i) (h : Region.ready md ops listed = []) : ∀ n i, i < n → i < ops.size → Done listed i
  | 0, i, hi, _ => absurd hi (by omega)
  | n + 1, i, hi, hs => by
    have ih := all_done hl hord h n
    have hmem : i ∉ Region.ready md ops listed := by rw [h]; simp
    rw [mem_ready] at hmem
    have hd : Done listed i ∨ listed.getD i true = false := by
      rw [getD_tf (by omega)]
      unfold Done
      cases listed.getD i false <;> simp
    rcases hd with hd | hd
    · exact hd
    · refine absurd ⟨hd, ops[i], Array.getElem?_eq_getElem hs, fun e he _ => ?_⟩ hmem
      have := hord i ops[i] (Array.getElem?_eq_getElem hs) e he
      exact ih e.on (by omega) (by omega)

/-- How many are still to do. -/
def left (n : Nat) (listed : Array Bool) : Nat := ((List.range n).filter fun i => !listed.getD i true).length
theorem left_set {n i : Nat} {listed : Array Bool} (hs : listed.size = n) (hi : i < n) (hf : listed.getD i true = false) : left n (listed.setIfInBounds i true) + 1 ≤ left n listed := by
  unfold left
  have key : ∀ (l : List Nat), l.Nodup → i ∈ l → ((l.filter fun j => !(listed.setIfInBounds i true).getD j true).length + 1 ≤ (l.filter fun j => !listed.getD j true).length) := by
    intro l
    induction l with
    | nil => intro _ h; cases h
    | cons x l ih =>
      intro hn hm
      rw [List.nodup_cons] at hn
      by_cases hx : x = i
      · subst hx
        have e1 : (listed.setIfInBounds x true).getD x true = true := by simp [Array.getD_eq_getD_getElem?, hs, hi]
        have e2 : ∀ (m : List Nat), x ∉ m → m.filter (fun j => !(listed.setIfInBounds x true).getD j true) = m.filter (fun j => !listed.getD j true) := by
          intro m hm2
          refine List.filter_congr fun j hj => ?_
          have hne : x ≠ j := fun e => hm2 (e ▸ hj)
          simp [Array.getD_eq_getD_getElem?, hne]
        rw [List.filter_cons_of_neg (by simp [e1]), List.filter_cons_of_pos (by simp [hf]), e2 l hn.1]
        simp
      · have hm2 : i ∈ l := by
          rcases List.mem_cons.1 hm with h | h
          · exact absurd h.symm hx
          · exact h
        have ih2 := ih hn.2 hm2
        have hne : i ≠ x := fun e => hx e.symm
        have e1 : (listed.setIfInBounds i true).getD x true = listed.getD x true := by
          simp [Array.getD_eq_getD_getElem?, hne]
        by_cases hb : listed.getD x true = true
        · rw [List.filter_cons_of_neg (by rw [e1]; simp [hb]), List.filter_cons_of_neg (by simp [hb])]
          exact ih2
        · have hb2 : listed.getD x true = false := by simpa using hb
          rw [List.filter_cons_of_pos (by rw [e1]; simp [hb2]), List.filter_cons_of_pos (by simp [hb2])]
          simp only [List.length_cons]
          omega
  exact key _ List.nodup_range (List.mem_range.2 hi)

theorem wpAny_inv {P : Program} {md : Region.Mode} {ops : Array Oper} {Q : Exit → Act → World → Prop} {V : Nat → Value → World → Prop} {S : World → Prop} {a0 : Act}
    (hord : ∀ (i : Nat) (o : Oper), ops[i]? = some o → ∀ e ∈ o.after, e.on < i)
    (hdst : ∀ (i j : Nat) (oi oj : Oper) (d : Nat), ops[i]? = some oi → ops[j]? = some oj → oi.dst = some d → oj.dst = some d → i = j)
    (hlt : ∀ (i : Nat) (o : Oper) (d : Nat), ops[i]? = some o → o.dst = some d → d < a0.tmps.size)
    (hstep : ∀ i o, ops[i]? = some o → ∀ listed a w, Inv md ops V S a0 listed a w → (∀ e ∈ o.after, Region.binds md e = true → Done listed e.on) → ¬ Done listed i →
      ∀ K : Act → World → Prop, (∀ v w', S w' → V i v w' → (∀ j u, V j u w → V j u w') → K (a.put o.dst v) w') → if Region.wanted o (yielded ops a.tmps) = true then o.wp P a w K Q else K (a.put o.dst undef) w)
    (hend : ∀ listed a w, Inv md ops V S a0 listed a w → (∀ i, i < ops.size → Done listed i) → Q .normal a w) :
    ∀ fuel listed a w, Inv md ops V S a0 listed a w → left ops.size listed ≤ fuel → wpAny P md ops Q fuel listed a w
  | 0, listed, a, w, hI, hf => by
    have hr : Region.ready md ops listed = [] := by
      rw [List.eq_nil_iff_forall_not_mem]
      intro i hi
      obtain ⟨h1, o, h2, _⟩ := mem_ready.1 hi
      have := left_set hI.lsize (Array.getElem?_eq_some_iff.1 h2).1 h1
      omega
    exact ⟨hr, hend listed a w hI (fun i hi => all_done hI.lsize hord hr (i + 1) i (by omega) hi)⟩
  | fuel + 1, listed, a, w, hI, hf => by
    refine ⟨fun hr => hend listed a w hI (fun i hi => all_done hI.lsize hord hr (i + 1) i (by omega) hi), fun i hi => ?_⟩
    obtain ⟨h1, o, h2, h3⟩ := mem_ready.1 hi
    have hsz : i < ops.size := (Array.getElem?_eq_some_iff.1 h2).1
    have hnd : ¬ Done listed i := by
      unfold Done
      rw [← getD_tf (by rw [hI.lsize]; exact hsz), h1]
      simp
    refine wpOp_step h2 (fun K hK => hstep i o h2 listed a w hI h3 hnd K (fun v w' hS hv hst => hK _ _ ?_))
    refine wpAny_inv hord hdst hlt hstep hend fuel _ _ _ ?_ ?_
    · refine ⟨by simpa using hI.lsize, hS, ?_, ?_, ?_, ?_, ?_⟩
      · cases o.dst <;> exact hI.defers
      · cases ho : o.dst <;> simp [Act.put, hI.size]
      · intro j oj hj hd e he hb
        rcases hd.inv with rfl | hd
        · rw [h2] at hj
          cases hj
          exact Done.set (h3 e he hb)
        · exact Done.set (hI.closed j oj hj hd e he hb)
      · intro j oj d hj hjd hd
        by_cases hji : j = i
        · subst hji
          rw [h2] at hj
          cases hj
          refine ⟨v, ?_, hv⟩
          have := hlt j o d h2 hjd
          simp [Act.put, hjd, hI.size, this]
        · rcases hd.inv with h | hd
          · exact absurd h hji
          · obtain ⟨u, hu, hV⟩ := hI.got j oj d hj hjd hd
            refine ⟨u, ?_, hst j u hV⟩
            cases ho : o.dst with
            | none => simpa [Act.put, ho] using hu
            | some d' =>
              have hne : d' ≠ d := fun e => hji (hdst j i oj o d hj h2 hjd (by rw [ho, e]))
              simpa [Act.put, Array.getElem?_setIfInBounds, hne] using hu
      · intro j hj
        have h4 := hI.old j (fun k ok hk hkd hd => hj k ok hk hkd hd.set)
        cases ho : o.dst with
        | none => simpa [Act.put] using h4
        | some d' =>
          have hne : d' ≠ j := fun e => hj i o h2 (by rw [ho, e]) (Done.new (by rw [hI.lsize]; exact hsz))
          simpa [Act.put, Array.getElem?_setIfInBounds, hne] using h4
    · have := left_set hI.lsize hsz h1
      omega

/-- The checks of a region, by the kernel. -/
def ordB (ops : Array Oper) : Bool := (List.range ops.size).all fun i => match ops[i]? with
  | some o => o.after.toList.all fun e => decide (e.on < i)
  | none => true
def dstB (ops : Array Oper) (n : Nat) : Bool := (List.range ops.size).all fun i => match ops[i]? with
  | some o => (match o.dst with
    | some d => decide (d < n) && (List.range ops.size).all fun j => i == j || (match ops[j]? with
      | some oj => oj.dst != some d
      | none => true)
    | none => true)
  | none => true
theorem ordB_spec {ops : Array Oper} (h : ordB ops = true) (i : Nat) (o : Oper) (ho : ops[i]? = some o) : ∀ e ∈ o.after, e.on < i := by
  intro e he
  simp only [ordB, List.all_eq_true, List.mem_range] at h
  have := h i (Array.getElem?_eq_some_iff.1 ho).1
  rw [ho] at this
  simp only [List.all_eq_true, decide_eq_true_eq] at this
  exact this e (by simpa using he)
theorem dstB_spec {ops : Array Oper} {n : Nat} (h : dstB ops n = true) (i : Nat) (o : Oper) (d : Nat) (ho : ops[i]? = some o) (hd : o.dst = some d) :
    d < n ∧ ∀ (j : Nat) (oj : Oper), ops[j]? = some oj → oj.dst = some d → i = j := by
  simp only [dstB, List.all_eq_true, List.mem_range] at h
  have := h i (Array.getElem?_eq_some_iff.1 ho).1
  rw [ho] at this
  simp only [hd, Bool.and_eq_true, decide_eq_true_eq, List.all_eq_true, List.mem_range, Bool.or_eq_true, beq_iff_eq] at this
  refine ⟨this.1, fun j oj hj hjd => ?_⟩
  rcases this.2 j (Array.getElem?_eq_some_iff.1 hj).1 with h | h
  · exact h
  · rw [hj] at h
    simp [hjd] at h

/-- P holds of each operation. -/
def AllOps (P : Nat → Oper → Prop) : Nat → List Oper → Prop
  | _, [] => True
  | k, o :: l => P k o ∧ AllOps P (k + 1) l
theorem AllOps.get {P : Nat → Oper → Prop} : ∀ {k : Nat} {l : List Oper} {i : Nat} {o : Oper}, AllOps P k l → l[i]? = some o → P (k + i) o
  | _, [], _, _, _, h => by simp at h
  | k, x :: l, 0, o, h, ho => by
    simp at ho
    subst ho
    exact h.1
  | k, x :: l, i + 1, o, h, ho => by
    have := AllOps.get (k := k + 1) (i := i) h.2 (by simpa using ho)
    rwa [show k + (i + 1) = k + 1 + i from by omega]

/-- One operation's goal. -/
def OpStep (P : Program) (md : Region.Mode) (ops : Array Oper) (Q : Exit → Act → World → Prop) (V : Nat → Value → World → Prop) (S : World → Prop) (a0 : Act) (i : Nat) (o : Oper) : Prop :=
  ∀ listed a w, Inv md ops V S a0 listed a w → (∀ e ∈ o.after, Region.binds md e = true → Done listed e.on) → ¬ Done listed i →
      ∀ K : Act → World → Prop, Shut (∀ v w', S w' → V i v w' → (∀ j u, V j u w → V j u w') → K (a.put o.dst v) w') → if Region.wanted o (yielded ops a.tmps) = true then o.wp P a w K Q else K (a.put o.dst undef) w

theorem wp_region_inv {P : Program} {ops : Array Oper} {Q : Exit → Act → World → Prop} (V : Nat → Value → World → Prop) (S : World → Prop) {id : Nat} {a : Act} {w : World}
    (hm : P.follows .mixedOrders = true) (ho : ordB ops = true) (hd : dstB ops a.tmps.size = true) (hS : S w.drew)
    (hstep : AllOps (OpStep P .any ops Q V S a) 0 ops.toList)
    (hend : ∀ listed a' w', Inv .any ops V S a listed a' w' → (∀ i, i < ops.size → Done listed i) → Q .normal a' w') : (Code.region id ops true).wp P Q a w := by
  refine wp_region_any hm (wpAny_inv (V := V) (S := S) (a0 := a) (ordB_spec ho) (fun i j oi oj d hi hj hid hjd => (dstB_spec hd i oi d hi hid).2 j oj hj hjd) (fun i o d hi hid => (dstB_spec hd i o d hi hid).1)
    (fun i o hi listed a' w' hI hdn hnd K hK => ?_) hend _ _ _ _ ?_ ?_)
  · have := AllOps.get hstep (i := i) (o := o) (by simpa using hi)
    rw [Nat.zero_add] at this
    exact this listed a' w' hI hdn hnd K hK
  · have hno : ∀ i, ¬ Done (Array.replicate ops.size false) i := fun i h => by
      unfold Done at h
      by_cases hi : i < ops.size <;> simp [Array.getD_eq_getD_getElem?, hi] at h
    exact ⟨by simp, hS, rfl, rfl, fun i _ _ h => absurd h (hno i), fun i _ _ _ _ h => absurd h (hno i), fun _ _ => rfl⟩
  · unfold left
    exact Nat.le_trans (List.length_filter_le _ _) (by simp)

section
variable {md : Region.Mode} {ops : Array Oper} {V : Nat → Value → World → Prop} {S : World → Prop} {a0 : Act} {listed : Array Bool} {a : Act} {w : World}
/-- A slot that no operation writes, or whose writer waits for the operation i, which is not done: as it was. -/
theorem Inv.keep (hI : Inv md ops V S a0 listed a w) {i : Nat} (hnd : ¬ Done listed i) (j : Nat) (v : Value) (h0 : a0.tmps[j]? = some v)
    (h : (ops.toList.all fun o => o.dst != some j || o.after.toList.any fun e => Region.binds md e && e.on == i) = true) : a.eval (.tmp j) = v := by
  have := hI.old j (fun m o hm hmd hdn => hnd ?_)
  · simp [Act.eval, Array.getD_eq_getD_getElem?, this, h0]
  · simp only [List.all_eq_true] at h
    have h1 := h o (by simpa using Array.mem_of_getElem? hm)
    rw [hmd] at h1
    simp only [bne_self_eq_false, Bool.false_or, List.any_eq_true, Bool.and_eq_true, beq_iff_eq] at h1
    obtain ⟨e, he, hb, rfl⟩ := h1
    exact hI.closed m o hm hdn e (by simpa using he) hb
/-- What an earlier operation has left. -/
theorem Inv.val (hI : Inv md ops V S a0 listed a w) {o : Oper} (hd : ∀ e ∈ o.after, Region.binds md e = true → Done listed e.on) (j : Nat) {oj : Oper} {d : Nat} (hj : ops[j]? = some oj) (hjd : oj.dst = some d)
    (h : (o.after.toList.any fun e => Region.binds md e && e.on == j) = true) : ∃ v, a.eval (.tmp d) = v ∧ V j v w := by
  simp only [List.any_eq_true, Bool.and_eq_true, beq_iff_eq] at h
  obtain ⟨e, he, hb, rfl⟩ := h
  obtain ⟨v, hv, hV⟩ := hI.got e.on oj d hj hjd (hd e (by simpa using he) hb)
  exact ⟨v, by simp [Act.eval, Array.getD_eq_getD_getElem?, hv], hV⟩
def setAll (t : Array Value) (l : List (Nat × Value)) : Array Value := l.foldl (fun t p => t.setIfInBounds p.1 p.2) t
theorem setAll_get (u : Array Value) (j : Nat) : ∀ (l : List (Nat × Value)) (t : Array Value), t.size = u.size → (∀ p ∈ l, u[p.1]? = some p.2) → (j ∉ l.map (·.1) → t[j]? = u[j]?) → (setAll t l)[j]? = u[j]?
  | [], t, _, _, h => h (by simp)
  | p :: l, t, hs, hl, h => by
    refine setAll_get u j l _ (by simpa using hs) (fun q hq => hl q (List.mem_cons_of_mem _ hq)) (fun hn => ?_)
    have hp := hl p List.mem_cons_self
    have hlt : p.1 < t.size := by rw [hs]; exact (Array.getElem?_eq_some_iff.1 hp).1
    by_cases hj : p.1 = j
    · subst hj
      rw [hp]
      simp [hlt]
    · rw [Array.getElem?_setIfInBounds]
      simp only [hj, if_false]
      exact h (by simp [hn]; exact fun e => hj e.symm)
theorem Inv.tmps (hI : Inv md ops V S a0 listed a w) (l : List (Nat × Value)) (hl : ∀ p ∈ l, a.tmps[p.1]? = some p.2)
    (hc : (ops.toList.all fun o => match o.dst with | some d => (l.map (·.1)).contains d | none => true) = true) : a = ⟨setAll a0.tmps l, a0.defers⟩ := by
  obtain ⟨t, df⟩ := a
  have hd : df = a0.defers := hI.defers
  subst hd
  congr 1
  refine Array.ext_getElem? fun j => (setAll_get t j l a0.tmps hI.size.symm hl fun hn => ?_).symm
  refine (hI.old j fun i o hi hid _ => hn ?_).symm
  simp only [List.all_eq_true] at hc
  have := hc o (by simpa using Array.mem_of_getElem? hi)
  rw [hid] at this
  simpa using this
end
end Go.Proofs.Ytgdibeegheddmaa
