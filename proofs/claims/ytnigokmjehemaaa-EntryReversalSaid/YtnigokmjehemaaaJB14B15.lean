/- Regions that draw their order, by an invariant. Written by gen_b14.py. -/
import Derived.Test.YtnigokmjehemaaaJB1B6
import Derived.Test.YtnigokmjehemaaaJB7B13
import Derived.Deep.RegionHeld3
import Derived.Test.YtnigokmjehemaaaProg
namespace Go.Proofs.Ytnigokmjehemaaa
open Go Go.RowKit
set_option linter.unusedVariables false
set_option linter.unusedSimpArgs false
/-! A REGION THAT DRAWS ITS ORDER, BY AN INVARIANT: one goal for each operation, whatever the order. -/
/-- Operation i has been carried out. -/
def Done (listed : Array Bool) (i : Nat) : Prop := listed.getD i false = true
structure Inv (md : Region.Mode) (ops : Array Oper) (V : Nat → Value → World → Prop) (S : World → Prop) (a0 : Act) (listed : Array Bool) (a : Act) (w : World) : Prop where
  lsize : listed.size = ops.size
  world : S w
  defers : a.defers = a0.defers
  size : a.tmps.size = a0.tmps.size
  closed : ∀ i o, ops[i]? = some o → Done listed i → ∀ e ∈ o.after, Region.binds md e = true → Done listed e.on
  got : ∀ i o d, ops[i]? = some o → o.dst = some d → Done listed i → ∃ v, a.tmps[d]? = some v ∧ V i v w
  old : ∀ j, (∀ i o, ops[i]? = some o → o.dst = some j → ¬ Done listed i) → a.tmps[j]? = a0.tmps[j]?

theorem Done.set {listed : Array Bool} {i j : Nat} (h : Done listed j) : Done (listed.setIfInBounds i true) j := by
  unfold Done at *
  by_cases hij : i = j
  · subst hij
    by_cases hs : i < listed.size
    · simp [Array.getD_eq_getD_getElem?, hs]
    · simp [Array.getD_eq_getD_getElem?, hs] at h
  · simpa [Array.getD_eq_getD_getElem?, Array.getElem?_setIfInBounds, hij] using h
theorem Done.new {listed : Array Bool} {i : Nat} (h : i < listed.size) : Done (listed.setIfInBounds i true) i := by
  simp [Done, Array.getD_eq_getD_getElem?, h]
theorem Done.inv {listed : Array Bool} {i j : Nat} (h : Done (listed.setIfInBounds i true) j) : j = i ∨ Done listed j := by
  by_cases hij : i = j
  · exact .inl hij.symm
  · refine .inr ?_
    unfold Done at *
    simpa [Array.getD_eq_getD_getElem?, Array.getElem?_setIfInBounds, hij] using h
theorem getD_tf {listed : Array Bool} {i : Nat} (h : i < listed.size) : listed.getD i true = listed.getD i false := by
  simp [Array.getD_eq_getD_getElem?, h]

/-- Where nothing is ready all is done (each operation waits for earlier ones alone). -/
theorem all_done {md : Region.Mode} {ops : Array Oper} {listed : Array Bool} (hl : listed.size = ops.size)
    (hord : ∀ (i : Nat) (o : Oper), ops[i]? = some o → ∀ e ∈ o.after, e.on < i) (h : Region.ready md ops listed = []) : ∀ n i, i < n → i < ops.size → Done listed i
  | 0, i, hi, _ => absurd hi (by omega)
  | n + 1, i, hi, hs => by
    have ih := all_done hl hord h n
    have hmem : i ∉ Region.ready md ops listed := by rw [h]; simp
    rw [mem_ready] at hmem
    have hd : Done listed i ∨ listed.getD i true = false := by
      rw [getD_tf (by omega)]
      unfold Done
      cases listed.getD i false <;> simp
    rcases hd with hd | hd
    · exact hd
    · refine absurd ⟨hd, ops[i], Array.getElem?_eq_getElem hs, fun e he _ => ?_⟩ hmem
      have := hord i ops[i] (Array.getElem?_eq_getElem hs) e he
      exact ih e.on (by omega) (by omega)

/-- How many are still to do. -/
def left (n : Nat) (listed : Array Bool) : Nat := ((List.range n).filter fun i => !listed.getD i true).length
theorem left_set {n i : Nat} {listed : Array Bool} (hs : listed.size = n) (hi : i < n) (hf : listed.getD i true = false) : left n (listed.setIfInBounds i true) + 1 ≤ left n listed := by
  unfold left
  have key : ∀ (l : List Nat), l.Nodup → i ∈ l → ((l.filter fun j => !(listed.setIfInBounds i true).getD j true).length + 1 ≤ (l.filter fun j => !listed.getD j true).length) := by
    intro l
    induction l with
    | nil => intro _ h; cases h
    | cons x l ih =>
      intro hn hm
      rw [List.nodup_cons] at hn
      by_cases hx : x = i
      · subst hx
        have e1 : (listed.setIfInBounds x true).getD x true = true := by simp [Array.getD_eq_getD_getElem?, hs, hi]
        have e2 : ∀ (m : List Nat), x ∉ m → m.filter (fun j => !(listed.setIfInBounds x true).getD j true) = m.filter (fun j => !listed.getD j true) := by
          intro m hm2
          refine List.filter_congr fun j hj => ?_
          have hne : x ≠ j := fun e => hm2 (e ▸ hj)
          simp [Array.getD_eq_getD_getElem?, hne]
        rw [List.filter_cons_of_neg (by simp [e1]), List.filter_cons_of_pos (by simp [hf]), e2 l hn.1]
        simp
      · have hm2 : i ∈ l := by
          rcases List.mem_cons.1 hm with h | h
          · exact absurd h.symm hx
          · exact h
        have ih2 := ih hn.2 hm2
        have hne : i ≠ x := fun e => hx e.symm
        have e1 : (listed.setIfInBounds i true).getD x true = listed.getD x true := by
          simp [Array.getD_eq_getD_getElem?, hne]
        by_cases hb : listed.getD x true = true
        · rw [List.filter_cons_of_neg (by rw [e1]; simp [hb]), List.filter_cons_of_neg (by simp [hb])]
          exact ih2
        · have hb2 : listed.getD x true = false := by simpa using hb
          rw [List.filter_cons_of_pos (by rw [e1]; simp [hb2]), List.filter_cons_of_pos (by simp [hb2])]
          simp only [List.length_cons]
          omega
  exact key _ List.nodup_range (List.mem_range.2 hi)

theorem wpAny_inv {P : Program} {md : Region.Mode} {ops : Array Oper} {Q : Exit → Act → World → Prop} {V : Nat → Value → World → Prop} {S : World → Prop} {a0 : Act}
    (hord : ∀ (i : Nat) (o : Oper), ops[i]? = some o → ∀ e ∈ o.after, e.on < i)
    (hdst : ∀ (i j : Nat) (oi oj : Oper) (d : Nat), ops[i]? = some oi → ops[j]? = some oj → oi.dst = some d → oj.dst = some d → i = j)
    (hlt : ∀ (i : Nat) (o : Oper) (d : Nat), ops[i]? = some o → o.dst = some d → d < a0.tmps.size)
    (hstep : ∀ i o, ops[i]? = some o → ∀ listed a w, Inv md ops V S a0 listed a w → (∀ e ∈ o.after, Region.binds md e = true → Done listed e.on) → ¬ Done listed i →
      ∀ K : Act → World → Prop, (∀ v w', S w' → V i v w' → (∀ j u, V j u w → V j u w') → K (a.put o.dst v) w') → if Region.wanted o (yielded ops a.tmps) = true then o.wp P a w K Q else K (a.put o.dst undef) w)
    (hend : ∀ listed a w, Inv md ops V S a0 listed a w → (∀ i, i < ops.size → Done listed i) → Q .normal a w) :
    ∀ fuel listed a w, Inv md ops V S a0 listed a w → left ops.size listed ≤ fuel → wpAny P md ops Q fuel listed a w
  | 0, listed, a, w, hI, hf => by
    have hr : Region.ready md ops listed = [] := by
      rw [List.eq_nil_iff_forall_not_mem]
      intro i hi
      obtain ⟨h1, o, h2, _⟩ := mem_ready.1 hi
      have := left_set hI.lsize (Array.getElem?_eq_some_iff.1 h2).1 h1
      omega
    exact ⟨hr, hend listed a w hI (fun i hi => all_done hI.lsize hord hr (i + 1) i (by omega) hi)⟩
  | fuel + 1, listed, a, w, hI, hf => by
    refine ⟨fun hr => hend listed a w hI (fun i hi => all_done hI.lsize hord hr (i + 1) i (by omega) hi), fun i hi => ?_⟩
    obtain ⟨h1, o, h2, h3⟩ := mem_ready.1 hi
    have hsz : i < ops.size := (Array.getElem?_eq_some_iff.1 h2).1
    have hnd : ¬ Done listed i := by
      unfold Done
      rw [← getD_tf (by rw [hI.lsize]; exact hsz), h1]
      simp
    refine wpOp_step h2 (fun K hK => hstep i o h2 listed a w hI h3 hnd K (fun v w' hS hv hst => hK _ _ ?_))
    refine wpAny_inv hord hdst hlt hstep hend fuel _ _ _ ?_ ?_
    · refine ⟨by simpa using hI.lsize, hS, ?_, ?_, ?_, ?_, ?_⟩
      · cases o.dst <;> exact hI.defers
      · cases ho : o.dst <;> simp [Act.put, hI.size]
      · intro j oj hj hd e he hb
        rcases hd.inv with rfl | hd
        · rw [h2] at hj
          cases hj
          exact Done.set (h3 e he hb)
        · exact Done.set (hI.closed j oj hj hd e he hb)
      · intro j oj d hj hjd hd
        by_cases hji : j = i
        · subst hji
          rw [h2] at hj
          cases hj
          refine ⟨v, ?_, hv⟩
          have := hlt j o d h2 hjd
          simp [Act.put, hjd, hI.size, this]
        · rcases hd.inv with h | hd
          · exact absurd h hji
          · obtain ⟨u, hu, hV⟩ := hI.got j oj d hj hjd hd
            refine ⟨u, ?_, hst j u hV⟩
            cases ho : o.dst with
            | none => simpa [Act.put, ho] using hu
            | some d' =>
              have hne : d' ≠ d := fun e => hji (hdst j i oj o d hj h2 hjd (by rw [ho, e]))
              simpa [Act.put, Array.getElem?_setIfInBounds, hne] using hu
      · intro j hj
        have h4 := hI.old j (fun k ok hk hkd hd => hj k ok hk hkd hd.set)
        cases ho : o.dst with
        | none => simpa [Act.put] using h4
        | some d' =>
          have hne : d' ≠ j := fun e => hj i o h2 (by rw [ho, e]) (Done.new (by rw [hI.lsize]; exact hsz))
          simpa [Act.put, Array.getElem?_setIfInBounds, hne] using h4
    · have := left_set hI.lsize hsz h1
      omega

/-- The checks of a region, by the kernel. -/
def ordB (ops : Array Oper) : Bool := (List.range ops.size).all fun i => match ops[i]? with
  | some o => o.after.toList.all fun e => decide (e.on < i)
  | none => true
def dstB (ops : Array Oper) (n : Nat) : Bool := (List.range ops.size).all fun i => match ops[i]? with
  | some o => (match o.dst with
    | some d => decide (d < n) && (List.range ops.size).all fun j => i == j || (match ops[j]? with
      | some oj => oj.dst != some d
      | none => true)
    | none => true)
  | none => true
theorem ordB_spec {ops : Array Oper} (h : ordB ops = true) (i : Nat) (o : Oper) (ho : ops[i]? = some o) : ∀ e ∈ o.after, e.on < i := by
  intro e he
  simp only [ordB, List.all_eq_true, List.mem_range] at h
  have := h i (Array.getElem?_eq_some_iff.1 ho).1
  rw [ho] at this
  simp only [List.all_eq_true, decide_eq_true_eq] at this
  exact this e (by simpa using he)
theorem dstB_spec {ops : Array Oper} {n : Nat} (h : dstB ops n = true) (i : Nat) (o : Oper) (d : Nat) (ho : ops[i]? = some o) (hd : o.dst = some d) :
    d < n ∧ ∀ (j : Nat) (oj : Oper), ops[j]? = some oj → oj.dst = some d → i = j := by
  simp only [dstB, List.all_eq_true, List.mem_range] at h
  have := h i (Array.getElem?_eq_some_iff.1 ho).1
  rw [ho] at this
  simp only [hd, Bool.and_eq_true, decide_eq_true_eq, List.all_eq_true, List.mem_range, Bool.or_eq_true, beq_iff_eq] at this
  refine ⟨this.1, fun j oj hj hjd => ?_⟩
  rcases this.2 j (Array.getElem?_eq_some_iff.1 hj).1 with h | h
  · exact h
  · rw [hj] at h
    simp [hjd] at h

/-- P holds of each operation. -/
def AllOps (P : Nat → Oper → Prop) : Nat → List Oper → Prop
  | _, [] => True
  | k, o :: l => P k o ∧ AllOps P (k + 1) l
theorem AllOps.get {P : Nat → Oper → Prop} : ∀ {k : Nat} {l : List Oper} {i : Nat} {o : Oper}, AllOps P k l → l[i]? = some o → P (k + i) o
  | _, [], _, _, _, h => by simp at h
  | k, x :: l, 0, o, h, ho => by
    simp at ho
    subst ho
    exact h.1
  | k, x :: l, i + 1, o, h, ho => by
    have := AllOps.get (k := k + 1) (i := i) h.2 (by simpa using ho)
    rwa [show k + (i + 1) = k + 1 + i from by omega]

/-- One operation's goal. -/
def OpStep (P : Program) (md : Region.Mode) (ops : Array Oper) (Q : Exit → Act → World → Prop) (V : Nat → Value → World → Prop) (S : World → Prop) (a0 : Act) (i : Nat) (o : Oper) : Prop :=
  ∀ listed a w, Inv md ops V S a0 listed a w → (∀ e ∈ o.after, Region.binds md e = true → Done listed e.on) → ¬ Done listed i →
      ∀ K : Act → World → Prop, Shut (∀ v w', S w' → V i v w' → (∀ j u, V j u w → V j u w') → K (a.put o.dst v) w') → if Region.wanted o (yielded ops a.tmps) = true then o.wp P a w K Q else K (a.put o.dst undef) w

theorem wp_region_inv {P : Program} {ops : Array Oper} {Q : Exit → Act → World → Prop} (V : Nat → Value → World → Prop) (S : World → Prop) {id : Nat} {a : Act} {w : World}
    (hm : P.follows .mixedOrders = true) (ho : ordB ops = true) (hd : dstB ops a.tmps.size = true) (hS : S w.drew)
    (hstep : AllOps (OpStep P .any ops Q V S a) 0 ops.toList)
    (hend : ∀ listed a' w', Inv .any ops V S a listed a' w' → (∀ i, i < ops.size → Done listed i) → Q .normal a' w') : (Code.region id ops true).wp P Q a w := by
  refine wp_region_any hm (wpAny_inv (V := V) (S := S) (a0 := a) (ordB_spec ho) (fun i j oi oj d hi hj hid hjd => (dstB_spec hd i oi d hi hid).2 j oj hj hjd) (fun i o d hi hid => (dstB_spec hd i o d hi hid).1)
    (fun i o hi listed a' w' hI hdn hnd K hK => ?_) hend _ _ _ _ ?_ ?_)
  · have := AllOps.get hstep (i := i) (o := o) (by simpa using hi)
    rw [Nat.zero_add] at this
    exact this listed a' w' hI hdn hnd K hK
  · have hno : ∀ i, ¬ Done (Array.replicate ops.size false) i := fun i h => by
      unfold Done at h
      by_cases hi : i < ops.size <;> simp [Array.getD_eq_getD_getElem?, hi] at h
    exact ⟨by simp, hS, rfl, rfl, fun i _ _ h => absurd h (hno i), fun i _ _ _ _ h => absurd h (hno i), fun _ _ => rfl⟩
  · unfold left
    exact Nat.le_trans (List.length_filter_le _ _) (by simp)

section
variable {md : Region.Mode} {ops : Array Oper} {V : Nat → Value → World → Prop} {S : World → Prop} {a0 : Act} {listed : Array Bool} {a : Act} {w : World}
/-- A slot that no operation writes, or whose writer waits for the operation i, which is not done: as it was. -/
theorem Inv.keep (hI : Inv md ops V S a0 listed a w) {i : Nat} (hnd : ¬ Done listed i) (j : Nat) (v : Value) (h0 : a0.tmps[j]? = some v)
    (h : (ops.toList.all fun o => o.dst != some j || o.after.toList.any fun e => Region.binds md e && e.on == i) = true) : a.eval (.tmp j) = v := by
  have := hI.old j (fun m o hm hmd hdn => hnd ?_)
  · simp [Act.eval, Array.getD_eq_getD_getElem?, this, h0]
  · simp only [List.all_eq_true] at h
    have h1 := h o (by simpa using Array.mem_of_getElem? hm)
    rw [hmd] at h1
    simp only [bne_self_eq_false, Bool.false_or, List.any_eq_true, Bool.and_eq_true, beq_iff_eq] at h1
    obtain ⟨e, he, hb, rfl⟩ := h1
    exact hI.closed m o hm hdn e (by simpa using he) hb
/-- What an earlier operation has left. -/
theorem Inv.val (hI : Inv md ops V S a0 listed a w) {o : Oper} (hd : ∀ e ∈ o.after, Region.binds md e = true → Done listed e.on) (j : Nat) {oj : Oper} {d : Nat} (hj : ops[j]? = some oj) (hjd : oj.dst = some d)
    (h : (o.after.toList.any fun e => Region.binds md e && e.on == j) = true) : ∃ v, a.eval (.tmp d) = v ∧ V j v w := by
  simp only [List.any_eq_true, Bool.and_eq_true, beq_iff_eq] at h
  obtain ⟨e, he, hb, rfl⟩ := h
  obtain ⟨v, hv, hV⟩ := hI.got e.on oj d hj hjd (hd e (by simpa using he) hb)
  exact ⟨v, by simp [Act.eval, Array.getD_eq_getD_getElem?, hv], hV⟩
def setAll (t : Array Value) (l : List (Nat × Value)) : Array Value := l.foldl (fun t p => t.setIfInBounds p.1 p.2) t
theorem setAll_get (u : Array Value) (j : Nat) : ∀ (l : List (Nat × Value)) (t : Array Value), t.size = u.size → (∀ p ∈ l, u[p.1]? = some p.2) → (j ∉ l.map (·.1) → t[j]? = u[j]?) → (setAll t l)[j]? = u[j]?
  | [], t, _, _, h => h (by simp)
  | p :: l, t, hs, hl, h => by
    refine setAll_get u j l _ (by simpa using hs) (fun q hq => hl q (List.mem_cons_of_mem _ hq)) (fun hn => ?_)
    have hp := hl p List.mem_cons_self
    have hlt : p.1 < t.size := by rw [hs]; exact (Array.getElem?_eq_some_iff.1 hp).1
    by_cases hj : p.1 = j
    · subst hj
      rw [hp]
      simp [hlt]
    · rw [Array.getElem?_setIfInBounds]
      simp only [hj, if_false]
      exact h (by simp [hn]; exact fun e => hj e.symm)
theorem Inv.tmps (hI : Inv md ops V S a0 listed a w) (l : List (Nat × Value)) (hl : ∀ p ∈ l, a.tmps[p.1]? = some p.2)
    (hc : (ops.toList.all fun o => match o.dst with | some d => (l.map (·.1)).contains d | none => true) = true) : a = ⟨setAll a0.tmps l, a0.defers⟩ := by
  obtain ⟨t, df⟩ := a
  have hd : df = a0.defers := hI.defers
  subst hd
  congr 1
  refine Array.ext_getElem? fun j => (setAll_get t j l a0.tmps hI.size.symm hl fun hn => ?_).symm
  refine (hI.old j fun i o hi hid _ => hn ?_).symm
  simp only [List.all_eq_true] at hc
  have := hc o (by simpa using Array.mem_of_getElem? hi)
  rw [hid] at this
  simpa using this
end
/-- What an operation's value is. -/
inductive Kind where
  | val (v : Value)
  | own (P : Value → World → Prop) (hP : ∀ v w w', Below w.heap.size w w' → P v w → P v w')
def Kind.holds (W : World) (k : Kind) (v : Value) (w : World) : Prop := match k with
  | .val u => v = u
  | .own P _ => P v w
theorem Kind.keep {W w w' : World} {k : Kind} {v : Value} (h : k.holds W v w) (hb : Below w.heap.size w w') : k.holds W v w' := by
  cases k with
  | val u => exact h
  | own P hP => exact hP v w w' hb h
def Ks (W : World) (ks : List Kind) (i : Nat) (v : Value) (w : World) : Prop := ∀ k, ks[i]? = some k → k.holds W v w
theorem Ks.keep {W w w' : World} {ks : List Kind} (hb : Below w.heap.size w w') (i : Nat) (v : Value) (h : Ks W ks i v w) : Ks W ks i v w' := fun k hk => Kind.keep (h k hk) hb
theorem Ks.of {W w : World} {ks : List Kind} {i : Nat} {k : Kind} {v : Value} (hk : ks[i]? = some k) (h : k.holds W v w) : Ks W ks i v w := fun k' hk' => by rw [hk] at hk'; cases hk'; exact h
theorem Inv.slot {md : Region.Mode} {ops : Array Oper} {V : Nat → Value → World → Prop} {S : World → Prop} {a0 : Act} {listed : Array Bool} {a : Act} {w : World} (hI : Inv md ops V S a0 listed a w) {i : Nat} (hnd : ¬ Done listed i) (j : Nat) (v : Value) (h0 : a0.tmps[j]? = some v)
    (h : (ops.toList.all fun o => o.dst != some j || o.after.toList.any fun e => Region.binds md e && e.on == i) = true) : a.tmps[j]?.getD undef = v := by
  have := hI.keep hnd j v h0 h
  simpa [Act.eval, Array.getD_eq_getD_getElem?] using this
theorem Inv.dep {md : Region.Mode} {ops : Array Oper} {W : World} {ks : List Kind} {S : World → Prop} {a0 : Act} {listed : Array Bool} {a : Act} {w : World} (hI : Inv md ops (Ks W ks) S a0 listed a w) {o : Oper} (hd : ∀ e ∈ o.after, Region.binds md e = true → Done listed e.on) (j d : Nat) {oj : Oper} {k : Kind} (hk : ks[j]? = some k) (hj : ops[j]? = some oj) (hjd : oj.dst = some d)
    (h : (o.after.toList.any fun e => Region.binds md e && e.on == j) = true) : ∃ v, a.tmps[d]?.getD undef = v ∧ k.holds W v w := by
  obtain ⟨v, hv, hV⟩ := hI.val hd j hj hjd h
  exact ⟨v, by simpa [Act.eval, Array.getD_eq_getD_getElem?] using hv, hV k hk⟩
theorem Inv.depv {md : Region.Mode} {ops : Array Oper} {W : World} {ks : List Kind} {S : World → Prop} {a0 : Act} {listed : Array Bool} {a : Act} {w : World} (hI : Inv md ops (Ks W ks) S a0 listed a w) {o : Oper} (hd : ∀ e ∈ o.after, Region.binds md e = true → Done listed e.on) (j d : Nat) {oj : Oper} (v : Value) (hk : ks[j]? = some (.val v)) (hj : ops[j]? = some oj) (hjd : oj.dst = some d)
    (h : (o.after.toList.any fun e => Region.binds md e && e.on == j) = true) : a.tmps[d]?.getD undef = v := by
  obtain ⟨u, hu, hV⟩ := hI.dep hd j d hk hj hjd h
  exact hu.trans hV
theorem Inv.yield {md : Region.Mode} {ops : Array Oper} {W : World} {ks : List Kind} {S : World → Prop} {a0 : Act} {listed : Array Bool} {a : Act} {w : World} (hI : Inv md ops (Ks W ks) S a0 listed a w) {o : Oper} (hd : ∀ e ∈ o.after, Region.binds md e = true → Done listed e.on) (j d : Nat) {oj : Oper} (b : Bool) (hk : ks[j]? = some (.val (.bool b))) (hj : ops[j]? = some oj) (hjd : oj.dst = some d)
    (h : (o.after.toList.any fun e => Region.binds md e && e.on == j) = true) : yielded ops a.tmps j = some b := by
  simp only [List.any_eq_true, Bool.and_eq_true, beq_iff_eq] at h
  obtain ⟨e, he, hb, rfl⟩ := h
  obtain ⟨v, hv, hV⟩ := hI.got e.on oj d hj hjd (hd e (by simpa using he) hb)
  have h2 : v = .bool b := hV _ hk
  subst h2
  simp [yielded, hj, hjd, hv]
theorem wanted_yes {P : Program} {o : Oper} {a : Act} {w : World} {K : Act → World → Prop} {Q : Exit → Act → World → Prop} {E : Prop} {y : Nat → Option Bool} {j : Nat} {b : Bool} (hg : o.guard = some (j, b)) (hy : y j = some b) (h : o.wp P a w K Q) : if Region.wanted o y = true then o.wp P a w K Q else E := by
  rw [if_pos (by simp [Region.wanted, hg, hy])]; exact h
theorem wanted_no {P : Program} {o : Oper} {a : Act} {w : World} {K : Act → World → Prop} {Q : Exit → Act → World → Prop} {E : Prop} {y : Nat → Option Bool} {j : Nat} {b b' : Bool} (hg : o.guard = some (j, b)) (hy : y j = some b') (hne : (b' == b) = false) (h : E) : if Region.wanted o y = true then o.wp P a w K Q else E := by
  rw [if_neg (by simp only [Region.wanted, hg, hy]; cases b <;> cases b' <;> simp_all)]; exact h
theorem wanted_go {P : Program} {o : Oper} {a : Act} {w : World} {K : Act → World → Prop} {Q : Exit → Act → World → Prop} {E : Prop} {y : Nat → Option Bool} (hg : o.guard = none) (h : o.wp P a w K Q) : if Region.wanted o y = true then o.wp P a w K Q else E := by
  rw [if_pos (by simp [Region.wanted, hg])]; exact h

theorem Inv.step {md : Region.Mode} {ops : Array Oper} {V : Nat → Value → World → Prop} {S : World → Prop} {a0 : Act} {listed : Array Bool} {a : Act} {w w' : World} {i : Nat} {o : Oper} {v : Value} (hI : Inv md ops V S a0 listed a w)
    (hdst : ∀ (i j : Nat) (oi oj : Oper) (d : Nat), ops[i]? = some oi → ops[j]? = some oj → oi.dst = some d → oj.dst = some d → i = j)
    (hlt : ∀ (i : Nat) (o : Oper) (d : Nat), ops[i]? = some o → o.dst = some d → d < a0.tmps.size)
    (h2 : ops[i]? = some o) (h3 : ∀ e ∈ o.after, Region.binds md e = true → Done listed e.on) (hS : S w') (hv : V i v w') (hst : ∀ j u, V j u w → V j u w') :
    Inv md ops V S a0 (listed.setIfInBounds i true) (a.put o.dst v) w' := by
  have hsz : i < ops.size := (Array.getElem?_eq_some_iff.1 h2).1
  refine ⟨by simpa using hI.lsize, hS, ?_, ?_, ?_, ?_, ?_⟩
  · cases o.dst <;> exact hI.defers
  · cases ho : o.dst <;> simp [Act.put, hI.size]
  · intro j oj hj hd e he hb
    rcases hd.inv with rfl | hd
    · rw [h2] at hj
      cases hj
      exact Done.set (h3 e he hb)
    · exact Done.set (hI.closed j oj hj hd e he hb)
  · intro j oj d hj hjd hd
    by_cases hji : j = i
    · subst hji
      rw [h2] at hj
      cases hj
      refine ⟨v, ?_, hv⟩
      have := hlt j o d h2 hjd
      simp [Act.put, hjd, hI.size, this]
    · rcases hd.inv with h | hd
      · exact absurd h hji
      · obtain ⟨u, hu, hV⟩ := hI.got j oj d hj hjd hd
        refine ⟨u, ?_, hst j u hV⟩
        cases ho : o.dst with
        | none => simpa [Act.put, ho] using hu
        | some d' =>
          have hne : d' ≠ d := fun e => hji (hdst j i oj o d hj h2 hjd (by rw [ho, e]))
          simpa [Act.put, Array.getElem?_setIfInBounds, hne] using hu
  · intro j hj
    have h4 := hI.old j (fun k ok hk hkd hd => hj k ok hk hkd hd.set)
    cases ho : o.dst with
    | none => simpa [Act.put] using h4
    | some d' =>
      have hne : d' ≠ j := fun e => hj i o h2 (by rw [ho, e]) (Done.new (by rw [hI.lsize]; exact hsz))
      simpa [Act.put, Array.getElem?_setIfInBounds, hne] using h4

/-- The first m operations are done, no other is. -/
def headDone (m n : Nat) : Array Bool := ((List.range n).map fun i => decide (i < m)).toArray
theorem headDone_get (m n i : Nat) (hi : i < n) : (headDone m n)[i]? = some (decide (i < m)) := by simp [headDone, hi]
theorem eq_headDone {m n : Nat} {listed : Array Bool} (hs : listed.size = n) (h1 : ∀ i, i < m → i < n → Done listed i) (h2 : ∀ i, m ≤ i → i < n → ¬ Done listed i) : listed = headDone m n := by
  refine Array.ext_getElem? fun i => ?_
  by_cases hi : i < n
  · rw [headDone_get m n i hi, Array.getElem?_eq_getElem (by omega)]
    by_cases him : i < m
    · have := h1 i him hi
      simp [Done, Array.getD_eq_getD_getElem?, hs, hi] at this
      simp [this, him]
    · have := h2 i (by omega) hi
      simp [Done, Array.getD_eq_getD_getElem?, hs, hi] at this
      simp [this, him]
  · rw [Array.getElem?_eq_none (by omega), Array.getElem?_eq_none (by simp [headDone]; omega)]
/-- Where the operation i waits, through others, for all of the first m. -/
def waitsB (md : Region.Mode) (ops : Array Oper) (m : Nat) : Bool :=
  (List.range m).all fun i => ((List.range ops.size).drop (i + 1)).any fun j => decide (j ≤ m) && match ops[j]? with
    | some o => o.after.toList.any fun e => Region.binds md e && e.on == i
    | none => false
/-- Each operation behind m waits for m. -/
def behindB (md : Region.Mode) (ops : Array Oper) (m : Nat) : Bool :=
  ((List.range ops.size).drop (m + 1)).all fun j => match ops[j]? with
    | some o => o.after.toList.any fun e => Region.binds md e && decide (m ≤ e.on) && decide (e.on < j)
    | none => true
/-- What is not done among the first m is waited for by something not done that is at most m: so nothing from m on is ready till all of them are done. -/
theorem waits_spec {md : Region.Mode} {ops : Array Oper} {V : Nat → Value → World → Prop} {S : World → Prop} {a0 : Act} {listed : Array Bool} {a : Act} {w : World} {m : Nat} (hI : Inv md ops V S a0 listed a w)
    (h : waitsB md ops m = true) {o : Oper} (ho : ops[m]? = some o) (hd : ∀ e ∈ o.after, Region.binds md e = true → Done listed e.on) : ∀ k i, i < m → m - i ≤ k → Done listed i
  | 0, i, hi, hk => absurd hk (by omega)
  | k + 1, i, hi, hk => by
    simp only [waitsB, List.all_eq_true, List.mem_range] at h
    have h1 := h i hi
    simp only [List.any_eq_true, Bool.and_eq_true, decide_eq_true_eq] at h1
    obtain ⟨j, hj, hjm, h2⟩ := h1
    have hij : i < j := by
      rw [List.mem_drop_iff_getElem] at hj
      obtain ⟨q, hq, hq2⟩ := hj
      simp at hq2
      omega
    cases hoj : ops[j]? with
    | none => rw [hoj] at h2; simp at h2
    | some oj =>
      rw [hoj] at h2
      simp only [List.any_eq_true, Bool.and_eq_true, beq_iff_eq] at h2
      obtain ⟨e, he, hb, rfl⟩ := h2
      by_cases hjm2 : j = m
      · subst hjm2
        rw [ho] at hoj
        cases hoj
        exact hd e (by simpa using he) hb
      · have := waits_spec hI (by simpa only [waitsB, List.all_eq_true, List.mem_range] using h) ho hd k j (by omega) (by omega)
        exact hI.closed j oj hoj this e (by simpa using he) hb
theorem left_head (m : Nat) : ∀ n k, k ≤ n → k - m ≤ ((List.range k).filter fun i => !(headDone m n).getD i true).length
  | n, 0, _ => by simp
  | n, k + 1, hk => by
    have ih := left_head m n k (by omega)
    have e := headDone_get m n k (by omega)
    rw [List.range_succ, List.filter_append, List.length_append]
    by_cases h : k < m
    · omega
    · have : ([k].filter fun i => !(headDone m n).getD i true).length = 1 := by simp [Array.getD_eq_getD_getElem?, e, h]
      omega
theorem wpAny_inv2 {P : Program} {md : Region.Mode} {ops : Array Oper} {Q : Exit → Act → World → Prop} {V : Nat → Value → World → Prop} {S : World → Prop} {a0 : Act} {m : Nat}
    (hord : ∀ (i : Nat) (o : Oper), ops[i]? = some o → ∀ e ∈ o.after, e.on < i)
    (hdst : ∀ (i j : Nat) (oi oj : Oper) (d : Nat), ops[i]? = some oi → ops[j]? = some oj → oi.dst = some d → oj.dst = some d → i = j)
    (hlt : ∀ (i : Nat) (o : Oper) (d : Nat), ops[i]? = some o → o.dst = some d → d < a0.tmps.size)
    (hmn : m < ops.size) (hwait : waitsB md ops m = true) (hbeh : behindB md ops m = true)
    (hstep : ∀ i o, i < m → ops[i]? = some o → ∀ listed a w, Inv md ops V S a0 listed a w → (∀ e ∈ o.after, Region.binds md e = true → Done listed e.on) → ¬ Done listed i →
      ∀ K : Act → World → Prop, (∀ v w', S w' → V i v w' → (∀ j u, V j u w → V j u w') → K (a.put o.dst v) w') → if Region.wanted o (yielded ops a.tmps) = true then o.wp P a w K Q else K (a.put o.dst undef) w)
    (hmid : ∀ f a w, Inv md ops V S a0 (headDone m ops.size) a w → wpAny P md ops Q (f + (ops.size - m)) (headDone m ops.size) a w) :
    ∀ fuel listed a w, Inv md ops V S a0 listed a w → (∀ i, m ≤ i → i < ops.size → ¬ Done listed i) → left ops.size listed ≤ fuel → wpAny P md ops Q fuel listed a w := by
  intro fuel
  induction fuel with
  | zero =>
    intro listed a w hI hno hf
    have hr : Region.ready md ops listed = [] := by
      rw [List.eq_nil_iff_forall_not_mem]
      intro i hi
      obtain ⟨h1, o, h2, _⟩ := mem_ready.1 hi
      have := left_set hI.lsize (Array.getElem?_eq_some_iff.1 h2).1 h1
      omega
    exact absurd (all_done hI.lsize hord hr (m + 1) m (by omega) hmn) (hno m (by omega) hmn)
  | succ fuel ih =>
    intro listed a w hI hno hf
    by_cases hall : ∀ i, i < m → Done listed i
    · have hl := eq_headDone hI.lsize (fun i hi _ => hall i hi) hno
      subst hl
      have h1 := left_head m ops.size ops.size (Nat.le_refl _)
      unfold left at hf
      have h2 := hmid (fuel + 1 - (ops.size - m)) a w hI
      rwa [show fuel + 1 - (ops.size - m) + (ops.size - m) = fuel + 1 from by omega] at h2
    · refine ⟨fun hr => absurd (all_done hI.lsize hord hr (m + 1) m (by omega) hmn) (hno m (by omega) hmn), fun i hi => ?_⟩
      obtain ⟨h1, o, h2, h3⟩ := mem_ready.1 hi
      have hsz : i < ops.size := (Array.getElem?_eq_some_iff.1 h2).1
      have him : i < m := by
        refine Nat.lt_of_not_le fun hle => ?_
        by_cases he : i = m
        · subst he
          exact hall fun j hj => waits_spec hI hwait h2 h3 (i - j) j hj (Nat.le_refl _)
        · simp only [behindB, List.all_eq_true] at hbeh
          have h4 := hbeh i (by rw [List.mem_drop_iff_getElem]; exact ⟨i - (m + 1), by simp; omega, by simp; omega⟩)
          rw [h2] at h4
          simp only [List.any_eq_true, Bool.and_eq_true, decide_eq_true_eq] at h4
          obtain ⟨e, hem, ⟨hb, hme⟩, hei⟩ := h4
          exact hno e.on hme (by omega) (h3 e (by simpa using hem) hb)
      have hnd : ¬ Done listed i := by
        unfold Done
        rw [← getD_tf (by rw [hI.lsize]; exact hsz), h1]
        simp
      refine wpOp_step h2 (fun K hK => hstep i o him h2 listed a w hI h3 hnd K (fun v w' hS hv hst => hK _ _ ?_))
      refine ih _ _ _ (hI.step hdst hlt h2 h3 hS hv hst) (fun j hj hjs hdj => ?_) ?_
      · rcases hdj.inv with rfl | hdj
        · omega
        · exact hno j hj hjs hdj
      · have := left_set hI.lsize hsz h1
        omega
theorem wp_region_inv2 {P : Program} {ops : Array Oper} {Q : Exit → Act → World → Prop} (m : Nat) (V : Nat → Value → World → Prop) (S : World → Prop) {id : Nat} {a : Act} {w : World}
    (hm : P.follows .mixedOrders = true) (ho : ordB ops = true) (hd : dstB ops a.tmps.size = true) (hmn : m < ops.size) (hwait : waitsB .any ops m = true) (hbeh : behindB .any ops m = true) (hS : S w.drew)
    (hstep : AllOps (OpStep P .any ops Q V S a) 0 (ops.toList.take m))
    (hmid : ∀ f a' w', Inv .any ops V S a (headDone m ops.size) a' w' → wpAny P .any ops Q (f + (ops.size - m)) (headDone m ops.size) a' w') : (Code.region id ops true).wp P Q a w := by
  have hno : ∀ i, ¬ Done (Array.replicate ops.size false) i := fun i h => by
    unfold Done at h
    by_cases hi : i < ops.size <;> simp [Array.getD_eq_getD_getElem?, hi] at h
  refine wp_region_any hm (wpAny_inv2 (V := V) (S := S) (a0 := a) (m := m) (ordB_spec ho) (fun i j oi oj d hi hj hid hjd => (dstB_spec hd i oi d hi hid).2 j oj hj hjd) (fun i o d hi hid => (dstB_spec hd i o d hi hid).1) hmn hwait hbeh
    (fun i o him hi listed a' w' hI hdn hnd K hK => ?_) hmid _ _ _ _ ?_ (fun i _ _ => hno i) ?_)
  · have := AllOps.get hstep (i := i) (o := o) (by rw [List.getElem?_take_of_lt him]; simpa using hi)
    rw [Nat.zero_add] at this
    exact this listed a' w' hI hdn hnd K hK
  · exact ⟨by simp, hS, rfl, rfl, fun i _ _ h => absurd h (hno i), fun i _ _ _ _ h => absurd h (hno i), fun _ _ => rfl⟩
  · unfold left
    exact Nat.le_trans (List.length_filter_le _ _) (by simp)
theorem Inv.oldHead {md : Region.Mode} {ops : Array Oper} {V : Nat → Value → World → Prop} {S : World → Prop} {a0 : Act} {a : Act} {w : World} {m n : Nat} (hI : Inv md ops V S a0 (headDone m n) a w) (j : Nat)
    (h : ((ops.toList.take m).all fun o => o.dst != some j) = true) : a.tmps[j]? = a0.tmps[j]? := by
  refine hI.old j fun i o hi hd hdn => ?_
  have him : i < m := by
    by_cases hin : i < n
    · have := headDone_get m n i hin
      simp only [Done, Array.getD_eq_getD_getElem?, this, Option.getD_some, decide_eq_true_eq] at hdn
      exact hdn
    · have : (headDone m n)[i]? = none := Array.getElem?_eq_none (by simp [headDone]; omega)
      simp [Done, Array.getD_eq_getD_getElem?, this] at hdn
  simp only [List.all_eq_true] at h
  have := h o (List.mem_iff_getElem?.2 ⟨i, by rw [List.getElem?_take_of_lt him]; simpa using hi⟩)
  simp [hd] at this
/-- Where nothing is ready all is done (each operation waits for earlier ones alone). -/
theorem all_done' {md : Region.Mode} {ops : Array Oper} {listed : Array Bool} (hl : listed.size = ops.size)
    (hord : ∀ (i : Nat) (o : Oper), ops[i]? = some o → ∀ e ∈ o.after, Region.binds md e = true → e.on < i) (h : Region.ready md ops listed = []) : ∀ n i, i < n → i < ops.size → Done listed i
  | 0, i, hi, _ => absurd hi (by omega)
  | n + 1, i, hi, hs => by
    have ih := all_done' hl hord h n
    have hmem : i ∉ Region.ready md ops listed := by rw [h]; simp
    rw [mem_ready] at hmem
    have hd : Done listed i ∨ listed.getD i true = false := by
      rw [getD_tf (by omega)]
      unfold Done
      cases listed.getD i false <;> simp
    rcases hd with hd | hd
    · exact hd
    · refine absurd ⟨hd, ops[i], Array.getElem?_eq_getElem hs, fun e he hb => ?_⟩ hmem
      have := hord i ops[i] (Array.getElem?_eq_getElem hs) e he hb
      exact ih e.on (by omega) (by omega)

theorem wpAny_inv' {P : Program} {md : Region.Mode} {ops : Array Oper} {Q : Exit → Act → World → Prop} {V : Nat → Value → World → Prop} {S : World → Prop} {a0 : Act}
    (hord : ∀ (i : Nat) (o : Oper), ops[i]? = some o → ∀ e ∈ o.after, Region.binds md e = true → e.on < i)
    (hdst : ∀ (i j : Nat) (oi oj : Oper) (d : Nat), ops[i]? = some oi → ops[j]? = some oj → oi.dst = some d → oj.dst = some d → i = j)
    (hlt : ∀ (i : Nat) (o : Oper) (d : Nat), ops[i]? = some o → o.dst = some d → d < a0.tmps.size)
    (hstep : ∀ i o, ops[i]? = some o → ∀ listed a w, Inv md ops V S a0 listed a w → (∀ e ∈ o.after, Region.binds md e = true → Done listed e.on) → ¬ Done listed i →
      ∀ K : Act → World → Prop, (∀ v w', S w' → V i v w' → (∀ j u, V j u w → V j u w') → K (a.put o.dst v) w') → if Region.wanted o (yielded ops a.tmps) = true then o.wp P a w K Q else K (a.put o.dst undef) w)
    (hend : ∀ listed a w, Inv md ops V S a0 listed a w → (∀ i, i < ops.size → Done listed i) → Q .normal a w) :
    ∀ fuel listed a w, Inv md ops V S a0 listed a w → left ops.size listed ≤ fuel → wpAny P md ops Q fuel listed a w
  | 0, listed, a, w, hI, hf => by
    have hr : Region.ready md ops listed = [] := by
      rw [List.eq_nil_iff_forall_not_mem]
      intro i hi
      obtain ⟨h1, o, h2, _⟩ := mem_ready.1 hi
      have := left_set hI.lsize (Array.getElem?_eq_some_iff.1 h2).1 h1
      omega
    exact ⟨hr, hend listed a w hI (fun i hi => all_done' hI.lsize hord hr (i + 1) i (by omega) hi)⟩
  | fuel + 1, listed, a, w, hI, hf => by
    refine ⟨fun hr => hend listed a w hI (fun i hi => all_done' hI.lsize hord hr (i + 1) i (by omega) hi), fun i hi => ?_⟩
    obtain ⟨h1, o, h2, h3⟩ := mem_ready.1 hi
    have hsz : i < ops.size := (Array.getElem?_eq_some_iff.1 h2).1
    have hnd : ¬ Done listed i := by
      unfold Done
      rw [← getD_tf (by rw [hI.lsize]; exact hsz), h1]
      simp
    refine wpOp_step h2 (fun K hK => hstep i o h2 listed a w hI h3 hnd K (fun v w' hS hv hst => hK _ _ ?_))
    refine wpAny_inv' hord hdst hlt hstep hend fuel _ _ _ ?_ ?_
    · refine ⟨by simpa using hI.lsize, hS, ?_, ?_, ?_, ?_, ?_⟩
      · cases o.dst <;> exact hI.defers
      · cases ho : o.dst <;> simp [Act.put, hI.size]
      · intro j oj hj hd e he hb
        rcases hd.inv with rfl | hd
        · rw [h2] at hj
          cases hj
          exact Done.set (h3 e he hb)
        · exact Done.set (hI.closed j oj hj hd e he hb)
      · intro j oj d hj hjd hd
        by_cases hji : j = i
        · subst hji
          rw [h2] at hj
          cases hj
          refine ⟨v, ?_, hv⟩
          have := hlt j o d h2 hjd
          simp [Act.put, hjd, hI.size, this]
        · rcases hd.inv with h | hd
          · exact absurd h hji
          · obtain ⟨u, hu, hV⟩ := hI.got j oj d hj hjd hd
            refine ⟨u, ?_, hst j u hV⟩
            cases ho : o.dst with
            | none => simpa [Act.put, ho] using hu
            | some d' =>
              have hne : d' ≠ d := fun e => hji (hdst j i oj o d hj h2 hjd (by rw [ho, e]))
              simpa [Act.put, Array.getElem?_setIfInBounds, hne] using hu
      · intro j hj
        have h4 := hI.old j (fun k ok hk hkd hd => hj k ok hk hkd hd.set)
        cases ho : o.dst with
        | none => simpa [Act.put] using h4
        | some d' =>
          have hne : d' ≠ j := fun e => hj i o h2 (by rw [ho, e]) (Done.new (by rw [hI.lsize]; exact hsz))
          simpa [Act.put, Array.getElem?_setIfInBounds, hne] using h4
    · have := left_set hI.lsize hsz h1
      omega

def ordB' (md : Region.Mode) (ops : Array Oper) : Bool := (List.range ops.size).all fun i => match ops[i]? with
  | some o => o.after.toList.all fun e => !Region.binds md e || decide (e.on < i)
  | none => true
theorem ordB_spec' {md : Region.Mode} {ops : Array Oper} (h : ordB' md ops = true) (i : Nat) (o : Oper) (ho : ops[i]? = some o) : ∀ e ∈ o.after, Region.binds md e = true → e.on < i := by
  intro e he hb
  simp only [ordB', List.all_eq_true, List.mem_range] at h
  have := h i (Array.getElem?_eq_some_iff.1 ho).1
  rw [ho] at this
  simp only [List.all_eq_true] at this
  have h2 := this e (by simpa using he)
  simpa [hb] using h2
theorem wp_region_inv' {P : Program} {ops : Array Oper} {Q : Exit → Act → World → Prop} (V : Nat → Value → World → Prop) (S : World → Prop) {id : Nat} {a : Act} {w : World}
    (hm : P.follows .mixedOrders = true) (ho : ordB' .any ops = true) (hd : dstB ops a.tmps.size = true) (hS : S w.drew)
    (hstep : AllOps (OpStep P .any ops Q V S a) 0 ops.toList)
    (hend : ∀ listed a' w', Inv .any ops V S a listed a' w' → (∀ i, i < ops.size → Done listed i) → Q .normal a' w') : (Code.region id ops true).wp P Q a w := by
  refine wp_region_any hm (wpAny_inv' (V := V) (S := S) (a0 := a) (ordB_spec' ho) (fun i j oi oj d hi hj hid hjd => (dstB_spec hd i oi d hi hid).2 j oj hj hjd) (fun i o d hi hid => (dstB_spec hd i o d hi hid).1)
    (fun i o hi listed a' w' hI hdn hnd K hK => ?_) hend _ _ _ _ ?_ ?_)
  · have := AllOps.get hstep (i := i) (o := o) (by simpa using hi)
    rw [Nat.zero_add] at this
    exact this listed a' w' hI hdn hnd K hK
  · have hno : ∀ i, ¬ Done (Array.replicate ops.size false) i := fun i h => by
      unfold Done at h
      by_cases hi : i < ops.size <;> simp [Array.getD_eq_getD_getElem?, hi] at h
    exact ⟨by simp, hS, rfl, rfl, fun i _ _ h => absurd h (hno i), fun i _ _ _ _ h => absurd h (hno i), fun _ _ => rfl⟩
  · unfold left
    exact Nat.le_trans (List.length_filter_le _ _) (by simp)

theorem wpAny_inv2' {P : Program} {md : Region.Mode} {ops : Array Oper} {Q : Exit → Act → World → Prop} {V : Nat → Value → World → Prop} {S : World → Prop} {a0 : Act} {m : Nat}
    (hord : ∀ (i : Nat) (o : Oper), ops[i]? = some o → ∀ e ∈ o.after, Region.binds md e = true → e.on < i)
    (hdst : ∀ (i j : Nat) (oi oj : Oper) (d : Nat), ops[i]? = some oi → ops[j]? = some oj → oi.dst = some d → oj.dst = some d → i = j)
    (hlt : ∀ (i : Nat) (o : Oper) (d : Nat), ops[i]? = some o → o.dst = some d → d < a0.tmps.size)
    (hmn : m < ops.size) (hwait : waitsB md ops m = true) (hbeh : behindB md ops m = true)
    (hstep : ∀ i o, i < m → ops[i]? = some o → ∀ listed a w, Inv md ops V S a0 listed a w → (∀ e ∈ o.after, Region.binds md e = true → Done listed e.on) → ¬ Done listed i →
      ∀ K : Act → World → Prop, (∀ v w', S w' → V i v w' → (∀ j u, V j u w → V j u w') → K (a.put o.dst v) w') → if Region.wanted o (yielded ops a.tmps) = true then o.wp P a w K Q else K (a.put o.dst undef) w)
    (hmid : ∀ f a w, Inv md ops V S a0 (headDone m ops.size) a w → wpAny P md ops Q (f + (ops.size - m)) (headDone m ops.size) a w) :
    ∀ fuel listed a w, Inv md ops V S a0 listed a w → (∀ i, m ≤ i → i < ops.size → ¬ Done listed i) → left ops.size listed ≤ fuel → wpAny P md ops Q fuel listed a w := by
  intro fuel
  induction fuel with
  | zero =>
    intro listed a w hI hno hf
    have hr : Region.ready md ops listed = [] := by
      rw [List.eq_nil_iff_forall_not_mem]
      intro i hi
      obtain ⟨h1, o, h2, _⟩ := mem_ready.1 hi
      have := left_set hI.lsize (Array.getElem?_eq_some_iff.1 h2).1 h1
      omega
    exact absurd (all_done' hI.lsize hord hr (m + 1) m (by omega) hmn) (hno m (by omega) hmn)
  | succ fuel ih =>
    intro listed a w hI hno hf
    by_cases hall : ∀ i, i < m → Done listed i
    · have hl := eq_headDone hI.lsize (fun i hi _ => hall i hi) hno
      subst hl
      have h1 := left_head m ops.size ops.size (Nat.le_refl _)
      unfold left at hf
      have h2 := hmid (fuel + 1 - (ops.size - m)) a w hI
      rwa [show fuel + 1 - (ops.size - m) + (ops.size - m) = fuel + 1 from by omega] at h2
    · refine ⟨fun hr => absurd (all_done' hI.lsize hord hr (m + 1) m (by omega) hmn) (hno m (by omega) hmn), fun i hi => ?_⟩
      obtain ⟨h1, o, h2, h3⟩ := mem_ready.1 hi
      have hsz : i < ops.size := (Array.getElem?_eq_some_iff.1 h2).1
      have him : i < m := by
        refine Nat.lt_of_not_le fun hle => ?_
        by_cases he : i = m
        · subst he
          exact hall fun j hj => waits_spec hI hwait h2 h3 (i - j) j hj (Nat.le_refl _)
        · simp only [behindB, List.all_eq_true] at hbeh
          have h4 := hbeh i (by rw [List.mem_drop_iff_getElem]; exact ⟨i - (m + 1), by simp; omega, by simp; omega⟩)
          rw [h2] at h4
          simp only [List.any_eq_true, Bool.and_eq_true, decide_eq_true_eq] at h4
          obtain ⟨e, hem, ⟨hb, hme⟩, hei⟩ := h4
          exact hno e.on hme (by omega) (h3 e (by simpa using hem) hb)
      have hnd : ¬ Done listed i := by
        unfold Done
        rw [← getD_tf (by rw [hI.lsize]; exact hsz), h1]
        simp
      refine wpOp_step h2 (fun K hK => hstep i o him h2 listed a w hI h3 hnd K (fun v w' hS hv hst => hK _ _ ?_))
      refine ih _ _ _ (hI.step hdst hlt h2 h3 hS hv hst) (fun j hj hjs hdj => ?_) ?_
      · rcases hdj.inv with rfl | hdj
        · omega
        · exact hno j hj hjs hdj
      · have := left_set hI.lsize hsz h1
        omega
theorem wp_region_inv2' {P : Program} {ops : Array Oper} {Q : Exit → Act → World → Prop} (m : Nat) (V : Nat → Value → World → Prop) (S : World → Prop) {id : Nat} {a : Act} {w : World}
    (hm : P.follows .mixedOrders = true) (ho : ordB' .any ops = true) (hd : dstB ops a.tmps.size = true) (hmn : m < ops.size) (hwait : waitsB .any ops m = true) (hbeh : behindB .any ops m = true) (hS : S w.drew)
    (hstep : AllOps (OpStep P .any ops Q V S a) 0 (ops.toList.take m))
    (hmid : ∀ f a' w', Inv .any ops V S a (headDone m ops.size) a' w' → wpAny P .any ops Q (f + (ops.size - m)) (headDone m ops.size) a' w') : (Code.region id ops true).wp P Q a w := by
  have hno : ∀ i, ¬ Done (Array.replicate ops.size false) i := fun i h => by
    unfold Done at h
    by_cases hi : i < ops.size <;> simp [Array.getD_eq_getD_getElem?, hi] at h
  refine wp_region_any hm (wpAny_inv2' (V := V) (S := S) (a0 := a) (m := m) (ordB_spec' ho) (fun i j oi oj d hi hj hid hjd => (dstB_spec hd i oi d hi hid).2 j oj hj hjd) (fun i o d hi hid => (dstB_spec hd i o d hi hid).1) hmn hwait hbeh
    (fun i o him hi listed a' w' hI hdn hnd K hK => ?_) hmid _ _ _ _ ?_ (fun i _ _ => hno i) ?_)
  · have := AllOps.get hstep (i := i) (o := o) (by rw [List.getElem?_take_of_lt him]; simpa using hi)
    rw [Nat.zero_add] at this
    exact this listed a' w' hI hdn hnd K hK
  · exact ⟨by simp, hS, rfl, rfl, fun i _ _ h => absurd h (hno i), fun i _ _ _ _ h => absurd h (hno i), fun _ _ => rfl⟩
  · unfold left
    exact Nat.le_trans (List.length_filter_le _ _) (by simp)
end Go.Proofs.Ytnigokmjehemaaa

/- Charts: Valid. Written by gen_b15.py. -/
namespace Go.Proofs.Ytnigokmjehemaaa
open Go Go.RowKit
set_option linter.unusedVariables false
set_option linter.unusedSimpArgs false
set_option maxRecDepth 4000
attribute [local go_sem ↓] Go.wp_at_zero Go.wp_at_succ
section
variable (l : List XAccount) (A : Option Addr) (c n : Nat) (w : World) (hN : l.length = n) (hl : ListC AccountC 4 w (· < w.heap.size) [.slice A l.length c] l) (hn : l.length ≤ 1000)
include hN hl hn in
theorem proper_n (a : XAccount) (g : Bool) (hab : accB a) (hin : (findA l a.code).isSome = true) : Calls Try.prog 190 #[.slice A n c, .agg (accL a).toArray, .bool g] w (Quiet w (.bool (properP l g a))) := by
  subst hN; exact proper_c l A c a g w hl hab hn hin
include hN hl hn in
theorem rproper_n (a : XAccount) (g : Bool) (hab : accB a) : Calls Try.prog 171 #[.slice A n c, .agg (accL a).toArray, .bool g] w (Quiet w (.bool (properR l g a))) := by
  subst hN; exact rproper_c l A c a g w hl hab hn
end
theorem rowP_at {l : List XAccount} {g : Bool} {i : Nat} {a : XAccount} (h : l[i]? = some a) : rowP l g i = (!(decide (0 < i) && decide ((l.getD (i - 1) {}).code ≥ a.code)) && properP l g a) := by unfold rowP; rw [h]
theorem rowR_at {l : List XAccount} {g : Bool} {i : Nat} {a : XAccount} (h : l[i]? = some a) : rowR l g i = (properR l g a && !(decide (0 < i) && decide (a.code ≤ (l.getD (i - 1) {}).code)) && decide ((upR l (l.length + 1) [] a.code).length ≤ l.length)) := by unfold rowR; rw [h]
theorem rowP_order {l : List XAccount} {g : Bool} {j : Nat} {a b : XAccount} (h : l[j + 1]? = some a) (hb : l[j]? = some b) (ho : a.code ≤ b.code) : rowP l g (j + 1) = false := by
  rw [rowP_at h, Nat.add_sub_cancel, List.getD_eq_getElem?_getD, hb, Option.getD_some, decide_eq_true ho, decide_eq_true (Nat.succ_pos j)]; rfl
theorem rowP_rest {l : List XAccount} {g : Bool} {j : Nat} {a b : XAccount} (h : l[j + 1]? = some a) (hb : l[j]? = some b) (ho : ¬ a.code ≤ b.code) : rowP l g (j + 1) = properP l g a := by
  rw [rowP_at h, Nat.add_sub_cancel, List.getD_eq_getElem?_getD, hb, Option.getD_some, decide_eq_false (show ¬ b.code ≥ a.code by omega)]; simp
theorem rowP_first {l : List XAccount} {g : Bool} {a : XAccount} (h : l[0]? = some a) : rowP l g 0 = properP l g a := by
  rw [rowP_at h]; simp
theorem wrap_j {j : Nat} (h : j ≤ 1000) : IntKind.i64.wrap (j : Int) = (j : Int) := by
  rw [IntKind.wrap_i64]; omega
set_option maxHeartbeats 4000000 in
theorem chartValid_c (l : List XAccount) (A : Option Addr) (c : Nat) (g : Bool) (w : World) (hl : ListC AccountC 4 w (· < w.heap.size) [.slice A l.length c] l) (hn : l.length ≤ 1000) : Calls Try.prog 161 #[.slice A l.length c, .bool g] w (Quiet w (.bool (chartB l g))) := by
  obtain ⟨r, hr⟩ : ∃ r, chartB l g = r := ⟨_, rfl⟩
  rw [hr]
  have HR := Lib.hid hr
  clear hr
  obtain ⟨n, hnl⟩ : ∃ n, l.length = n := ⟨_, rfl⟩
  have HNN := Lib.hid hn
  rw [hnl] at hn
  have HL := Lib.hid hl
  have HN := Lib.hid hnl
  rw [hnl]
  clear hl hnl
  go_enter Try.func161, Try.ntmps161
  go_wp2_with fail
  go_loopw [9] (fun i wr => ∃ k : Nat, k ≤ n ∧ i = .int .i64 (k : Int) ∧ Below w.heap.size w wr ∧ ∀ j, j < k → rowP l g j = true) (fun i _ => n - (intOf i).toNat)
  case atStart => exact ⟨0, by omega, rfl, Below.refl _ _, fun j hj => by omega⟩
  case round =>
    obtain ⟨k, hk, rfl, hb, hall⟩ := hrel
    have HA := Lib.hid hall
    clear hall
    have hsz := hb.size
    by_cases hlt : k < n
    case pos =>
      have hltI : (k : Int) < (n : Int) := by omega
      have hkl : k < l.length := by rw [HN.out]; exact hlt
      obtain ⟨b, o, hAe, hbw, hall⟩ := ListC.base HL.out (by omega)
      subst hAe
      obtain ⟨es, hes, hat⟩ := hall k hkl
      obtain ⟨hes1, hab⟩ := AccountC.lit hes
      rw [hes1] at hat
      have HALL := Lib.hid hall
      clear hall
      obtain ⟨ac, hac⟩ : ∃ ac, l[k] = ac := ⟨_, rfl⟩
      rw [hac] at hat hab
      have HIN := Lib.hid (show (findA l ac.code).isSome = true by rw [← hac]; exact findA_of_mem (List.getElem_mem hkl))
      have HAC := Lib.hid (show l[k]? = some ac by rw [List.getElem?_eq_getElem hkl, hac])
      have HAR := Lib.hid ((hat.fr (Fr.ofBelow hb)).range)
      have HAB := Lib.hid hab
      clear hes hes1 hat hac hab
      obtain ⟨c1, c2, c3, c4⟩ := ac
      obtain ⟨V, hV⟩ : ∃ V, wr.alloc (.cells #[.int .i64 c1, .int .i64 c2, .int .i64 c3, .int .i64 c4] 157) = V := ⟨_, rfl⟩
      have h6 := heap_alloc_new wr (.cells #[.int .i64 c1, .int .i64 c2, .int .i64 c3, .int .i64 c4] 157)
      rw [hV] at h6
      have hwV : Below w.heap.size w V := by rw [← hV]; exact hb.alloc hsz _
      have hrV : Below wr.heap.size wr V := by rw [← hV]; exact below1 _ _
      have HV6 := Lib.hid (blk_lt h6)
      have K6 := Lib.hid (blk_cell h6 0)
      have H6 := Lib.hid h6
      have HLV := Lib.hid (chart_keep HL.out hwV)
      have HBV := Lib.hid (show b < V.heap.size by have := hwV.size; omega)
      have HVV := Lib.hid hV
      clear h6 hV
      rcases Nat.eq_zero_or_pos k with hk0 | hk0
      · subst hk0
        cases hp : properP l g ⟨c1, c2, c3, c4⟩ with
        | true =>
          have HP := Lib.hid hp
          have HROW := Lib.hid (show rowP l g 0 = true by rw [rowP_first HAC.out]; exact hp)
          clear hp
          go_upto_region 4 with (show wpList _ _ _ (Oper.mk (some 13) _ _ _ _ _ :: _) _ _; refine wpList_load_mid rfl 157 (.tmp 12) rfl b (o + 0 * 4) rfl (accL ⟨c1, c2, c3, c4⟩) _ HAR.out Try.underlying157 rfl (info_accL _) ?_)
          rw [HVV.out]
          refine wp_region_inv (Ks V [.val (.int .i64 0), .val (.bool false), .val (.bool false), .val (undef), .val (undef), .val (undef), .val (undef), .val (undef), .val (undef), .val (undef), .val (undef), .val (undef), .val (.bool false), .val (.bool false), .val (.slice (some ⟨b, o, none⟩) n c), .val (.agg (accL ⟨c1, c2, c3, c4⟩).toArray), .val (.bool g), .val (.bool true), .val (.bool false), .val (.bool false)])
            (fun w' => Below V.heap.size V w') (by kernel_rfl) (by kernel_rfl) (by kernel_rfl) (Below.refl _ _).drew ?_ ?_
          · refine ⟨?_, ?_, ?_, ?_, ?_, ?_, ?_, ?_, ?_, ?_, ?_, ?_, ?_, ?_, ?_, ?_, ?_, ?_, ?_, ?_, trivial⟩
            · intro listed A0 w2 hI hd hnd K hK
              have e0 := hI.slot hnd 5 _ rfl (by kernel_rfl)
              have hS := hI.world
              refine wanted_go rfl ?_
              clear hI hd hnd
              go_simp
              exact hK.out _ _ hS (Ks.of rfl rfl) (fun _ _ h => h)
            · intro listed A0 w2 hI hd hnd K hK
              have e0 := hI.depv hd 0 14 _ rfl rfl rfl (by kernel_rfl)
              have hS := hI.world
              refine wanted_go rfl ?_
              clear hI hd hnd
              go_simp
              exact hK.out _ _ hS (Ks.of rfl rfl) (fun _ _ h => h)
            · intro listed A0 w2 hI hd hnd K hK
              have e0 := hI.depv hd 1 15 _ rfl rfl rfl (by kernel_rfl)
              have hS := hI.world
              refine wanted_go rfl ?_
              clear hI hd hnd
              go_simp
              exact hK.out _ _ hS (Ks.of rfl rfl) (fun _ _ h => h)
            · intro listed A0 w2 hI hd hnd K hK
              have hS := hI.world
              refine wanted_no rfl (hI.yield hd 2 16 false rfl rfl rfl (by kernel_rfl)) rfl ?_
              exact hK.out _ _ hS (Ks.of rfl rfl) (fun _ _ h => h)
            · intro listed A0 w2 hI hd hnd K hK
              have hS := hI.world
              refine wanted_no rfl (hI.yield hd 2 16 false rfl rfl rfl (by kernel_rfl)) rfl ?_
              exact hK.out _ _ hS (Ks.of rfl rfl) (fun _ _ h => h)
            · intro listed A0 w2 hI hd hnd K hK
              have hS := hI.world
              refine wanted_no rfl (hI.yield hd 2 16 false rfl rfl rfl (by kernel_rfl)) rfl ?_
              exact hK.out _ _ hS (Ks.of rfl rfl) (fun _ _ h => h)
            · intro listed A0 w2 hI hd hnd K hK
              have hS := hI.world
              refine wanted_no rfl (hI.yield hd 2 16 false rfl rfl rfl (by kernel_rfl)) rfl ?_
              exact hK.out _ _ hS (Ks.of rfl rfl) (fun _ _ h => h)
            · intro listed A0 w2 hI hd hnd K hK
              have hS := hI.world
              refine wanted_no rfl (hI.yield hd 2 16 false rfl rfl rfl (by kernel_rfl)) rfl ?_
              exact hK.out _ _ hS (Ks.of rfl rfl) (fun _ _ h => h)
            · intro listed A0 w2 hI hd hnd K hK
              have hS := hI.world
              refine wanted_no rfl (hI.yield hd 2 16 false rfl rfl rfl (by kernel_rfl)) rfl ?_
              exact hK.out _ _ hS (Ks.of rfl rfl) (fun _ _ h => h)
            · intro listed A0 w2 hI hd hnd K hK
              have hS := hI.world
              refine wanted_no rfl (hI.yield hd 2 16 false rfl rfl rfl (by kernel_rfl)) rfl ?_
              exact hK.out _ _ hS (Ks.of rfl rfl) (fun _ _ h => h)
            · intro listed A0 w2 hI hd hnd K hK
              have hS := hI.world
              refine wanted_no rfl (hI.yield hd 2 16 false rfl rfl rfl (by kernel_rfl)) rfl ?_
              exact hK.out _ _ hS (Ks.of rfl rfl) (fun _ _ h => h)
            · intro listed A0 w2 hI hd hnd K hK
              have hS := hI.world
              refine wanted_no rfl (hI.yield hd 2 16 false rfl rfl rfl (by kernel_rfl)) rfl ?_
              exact hK.out _ _ hS (Ks.of rfl rfl) (fun _ _ h => h)
            · intro listed A0 w2 hI hd hnd K hK
              have e0 := hI.depv hd 2 16 _ rfl rfl rfl (by kernel_rfl)
              have e1 := hI.depv hd 11 25 _ rfl rfl rfl (by kernel_rfl)
              have hS := hI.world
              refine wanted_go rfl ?_
              clear hI hd hnd
              go_simp
              exact hK.out _ _ hS (Ks.of rfl rfl) (fun _ _ h => h)
            · intro listed A0 w2 hI hd hnd K hK
              have e0 := hI.depv hd 12 26 _ rfl rfl rfl (by kernel_rfl)
              have hS := hI.world
              refine wanted_go rfl ?_
              clear hI hd hnd
              go_simp
              exact hK.out _ _ hS (Ks.of rfl rfl) (fun _ _ h => h)
            · intro listed A0 w2 hI hd hnd K hK
              have e0 := hI.slot hnd 0 _ rfl (by kernel_rfl)
              have hS := hI.world
              refine wanted_yes rfl (hI.yield hd 13 27 false rfl rfl rfl (by kernel_rfl)) ?_
              clear hI hd hnd
              go_simp
              exact hK.out _ _ hS (Ks.of rfl rfl) (fun _ _ h => h)
            · intro listed A0 w2 hI hd hnd K hK
              have e0 := hI.slot hnd 6 _ rfl (by kernel_rfl)
              have hS := hI.world
              have hrange := ((box_at (cs := accL ⟨c1, c2, c3, c4⟩) H6.out).fr (Fr.ofBelow hS)).range
              have hisize := info_accL ⟨c1, c2, c3, c4⟩
              refine wanted_yes rfl (hI.yield hd 13 27 false rfl rfl rfl (by kernel_rfl)) ?_
              clear hI hd hnd
              refine wp_load_mid 157 (.tmp 6) rfl _ _ (by simpa [Act.eval, Array.getD_eq_getD_getElem?] using e0) _ _ hrange Try.underlying157 rfl hisize ?_
              exact hK.out _ _ hS (Ks.of rfl rfl) (fun _ _ h => h)
            · intro listed A0 w2 hI hd hnd K hK
              have e0 := hI.slot hnd 1 _ rfl (by kernel_rfl)
              have hS := hI.world
              refine wanted_yes rfl (hI.yield hd 13 27 false rfl rfl rfl (by kernel_rfl)) ?_
              clear hI hd hnd
              go_simp
              exact hK.out _ _ hS (Ks.of rfl rfl) (fun _ _ h => h)
            · intro listed A0 w2 hI hd hnd K hK
              have e0 := hI.depv hd 14 28 _ rfl rfl rfl (by kernel_rfl)
              have e1 := hI.depv hd 15 29 _ rfl rfl rfl (by kernel_rfl)
              have e2 := hI.depv hd 16 30 _ rfl rfl rfl (by kernel_rfl)
              have hS := hI.world
              refine wanted_yes rfl (hI.yield hd 13 27 false rfl rfl rfl (by kernel_rfl)) ?_
              clear hI hd hnd
              go_simp
              go_at_call 190
              refine (proper_n l _ c n w2 HN.out (chart_keep HLV.out hS) HNN.out ⟨c1, c2, c3, c4⟩ g HAB.out HIN.out).mono ?_
              rintro e w3 ⟨rfl, h3⟩
              exact hK.out _ _ (hS.trans (h3.mono hS.size)) (Ks.of rfl (congrArg Value.bool HP.out)) (Ks.keep h3)
            · intro listed A0 w2 hI hd hnd K hK
              have e0 := hI.depv hd 17 31 _ rfl rfl rfl (by kernel_rfl)
              have hS := hI.world
              refine wanted_yes rfl (hI.yield hd 13 27 false rfl rfl rfl (by kernel_rfl)) ?_
              clear hI hd hnd
              go_simp
              exact hK.out _ _ hS (Ks.of rfl rfl) (fun _ _ h => h)
            · intro listed A0 w2 hI hd hnd K hK
              have e0 := hI.depv hd 13 27 _ rfl rfl rfl (by kernel_rfl)
              have e1 := hI.depv hd 18 32 _ rfl rfl rfl (by kernel_rfl)
              have hS := hI.world
              refine wanted_go rfl ?_
              clear hI hd hnd
              go_simp
              exact hK.out _ _ hS (Ks.of rfl rfl) (fun _ _ h => h)
          · intro listed A0 w2 hI hall
            obtain ⟨x0, g0, h0⟩ := hI.got 0 _ 14 rfl rfl (hall 0 (by decide))
            obtain ⟨x1, g1, h1⟩ := hI.got 1 _ 15 rfl rfl (hall 1 (by decide))
            obtain ⟨x2, g2, h2⟩ := hI.got 2 _ 16 rfl rfl (hall 2 (by decide))
            obtain ⟨x3, g3, h3⟩ := hI.got 3 _ 17 rfl rfl (hall 3 (by decide))
            obtain ⟨x4, g4, h4⟩ := hI.got 4 _ 18 rfl rfl (hall 4 (by decide))
            obtain ⟨x5, g5, h5⟩ := hI.got 5 _ 19 rfl rfl (hall 5 (by decide))
            obtain ⟨x6, g6, h6⟩ := hI.got 6 _ 20 rfl rfl (hall 6 (by decide))
            obtain ⟨x7, g7, h7⟩ := hI.got 7 _ 21 rfl rfl (hall 7 (by decide))
            obtain ⟨x8, g8, h8⟩ := hI.got 8 _ 22 rfl rfl (hall 8 (by decide))
            obtain ⟨x9, g9, h9⟩ := hI.got 9 _ 23 rfl rfl (hall 9 (by decide))
            obtain ⟨x10, g10, h10⟩ := hI.got 10 _ 24 rfl rfl (hall 10 (by decide))
            obtain ⟨x11, g11, h11⟩ := hI.got 11 _ 25 rfl rfl (hall 11 (by decide))
            obtain ⟨x12, g12, h12⟩ := hI.got 12 _ 26 rfl rfl (hall 12 (by decide))
            obtain ⟨x13, g13, h13⟩ := hI.got 13 _ 27 rfl rfl (hall 13 (by decide))
            obtain ⟨x14, g14, h14⟩ := hI.got 14 _ 28 rfl rfl (hall 14 (by decide))
            obtain ⟨x15, g15, h15⟩ := hI.got 15 _ 29 rfl rfl (hall 15 (by decide))
            obtain ⟨x16, g16, h16⟩ := hI.got 16 _ 30 rfl rfl (hall 16 (by decide))
            obtain ⟨x17, g17, h17⟩ := hI.got 17 _ 31 rfl rfl (hall 17 (by decide))
            obtain ⟨x18, g18, h18⟩ := hI.got 18 _ 32 rfl rfl (hall 18 (by decide))
            obtain ⟨x19, g19, h19⟩ := hI.got 19 _ 33 rfl rfl (hall 19 (by decide))
            have hS := hI.world
            have hA : A0 = _ := hI.tmps [(14, x0), (15, x1), (16, x2), (17, x3), (18, x4), (19, x5), (20, x6), (21, x7), (22, x8), (23, x9), (24, x10), (25, x11), (26, x12), (27, x13), (28, x14), (29, x15), (30, x16), (31, x17), (32, x18), (33, x19)] (by simp only [List.mem_cons, List.not_mem_nil, or_false, forall_eq_or_imp, forall_eq]; exact ⟨g0, g1, g2, g3, g4, g5, g6, g7, g8, g9, g10, g11, g12, g13, g14, g15, g16, g17, g18, g19⟩) (by kernel_rfl)
            obtain rfl : x19 = .bool false := h19 _ rfl
            clear h0 g0 h1 g1 h2 g2 h3 g3 h4 g4 h5 g5 h6 g6 h7 g7 h8 g8 h9 g9 h10 g10 h11 g11 h12 g12 h13 g13 h14 g14 h15 g15 h16 g16 h17 g17 h18 g18 h19 g19 hI hall
            simp only [setAll, List.foldl, List.setIfInBounds_toArray, List.set_cons_zero, List.set_cons_succ] at hA
            rw [hA]
            clear hA
            go_wp2_with fail
            go_roundw
            case rel => exact ⟨0 + 1, by omega, by go_num, hwV.trans (hS.mono hwV.size), fun i hi => by
              rcases Nat.lt_or_ge i (0) with h | h
              · exact HA.out i h
              · have : i = 0 := by omega
                subst this
                exact HROW.out⟩
            case measure =>
              have e : wrap64 ((0 : Int) + 1) = ((0 + 1 : Nat) : Int) := by unfold wrap64; omega
              simp only [intOf, e]
              omega

        | false =>
          have HP := Lib.hid hp
          have hf := Lib.hid (show r = false by rw [← HR.out]; unfold chartB; rw [all_range_false hkl (by rw [rowP_first HAC.out]; exact hp)]; rfl)
          clear hp
          go_upto_region 4 with (show wpList _ _ _ (Oper.mk (some 13) _ _ _ _ _ :: _) _ _; refine wpList_load_mid rfl 157 (.tmp 12) rfl b (o + 0 * 4) rfl (accL ⟨c1, c2, c3, c4⟩) _ HAR.out Try.underlying157 rfl (info_accL _) ?_)
          rw [HVV.out]
          refine wp_region_inv (Ks V [.val (.int .i64 0), .val (.bool false), .val (.bool false), .val (undef), .val (undef), .val (undef), .val (undef), .val (undef), .val (undef), .val (undef), .val (undef), .val (undef), .val (.bool false), .val (.bool false), .val (.slice (some ⟨b, o, none⟩) n c), .val (.agg (accL ⟨c1, c2, c3, c4⟩).toArray), .val (.bool g), .val (.bool false), .val (.bool true), .val (.bool true)])
            (fun w' => Below V.heap.size V w') (by kernel_rfl) (by kernel_rfl) (by kernel_rfl) (Below.refl _ _).drew ?_ ?_
          · refine ⟨?_, ?_, ?_, ?_, ?_, ?_, ?_, ?_, ?_, ?_, ?_, ?_, ?_, ?_, ?_, ?_, ?_, ?_, ?_, ?_, trivial⟩
            · intro listed A0 w2 hI hd hnd K hK
              have e0 := hI.slot hnd 5 _ rfl (by kernel_rfl)
              have hS := hI.world
              refine wanted_go rfl ?_
              clear hI hd hnd
              go_simp
              exact hK.out _ _ hS (Ks.of rfl rfl) (fun _ _ h => h)
            · intro listed A0 w2 hI hd hnd K hK
              have e0 := hI.depv hd 0 14 _ rfl rfl rfl (by kernel_rfl)
              have hS := hI.world
              refine wanted_go rfl ?_
              clear hI hd hnd
              go_simp
              exact hK.out _ _ hS (Ks.of rfl rfl) (fun _ _ h => h)
            · intro listed A0 w2 hI hd hnd K hK
              have e0 := hI.depv hd 1 15 _ rfl rfl rfl (by kernel_rfl)
              have hS := hI.world
              refine wanted_go rfl ?_
              clear hI hd hnd
              go_simp
              exact hK.out _ _ hS (Ks.of rfl rfl) (fun _ _ h => h)
            · intro listed A0 w2 hI hd hnd K hK
              have hS := hI.world
              refine wanted_no rfl (hI.yield hd 2 16 false rfl rfl rfl (by kernel_rfl)) rfl ?_
              exact hK.out _ _ hS (Ks.of rfl rfl) (fun _ _ h => h)
            · intro listed A0 w2 hI hd hnd K hK
              have hS := hI.world
              refine wanted_no rfl (hI.yield hd 2 16 false rfl rfl rfl (by kernel_rfl)) rfl ?_
              exact hK.out _ _ hS (Ks.of rfl rfl) (fun _ _ h => h)
            · intro listed A0 w2 hI hd hnd K hK
              have hS := hI.world
              refine wanted_no rfl (hI.yield hd 2 16 false rfl rfl rfl (by kernel_rfl)) rfl ?_
              exact hK.out _ _ hS (Ks.of rfl rfl) (fun _ _ h => h)
            · intro listed A0 w2 hI hd hnd K hK
              have hS := hI.world
              refine wanted_no rfl (hI.yield hd 2 16 false rfl rfl rfl (by kernel_rfl)) rfl ?_
              exact hK.out _ _ hS (Ks.of rfl rfl) (fun _ _ h => h)
            · intro listed A0 w2 hI hd hnd K hK
              have hS := hI.world
              refine wanted_no rfl (hI.yield hd 2 16 false rfl rfl rfl (by kernel_rfl)) rfl ?_
              exact hK.out _ _ hS (Ks.of rfl rfl) (fun _ _ h => h)
            · intro listed A0 w2 hI hd hnd K hK
              have hS := hI.world
              refine wanted_no rfl (hI.yield hd 2 16 false rfl rfl rfl (by kernel_rfl)) rfl ?_
              exact hK.out _ _ hS (Ks.of rfl rfl) (fun _ _ h => h)
            · intro listed A0 w2 hI hd hnd K hK
              have hS := hI.world
              refine wanted_no rfl (hI.yield hd 2 16 false rfl rfl rfl (by kernel_rfl)) rfl ?_
              exact hK.out _ _ hS (Ks.of rfl rfl) (fun _ _ h => h)
            · intro listed A0 w2 hI hd hnd K hK
              have hS := hI.world
              refine wanted_no rfl (hI.yield hd 2 16 false rfl rfl rfl (by kernel_rfl)) rfl ?_
              exact hK.out _ _ hS (Ks.of rfl rfl) (fun _ _ h => h)
            · intro listed A0 w2 hI hd hnd K hK
              have hS := hI.world
              refine wanted_no rfl (hI.yield hd 2 16 false rfl rfl rfl (by kernel_rfl)) rfl ?_
              exact hK.out _ _ hS (Ks.of rfl rfl) (fun _ _ h => h)
            · intro listed A0 w2 hI hd hnd K hK
              have e0 := hI.depv hd 2 16 _ rfl rfl rfl (by kernel_rfl)
              have e1 := hI.depv hd 11 25 _ rfl rfl rfl (by kernel_rfl)
              have hS := hI.world
              refine wanted_go rfl ?_
              clear hI hd hnd
              go_simp
              exact hK.out _ _ hS (Ks.of rfl rfl) (fun _ _ h => h)
            · intro listed A0 w2 hI hd hnd K hK
              have e0 := hI.depv hd 12 26 _ rfl rfl rfl (by kernel_rfl)
              have hS := hI.world
              refine wanted_go rfl ?_
              clear hI hd hnd
              go_simp
              exact hK.out _ _ hS (Ks.of rfl rfl) (fun _ _ h => h)
            · intro listed A0 w2 hI hd hnd K hK
              have e0 := hI.slot hnd 0 _ rfl (by kernel_rfl)
              have hS := hI.world
              refine wanted_yes rfl (hI.yield hd 13 27 false rfl rfl rfl (by kernel_rfl)) ?_
              clear hI hd hnd
              go_simp
              exact hK.out _ _ hS (Ks.of rfl rfl) (fun _ _ h => h)
            · intro listed A0 w2 hI hd hnd K hK
              have e0 := hI.slot hnd 6 _ rfl (by kernel_rfl)
              have hS := hI.world
              have hrange := ((box_at (cs := accL ⟨c1, c2, c3, c4⟩) H6.out).fr (Fr.ofBelow hS)).range
              have hisize := info_accL ⟨c1, c2, c3, c4⟩
              refine wanted_yes rfl (hI.yield hd 13 27 false rfl rfl rfl (by kernel_rfl)) ?_
              clear hI hd hnd
              refine wp_load_mid 157 (.tmp 6) rfl _ _ (by simpa [Act.eval, Array.getD_eq_getD_getElem?] using e0) _ _ hrange Try.underlying157 rfl hisize ?_
              exact hK.out _ _ hS (Ks.of rfl rfl) (fun _ _ h => h)
            · intro listed A0 w2 hI hd hnd K hK
              have e0 := hI.slot hnd 1 _ rfl (by kernel_rfl)
              have hS := hI.world
              refine wanted_yes rfl (hI.yield hd 13 27 false rfl rfl rfl (by kernel_rfl)) ?_
              clear hI hd hnd
              go_simp
              exact hK.out _ _ hS (Ks.of rfl rfl) (fun _ _ h => h)
            · intro listed A0 w2 hI hd hnd K hK
              have e0 := hI.depv hd 14 28 _ rfl rfl rfl (by kernel_rfl)
              have e1 := hI.depv hd 15 29 _ rfl rfl rfl (by kernel_rfl)
              have e2 := hI.depv hd 16 30 _ rfl rfl rfl (by kernel_rfl)
              have hS := hI.world
              refine wanted_yes rfl (hI.yield hd 13 27 false rfl rfl rfl (by kernel_rfl)) ?_
              clear hI hd hnd
              go_simp
              go_at_call 190
              refine (proper_n l _ c n w2 HN.out (chart_keep HLV.out hS) HNN.out ⟨c1, c2, c3, c4⟩ g HAB.out HIN.out).mono ?_
              rintro e w3 ⟨rfl, h3⟩
              exact hK.out _ _ (hS.trans (h3.mono hS.size)) (Ks.of rfl (congrArg Value.bool HP.out)) (Ks.keep h3)
            · intro listed A0 w2 hI hd hnd K hK
              have e0 := hI.depv hd 17 31 _ rfl rfl rfl (by kernel_rfl)
              have hS := hI.world
              refine wanted_yes rfl (hI.yield hd 13 27 false rfl rfl rfl (by kernel_rfl)) ?_
              clear hI hd hnd
              go_simp
              exact hK.out _ _ hS (Ks.of rfl rfl) (fun _ _ h => h)
            · intro listed A0 w2 hI hd hnd K hK
              have e0 := hI.depv hd 13 27 _ rfl rfl rfl (by kernel_rfl)
              have e1 := hI.depv hd 18 32 _ rfl rfl rfl (by kernel_rfl)
              have hS := hI.world
              refine wanted_go rfl ?_
              clear hI hd hnd
              go_simp
              exact hK.out _ _ hS (Ks.of rfl rfl) (fun _ _ h => h)
          · intro listed A0 w2 hI hall
            obtain ⟨x0, g0, h0⟩ := hI.got 0 _ 14 rfl rfl (hall 0 (by decide))
            obtain ⟨x1, g1, h1⟩ := hI.got 1 _ 15 rfl rfl (hall 1 (by decide))
            obtain ⟨x2, g2, h2⟩ := hI.got 2 _ 16 rfl rfl (hall 2 (by decide))
            obtain ⟨x3, g3, h3⟩ := hI.got 3 _ 17 rfl rfl (hall 3 (by decide))
            obtain ⟨x4, g4, h4⟩ := hI.got 4 _ 18 rfl rfl (hall 4 (by decide))
            obtain ⟨x5, g5, h5⟩ := hI.got 5 _ 19 rfl rfl (hall 5 (by decide))
            obtain ⟨x6, g6, h6⟩ := hI.got 6 _ 20 rfl rfl (hall 6 (by decide))
            obtain ⟨x7, g7, h7⟩ := hI.got 7 _ 21 rfl rfl (hall 7 (by decide))
            obtain ⟨x8, g8, h8⟩ := hI.got 8 _ 22 rfl rfl (hall 8 (by decide))
            obtain ⟨x9, g9, h9⟩ := hI.got 9 _ 23 rfl rfl (hall 9 (by decide))
            obtain ⟨x10, g10, h10⟩ := hI.got 10 _ 24 rfl rfl (hall 10 (by decide))
            obtain ⟨x11, g11, h11⟩ := hI.got 11 _ 25 rfl rfl (hall 11 (by decide))
            obtain ⟨x12, g12, h12⟩ := hI.got 12 _ 26 rfl rfl (hall 12 (by decide))
            obtain ⟨x13, g13, h13⟩ := hI.got 13 _ 27 rfl rfl (hall 13 (by decide))
            obtain ⟨x14, g14, h14⟩ := hI.got 14 _ 28 rfl rfl (hall 14 (by decide))
            obtain ⟨x15, g15, h15⟩ := hI.got 15 _ 29 rfl rfl (hall 15 (by decide))
            obtain ⟨x16, g16, h16⟩ := hI.got 16 _ 30 rfl rfl (hall 16 (by decide))
            obtain ⟨x17, g17, h17⟩ := hI.got 17 _ 31 rfl rfl (hall 17 (by decide))
            obtain ⟨x18, g18, h18⟩ := hI.got 18 _ 32 rfl rfl (hall 18 (by decide))
            obtain ⟨x19, g19, h19⟩ := hI.got 19 _ 33 rfl rfl (hall 19 (by decide))
            have hS := hI.world
            have hA : A0 = _ := hI.tmps [(14, x0), (15, x1), (16, x2), (17, x3), (18, x4), (19, x5), (20, x6), (21, x7), (22, x8), (23, x9), (24, x10), (25, x11), (26, x12), (27, x13), (28, x14), (29, x15), (30, x16), (31, x17), (32, x18), (33, x19)] (by simp only [List.mem_cons, List.not_mem_nil, or_false, forall_eq_or_imp, forall_eq]; exact ⟨g0, g1, g2, g3, g4, g5, g6, g7, g8, g9, g10, g11, g12, g13, g14, g15, g16, g17, g18, g19⟩) (by kernel_rfl)
            obtain rfl : x19 = .bool true := h19 _ rfl
            clear h0 g0 h1 g1 h2 g2 h3 g3 h4 g4 h5 g5 h6 g6 h7 g7 h8 g8 h9 g9 h10 g10 h11 g11 h12 g12 h13 g13 h14 g14 h15 g15 h16 g16 h17 g17 h18 g18 h19 g19 hI hall
            simp only [setAll, List.foldl, List.setIfInBounds_toArray, List.set_cons_zero, List.set_cons_succ] at hA
            rw [hA]
            clear hA
            go_wp2_with fail
            go_ret
            exact ⟨by rw [hf.out]; first | done | rfl, hwV.trans (hS.mono hwV.size)⟩

      · obtain ⟨j, rfl⟩ : ∃ j, k = j + 1 := ⟨k - 1, by omega⟩
        have hjn : j < n := by omega
        have HJW := Lib.hid (wrap_j (j := j) (by omega))
        obtain ⟨es2, hes2, hat2⟩ := HALL.out j (by omega)
        obtain ⟨hes3, _⟩ := AccountC.lit hes2
        rw [hes3] at hat2
        obtain ⟨pr, hpr⟩ : ∃ pr, l[j]'(by omega) = pr := ⟨_, rfl⟩
        rw [hpr] at hat2
        have HPR := Lib.hid (show l[j]? = some pr by rw [List.getElem?_eq_getElem (by omega), hpr])
        have KP := Lib.hid (((hat2.fr (Fr.ofBelow hwV)).c (j := 0) rfl : _))
        clear hes2 hes3 hat2 hpr
        obtain ⟨p1, p2, p3, p4⟩ := pr
        by_cases ho : c1 ≤ p1
        · have hf := Lib.hid (show r = false by rw [← HR.out]; unfold chartB; rw [all_range_false hkl (rowP_order HAC.out HPR.out ho)]; rfl)
          go_upto_region 4 with (show wpList _ _ _ (Oper.mk (some 13) _ _ _ _ _ :: _) _ _; refine wpList_load_mid rfl 157 (.tmp 12) rfl b (o + (j + 1) * 4) rfl (accL ⟨c1, c2, c3, c4⟩) _ HAR.out Try.underlying157 rfl (info_accL _) ?_)
          rw [HVV.out]
          refine wp_region_inv (Ks V [.val (.int .i64 ((j + 1 : Nat) : Int)), .val (.bool true), .val (.bool true), .val (.slice (some ⟨b, o, none⟩) n c), .val (.int .i64 ((j + 1 : Nat) : Int)), .val (.int .i64 (j : Int)), .val (.pointer (some ⟨b, o + j * 4, none⟩)), .val (.pointer (some ⟨b, o + j * 4, none⟩)), .val (.int .i64 p1), .val (.pointer (some ⟨wr.heap.size, 0, none⟩)), .val (.int .i64 c1), .val (.bool true), .val (.bool true), .val (.bool true), .val (undef), .val (undef), .val (undef), .val (undef), .val (undef), .val (.bool true)])
            (fun w' => Below V.heap.size V w') (by kernel_rfl) (by kernel_rfl) (by kernel_rfl) (Below.refl _ _).drew ?_ ?_
          · refine ⟨?_, ?_, ?_, ?_, ?_, ?_, ?_, ?_, ?_, ?_, ?_, ?_, ?_, ?_, ?_, ?_, ?_, ?_, ?_, ?_, trivial⟩
            · intro listed A0 w2 hI hd hnd K hK
              have e0 := hI.slot hnd 5 _ rfl (by kernel_rfl)
              have hS := hI.world
              refine wanted_go rfl ?_
              clear hI hd hnd
              go_simp
              exact hK.out _ _ hS (Ks.of rfl rfl) (fun _ _ h => h)
            · intro listed A0 w2 hI hd hnd K hK
              have e0 := hI.depv hd 0 14 _ rfl rfl rfl (by kernel_rfl)
              have hS := hI.world
              refine wanted_go rfl ?_
              clear hI hd hnd
              go_simp
              exact hK.out _ _ hS (Ks.of rfl rfl) (fun _ _ h => h)
            · intro listed A0 w2 hI hd hnd K hK
              have e0 := hI.depv hd 1 15 _ rfl rfl rfl (by kernel_rfl)
              have hS := hI.world
              refine wanted_go rfl ?_
              clear hI hd hnd
              go_simp
              exact hK.out _ _ hS (Ks.of rfl rfl) (fun _ _ h => h)
            · intro listed A0 w2 hI hd hnd K hK
              have e0 := hI.slot hnd 0 _ rfl (by kernel_rfl)
              have hS := hI.world
              refine wanted_yes rfl (hI.yield hd 2 16 true rfl rfl rfl (by kernel_rfl)) ?_
              clear hI hd hnd
              go_simp
              exact hK.out _ _ hS (Ks.of rfl rfl) (fun _ _ h => h)
            · intro listed A0 w2 hI hd hnd K hK
              have e0 := hI.slot hnd 5 _ rfl (by kernel_rfl)
              have hS := hI.world
              refine wanted_yes rfl (hI.yield hd 2 16 true rfl rfl rfl (by kernel_rfl)) ?_
              clear hI hd hnd
              go_simp
              exact hK.out _ _ hS (Ks.of rfl rfl) (fun _ _ h => h)
            · intro listed A0 w2 hI hd hnd K hK
              have e0 := hI.depv hd 4 18 _ rfl rfl rfl (by kernel_rfl)
              have hS := hI.world
              refine wanted_yes rfl (hI.yield hd 2 16 true rfl rfl rfl (by kernel_rfl)) ?_
              clear hI hd hnd
              go_simp
              exact hK.out _ _ hS (Ks.of rfl (congrArg (Value.int .i64) HJW.out)) (fun _ _ h => h)
            · intro listed A0 w2 hI hd hnd K hK
              have e0 := hI.depv hd 3 17 _ rfl rfl rfl (by kernel_rfl)
              have e1 := hI.depv hd 5 19 _ rfl rfl rfl (by kernel_rfl)
              have hS := hI.world
              refine wanted_yes rfl (hI.yield hd 2 16 true rfl rfl rfl (by kernel_rfl)) ?_
              clear hI hd hnd
              go_simp
              exact hK.out _ _ hS (Ks.of rfl rfl) (fun _ _ h => h)
            · intro listed A0 w2 hI hd hnd K hK
              have e0 := hI.depv hd 6 20 _ rfl rfl rfl (by kernel_rfl)
              have hS := hI.world
              refine wanted_yes rfl (hI.yield hd 2 16 true rfl rfl rfl (by kernel_rfl)) ?_
              clear hI hd hnd
              go_simp
              exact hK.out _ _ hS (Ks.of rfl rfl) (fun _ _ h => h)
            · intro listed A0 w2 hI hd hnd K hK
              have e0 := hI.depv hd 7 21 _ rfl rfl rfl (by kernel_rfl)
              have hS := hI.world
              have hcc : w2.cell? ⟨b, o + j * 4, none⟩ = _ := (hS.cell (p := ⟨b, o + j * 4, none⟩) HBV.out).trans KP.out
              refine wanted_yes rfl (hI.yield hd 2 16 true rfl rfl rfl (by kernel_rfl)) ?_
              clear hI hd hnd
              go_simp
              exact hK.out _ _ hS (Ks.of rfl rfl) (fun _ _ h => h)
            · intro listed A0 w2 hI hd hnd K hK
              have e0 := hI.slot hnd 6 _ rfl (by kernel_rfl)
              have hS := hI.world
              refine wanted_yes rfl (hI.yield hd 2 16 true rfl rfl rfl (by kernel_rfl)) ?_
              clear hI hd hnd
              go_simp
              exact hK.out _ _ hS (Ks.of rfl rfl) (fun _ _ h => h)
            · intro listed A0 w2 hI hd hnd K hK
              have e0 := hI.depv hd 9 23 _ rfl rfl rfl (by kernel_rfl)
              have hS := hI.world
              have hcc : w2.cell? ⟨wr.heap.size, 0, none⟩ = _ := (hS.cell (p := ⟨wr.heap.size, 0, none⟩) HV6.out).trans K6.out
              refine wanted_yes rfl (hI.yield hd 2 16 true rfl rfl rfl (by kernel_rfl)) ?_
              clear hI hd hnd
              go_simp
              exact hK.out _ _ hS (Ks.of rfl rfl) (fun _ _ h => h)
            · intro listed A0 w2 hI hd hnd K hK
              have e0 := hI.depv hd 8 22 _ rfl rfl rfl (by kernel_rfl)
              have e1 := hI.depv hd 10 24 _ rfl rfl rfl (by kernel_rfl)
              have hS := hI.world
              refine wanted_yes rfl (hI.yield hd 2 16 true rfl rfl rfl (by kernel_rfl)) ?_
              clear hI hd hnd
              go_simp
              exact hK.out _ _ hS (Ks.of rfl rfl) (fun _ _ h => h)
            · intro listed A0 w2 hI hd hnd K hK
              have e0 := hI.depv hd 2 16 _ rfl rfl rfl (by kernel_rfl)
              have e1 := hI.depv hd 11 25 _ rfl rfl rfl (by kernel_rfl)
              have hS := hI.world
              refine wanted_go rfl ?_
              clear hI hd hnd
              go_simp
              exact hK.out _ _ hS (Ks.of rfl rfl) (fun _ _ h => h)
            · intro listed A0 w2 hI hd hnd K hK
              have e0 := hI.depv hd 12 26 _ rfl rfl rfl (by kernel_rfl)
              have hS := hI.world
              refine wanted_go rfl ?_
              clear hI hd hnd
              go_simp
              exact hK.out _ _ hS (Ks.of rfl rfl) (fun _ _ h => h)
            · intro listed A0 w2 hI hd hnd K hK
              have hS := hI.world
              refine wanted_no rfl (hI.yield hd 13 27 true rfl rfl rfl (by kernel_rfl)) rfl ?_
              exact hK.out _ _ hS (Ks.of rfl rfl) (fun _ _ h => h)
            · intro listed A0 w2 hI hd hnd K hK
              have hS := hI.world
              refine wanted_no rfl (hI.yield hd 13 27 true rfl rfl rfl (by kernel_rfl)) rfl ?_
              exact hK.out _ _ hS (Ks.of rfl rfl) (fun _ _ h => h)
            · intro listed A0 w2 hI hd hnd K hK
              have hS := hI.world
              refine wanted_no rfl (hI.yield hd 13 27 true rfl rfl rfl (by kernel_rfl)) rfl ?_
              exact hK.out _ _ hS (Ks.of rfl rfl) (fun _ _ h => h)
            · intro listed A0 w2 hI hd hnd K hK
              have hS := hI.world
              refine wanted_no rfl (hI.yield hd 13 27 true rfl rfl rfl (by kernel_rfl)) rfl ?_
              exact hK.out _ _ hS (Ks.of rfl rfl) (fun _ _ h => h)
            · intro listed A0 w2 hI hd hnd K hK
              have hS := hI.world
              refine wanted_no rfl (hI.yield hd 13 27 true rfl rfl rfl (by kernel_rfl)) rfl ?_
              exact hK.out _ _ hS (Ks.of rfl rfl) (fun _ _ h => h)
            · intro listed A0 w2 hI hd hnd K hK
              have e0 := hI.depv hd 13 27 _ rfl rfl rfl (by kernel_rfl)
              have e1 := hI.depv hd 18 32 _ rfl rfl rfl (by kernel_rfl)
              have hS := hI.world
              refine wanted_go rfl ?_
              clear hI hd hnd
              go_simp
              exact hK.out _ _ hS (Ks.of rfl rfl) (fun _ _ h => h)
          · intro listed A0 w2 hI hall
            obtain ⟨x0, g0, h0⟩ := hI.got 0 _ 14 rfl rfl (hall 0 (by decide))
            obtain ⟨x1, g1, h1⟩ := hI.got 1 _ 15 rfl rfl (hall 1 (by decide))
            obtain ⟨x2, g2, h2⟩ := hI.got 2 _ 16 rfl rfl (hall 2 (by decide))
            obtain ⟨x3, g3, h3⟩ := hI.got 3 _ 17 rfl rfl (hall 3 (by decide))
            obtain ⟨x4, g4, h4⟩ := hI.got 4 _ 18 rfl rfl (hall 4 (by decide))
            obtain ⟨x5, g5, h5⟩ := hI.got 5 _ 19 rfl rfl (hall 5 (by decide))
            obtain ⟨x6, g6, h6⟩ := hI.got 6 _ 20 rfl rfl (hall 6 (by decide))
            obtain ⟨x7, g7, h7⟩ := hI.got 7 _ 21 rfl rfl (hall 7 (by decide))
            obtain ⟨x8, g8, h8⟩ := hI.got 8 _ 22 rfl rfl (hall 8 (by decide))
            obtain ⟨x9, g9, h9⟩ := hI.got 9 _ 23 rfl rfl (hall 9 (by decide))
            obtain ⟨x10, g10, h10⟩ := hI.got 10 _ 24 rfl rfl (hall 10 (by decide))
            obtain ⟨x11, g11, h11⟩ := hI.got 11 _ 25 rfl rfl (hall 11 (by decide))
            obtain ⟨x12, g12, h12⟩ := hI.got 12 _ 26 rfl rfl (hall 12 (by decide))
            obtain ⟨x13, g13, h13⟩ := hI.got 13 _ 27 rfl rfl (hall 13 (by decide))
            obtain ⟨x14, g14, h14⟩ := hI.got 14 _ 28 rfl rfl (hall 14 (by decide))
            obtain ⟨x15, g15, h15⟩ := hI.got 15 _ 29 rfl rfl (hall 15 (by decide))
            obtain ⟨x16, g16, h16⟩ := hI.got 16 _ 30 rfl rfl (hall 16 (by decide))
            obtain ⟨x17, g17, h17⟩ := hI.got 17 _ 31 rfl rfl (hall 17 (by decide))
            obtain ⟨x18, g18, h18⟩ := hI.got 18 _ 32 rfl rfl (hall 18 (by decide))
            obtain ⟨x19, g19, h19⟩ := hI.got 19 _ 33 rfl rfl (hall 19 (by decide))
            have hS := hI.world
            have hA : A0 = _ := hI.tmps [(14, x0), (15, x1), (16, x2), (17, x3), (18, x4), (19, x5), (20, x6), (21, x7), (22, x8), (23, x9), (24, x10), (25, x11), (26, x12), (27, x13), (28, x14), (29, x15), (30, x16), (31, x17), (32, x18), (33, x19)] (by simp only [List.mem_cons, List.not_mem_nil, or_false, forall_eq_or_imp, forall_eq]; exact ⟨g0, g1, g2, g3, g4, g5, g6, g7, g8, g9, g10, g11, g12, g13, g14, g15, g16, g17, g18, g19⟩) (by kernel_rfl)
            obtain rfl : x19 = .bool true := h19 _ rfl
            clear h0 g0 h1 g1 h2 g2 h3 g3 h4 g4 h5 g5 h6 g6 h7 g7 h8 g8 h9 g9 h10 g10 h11 g11 h12 g12 h13 g13 h14 g14 h15 g15 h16 g16 h17 g17 h18 g18 h19 g19 hI hall
            simp only [setAll, List.foldl, List.setIfInBounds_toArray, List.set_cons_zero, List.set_cons_succ] at hA
            rw [hA]
            clear hA
            go_wp2_with fail
            go_ret
            exact ⟨by rw [hf.out]; first | done | rfl, hwV.trans (hS.mono hwV.size)⟩

        · cases hp : properP l g ⟨c1, c2, c3, c4⟩ with
          | true =>
            have HP := Lib.hid hp
            have HROW := Lib.hid (show rowP l g (j + 1) = true by rw [rowP_rest HAC.out HPR.out ho]; exact hp)
            clear hp
            go_upto_region 4 with (show wpList _ _ _ (Oper.mk (some 13) _ _ _ _ _ :: _) _ _; refine wpList_load_mid rfl 157 (.tmp 12) rfl b (o + (j + 1) * 4) rfl (accL ⟨c1, c2, c3, c4⟩) _ HAR.out Try.underlying157 rfl (info_accL _) ?_)
            rw [HVV.out]
            refine wp_region_inv (Ks V [.val (.int .i64 ((j + 1 : Nat) : Int)), .val (.bool true), .val (.bool true), .val (.slice (some ⟨b, o, none⟩) n c), .val (.int .i64 ((j + 1 : Nat) : Int)), .val (.int .i64 (j : Int)), .val (.pointer (some ⟨b, o + j * 4, none⟩)), .val (.pointer (some ⟨b, o + j * 4, none⟩)), .val (.int .i64 p1), .val (.pointer (some ⟨wr.heap.size, 0, none⟩)), .val (.int .i64 c1), .val (.bool false), .val (.bool false), .val (.bool false), .val (.slice (some ⟨b, o, none⟩) n c), .val (.agg (accL ⟨c1, c2, c3, c4⟩).toArray), .val (.bool g), .val (.bool true), .val (.bool false), .val (.bool false)])
              (fun w' => Below V.heap.size V w') (by kernel_rfl) (by kernel_rfl) (by kernel_rfl) (Below.refl _ _).drew ?_ ?_
            · refine ⟨?_, ?_, ?_, ?_, ?_, ?_, ?_, ?_, ?_, ?_, ?_, ?_, ?_, ?_, ?_, ?_, ?_, ?_, ?_, ?_, trivial⟩
              · intro listed A0 w2 hI hd hnd K hK
                have e0 := hI.slot hnd 5 _ rfl (by kernel_rfl)
                have hS := hI.world
                refine wanted_go rfl ?_
                clear hI hd hnd
                go_simp
                exact hK.out _ _ hS (Ks.of rfl rfl) (fun _ _ h => h)
              · intro listed A0 w2 hI hd hnd K hK
                have e0 := hI.depv hd 0 14 _ rfl rfl rfl (by kernel_rfl)
                have hS := hI.world
                refine wanted_go rfl ?_
                clear hI hd hnd
                go_simp
                exact hK.out _ _ hS (Ks.of rfl rfl) (fun _ _ h => h)
              · intro listed A0 w2 hI hd hnd K hK
                have e0 := hI.depv hd 1 15 _ rfl rfl rfl (by kernel_rfl)
                have hS := hI.world
                refine wanted_go rfl ?_
                clear hI hd hnd
                go_simp
                exact hK.out _ _ hS (Ks.of rfl rfl) (fun _ _ h => h)
              · intro listed A0 w2 hI hd hnd K hK
                have e0 := hI.slot hnd 0 _ rfl (by kernel_rfl)
                have hS := hI.world
                refine wanted_yes rfl (hI.yield hd 2 16 true rfl rfl rfl (by kernel_rfl)) ?_
                clear hI hd hnd
                go_simp
                exact hK.out _ _ hS (Ks.of rfl rfl) (fun _ _ h => h)
              · intro listed A0 w2 hI hd hnd K hK
                have e0 := hI.slot hnd 5 _ rfl (by kernel_rfl)
                have hS := hI.world
                refine wanted_yes rfl (hI.yield hd 2 16 true rfl rfl rfl (by kernel_rfl)) ?_
                clear hI hd hnd
                go_simp
                exact hK.out _ _ hS (Ks.of rfl rfl) (fun _ _ h => h)
              · intro listed A0 w2 hI hd hnd K hK
                have e0 := hI.depv hd 4 18 _ rfl rfl rfl (by kernel_rfl)
                have hS := hI.world
                refine wanted_yes rfl (hI.yield hd 2 16 true rfl rfl rfl (by kernel_rfl)) ?_
                clear hI hd hnd
                go_simp
                exact hK.out _ _ hS (Ks.of rfl (congrArg (Value.int .i64) HJW.out)) (fun _ _ h => h)
              · intro listed A0 w2 hI hd hnd K hK
                have e0 := hI.depv hd 3 17 _ rfl rfl rfl (by kernel_rfl)
                have e1 := hI.depv hd 5 19 _ rfl rfl rfl (by kernel_rfl)
                have hS := hI.world
                refine wanted_yes rfl (hI.yield hd 2 16 true rfl rfl rfl (by kernel_rfl)) ?_
                clear hI hd hnd
                go_simp
                exact hK.out _ _ hS (Ks.of rfl rfl) (fun _ _ h => h)
              · intro listed A0 w2 hI hd hnd K hK
                have e0 := hI.depv hd 6 20 _ rfl rfl rfl (by kernel_rfl)
                have hS := hI.world
                refine wanted_yes rfl (hI.yield hd 2 16 true rfl rfl rfl (by kernel_rfl)) ?_
                clear hI hd hnd
                go_simp
                exact hK.out _ _ hS (Ks.of rfl rfl) (fun _ _ h => h)
              · intro listed A0 w2 hI hd hnd K hK
                have e0 := hI.depv hd 7 21 _ rfl rfl rfl (by kernel_rfl)
                have hS := hI.world
                have hcc : w2.cell? ⟨b, o + j * 4, none⟩ = _ := (hS.cell (p := ⟨b, o + j * 4, none⟩) HBV.out).trans KP.out
                refine wanted_yes rfl (hI.yield hd 2 16 true rfl rfl rfl (by kernel_rfl)) ?_
                clear hI hd hnd
                go_simp
                exact hK.out _ _ hS (Ks.of rfl rfl) (fun _ _ h => h)
              · intro listed A0 w2 hI hd hnd K hK
                have e0 := hI.slot hnd 6 _ rfl (by kernel_rfl)
                have hS := hI.world
                refine wanted_yes rfl (hI.yield hd 2 16 true rfl rfl rfl (by kernel_rfl)) ?_
                clear hI hd hnd
                go_simp
                exact hK.out _ _ hS (Ks.of rfl rfl) (fun _ _ h => h)
              · intro listed A0 w2 hI hd hnd K hK
                have e0 := hI.depv hd 9 23 _ rfl rfl rfl (by kernel_rfl)
                have hS := hI.world
                have hcc : w2.cell? ⟨wr.heap.size, 0, none⟩ = _ := (hS.cell (p := ⟨wr.heap.size, 0, none⟩) HV6.out).trans K6.out
                refine wanted_yes rfl (hI.yield hd 2 16 true rfl rfl rfl (by kernel_rfl)) ?_
                clear hI hd hnd
                go_simp
                exact hK.out _ _ hS (Ks.of rfl rfl) (fun _ _ h => h)
              · intro listed A0 w2 hI hd hnd K hK
                have e0 := hI.depv hd 8 22 _ rfl rfl rfl (by kernel_rfl)
                have e1 := hI.depv hd 10 24 _ rfl rfl rfl (by kernel_rfl)
                have hS := hI.world
                refine wanted_yes rfl (hI.yield hd 2 16 true rfl rfl rfl (by kernel_rfl)) ?_
                clear hI hd hnd
                go_simp
                exact hK.out _ _ hS (Ks.of rfl rfl) (fun _ _ h => h)
              · intro listed A0 w2 hI hd hnd K hK
                have e0 := hI.depv hd 2 16 _ rfl rfl rfl (by kernel_rfl)
                have e1 := hI.depv hd 11 25 _ rfl rfl rfl (by kernel_rfl)
                have hS := hI.world
                refine wanted_go rfl ?_
                clear hI hd hnd
                go_simp
                exact hK.out _ _ hS (Ks.of rfl rfl) (fun _ _ h => h)
              · intro listed A0 w2 hI hd hnd K hK
                have e0 := hI.depv hd 12 26 _ rfl rfl rfl (by kernel_rfl)
                have hS := hI.world
                refine wanted_go rfl ?_
                clear hI hd hnd
                go_simp
                exact hK.out _ _ hS (Ks.of rfl rfl) (fun _ _ h => h)
              · intro listed A0 w2 hI hd hnd K hK
                have e0 := hI.slot hnd 0 _ rfl (by kernel_rfl)
                have hS := hI.world
                refine wanted_yes rfl (hI.yield hd 13 27 false rfl rfl rfl (by kernel_rfl)) ?_
                clear hI hd hnd
                go_simp
                exact hK.out _ _ hS (Ks.of rfl rfl) (fun _ _ h => h)
              · intro listed A0 w2 hI hd hnd K hK
                have e0 := hI.slot hnd 6 _ rfl (by kernel_rfl)
                have hS := hI.world
                have hrange := ((box_at (cs := accL ⟨c1, c2, c3, c4⟩) H6.out).fr (Fr.ofBelow hS)).range
                have hisize := info_accL ⟨c1, c2, c3, c4⟩
                refine wanted_yes rfl (hI.yield hd 13 27 false rfl rfl rfl (by kernel_rfl)) ?_
                clear hI hd hnd
                refine wp_load_mid 157 (.tmp 6) rfl _ _ (by simpa [Act.eval, Array.getD_eq_getD_getElem?] using e0) _ _ hrange Try.underlying157 rfl hisize ?_
                exact hK.out _ _ hS (Ks.of rfl rfl) (fun _ _ h => h)
              · intro listed A0 w2 hI hd hnd K hK
                have e0 := hI.slot hnd 1 _ rfl (by kernel_rfl)
                have hS := hI.world
                refine wanted_yes rfl (hI.yield hd 13 27 false rfl rfl rfl (by kernel_rfl)) ?_
                clear hI hd hnd
                go_simp
                exact hK.out _ _ hS (Ks.of rfl rfl) (fun _ _ h => h)
              · intro listed A0 w2 hI hd hnd K hK
                have e0 := hI.depv hd 14 28 _ rfl rfl rfl (by kernel_rfl)
                have e1 := hI.depv hd 15 29 _ rfl rfl rfl (by kernel_rfl)
                have e2 := hI.depv hd 16 30 _ rfl rfl rfl (by kernel_rfl)
                have hS := hI.world
                refine wanted_yes rfl (hI.yield hd 13 27 false rfl rfl rfl (by kernel_rfl)) ?_
                clear hI hd hnd
                go_simp
                go_at_call 190
                refine (proper_n l _ c n w2 HN.out (chart_keep HLV.out hS) HNN.out ⟨c1, c2, c3, c4⟩ g HAB.out HIN.out).mono ?_
                rintro e w3 ⟨rfl, h3⟩
                exact hK.out _ _ (hS.trans (h3.mono hS.size)) (Ks.of rfl (congrArg Value.bool HP.out)) (Ks.keep h3)
              · intro listed A0 w2 hI hd hnd K hK
                have e0 := hI.depv hd 17 31 _ rfl rfl rfl (by kernel_rfl)
                have hS := hI.world
                refine wanted_yes rfl (hI.yield hd 13 27 false rfl rfl rfl (by kernel_rfl)) ?_
                clear hI hd hnd
                go_simp
                exact hK.out _ _ hS (Ks.of rfl rfl) (fun _ _ h => h)
              · intro listed A0 w2 hI hd hnd K hK
                have e0 := hI.depv hd 13 27 _ rfl rfl rfl (by kernel_rfl)
                have e1 := hI.depv hd 18 32 _ rfl rfl rfl (by kernel_rfl)
                have hS := hI.world
                refine wanted_go rfl ?_
                clear hI hd hnd
                go_simp
                exact hK.out _ _ hS (Ks.of rfl rfl) (fun _ _ h => h)
            · intro listed A0 w2 hI hall
              obtain ⟨x0, g0, h0⟩ := hI.got 0 _ 14 rfl rfl (hall 0 (by decide))
              obtain ⟨x1, g1, h1⟩ := hI.got 1 _ 15 rfl rfl (hall 1 (by decide))
              obtain ⟨x2, g2, h2⟩ := hI.got 2 _ 16 rfl rfl (hall 2 (by decide))
              obtain ⟨x3, g3, h3⟩ := hI.got 3 _ 17 rfl rfl (hall 3 (by decide))
              obtain ⟨x4, g4, h4⟩ := hI.got 4 _ 18 rfl rfl (hall 4 (by decide))
              obtain ⟨x5, g5, h5⟩ := hI.got 5 _ 19 rfl rfl (hall 5 (by decide))
              obtain ⟨x6, g6, h6⟩ := hI.got 6 _ 20 rfl rfl (hall 6 (by decide))
              obtain ⟨x7, g7, h7⟩ := hI.got 7 _ 21 rfl rfl (hall 7 (by decide))
              obtain ⟨x8, g8, h8⟩ := hI.got 8 _ 22 rfl rfl (hall 8 (by decide))
              obtain ⟨x9, g9, h9⟩ := hI.got 9 _ 23 rfl rfl (hall 9 (by decide))
              obtain ⟨x10, g10, h10⟩ := hI.got 10 _ 24 rfl rfl (hall 10 (by decide))
              obtain ⟨x11, g11, h11⟩ := hI.got 11 _ 25 rfl rfl (hall 11 (by decide))
              obtain ⟨x12, g12, h12⟩ := hI.got 12 _ 26 rfl rfl (hall 12 (by decide))
              obtain ⟨x13, g13, h13⟩ := hI.got 13 _ 27 rfl rfl (hall 13 (by decide))
              obtain ⟨x14, g14, h14⟩ := hI.got 14 _ 28 rfl rfl (hall 14 (by decide))
              obtain ⟨x15, g15, h15⟩ := hI.got 15 _ 29 rfl rfl (hall 15 (by decide))
              obtain ⟨x16, g16, h16⟩ := hI.got 16 _ 30 rfl rfl (hall 16 (by decide))
              obtain ⟨x17, g17, h17⟩ := hI.got 17 _ 31 rfl rfl (hall 17 (by decide))
              obtain ⟨x18, g18, h18⟩ := hI.got 18 _ 32 rfl rfl (hall 18 (by decide))
              obtain ⟨x19, g19, h19⟩ := hI.got 19 _ 33 rfl rfl (hall 19 (by decide))
              have hS := hI.world
              have hA : A0 = _ := hI.tmps [(14, x0), (15, x1), (16, x2), (17, x3), (18, x4), (19, x5), (20, x6), (21, x7), (22, x8), (23, x9), (24, x10), (25, x11), (26, x12), (27, x13), (28, x14), (29, x15), (30, x16), (31, x17), (32, x18), (33, x19)] (by simp only [List.mem_cons, List.not_mem_nil, or_false, forall_eq_or_imp, forall_eq]; exact ⟨g0, g1, g2, g3, g4, g5, g6, g7, g8, g9, g10, g11, g12, g13, g14, g15, g16, g17, g18, g19⟩) (by kernel_rfl)
              obtain rfl : x19 = .bool false := h19 _ rfl
              clear h0 g0 h1 g1 h2 g2 h3 g3 h4 g4 h5 g5 h6 g6 h7 g7 h8 g8 h9 g9 h10 g10 h11 g11 h12 g12 h13 g13 h14 g14 h15 g15 h16 g16 h17 g17 h18 g18 h19 g19 hI hall
              simp only [setAll, List.foldl, List.setIfInBounds_toArray, List.set_cons_zero, List.set_cons_succ] at hA
              rw [hA]
              clear hA
              go_wp2_with fail
              go_roundw
              case rel => exact ⟨j + 1 + 1, by omega, by go_num, hwV.trans (hS.mono hwV.size), fun i hi => by
                rcases Nat.lt_or_ge i (j + 1) with h | h
                · exact HA.out i h
                · have : i = j + 1 := by omega
                  subst this
                  exact HROW.out⟩
              case measure =>
                have e : wrap64 ((((j + 1 : Nat) : Int) : Int) + 1) = ((j + 1 + 1 : Nat) : Int) := by unfold wrap64; omega
                simp only [intOf, e]
                omega

          | false =>
            have HP := Lib.hid hp
            have hf := Lib.hid (show r = false by rw [← HR.out]; unfold chartB; rw [all_range_false hkl (by rw [rowP_rest HAC.out HPR.out ho]; exact hp)]; rfl)
            clear hp
            go_upto_region 4 with (show wpList _ _ _ (Oper.mk (some 13) _ _ _ _ _ :: _) _ _; refine wpList_load_mid rfl 157 (.tmp 12) rfl b (o + (j + 1) * 4) rfl (accL ⟨c1, c2, c3, c4⟩) _ HAR.out Try.underlying157 rfl (info_accL _) ?_)
            rw [HVV.out]
            refine wp_region_inv (Ks V [.val (.int .i64 ((j + 1 : Nat) : Int)), .val (.bool true), .val (.bool true), .val (.slice (some ⟨b, o, none⟩) n c), .val (.int .i64 ((j + 1 : Nat) : Int)), .val (.int .i64 (j : Int)), .val (.pointer (some ⟨b, o + j * 4, none⟩)), .val (.pointer (some ⟨b, o + j * 4, none⟩)), .val (.int .i64 p1), .val (.pointer (some ⟨wr.heap.size, 0, none⟩)), .val (.int .i64 c1), .val (.bool false), .val (.bool false), .val (.bool false), .val (.slice (some ⟨b, o, none⟩) n c), .val (.agg (accL ⟨c1, c2, c3, c4⟩).toArray), .val (.bool g), .val (.bool false), .val (.bool true), .val (.bool true)])
              (fun w' => Below V.heap.size V w') (by kernel_rfl) (by kernel_rfl) (by kernel_rfl) (Below.refl _ _).drew ?_ ?_
            · refine ⟨?_, ?_, ?_, ?_, ?_, ?_, ?_, ?_, ?_, ?_, ?_, ?_, ?_, ?_, ?_, ?_, ?_, ?_, ?_, ?_, trivial⟩
              · intro listed A0 w2 hI hd hnd K hK
                have e0 := hI.slot hnd 5 _ rfl (by kernel_rfl)
                have hS := hI.world
                refine wanted_go rfl ?_
                clear hI hd hnd
                go_simp
                exact hK.out _ _ hS (Ks.of rfl rfl) (fun _ _ h => h)
              · intro listed A0 w2 hI hd hnd K hK
                have e0 := hI.depv hd 0 14 _ rfl rfl rfl (by kernel_rfl)
                have hS := hI.world
                refine wanted_go rfl ?_
                clear hI hd hnd
                go_simp
                exact hK.out _ _ hS (Ks.of rfl rfl) (fun _ _ h => h)
              · intro listed A0 w2 hI hd hnd K hK
                have e0 := hI.depv hd 1 15 _ rfl rfl rfl (by kernel_rfl)
                have hS := hI.world
                refine wanted_go rfl ?_
                clear hI hd hnd
                go_simp
                exact hK.out _ _ hS (Ks.of rfl rfl) (fun _ _ h => h)
              · intro listed A0 w2 hI hd hnd K hK
                have e0 := hI.slot hnd 0 _ rfl (by kernel_rfl)
                have hS := hI.world
                refine wanted_yes rfl (hI.yield hd 2 16 true rfl rfl rfl (by kernel_rfl)) ?_
                clear hI hd hnd
                go_simp
                exact hK.out _ _ hS (Ks.of rfl rfl) (fun _ _ h => h)
              · intro listed A0 w2 hI hd hnd K hK
                have e0 := hI.slot hnd 5 _ rfl (by kernel_rfl)
                have hS := hI.world
                refine wanted_yes rfl (hI.yield hd 2 16 true rfl rfl rfl (by kernel_rfl)) ?_
                clear hI hd hnd
                go_simp
                exact hK.out _ _ hS (Ks.of rfl rfl) (fun _ _ h => h)
              · intro listed A0 w2 hI hd hnd K hK
                have e0 := hI.depv hd 4 18 _ rfl rfl rfl (by kernel_rfl)
                have hS := hI.world
                refine wanted_yes rfl (hI.yield hd 2 16 true rfl rfl rfl (by kernel_rfl)) ?_
                clear hI hd hnd
                go_simp
                exact hK.out _ _ hS (Ks.of rfl (congrArg (Value.int .i64) HJW.out)) (fun _ _ h => h)
              · intro listed A0 w2 hI hd hnd K hK
                have e0 := hI.depv hd 3 17 _ rfl rfl rfl (by kernel_rfl)
                have e1 := hI.depv hd 5 19 _ rfl rfl rfl (by kernel_rfl)
                have hS := hI.world
                refine wanted_yes rfl (hI.yield hd 2 16 true rfl rfl rfl (by kernel_rfl)) ?_
                clear hI hd hnd
                go_simp
                exact hK.out _ _ hS (Ks.of rfl rfl) (fun _ _ h => h)
              · intro listed A0 w2 hI hd hnd K hK
                have e0 := hI.depv hd 6 20 _ rfl rfl rfl (by kernel_rfl)
                have hS := hI.world
                refine wanted_yes rfl (hI.yield hd 2 16 true rfl rfl rfl (by kernel_rfl)) ?_
                clear hI hd hnd
                go_simp
                exact hK.out _ _ hS (Ks.of rfl rfl) (fun _ _ h => h)
              · intro listed A0 w2 hI hd hnd K hK
                have e0 := hI.depv hd 7 21 _ rfl rfl rfl (by kernel_rfl)
                have hS := hI.world
                have hcc : w2.cell? ⟨b, o + j * 4, none⟩ = _ := (hS.cell (p := ⟨b, o + j * 4, none⟩) HBV.out).trans KP.out
                refine wanted_yes rfl (hI.yield hd 2 16 true rfl rfl rfl (by kernel_rfl)) ?_
                clear hI hd hnd
                go_simp
                exact hK.out _ _ hS (Ks.of rfl rfl) (fun _ _ h => h)
              · intro listed A0 w2 hI hd hnd K hK
                have e0 := hI.slot hnd 6 _ rfl (by kernel_rfl)
                have hS := hI.world
                refine wanted_yes rfl (hI.yield hd 2 16 true rfl rfl rfl (by kernel_rfl)) ?_
                clear hI hd hnd
                go_simp
                exact hK.out _ _ hS (Ks.of rfl rfl) (fun _ _ h => h)
              · intro listed A0 w2 hI hd hnd K hK
                have e0 := hI.depv hd 9 23 _ rfl rfl rfl (by kernel_rfl)
                have hS := hI.world
                have hcc : w2.cell? ⟨wr.heap.size, 0, none⟩ = _ := (hS.cell (p := ⟨wr.heap.size, 0, none⟩) HV6.out).trans K6.out
                refine wanted_yes rfl (hI.yield hd 2 16 true rfl rfl rfl (by kernel_rfl)) ?_
                clear hI hd hnd
                go_simp
                exact hK.out _ _ hS (Ks.of rfl rfl) (fun _ _ h => h)
              · intro listed A0 w2 hI hd hnd K hK
                have e0 := hI.depv hd 8 22 _ rfl rfl rfl (by kernel_rfl)
                have e1 := hI.depv hd 10 24 _ rfl rfl rfl (by kernel_rfl)
                have hS := hI.world
                refine wanted_yes rfl (hI.yield hd 2 16 true rfl rfl rfl (by kernel_rfl)) ?_
                clear hI hd hnd
                go_simp
                exact hK.out _ _ hS (Ks.of rfl rfl) (fun _ _ h => h)
              · intro listed A0 w2 hI hd hnd K hK
                have e0 := hI.depv hd 2 16 _ rfl rfl rfl (by kernel_rfl)
                have e1 := hI.depv hd 11 25 _ rfl rfl rfl (by kernel_rfl)
                have hS := hI.world
                refine wanted_go rfl ?_
                clear hI hd hnd
                go_simp
                exact hK.out _ _ hS (Ks.of rfl rfl) (fun _ _ h => h)
              · intro listed A0 w2 hI hd hnd K hK
                have e0 := hI.depv hd 12 26 _ rfl rfl rfl (by kernel_rfl)
                have hS := hI.world
                refine wanted_go rfl ?_
                clear hI hd hnd
                go_simp
                exact hK.out _ _ hS (Ks.of rfl rfl) (fun _ _ h => h)
              · intro listed A0 w2 hI hd hnd K hK
                have e0 := hI.slot hnd 0 _ rfl (by kernel_rfl)
                have hS := hI.world
                refine wanted_yes rfl (hI.yield hd 13 27 false rfl rfl rfl (by kernel_rfl)) ?_
                clear hI hd hnd
                go_simp
                exact hK.out _ _ hS (Ks.of rfl rfl) (fun _ _ h => h)
              · intro listed A0 w2 hI hd hnd K hK
                have e0 := hI.slot hnd 6 _ rfl (by kernel_rfl)
                have hS := hI.world
                have hrange := ((box_at (cs := accL ⟨c1, c2, c3, c4⟩) H6.out).fr (Fr.ofBelow hS)).range
                have hisize := info_accL ⟨c1, c2, c3, c4⟩
                refine wanted_yes rfl (hI.yield hd 13 27 false rfl rfl rfl (by kernel_rfl)) ?_
                clear hI hd hnd
                refine wp_load_mid 157 (.tmp 6) rfl _ _ (by simpa [Act.eval, Array.getD_eq_getD_getElem?] using e0) _ _ hrange Try.underlying157 rfl hisize ?_
                exact hK.out _ _ hS (Ks.of rfl rfl) (fun _ _ h => h)
              · intro listed A0 w2 hI hd hnd K hK
                have e0 := hI.slot hnd 1 _ rfl (by kernel_rfl)
                have hS := hI.world
                refine wanted_yes rfl (hI.yield hd 13 27 false rfl rfl rfl (by kernel_rfl)) ?_
                clear hI hd hnd
                go_simp
                exact hK.out _ _ hS (Ks.of rfl rfl) (fun _ _ h => h)
              · intro listed A0 w2 hI hd hnd K hK
                have e0 := hI.depv hd 14 28 _ rfl rfl rfl (by kernel_rfl)
                have e1 := hI.depv hd 15 29 _ rfl rfl rfl (by kernel_rfl)
                have e2 := hI.depv hd 16 30 _ rfl rfl rfl (by kernel_rfl)
                have hS := hI.world
                refine wanted_yes rfl (hI.yield hd 13 27 false rfl rfl rfl (by kernel_rfl)) ?_
                clear hI hd hnd
                go_simp
                go_at_call 190
                refine (proper_n l _ c n w2 HN.out (chart_keep HLV.out hS) HNN.out ⟨c1, c2, c3, c4⟩ g HAB.out HIN.out).mono ?_
                rintro e w3 ⟨rfl, h3⟩
                exact hK.out _ _ (hS.trans (h3.mono hS.size)) (Ks.of rfl (congrArg Value.bool HP.out)) (Ks.keep h3)
              · intro listed A0 w2 hI hd hnd K hK
                have e0 := hI.depv hd 17 31 _ rfl rfl rfl (by kernel_rfl)
                have hS := hI.world
                refine wanted_yes rfl (hI.yield hd 13 27 false rfl rfl rfl (by kernel_rfl)) ?_
                clear hI hd hnd
                go_simp
                exact hK.out _ _ hS (Ks.of rfl rfl) (fun _ _ h => h)
              · intro listed A0 w2 hI hd hnd K hK
                have e0 := hI.depv hd 13 27 _ rfl rfl rfl (by kernel_rfl)
                have e1 := hI.depv hd 18 32 _ rfl rfl rfl (by kernel_rfl)
                have hS := hI.world
                refine wanted_go rfl ?_
                clear hI hd hnd
                go_simp
                exact hK.out _ _ hS (Ks.of rfl rfl) (fun _ _ h => h)
            · intro listed A0 w2 hI hall
              obtain ⟨x0, g0, h0⟩ := hI.got 0 _ 14 rfl rfl (hall 0 (by decide))
              obtain ⟨x1, g1, h1⟩ := hI.got 1 _ 15 rfl rfl (hall 1 (by decide))
              obtain ⟨x2, g2, h2⟩ := hI.got 2 _ 16 rfl rfl (hall 2 (by decide))
              obtain ⟨x3, g3, h3⟩ := hI.got 3 _ 17 rfl rfl (hall 3 (by decide))
              obtain ⟨x4, g4, h4⟩ := hI.got 4 _ 18 rfl rfl (hall 4 (by decide))
              obtain ⟨x5, g5, h5⟩ := hI.got 5 _ 19 rfl rfl (hall 5 (by decide))
              obtain ⟨x6, g6, h6⟩ := hI.got 6 _ 20 rfl rfl (hall 6 (by decide))
              obtain ⟨x7, g7, h7⟩ := hI.got 7 _ 21 rfl rfl (hall 7 (by decide))
              obtain ⟨x8, g8, h8⟩ := hI.got 8 _ 22 rfl rfl (hall 8 (by decide))
              obtain ⟨x9, g9, h9⟩ := hI.got 9 _ 23 rfl rfl (hall 9 (by decide))
              obtain ⟨x10, g10, h10⟩ := hI.got 10 _ 24 rfl rfl (hall 10 (by decide))
              obtain ⟨x11, g11, h11⟩ := hI.got 11 _ 25 rfl rfl (hall 11 (by decide))
              obtain ⟨x12, g12, h12⟩ := hI.got 12 _ 26 rfl rfl (hall 12 (by decide))
              obtain ⟨x13, g13, h13⟩ := hI.got 13 _ 27 rfl rfl (hall 13 (by decide))
              obtain ⟨x14, g14, h14⟩ := hI.got 14 _ 28 rfl rfl (hall 14 (by decide))
              obtain ⟨x15, g15, h15⟩ := hI.got 15 _ 29 rfl rfl (hall 15 (by decide))
              obtain ⟨x16, g16, h16⟩ := hI.got 16 _ 30 rfl rfl (hall 16 (by decide))
              obtain ⟨x17, g17, h17⟩ := hI.got 17 _ 31 rfl rfl (hall 17 (by decide))
              obtain ⟨x18, g18, h18⟩ := hI.got 18 _ 32 rfl rfl (hall 18 (by decide))
              obtain ⟨x19, g19, h19⟩ := hI.got 19 _ 33 rfl rfl (hall 19 (by decide))
              have hS := hI.world
              have hA : A0 = _ := hI.tmps [(14, x0), (15, x1), (16, x2), (17, x3), (18, x4), (19, x5), (20, x6), (21, x7), (22, x8), (23, x9), (24, x10), (25, x11), (26, x12), (27, x13), (28, x14), (29, x15), (30, x16), (31, x17), (32, x18), (33, x19)] (by simp only [List.mem_cons, List.not_mem_nil, or_false, forall_eq_or_imp, forall_eq]; exact ⟨g0, g1, g2, g3, g4, g5, g6, g7, g8, g9, g10, g11, g12, g13, g14, g15, g16, g17, g18, g19⟩) (by kernel_rfl)
              obtain rfl : x19 = .bool true := h19 _ rfl
              clear h0 g0 h1 g1 h2 g2 h3 g3 h4 g4 h5 g5 h6 g6 h7 g7 h8 g8 h9 g9 h10 g10 h11 g11 h12 g12 h13 g13 h14 g14 h15 g15 h16 g16 h17 g17 h18 g18 h19 g19 hI hall
              simp only [setAll, List.foldl, List.setIfInBounds_toArray, List.set_cons_zero, List.set_cons_succ] at hA
              rw [hA]
              clear hA
              go_wp2_with fail
              go_ret
              exact ⟨by rw [hf.out]; first | done | rfl, hwV.trans (hS.mono hwV.size)⟩

    case neg =>
      have hltI : ¬ (k : Int) < (n : Int) := by omega
      have hall : (List.range l.length).all (rowP l g) = true := all_range_true (fun j hj => HA.out j (by have := HN.out; omega))
      have HF := Lib.hid (show r = decide (n ≤ 200) by rw [← HR.out]; unfold chartB; rw [hall, HN.out]; rfl)
      clear hall
      by_cases h2 : n ≤ 200
      · have h2I : (n : Int) ≤ 200 := by omega
        have hf := Lib.hid (show r = true by rw [HF.out]; exact decide_eq_true h2)
        go_wp2_with fail
        go_ret
        exact ⟨by rw [hf.out]; first | done | rfl, hb⟩
      · have h2I : ¬ (n : Int) ≤ 200 := by omega
        have hf := Lib.hid (show r = false by rw [HF.out]; exact decide_eq_false h2)
        go_wp2_with fail
        go_ret
        exact ⟨by rw [hf.out]; first | done | rfl, hb⟩
end Go.Proofs.Ytnigokmjehemaaa
