/- Regions that draw their order, by an invariant. Written by gen_b14.py. -/
import Derived.Test.YtekelchdbkjjjaaGreatG20xB0B2
import Derived.Test.YtekelchdbkjjjaaGreatG20xB3B8
import Derived.Deep.RegionHeld3
set_option linter.unusedVariables false
set_option linter.unusedSimpArgs false
namespace Go.Proofs.YtekelchdbkjjjaaGreat
open Go Go.RowKit
/-! A REGION THAT DRAWS ITS ORDER, BY AN INVARIANT: one goal for each operation, whatever the order. -/
def Done (listed : Array Bool) (i : Nat) : Prop := listed.getD i false = true
structure Inv (md : Region.Mode) (ops : Array Oper) (V : Nat → Value → World → Prop) (S : World → Prop) (a0 : Act) (listed : Array Bool) (a : Act) (w : World) : Prop where
 lsize : listed.size = ops.size
 world : S w
 defers : a.defers = a0.defers
 size : a.tmps.size = a0.tmps.size
 closed : ∀ i o, ops[i]? = some o → Done listed i → ∀ e ∈ o.after, Region.binds md e = true → Done listed e.on
 got : ∀ i o d, ops[i]? = some o → o.dst = some d → Done listed i → ∃ v, a.tmps[d]? = some v ∧ V i v w
 old : ∀ j, (∀ i o, ops[i]? = some o → o.dst = some j → ¬ Done listed i) → a.tmps[j]? = a0.tmps[j]?
theorem Done.set {listed : Array Bool} {i j : Nat} (h : Done listed j) : Done (listed.setIfInBounds i true) j := by
 unfold Done at *
 by_cases hij : i = j
 · subst hij
   by_cases hs : i < listed.size
   · simp [Array.getD_eq_getD_getElem?, hs]
   · simp [Array.getD_eq_getD_getElem?, hs] at h
 · simpa [Array.getD_eq_getD_getElem?, Array.getElem?_setIfInBounds, hij] using h
theorem Done.new {listed : Array Bool} {i : Nat} (h : i < listed.size) : Done (listed.setIfInBounds i true) i := by
 simp [Done, Array.getD_eq_getD_getElem?, h]
theorem Done.inv {listed : Array Bool} {i j : Nat} (h : Done (listed.setIfInBounds i true) j) : j = i ∨ Done listed j := by
 by_cases hij : i = j
 · exact .inl hij.symm
 · refine .inr ?_
   unfold Done at *
   simpa [Array.getD_eq_getD_getElem?, Array.getElem?_setIfInBounds, hij] using h
theorem getD_tf {listed : Array Bool} {i : Nat} (h : i < listed.size) : listed.getD i true = listed.getD i false := by
 simp [Array.getD_eq_getD_getElem?, h]
theorem all_done {md : Region.Mode} {ops : Array Oper} {listed : Array Bool} (hl : listed.size = ops.size)
 (hord : ∀ (i : Nat) (o : Oper), ops[i]? = some o → ∀ e ∈ o.after, e.on < i) (h : Region.ready md ops listed = []) : ∀ n i, i < n → i < ops.size → Done listed i
 | 0, i, hi, _ => absurd hi (by omega)
 | n + 1, i, hi, hs => by
  have ih := all_done hl hord h n
  have hmem : i ∉ Region.ready md ops listed := by rw [h]; simp
  rw [mem_ready] at hmem
  have hd : Done listed i ∨ listed.getD i true = false := by
   rw [getD_tf (by omega)]
   unfold Done
   cases listed.getD i false <;> simp
  rcases hd with hd | hd
  · exact hd
  · refine absurd ⟨hd, ops[i], Array.getElem?_eq_getElem hs, fun e he _ => ?_⟩ hmem
    have := hord i ops[i] (Array.getElem?_eq_getElem hs) e he
    exact ih e.on (by omega) (by omega)
def left (n : Nat) (listed : Array Bool) : Nat := ((List.range n).filter fun i => !listed.getD i true).length
theorem left_set {n i : Nat} {listed : Array Bool} (hs : listed.size = n) (hi : i < n) (hf : listed.getD i true = false) : left n (listed.setIfInBounds i true) + 1 ≤ left n listed := by
 unfold left
 have key : ∀ (l : List Nat), l.Nodup → i ∈ l → ((l.filter fun j => !(listed.setIfInBounds i true).getD j true).length + 1 ≤ (l.filter fun j => !listed.getD j true).length) := by
  intro l
  induction l with
  | nil => intro _ h; cases h
  | cons x l ih =>
   intro hn hm
   rw [List.nodup_cons] at hn
   by_cases hx : x = i
   · subst hx
     have e1 : (listed.setIfInBounds x true).getD x true = true := by simp [Array.getD_eq_getD_getElem?, hs, hi]
     have e2 : ∀ (m : List Nat), x ∉ m → m.filter (fun j => !(listed.setIfInBounds x true).getD j true) = m.filter (fun j => !listed.getD j true) := by
      intro m hm2
      refine List.filter_congr fun j hj => ?_
      have hne : x ≠ j := fun e => hm2 (e ▸ hj)
      simp [Array.getD_eq_getD_getElem?, hne]
     rw [List.filter_cons_of_neg (by simp [e1]), List.filter_cons_of_pos (by simp [hf]), e2 l hn.1]
     simp
   · have hm2 : i ∈ l := by
      rcases List.mem_cons.1 hm with h | h
      · exact absurd h.symm hx
      · exact h
     have ih2 := ih hn.2 hm2
     have hne : i ≠ x := fun e => hx e.symm
     have e1 : (listed.setIfInBounds i true).getD x true = listed.getD x true := by
      simp [Array.getD_eq_getD_getElem?, hne]
     by_cases hb : listed.getD x true = true
     · rw [List.filter_cons_of_neg (by rw [e1]; simp [hb]), List.filter_cons_of_neg (by simp [hb])]
       exact ih2
     · have hb2 : listed.getD x true = false := by simpa using hb
       rw [List.filter_cons_of_pos (by rw [e1]; simp [hb2]), List.filter_cons_of_pos (by simp [hb2])]
       simp only [List.length_cons]
       omega
 exact key _ List.nodup_range (List.mem_range.2 hi)
theorem wpAny_inv {P : Program} {md : Region.Mode} {ops : Array Oper} {Q : Exit → Act → World → Prop} {V : Nat → Value → World → Prop} {S : World → Prop} {a0 : Act}
 (hord : ∀ (i : Nat) (o : Oper), ops[i]? = some o → ∀ e ∈ o.after, e.on < i)
 (hdst : ∀ (i j : Nat) (oi oj : Oper) (d : Nat), ops[i]? = some oi → ops[j]? = some oj → oi.dst = some d → oj.dst = some d → i = j)
 (hlt : ∀ (i : Nat) (o : Oper) (d : Nat), ops[i]? = some o → o.dst = some d → d < a0.tmps.size)
 (hstep : ∀ i o, ops[i]? = some o → ∀ listed a w, Inv md ops V S a0 listed a w → (∀ e ∈ o.after, Region.binds md e = true → Done listed e.on) → ¬ Done listed i →
  ∀ K : Act → World → Prop, (∀ v w', S w' → V i v w' → (∀ j u, V j u w → V j u w') → K (a.put o.dst v) w') → if Region.wanted o (yielded ops a.tmps) = true then o.wp P a w K Q else K (a.put o.dst undef) w)
 (hend : ∀ listed a w, Inv md ops V S a0 listed a w → (∀ i, i < ops.size → Done listed i) → Q .normal a w) :
 ∀ fuel listed a w, Inv md ops V S a0 listed a w → left ops.size listed ≤ fuel → wpAny P md ops Q fuel listed a w
 | 0, listed, a, w, hI, hf => by
  have hr : Region.ready md ops listed = [] := by
   rw [List.eq_nil_iff_forall_not_mem]
   intro i hi
   obtain ⟨h1, o, h2, _⟩ := mem_ready.1 hi
   have := left_set hI.lsize (Array.getElem?_eq_some_iff.1 h2).1 h1
   omega
  exact ⟨hr, hend listed a w hI (fun i hi => all_done hI.lsize hord hr (i + 1) i (by omega) hi)⟩
 | fuel + 1, listed, a, w, hI, hf => by
  refine ⟨fun hr => hend listed a w hI (fun i hi => all_done hI.lsize hord hr (i + 1) i (by omega) hi), fun i hi => ?_⟩
  obtain ⟨h1, o, h2, h3⟩ := mem_ready.1 hi
  have hsz : i < ops.size := (Array.getElem?_eq_some_iff.1 h2).1
  have hnd : ¬ Done listed i := by
   unfold Done
   rw [← getD_tf (by rw [hI.lsize]; exact hsz), h1]
   simp
  refine wpOp_step h2 (fun K hK => hstep i o h2 listed a w hI h3 hnd K (fun v w' hS hv hst => hK _ _ ?_))
  refine wpAny_inv hord hdst hlt hstep hend fuel _ _ _ ?_ ?_
  · refine ⟨by simpa using hI.lsize, hS, ?_, ?_, ?_, ?_, ?_⟩
    · cases o.dst <;> exact hI.defers
    · cases ho : o.dst <;> simp [Act.put, hI.size]
    · intro j oj hj hd e he hb
      rcases hd.inv with rfl | hd
      · rw [h2] at hj
        cases hj
        exact Done.set (h3 e he hb)
      · exact Done.set (hI.closed j oj hj hd e he hb)
    · intro j oj d hj hjd hd
      by_cases hji : j = i
      · subst hji
        rw [h2] at hj
        cases hj
        refine ⟨v, ?_, hv⟩
        have := hlt j o d h2 hjd
        simp [Act.put, hjd, hI.size, this]
      · rcases hd.inv with h | hd
        · exact absurd h hji
        · obtain ⟨u, hu, hV⟩ := hI.got j oj d hj hjd hd
          refine ⟨u, ?_, hst j u hV⟩
          cases ho : o.dst with
          | none => simpa [Act.put, ho] using hu
          | some d' =>
           have hne : d' ≠ d := fun e => hji (hdst j i oj o d hj h2 hjd (by rw [ho, e]))
           simpa [Act.put, Array.getElem?_setIfInBounds, hne] using hu
    · intro j hj
      have h4 := hI.old j (fun k ok hk hkd hd => hj k ok hk hkd hd.set)
      cases ho : o.dst with
      | none => simpa [Act.put] using h4
      | some d' =>
       have hne : d' ≠ j := fun e => hj i o h2 (by rw [ho, e]) (Done.new (by rw [hI.lsize]; exact hsz))
       simpa [Act.put, Array.getElem?_setIfInBounds, hne] using h4
  · have := left_set hI.lsize hsz h1
    omega
def ordB (ops : Array Oper) : Bool := (List.range ops.size).all fun i => match ops[i]? with
 | some o => o.after.toList.all fun e => decide (e.on < i)
 | none => true
def dstB (ops : Array Oper) (n : Nat) : Bool := (List.range ops.size).all fun i => match ops[i]? with
 | some o => (match o.dst with
  | some d => decide (d < n) && (List.range ops.size).all fun j => i == j || (match ops[j]? with
   | some oj => oj.dst != some d
   | none => true)
  | none => true)
 | none => true
theorem ordB_spec {ops : Array Oper} (h : ordB ops = true) (i : Nat) (o : Oper) (ho : ops[i]? = some o) : ∀ e ∈ o.after, e.on < i := by
 intro e he
 simp only [ordB, List.all_eq_true, List.mem_range] at h
 have := h i (Array.getElem?_eq_some_iff.1 ho).1
 rw [ho] at this
 simp only [List.all_eq_true, decide_eq_true_eq] at this
 exact this e (by simpa using he)
theorem dstB_spec {ops : Array Oper} {n : Nat} (h : dstB ops n = true) (i : Nat) (o : Oper) (d : Nat) (ho : ops[i]? = some o) (hd : o.dst = some d) :
 d < n ∧ ∀ (j : Nat) (oj : Oper), ops[j]? = some oj → oj.dst = some d → i = j := by
 simp only [dstB, List.all_eq_true, List.mem_range] at h
 have := h i (Array.getElem?_eq_some_iff.1 ho).1
 rw [ho] at this
 simp only [hd, Bool.and_eq_true, decide_eq_true_eq, List.all_eq_true, List.mem_range, Bool.or_eq_true, beq_iff_eq] at this
 refine ⟨this.1, fun j oj hj hjd => ?_⟩
 rcases this.2 j (Array.getElem?_eq_some_iff.1 hj).1 with h | h
 · exact h
 · rw [hj] at h
   simp [hjd] at h
def AllOps (P : Nat → Oper → Prop) : Nat → List Oper → Prop
 | _, [] => True
 | k, o :: l => P k o ∧ AllOps P (k + 1) l
theorem AllOps.get {P : Nat → Oper → Prop} : ∀ {k : Nat} {l : List Oper} {i : Nat} {o : Oper}, AllOps P k l → l[i]? = some o → P (k + i) o
 | _, [], _, _, _, h => by simp at h
 | k, x :: l, 0, o, h, ho => by
  simp at ho
  subst ho
  exact h.1
 | k, x :: l, i + 1, o, h, ho => by
  have := AllOps.get (k := k + 1) (i := i) h.2 (by simpa using ho)
  rwa [show k + (i + 1) = k + 1 + i from by omega]
def OpStep (P : Program) (md : Region.Mode) (ops : Array Oper) (Q : Exit → Act → World → Prop) (V : Nat → Value → World → Prop) (S : World → Prop) (a0 : Act) (i : Nat) (o : Oper) : Prop :=
 ∀ listed a w, Inv md ops V S a0 listed a w → (∀ e ∈ o.after, Region.binds md e = true → Done listed e.on) → ¬ Done listed i →
  ∀ K : Act → World → Prop, Shut (∀ v w', S w' → V i v w' → (∀ j u, V j u w → V j u w') → K (a.put o.dst v) w') → if Region.wanted o (yielded ops a.tmps) = true then o.wp P a w K Q else K (a.put o.dst undef) w
theorem wp_region_inv {P : Program} {ops : Array Oper} {Q : Exit → Act → World → Prop} (V : Nat → Value → World → Prop) (S : World → Prop) {id : Nat} {a : Act} {w : World}
 (hm : P.follows .mixedOrders = true) (ho : ordB ops = true) (hd : dstB ops a.tmps.size = true) (hS : S w.drew)
 (hstep : AllOps (OpStep P .any ops Q V S a) 0 ops.toList)
 (hend : ∀ listed a' w', Inv .any ops V S a listed a' w' → (∀ i, i < ops.size → Done listed i) → Q .normal a' w') : (Code.region id ops true).wp P Q a w := by
 refine wp_region_any hm (wpAny_inv (V := V) (S := S) (a0 := a) (ordB_spec ho) (fun i j oi oj d hi hj hid hjd => (dstB_spec hd i oi d hi hid).2 j oj hj hjd) (fun i o d hi hid => (dstB_spec hd i o d hi hid).1)
  (fun i o hi listed a' w' hI hdn hnd K hK => ?_) hend _ _ _ _ ?_ ?_)
 · have := AllOps.get hstep (i := i) (o := o) (by simpa using hi)
   rw [Nat.zero_add] at this
   exact this listed a' w' hI hdn hnd K hK
 · have hno : ∀ i, ¬ Done (Array.replicate ops.size false) i := fun i h => by
    unfold Done at h
    by_cases hi : i < ops.size <;> simp [Array.getD_eq_getD_getElem?, hi] at h
   exact ⟨by simp, hS, rfl, rfl, fun i _ _ h => absurd h (hno i), fun i _ _ _ _ h => absurd h (hno i), fun _ _ => rfl⟩
 · unfold left
   exact Nat.le_trans (List.length_filter_le _ _) (by simp)
section
variable {md : Region.Mode} {ops : Array Oper} {V : Nat → Value → World → Prop} {S : World → Prop} {a0 : Act} {listed : Array Bool} {a : Act} {w : World}
theorem Inv.keep (hI : Inv md ops V S a0 listed a w) {i : Nat} (hnd : ¬ Done listed i) (j : Nat) (v : Value) (h0 : a0.tmps[j]? = some v)
 (h : (ops.toList.all fun o => o.dst != some j || o.after.toList.any fun e => Region.binds md e && e.on == i) = true) : a.eval (.tmp j) = v := by
 have := hI.old j (fun m o hm hmd hdn => hnd ?_)
 · simp [Act.eval, Array.getD_eq_getD_getElem?, this, h0]
 · simp only [List.all_eq_true] at h
   have h1 := h o (by simpa using Array.mem_of_getElem? hm)
   rw [hmd] at h1
   simp only [bne_self_eq_false, Bool.false_or, List.any_eq_true, Bool.and_eq_true, beq_iff_eq] at h1
   obtain ⟨e, he, hb, rfl⟩ := h1
   exact hI.closed m o hm hdn e (by simpa using he) hb
theorem Inv.val (hI : Inv md ops V S a0 listed a w) {o : Oper} (hd : ∀ e ∈ o.after, Region.binds md e = true → Done listed e.on) (j : Nat) {oj : Oper} {d : Nat} (hj : ops[j]? = some oj) (hjd : oj.dst = some d)
 (h : (o.after.toList.any fun e => Region.binds md e && e.on == j) = true) : ∃ v, a.eval (.tmp d) = v ∧ V j v w := by
 simp only [List.any_eq_true, Bool.and_eq_true, beq_iff_eq] at h
 obtain ⟨e, he, hb, rfl⟩ := h
 obtain ⟨v, hv, hV⟩ := hI.got e.on oj d hj hjd (hd e (by simpa using he) hb)
 exact ⟨v, by simp [Act.eval, Array.getD_eq_getD_getElem?, hv], hV⟩
def setAll (t : Array Value) (l : List (Nat × Value)) : Array Value := l.foldl (fun t p => t.setIfInBounds p.1 p.2) t
theorem setAll_get (u : Array Value) (j : Nat) : ∀ (l : List (Nat × Value)) (t : Array Value), t.size = u.size → (∀ p ∈ l, u[p.1]? = some p.2) → (j ∉ l.map (·.1) → t[j]? = u[j]?) → (setAll t l)[j]? = u[j]?
 | [], t, _, _, h => h (by simp)
 | p :: l, t, hs, hl, h => by
  refine setAll_get u j l _ (by simpa using hs) (fun q hq => hl q (List.mem_cons_of_mem _ hq)) (fun hn => ?_)
  have hp := hl p List.mem_cons_self
  have hlt : p.1 < t.size := by rw [hs]; exact (Array.getElem?_eq_some_iff.1 hp).1
  by_cases hj : p.1 = j
  · subst hj
    rw [hp]
    simp [hlt]
  · rw [Array.getElem?_setIfInBounds]
    simp only [hj, if_false]
    exact h (by simp [hn]; exact fun e => hj e.symm)
theorem Inv.tmps (hI : Inv md ops V S a0 listed a w) (l : List (Nat × Value)) (hl : ∀ p ∈ l, a.tmps[p.1]? = some p.2)
 (hc : (ops.toList.all fun o => match o.dst with | some d => (l.map (·.1)).contains d | none => true) = true) : a = ⟨setAll a0.tmps l, a0.defers⟩ := by
 obtain ⟨t, df⟩ := a
 have hd : df = a0.defers := hI.defers
 subst hd
 congr 1
 refine Array.ext_getElem? fun j => (setAll_get t j l a0.tmps hI.size.symm hl fun hn => ?_).symm
 refine (hI.old j fun i o hi hid _ => hn ?_).symm
 simp only [List.all_eq_true] at hc
 have := hc o (by simpa using Array.mem_of_getElem? hi)
 rw [hid] at this
 simpa using this
end
inductive Kind where
 | val (v : Value)
 | own (P : Value → World → Prop) (hP : ∀ v w w', Below w.heap.size w w' → P v w → P v w')
def Kind.holds (W : World) (k : Kind) (v : Value) (w : World) : Prop := match k with
 | .val u => v = u
 | .own P _ => P v w
theorem Kind.keep {W w w' : World} {k : Kind} {v : Value} (h : k.holds W v w) (hb : Below w.heap.size w w') : k.holds W v w' := by
 cases k with
 | val u => exact h
 | own P hP => exact hP v w w' hb h
def Ks (W : World) (ks : List Kind) (i : Nat) (v : Value) (w : World) : Prop := ∀ k, ks[i]? = some k → k.holds W v w
theorem Ks.keep {W w w' : World} {ks : List Kind} (hb : Below w.heap.size w w') (i : Nat) (v : Value) (h : Ks W ks i v w) : Ks W ks i v w' := fun k hk => Kind.keep (h k hk) hb
theorem Ks.of {W w : World} {ks : List Kind} {i : Nat} {k : Kind} {v : Value} (hk : ks[i]? = some k) (h : k.holds W v w) : Ks W ks i v w := fun k' hk' => by rw [hk] at hk'; cases hk'; exact h
theorem kq {S : World → Prop} {W w : World} {ks : List Kind} {i : Nat} {v : Value} {a : Act} {d : Option Tmp} {K : Act → World → Prop} (hK : Shut (∀ v w', S w' → Ks W ks i v w' → (∀ j u, Ks W ks j u w → Ks W ks j u w') → K (a.put d v) w')) (hS : S w) (hk : ks[i]? = some (.val v)) : K (a.put d v) w := hK.out _ _ hS (Ks.of hk rfl) (fun _ _ h => h)
theorem Inv.slot {md : Region.Mode} {ops : Array Oper} {V : Nat → Value → World → Prop} {S : World → Prop} {a0 : Act} {listed : Array Bool} {a : Act} {w : World} (hI : Inv md ops V S a0 listed a w) {i : Nat} (hnd : ¬ Done listed i) (j : Nat) (v : Value) (h0 : a0.tmps[j]? = some v)
 (h : (ops.toList.all fun o => o.dst != some j || o.after.toList.any fun e => Region.binds md e && e.on == i) = true) : a.tmps[j]?.getD undef = v := by
 have := hI.keep hnd j v h0 h
 simpa [Act.eval, Array.getD_eq_getD_getElem?] using this
theorem Inv.dep {md : Region.Mode} {ops : Array Oper} {W : World} {ks : List Kind} {S : World → Prop} {a0 : Act} {listed : Array Bool} {a : Act} {w : World} (hI : Inv md ops (Ks W ks) S a0 listed a w) {o : Oper} (hd : ∀ e ∈ o.after, Region.binds md e = true → Done listed e.on) (j d : Nat) {oj : Oper} {k : Kind} (hk : ks[j]? = some k) (hj : ops[j]? = some oj) (hjd : oj.dst = some d)
 (h : (o.after.toList.any fun e => Region.binds md e && e.on == j) = true) : ∃ v, a.tmps[d]?.getD undef = v ∧ k.holds W v w := by
 obtain ⟨v, hv, hV⟩ := hI.val hd j hj hjd h
 exact ⟨v, by simpa [Act.eval, Array.getD_eq_getD_getElem?] using hv, hV k hk⟩
theorem Inv.depv {md : Region.Mode} {ops : Array Oper} {W : World} {ks : List Kind} {S : World → Prop} {a0 : Act} {listed : Array Bool} {a : Act} {w : World} (hI : Inv md ops (Ks W ks) S a0 listed a w) {o : Oper} (hd : ∀ e ∈ o.after, Region.binds md e = true → Done listed e.on) (j d : Nat) {oj : Oper} (v : Value) (hk : ks[j]? = some (.val v)) (hj : ops[j]? = some oj) (hjd : oj.dst = some d)
 (h : (o.after.toList.any fun e => Region.binds md e && e.on == j) = true) : a.tmps[d]?.getD undef = v := by
 obtain ⟨u, hu, hV⟩ := hI.dep hd j d hk hj hjd h
 exact hu.trans hV
theorem Inv.yield {md : Region.Mode} {ops : Array Oper} {W : World} {ks : List Kind} {S : World → Prop} {a0 : Act} {listed : Array Bool} {a : Act} {w : World} (hI : Inv md ops (Ks W ks) S a0 listed a w) {o : Oper} (hd : ∀ e ∈ o.after, Region.binds md e = true → Done listed e.on) (j d : Nat) {oj : Oper} (b : Bool) (hk : ks[j]? = some (.val (.bool b))) (hj : ops[j]? = some oj) (hjd : oj.dst = some d)
 (h : (o.after.toList.any fun e => Region.binds md e && e.on == j) = true) : yielded ops a.tmps j = some b := by
 simp only [List.any_eq_true, Bool.and_eq_true, beq_iff_eq] at h
 obtain ⟨e, he, hb, rfl⟩ := h
 obtain ⟨v, hv, hV⟩ := hI.got e.on oj d hj hjd (hd e (by simpa using he) hb)
 have h2 : v = .bool b := hV _ hk
 subst h2
 simp [yielded, hj, hjd, hv]
theorem wanted_yes {P : Program} {o : Oper} {a : Act} {w : World} {K : Act → World → Prop} {Q : Exit → Act → World → Prop} {E : Prop} {y : Nat → Option Bool} {j : Nat} {b : Bool} (hg : o.guard = some (j, b)) (hy : y j = some b) (h : o.wp P a w K Q) : if Region.wanted o y = true then o.wp P a w K Q else E := by
 rw [if_pos (by simp [Region.wanted, hg, hy])]; exact h
theorem wanted_no {P : Program} {o : Oper} {a : Act} {w : World} {K : Act → World → Prop} {Q : Exit → Act → World → Prop} {E : Prop} {y : Nat → Option Bool} {j : Nat} {b b' : Bool} (hg : o.guard = some (j, b)) (hy : y j = some b') (hne : (b' == b) = false) (h : E) : if Region.wanted o y = true then o.wp P a w K Q else E := by
 rw [if_neg (by simp only [Region.wanted, hg, hy]; cases b <;> cases b' <;> simp_all)]; exact h
theorem wanted_go {P : Program} {o : Oper} {a : Act} {w : World} {K : Act → World → Prop} {Q : Exit → Act → World → Prop} {E : Prop} {y : Nat → Option Bool} (hg : o.guard = none) (h : o.wp P a w K Q) : if Region.wanted o y = true then o.wp P a w K Q else E := by
 rw [if_pos (by simp [Region.wanted, hg])]; exact h
section
variable {md : Region.Mode} {ops : Array Oper} {V : Nat → Value → World → Prop} {S : World → Prop} {a0 : Act} {listed : Array Bool} {a : Act} {w W : World} {ks : List Kind} {o : Oper}
theorem Inv.q (hI : Inv md ops V S a0 listed a w) {i : Nat} (hnd : ¬ Done listed i) (j : Nat) {v : Value} (h0 : a0.tmps[j]? = some v := by rfl)
 (h : (ops.toList.all fun o => o.dst != some j || o.after.toList.any fun e => Region.binds md e && e.on == i) = true := by kernel_rfl) : a.tmps[j]?.getD undef = v := hI.slot hnd j v h0 h
theorem bind_dst {j d : Nat} (h : (ops[j]?).bind (·.dst) = some d) : ∃ oj, ops[j]? = some oj ∧ oj.dst = some d := by
 cases e : ops[j]? with
 | none => rw [e] at h; cases h
 | some oj => rw [e] at h; exact ⟨oj, rfl, h⟩
theorem Inv.p (hI : Inv md ops (Ks W ks) S a0 listed a w) (hd : ∀ e ∈ o.after, Region.binds md e = true → Done listed e.on) (j d : Nat) {v : Value} (hk : ks[j]? = some (.val v) := by rfl) (hj : (ops[j]?).bind (·.dst) = some d := by rfl)
 (h : (o.after.toList.any fun e => Region.binds md e && e.on == j) = true := by kernel_rfl) : a.tmps[d]?.getD undef = v := by
 obtain ⟨oj, h1, h2⟩ := bind_dst hj
 exact hI.depv hd j d v hk h1 h2 h
theorem Inv.r (hI : Inv md ops (Ks W ks) S a0 listed a w) (hd : ∀ e ∈ o.after, Region.binds md e = true → Done listed e.on) (j d : Nat) (b : Bool) (hk : ks[j]? = some (.val (.bool b)) := by rfl) (hj : (ops[j]?).bind (·.dst) = some d := by rfl)
 (h : (o.after.toList.any fun e => Region.binds md e && e.on == j) = true := by kernel_rfl) : yielded ops a.tmps j = some b := by
 obtain ⟨oj, h1, h2⟩ := bind_dst hj
 exact hI.yield hd j d b hk h1 h2 h
variable {P : Program} {i : Nat} {v : Value} {d : Option Tmp} {K : Act → World → Prop} {Q : Exit → Act → World → Prop} {E : Prop} {y : Nat → Option Bool}
theorem Inv.z (hI : Inv md ops (Ks W ks) S a0 listed a w) (hK : Shut (∀ v w', S w' → Ks W ks i v w' → (∀ j u, Ks W ks j u w → Ks W ks j u w') → K (a.put d v) w')) (hg : o.guard = none := by rfl) (hk : ks[i]? = some (.val v) := by rfl)
 (h : ∀ K' : Act → World → Prop, Shut (K' (a.put d v) w) → o.wp P a w K' Q := by (intro K' hK'; clear hI hd hnd hK; go_simp; exact hK'.out)) : if Region.wanted o y = true then o.wp P a w K Q else E := by
 rw [if_pos (by simp [Region.wanted, hg])]
 exact h K (kq hK hI.world hk)
theorem Inv.z1 {jg : Nat} {b : Bool} (hI : Inv md ops (Ks W ks) S a0 listed a w) (hK : Shut (∀ v w', S w' → Ks W ks i v w' → (∀ j u, Ks W ks j u w → Ks W ks j u w') → K (a.put d v) w')) (hy : y jg = some b) (hg : o.guard = some (jg, b) := by rfl) (hk : ks[i]? = some (.val v) := by rfl)
 (h : ∀ K' : Act → World → Prop, Shut (K' (a.put d v) w) → o.wp P a w K' Q := by (intro K' hK'; clear hI hd hnd hK; go_simp; exact hK'.out)) : if Region.wanted o y = true then o.wp P a w K Q else E := by
 rw [if_pos (by simp [Region.wanted, hg, hy])]
 exact h K (kq hK hI.world hk)
theorem Inv.z2 {jg : Nat} {b b' : Bool} (hI : Inv md ops (Ks W ks) S a0 listed a w) (hK : Shut (∀ v w', S w' → Ks W ks i v w' → (∀ j u, Ks W ks j u w → Ks W ks j u w') → K (a.put d v) w')) (hy : y jg = some b') (hg : o.guard = some (jg, b) := by rfl) (hne : (b' == b) = false := by rfl) (hk : ks[i]? = some (.val v) := by rfl) : if Region.wanted o y = true then o.wp P a w K Q else K (a.put d v) w := by
 rw [if_neg (by simp only [Region.wanted, hg, hy]; cases b <;> cases b' <;> simp_all)]
 exact kq hK hI.world hk
abbrev Ch (ds : List Nat) : (List (Nat × Value) → Prop) → Prop :=
 List.rec (motive := fun _ => (List (Nat × Value) → Prop) → Prop) (fun k => k []) (fun d _ r k => ∃ x, r (fun l => k ((d, x) :: l))) ds
theorem ch_of : ∀ (ds : List Nat) (k : List (Nat × Value) → Prop), (∃ l : List (Nat × Value), l.map (·.1) = ds ∧ k l) → Ch ds k
 | [], k, ⟨l, h1, h2⟩ => by
  obtain rfl : l = [] := by simpa using h1
  exact h2
 | d :: ds, k, ⟨[], h1, h2⟩ => by simp at h1
 | d :: ds, k, ⟨(d', x) :: l, h1, h2⟩ => by
  simp only [List.map_cons, List.cons.injEq] at h1
  obtain ⟨rfl, h1⟩ := h1
  exact ⟨x, ch_of ds _ ⟨l, h1, h2⟩⟩
theorem vals_of {V : Nat → Value → World → Prop} {w : World} : ∀ (ds : List Nat) (i : Nat), (∀ j (h : j < ds.length), ∃ v, a.tmps[ds[j]]? = some v ∧ V (i + j) v w) → ∃ l : List (Nat × Value), l.map (·.1) = ds ∧ (∀ p ∈ l, a.tmps[p.1]? = some p.2) ∧ ∀ j d v, l[j]? = some (d, v) → V (i + j) v w
 | [], i, _ => ⟨[], rfl, by simp, by simp⟩
 | d :: ds, i, h => by
  obtain ⟨x, hx, hV⟩ := h 0 (by simp)
  obtain ⟨l, h1, h2, h3⟩ := vals_of ds (i + 1) (fun j hj => by
   obtain ⟨v, h1, h2⟩ := h (j + 1) (by simp; omega)
   exact ⟨v, by simpa using h1, by rwa [show i + 1 + j = i + (j + 1) by omega]⟩)
  refine ⟨(d, x) :: l, by simp [h1], fun p hp => ?_, fun j d' v hj => ?_⟩
  · rcases List.mem_cons.1 hp with e | hp
    · rw [e]; exact hx
    · exact h2 p hp
  · cases j with
    | zero => simp at hj; rw [← hj.2]; exact hV
    | succ j =>
     have := h3 j d' v (by simpa using hj)
     rwa [show i + (j + 1) = i + 1 + j by omega]
theorem dst_at {ds : List Nat} (hd : (ops.toList.map (·.dst) == ds.map some) = true) {j : Nat} (h : j < ds.length) : ∃ oj, ops[j]? = some oj ∧ oj.dst = some ds[j] := by
 have e : ops.toList.map (·.dst) = ds.map some := by simpa using hd
 have hl : ops.size = ds.length := by simpa using congrArg List.length e
 have h2 : (ops.toList.map (·.dst))[j]? = (ds.map some)[j]? := by rw [e]
 have hj : j < ops.size := by omega
 refine ⟨ops[j], by simp [hj], ?_⟩
 simpa [h, hj] using h2
theorem Inv.ch (hI : Inv md ops V S a0 listed a w) (hall : ∀ i, i < ops.size → Done listed i) (ds : List Nat) (hd : (ops.toList.map (·.dst) == ds.map some) = true := by kernel_rfl) : Ch ds (fun l => a = ⟨setAll a0.tmps l, a0.defers⟩ ∧ ∀ i d v, l[i]? = some (d, v) → V i v w) := by
 have e : ops.toList.map (·.dst) = ds.map some := by simpa using hd
 have hl : ops.size = ds.length := by simpa using congrArg List.length e
 obtain ⟨l, h1, h2, h3⟩ := vals_of (V := V) (w := w) (a := a) ds 0 (fun j hj => by
  obtain ⟨oj, h3, h4⟩ := dst_at hd hj
  obtain ⟨v, h5, h6⟩ := hI.got j oj _ h3 h4 (hall j (by omega))
  exact ⟨v, h5, by rwa [Nat.zero_add]⟩)
 refine ch_of ds _ ⟨l, h1, hI.tmps l h2 ?_, fun i d v hi => by have := h3 i d v hi; rwa [Nat.zero_add] at this⟩
 rw [List.all_eq_true]
 intro o ho
 obtain ⟨j, hj, rfl⟩ := List.getElem_of_mem ho
 obtain ⟨oj, h3, h4⟩ := dst_at hd (j := j) (by simp at hj; omega)
 have h5 : ops.toList[j] = oj := by
  have : ops.toList[j]? = some oj := by simpa using h3
  exact (List.getElem?_eq_some_iff.1 this).2
 rw [h5, h4, h1]
 simp
end
theorem Inv.step {md : Region.Mode} {ops : Array Oper} {V : Nat → Value → World → Prop} {S : World → Prop} {a0 : Act} {listed : Array Bool} {a : Act} {w w' : World} {i : Nat} {o : Oper} {v : Value} (hI : Inv md ops V S a0 listed a w)
 (hdst : ∀ (i j : Nat) (oi oj : Oper) (d : Nat), ops[i]? = some oi → ops[j]? = some oj → oi.dst = some d → oj.dst = some d → i = j)
 (hlt : ∀ (i : Nat) (o : Oper) (d : Nat), ops[i]? = some o → o.dst = some d → d < a0.tmps.size)
 (h2 : ops[i]? = some o) (h3 : ∀ e ∈ o.after, Region.binds md e = true → Done listed e.on) (hS : S w') (hv : V i v w') (hst : ∀ j u, V j u w → V j u w') :
 Inv md ops V S a0 (listed.setIfInBounds i true) (a.put o.dst v) w' := by
 have hsz : i < ops.size := (Array.getElem?_eq_some_iff.1 h2).1
 refine ⟨by simpa using hI.lsize, hS, ?_, ?_, ?_, ?_, ?_⟩
 · cases o.dst <;> exact hI.defers
 · cases ho : o.dst <;> simp [Act.put, hI.size]
 · intro j oj hj hd e he hb
   rcases hd.inv with rfl | hd
   · rw [h2] at hj
     cases hj
     exact Done.set (h3 e he hb)
   · exact Done.set (hI.closed j oj hj hd e he hb)
 · intro j oj d hj hjd hd
   by_cases hji : j = i
   · subst hji
     rw [h2] at hj
     cases hj
     refine ⟨v, ?_, hv⟩
     have := hlt j o d h2 hjd
     simp [Act.put, hjd, hI.size, this]
   · rcases hd.inv with h | hd
     · exact absurd h hji
     · obtain ⟨u, hu, hV⟩ := hI.got j oj d hj hjd hd
       refine ⟨u, ?_, hst j u hV⟩
       cases ho : o.dst with
       | none => simpa [Act.put, ho] using hu
       | some d' =>
        have hne : d' ≠ d := fun e => hji (hdst j i oj o d hj h2 hjd (by rw [ho, e]))
        simpa [Act.put, Array.getElem?_setIfInBounds, hne] using hu
 · intro j hj
   have h4 := hI.old j (fun k ok hk hkd hd => hj k ok hk hkd hd.set)
   cases ho : o.dst with
   | none => simpa [Act.put] using h4
   | some d' =>
    have hne : d' ≠ j := fun e => hj i o h2 (by rw [ho, e]) (Done.new (by rw [hI.lsize]; exact hsz))
    simpa [Act.put, Array.getElem?_setIfInBounds, hne] using h4
def headDone (m n : Nat) : Array Bool := ((List.range n).map fun i => decide (i < m)).toArray
theorem headDone_get (m n i : Nat) (hi : i < n) : (headDone m n)[i]? = some (decide (i < m)) := by simp [headDone, hi]
theorem eq_headDone {m n : Nat} {listed : Array Bool} (hs : listed.size = n) (h1 : ∀ i, i < m → i < n → Done listed i) (h2 : ∀ i, m ≤ i → i < n → ¬ Done listed i) : listed = headDone m n := by
 refine Array.ext_getElem? fun i => ?_
 by_cases hi : i < n
 · rw [headDone_get m n i hi, Array.getElem?_eq_getElem (by omega)]
   by_cases him : i < m
   · have := h1 i him hi
     simp [Done, Array.getD_eq_getD_getElem?, hs, hi] at this
     simp [this, him]
   · have := h2 i (by omega) hi
     simp [Done, Array.getD_eq_getD_getElem?, hs, hi] at this
     simp [this, him]
 · rw [Array.getElem?_eq_none (by omega), Array.getElem?_eq_none (by simp [headDone]; omega)]
def waitsB (md : Region.Mode) (ops : Array Oper) (m : Nat) : Bool :=
 (List.range m).all fun i => ((List.range ops.size).drop (i + 1)).any fun j => decide (j ≤ m) && match ops[j]? with
  | some o => o.after.toList.any fun e => Region.binds md e && e.on == i
  | none => false
def behindB (md : Region.Mode) (ops : Array Oper) (m : Nat) : Bool :=
 ((List.range ops.size).drop (m + 1)).all fun j => match ops[j]? with
  | some o => o.after.toList.any fun e => Region.binds md e && decide (m ≤ e.on) && decide (e.on < j)
  | none => true
theorem waits_spec {md : Region.Mode} {ops : Array Oper} {V : Nat → Value → World → Prop} {S : World → Prop} {a0 : Act} {listed : Array Bool} {a : Act} {w : World} {m : Nat} (hI : Inv md ops V S a0 listed a w)
 (h : waitsB md ops m = true) {o : Oper} (ho : ops[m]? = some o) (hd : ∀ e ∈ o.after, Region.binds md e = true → Done listed e.on) : ∀ k i, i < m → m - i ≤ k → Done listed i
 | 0, i, hi, hk => absurd hk (by omega)
 | k + 1, i, hi, hk => by
  simp only [waitsB, List.all_eq_true, List.mem_range] at h
  have h1 := h i hi
  simp only [List.any_eq_true, Bool.and_eq_true, decide_eq_true_eq] at h1
  obtain ⟨j, hj, hjm, h2⟩ := h1
  have hij : i < j := by
   rw [List.mem_drop_iff_getElem] at hj
   obtain ⟨q, hq, hq2⟩ := hj
   simp at hq2
   omega
  cases hoj : ops[j]? with
  | none => rw [hoj] at h2; simp at h2
  | some oj =>
   rw [hoj] at h2
   simp only [List.any_eq_true, Bool.and_eq_true, beq_iff_eq] at h2
   obtain ⟨e, he, hb, rfl⟩ := h2
   by_cases hjm2 : j = m
   · subst hjm2
     rw [ho] at hoj
     cases hoj
     exact hd e (by simpa using he) hb
   · have := waits_spec hI (by simpa only [waitsB, List.all_eq_true, List.mem_range] using h) ho hd k j (by omega) (by omega)
     exact hI.closed j oj hoj this e (by simpa using he) hb
theorem left_head (m : Nat) : ∀ n k, k ≤ n → k - m ≤ ((List.range k).filter fun i => !(headDone m n).getD i true).length
 | n, 0, _ => by simp
 | n, k + 1, hk => by
  have ih := left_head m n k (by omega)
  have e := headDone_get m n k (by omega)
  rw [List.range_succ, List.filter_append, List.length_append]
  by_cases h : k < m
  · omega
  · have : ([k].filter fun i => !(headDone m n).getD i true).length = 1 := by simp [Array.getD_eq_getD_getElem?, e, h]
    omega
theorem Inv.oldHead {md : Region.Mode} {ops : Array Oper} {V : Nat → Value → World → Prop} {S : World → Prop} {a0 : Act} {a : Act} {w : World} {m n : Nat} (hI : Inv md ops V S a0 (headDone m n) a w) (j : Nat)
 (h : ((ops.toList.take m).all fun o => o.dst != some j) = true) : a.tmps[j]? = a0.tmps[j]? := by
 refine hI.old j fun i o hi hd hdn => ?_
 have him : i < m := by
  by_cases hin : i < n
  · have := headDone_get m n i hin
    simp only [Done, Array.getD_eq_getD_getElem?, this, Option.getD_some, decide_eq_true_eq] at hdn
    exact hdn
  · have : (headDone m n)[i]? = none := Array.getElem?_eq_none (by simp [headDone]; omega)
    simp [Done, Array.getD_eq_getD_getElem?, this] at hdn
 simp only [List.all_eq_true] at h
 have := h o (List.mem_iff_getElem?.2 ⟨i, by rw [List.getElem?_take_of_lt him]; simpa using hi⟩)
 simp [hd] at this
theorem all_done' {md : Region.Mode} {ops : Array Oper} {listed : Array Bool} (hl : listed.size = ops.size)
 (hord : ∀ (i : Nat) (o : Oper), ops[i]? = some o → ∀ e ∈ o.after, Region.binds md e = true → e.on < i) (h : Region.ready md ops listed = []) : ∀ n i, i < n → i < ops.size → Done listed i
 | 0, i, hi, _ => absurd hi (by omega)
 | n + 1, i, hi, hs => by
  have ih := all_done' hl hord h n
  have hmem : i ∉ Region.ready md ops listed := by rw [h]; simp
  rw [mem_ready] at hmem
  have hd : Done listed i ∨ listed.getD i true = false := by
   rw [getD_tf (by omega)]
   unfold Done
   cases listed.getD i false <;> simp
  rcases hd with hd | hd
  · exact hd
  · refine absurd ⟨hd, ops[i], Array.getElem?_eq_getElem hs, fun e he hb => ?_⟩ hmem
    have := hord i ops[i] (Array.getElem?_eq_getElem hs) e he hb
    exact ih e.on (by omega) (by omega)
theorem wpAny_inv' {P : Program} {md : Region.Mode} {ops : Array Oper} {Q : Exit → Act → World → Prop} {V : Nat → Value → World → Prop} {S : World → Prop} {a0 : Act}
 (hord : ∀ (i : Nat) (o : Oper), ops[i]? = some o → ∀ e ∈ o.after, Region.binds md e = true → e.on < i)
 (hdst : ∀ (i j : Nat) (oi oj : Oper) (d : Nat), ops[i]? = some oi → ops[j]? = some oj → oi.dst = some d → oj.dst = some d → i = j)
 (hlt : ∀ (i : Nat) (o : Oper) (d : Nat), ops[i]? = some o → o.dst = some d → d < a0.tmps.size)
 (hstep : ∀ i o, ops[i]? = some o → ∀ listed a w, Inv md ops V S a0 listed a w → (∀ e ∈ o.after, Region.binds md e = true → Done listed e.on) → ¬ Done listed i →
  ∀ K : Act → World → Prop, (∀ v w', S w' → V i v w' → (∀ j u, V j u w → V j u w') → K (a.put o.dst v) w') → if Region.wanted o (yielded ops a.tmps) = true then o.wp P a w K Q else K (a.put o.dst undef) w)
 (hend : ∀ listed a w, Inv md ops V S a0 listed a w → (∀ i, i < ops.size → Done listed i) → Q .normal a w) :
 ∀ fuel listed a w, Inv md ops V S a0 listed a w → left ops.size listed ≤ fuel → wpAny P md ops Q fuel listed a w
 | 0, listed, a, w, hI, hf => by
  have hr : Region.ready md ops listed = [] := by
   rw [List.eq_nil_iff_forall_not_mem]
   intro i hi
   obtain ⟨h1, o, h2, _⟩ := mem_ready.1 hi
   have := left_set hI.lsize (Array.getElem?_eq_some_iff.1 h2).1 h1
   omega
  exact ⟨hr, hend listed a w hI (fun i hi => all_done' hI.lsize hord hr (i + 1) i (by omega) hi)⟩
 | fuel + 1, listed, a, w, hI, hf => by
  refine ⟨fun hr => hend listed a w hI (fun i hi => all_done' hI.lsize hord hr (i + 1) i (by omega) hi), fun i hi => ?_⟩
  obtain ⟨h1, o, h2, h3⟩ := mem_ready.1 hi
  have hsz : i < ops.size := (Array.getElem?_eq_some_iff.1 h2).1
  have hnd : ¬ Done listed i := by
   unfold Done
   rw [← getD_tf (by rw [hI.lsize]; exact hsz), h1]
   simp
  refine wpOp_step h2 (fun K hK => hstep i o h2 listed a w hI h3 hnd K (fun v w' hS hv hst => hK _ _ ?_))
  refine wpAny_inv' hord hdst hlt hstep hend fuel _ _ _ ?_ ?_
  · refine ⟨by simpa using hI.lsize, hS, ?_, ?_, ?_, ?_, ?_⟩
    · cases o.dst <;> exact hI.defers
    · cases ho : o.dst <;> simp [Act.put, hI.size]
    · intro j oj hj hd e he hb
      rcases hd.inv with rfl | hd
      · rw [h2] at hj
        cases hj
        exact Done.set (h3 e he hb)
      · exact Done.set (hI.closed j oj hj hd e he hb)
    · intro j oj d hj hjd hd
      by_cases hji : j = i
      · subst hji
        rw [h2] at hj
        cases hj
        refine ⟨v, ?_, hv⟩
        have := hlt j o d h2 hjd
        simp [Act.put, hjd, hI.size, this]
      · rcases hd.inv with h | hd
        · exact absurd h hji
        · obtain ⟨u, hu, hV⟩ := hI.got j oj d hj hjd hd
          refine ⟨u, ?_, hst j u hV⟩
          cases ho : o.dst with
          | none => simpa [Act.put, ho] using hu
          | some d' =>
           have hne : d' ≠ d := fun e => hji (hdst j i oj o d hj h2 hjd (by rw [ho, e]))
           simpa [Act.put, Array.getElem?_setIfInBounds, hne] using hu
    · intro j hj
      have h4 := hI.old j (fun k ok hk hkd hd => hj k ok hk hkd hd.set)
      cases ho : o.dst with
      | none => simpa [Act.put] using h4
      | some d' =>
       have hne : d' ≠ j := fun e => hj i o h2 (by rw [ho, e]) (Done.new (by rw [hI.lsize]; exact hsz))
       simpa [Act.put, Array.getElem?_setIfInBounds, hne] using h4
  · have := left_set hI.lsize hsz h1
    omega
def ordB' (md : Region.Mode) (ops : Array Oper) : Bool := (List.range ops.size).all fun i => match ops[i]? with
 | some o => o.after.toList.all fun e => !Region.binds md e || decide (e.on < i)
 | none => true
theorem ordB_spec' {md : Region.Mode} {ops : Array Oper} (h : ordB' md ops = true) (i : Nat) (o : Oper) (ho : ops[i]? = some o) : ∀ e ∈ o.after, Region.binds md e = true → e.on < i := by
 intro e he hb
 simp only [ordB', List.all_eq_true, List.mem_range] at h
 have := h i (Array.getElem?_eq_some_iff.1 ho).1
 rw [ho] at this
 simp only [List.all_eq_true] at this
 have h2 := this e (by simpa using he)
 simpa [hb] using h2
theorem wp_region_inv' {P : Program} {ops : Array Oper} {Q : Exit → Act → World → Prop} (V : Nat → Value → World → Prop) (S : World → Prop) {id : Nat} {a : Act} {w : World}
 (hm : P.follows .mixedOrders = true) (ho : ordB' .any ops = true) (hd : dstB ops a.tmps.size = true) (hS : S w.drew)
 (hstep : AllOps (OpStep P .any ops Q V S a) 0 ops.toList)
 (hend : ∀ listed a' w', Inv .any ops V S a listed a' w' → (∀ i, i < ops.size → Done listed i) → Q .normal a' w') : (Code.region id ops true).wp P Q a w := by
 refine wp_region_any hm (wpAny_inv' (V := V) (S := S) (a0 := a) (ordB_spec' ho) (fun i j oi oj d hi hj hid hjd => (dstB_spec hd i oi d hi hid).2 j oj hj hjd) (fun i o d hi hid => (dstB_spec hd i o d hi hid).1)
  (fun i o hi listed a' w' hI hdn hnd K hK => ?_) hend _ _ _ _ ?_ ?_)
 · have := AllOps.get hstep (i := i) (o := o) (by simpa using hi)
   rw [Nat.zero_add] at this
   exact this listed a' w' hI hdn hnd K hK
 · have hno : ∀ i, ¬ Done (Array.replicate ops.size false) i := fun i h => by
    unfold Done at h
    by_cases hi : i < ops.size <;> simp [Array.getD_eq_getD_getElem?, hi] at h
   exact ⟨by simp, hS, rfl, rfl, fun i _ _ h => absurd h (hno i), fun i _ _ _ _ h => absurd h (hno i), fun _ _ => rfl⟩
 · unfold left
   exact Nat.le_trans (List.length_filter_le _ _) (by simp)
theorem wpAny_inv2' {P : Program} {md : Region.Mode} {ops : Array Oper} {Q : Exit → Act → World → Prop} {V : Nat → Value → World → Prop} {S : World → Prop} {a0 : Act} {m : Nat}
 (hord : ∀ (i : Nat) (o : Oper), ops[i]? = some o → ∀ e ∈ o.after, Region.binds md e = true → e.on < i)
 (hdst : ∀ (i j : Nat) (oi oj : Oper) (d : Nat), ops[i]? = some oi → ops[j]? = some oj → oi.dst = some d → oj.dst = some d → i = j)
 (hlt : ∀ (i : Nat) (o : Oper) (d : Nat), ops[i]? = some o → o.dst = some d → d < a0.tmps.size)
 (hmn : m < ops.size) (hwait : waitsB md ops m = true) (hbeh : behindB md ops m = true)
 (hstep : ∀ i o, i < m → ops[i]? = some o → ∀ listed a w, Inv md ops V S a0 listed a w → (∀ e ∈ o.after, Region.binds md e = true → Done listed e.on) → ¬ Done listed i →
  ∀ K : Act → World → Prop, (∀ v w', S w' → V i v w' → (∀ j u, V j u w → V j u w') → K (a.put o.dst v) w') → if Region.wanted o (yielded ops a.tmps) = true then o.wp P a w K Q else K (a.put o.dst undef) w)
 (hmid : ∀ f a w, Inv md ops V S a0 (headDone m ops.size) a w → wpAny P md ops Q (f + (ops.size - m)) (headDone m ops.size) a w) :
 ∀ fuel listed a w, Inv md ops V S a0 listed a w → (∀ i, m ≤ i → i < ops.size → ¬ Done listed i) → left ops.size listed ≤ fuel → wpAny P md ops Q fuel listed a w := by
 intro fuel
 induction fuel with
 | zero =>
  intro listed a w hI hno hf
  have hr : Region.ready md ops listed = [] := by
   rw [List.eq_nil_iff_forall_not_mem]
   intro i hi
   obtain ⟨h1, o, h2, _⟩ := mem_ready.1 hi
   have := left_set hI.lsize (Array.getElem?_eq_some_iff.1 h2).1 h1
   omega
  exact absurd (all_done' hI.lsize hord hr (m + 1) m (by omega) hmn) (hno m (by omega) hmn)
 | succ fuel ih =>
  intro listed a w hI hno hf
  by_cases hall : ∀ i, i < m → Done listed i
  · have hl := eq_headDone hI.lsize (fun i hi _ => hall i hi) hno
    subst hl
    have h1 := left_head m ops.size ops.size (Nat.le_refl _)
    unfold left at hf
    have h2 := hmid (fuel + 1 - (ops.size - m)) a w hI
    rwa [show fuel + 1 - (ops.size - m) + (ops.size - m) = fuel + 1 from by omega] at h2
  · refine ⟨fun hr => absurd (all_done' hI.lsize hord hr (m + 1) m (by omega) hmn) (hno m (by omega) hmn), fun i hi => ?_⟩
    obtain ⟨h1, o, h2, h3⟩ := mem_ready.1 hi
    have hsz : i < ops.size := (Array.getElem?_eq_some_iff.1 h2).1
    have him : i < m := by
     refine Nat.lt_of_not_le fun hle => ?_
     by_cases he : i = m
     · subst he
       exact hall fun j hj => waits_spec hI hwait h2 h3 (i - j) j hj (Nat.le_refl _)
     · simp only [behindB, List.all_eq_true] at hbeh
       have h4 := hbeh i (by rw [List.mem_drop_iff_getElem]; exact ⟨i - (m + 1), by simp; omega, by simp; omega⟩)
       rw [h2] at h4
       simp only [List.any_eq_true, Bool.and_eq_true, decide_eq_true_eq] at h4
       obtain ⟨e, hem, ⟨hb, hme⟩, hei⟩ := h4
       exact hno e.on hme (by omega) (h3 e (by simpa using hem) hb)
    have hnd : ¬ Done listed i := by
     unfold Done
     rw [← getD_tf (by rw [hI.lsize]; exact hsz), h1]
     simp
    refine wpOp_step h2 (fun K hK => hstep i o him h2 listed a w hI h3 hnd K (fun v w' hS hv hst => hK _ _ ?_))
    refine ih _ _ _ (hI.step hdst hlt h2 h3 hS hv hst) (fun j hj hjs hdj => ?_) ?_
    · rcases hdj.inv with rfl | hdj
      · omega
      · exact hno j hj hjs hdj
    · have := left_set hI.lsize hsz h1
      omega
theorem wp_region_inv2' {P : Program} {ops : Array Oper} {Q : Exit → Act → World → Prop} (m : Nat) (V : Nat → Value → World → Prop) (S : World → Prop) {id : Nat} {a : Act} {w : World}
 (hm : P.follows .mixedOrders = true) (ho : ordB' .any ops = true) (hd : dstB ops a.tmps.size = true) (hmn : m < ops.size) (hwait : waitsB .any ops m = true) (hbeh : behindB .any ops m = true) (hS : S w.drew)
 (hstep : AllOps (OpStep P .any ops Q V S a) 0 (ops.toList.take m))
 (hmid : ∀ f a' w', Inv .any ops V S a (headDone m ops.size) a' w' → wpAny P .any ops Q (f + (ops.size - m)) (headDone m ops.size) a' w') : (Code.region id ops true).wp P Q a w := by
 have hno : ∀ i, ¬ Done (Array.replicate ops.size false) i := fun i h => by
  unfold Done at h
  by_cases hi : i < ops.size <;> simp [Array.getD_eq_getD_getElem?, hi] at h
 refine wp_region_any hm (wpAny_inv2' (V := V) (S := S) (a0 := a) (m := m) (ordB_spec' ho) (fun i j oi oj d hi hj hid hjd => (dstB_spec hd i oi d hi hid).2 j oj hj hjd) (fun i o d hi hid => (dstB_spec hd i o d hi hid).1) hmn hwait hbeh
  (fun i o him hi listed a' w' hI hdn hnd K hK => ?_) hmid _ _ _ _ ?_ (fun i _ _ => hno i) ?_)
 · have := AllOps.get hstep (i := i) (o := o) (by rw [List.getElem?_take_of_lt him]; simpa using hi)
   rw [Nat.zero_add] at this
   exact this listed a' w' hI hdn hnd K hK
 · exact ⟨by simp, hS, rfl, rfl, fun i _ _ h => absurd h (hno i), fun i _ _ _ _ h => absurd h (hno i), fun _ _ => rfl⟩
 · unfold left
   exact Nat.le_trans (List.length_filter_le _ _) (by simp)
end Go.Proofs.YtekelchdbkjjjaaGreat
