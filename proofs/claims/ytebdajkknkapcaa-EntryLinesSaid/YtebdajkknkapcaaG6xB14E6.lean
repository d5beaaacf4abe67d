/- Regions that draw their order, by an invariant. Written by gen_b14.py. -/
import Derived.Test.YtebdajkknkapcaaG6xB0B10
import Derived.Deep.RegionHeld3
import Derived.Test.YtebdajkknkapcaaProg
import Derived.DeepKeys4
import Derived.Maps.Keyed
import Derived.Deep.Slices
import Derived.Deep.Fields
import Derived.ChangeSame
import Derived.ProofKit
import Derived.OpenShut
import Derived.ShutString
import Derived.ChangeOld
import Derived.Below
import Derived.SizedLaws
set_option linter.unusedVariables false
set_option linter.unusedSimpArgs false
set_option maxRecDepth 4000
attribute [local go_sem ↓] Go.wp_at_zero Go.wp_at_succ
namespace Go.Proofs.Ytebdajkknkapcaa
open Go Go.RowKit
/-! A REGION THAT DRAWS ITS ORDER, BY AN INVARIANT: one goal for each operation, whatever the order. -/
def Done (listed : Array Bool) (i : Nat) : Prop := listed.getD i false = true
structure Inv (md : Region.Mode) (ops : Array Oper) (V : Nat → Value → World → Prop) (S : World → Prop) (a0 : Act) (listed : Array Bool) (a : Act) (w : World) : Prop where
 lsize : listed.size = ops.size
 world : S w
 defers : a.defers = a0.defers
 size : a.tmps.size = a0.tmps.size
 closed : ∀ i o, ops[i]? = some o → Done listed i → ∀ e ∈ o.after, Region.binds md e = true → Done listed e.on
 got : ∀ i o d, ops[i]? = some o → o.dst = some d → Done listed i → ∃ v, a.tmps[d]? = some v ∧ V i v w
 old : ∀ j, (∀ i o, ops[i]? = some o → o.dst = some j → ¬ Done listed i) → a.tmps[j]? = a0.tmps[j]?
theorem Done.set {listed : Array Bool} {i j : Nat} (h : Done listed j) : Done (listed.setIfInBounds i true) j := by
 unfold Done at *
 by_cases hij : i = j
 · subst hij
   by_cases hs : i < listed.size
   · simp [Array.getD_eq_getD_getElem?, hs]
   · simp [Array.getD_eq_getD_getElem?, hs] at h
 · simpa [Array.getD_eq_getD_getElem?, Array.getElem?_setIfInBounds, hij] using h
theorem Done.new {listed : Array Bool} {i : Nat} (h : i < listed.size) : Done (listed.setIfInBounds i true) i := by
 simp [Done, Array.getD_eq_getD_getElem?, h]
theorem Done.inv {listed : Array Bool} {i j : Nat} (h : Done (listed.setIfInBounds i true) j) : j = i ∨ Done listed j := by
 by_cases hij : i = j
 · exact .inl hij.symm
 · refine .inr ?_
   unfold Done at *
   simpa [Array.getD_eq_getD_getElem?, Array.getElem?_setIfInBounds, hij] using h
theorem getD_tf {listed : Array Bool} {i : Nat} (h : i < listed.size) : listed.getD i true = listed.getD i false := by
 simp [Array.getD_eq_getD_getElem?, h]
theorem all_done {md : Region.Mode} {ops : Array Oper} {listed : Array Bool} (hl : listed.size = ops.size)
 (hord : ∀ (i : Nat) (o : Oper), ops[i]? = some o → ∀ e ∈ o.after, e.on < i) (h : Region.ready md ops listed = []) : ∀ n i, i < n → i < ops.size → Done listed i
 | 0, i, hi, _ => absurd hi (by omega)
 | n + 1, i, hi, hs => by
  have ih := all_done hl hord h n
  have hmem : i ∉ Region.ready md ops listed := by rw [h]; simp
  rw [mem_ready] at hmem
  have hd : Done listed i ∨ listed.getD i true = false := by
   rw [getD_tf (by omega)]
   unfold Done
   cases listed.getD i false <;> simp
  rcases hd with hd | hd
  · exact hd
  · refine absurd ⟨hd, ops[i], Array.getElem?_eq_getElem hs, fun e he _ => ?_⟩ hmem
    have := hord i ops[i] (Array.getElem?_eq_getElem hs) e he
    exact ih e.on (by omega) (by omega)
def left (n : Nat) (listed : Array Bool) : Nat := ((List.range n).filter fun i => !listed.getD i true).length
theorem left_set {n i : Nat} {listed : Array Bool} (hs : listed.size = n) (hi : i < n) (hf : listed.getD i true = false) : left n (listed.setIfInBounds i true) + 1 ≤ left n listed := by
 unfold left
 have key : ∀ (l : List Nat), l.Nodup → i ∈ l → ((l.filter fun j => !(listed.setIfInBounds i true).getD j true).length + 1 ≤ (l.filter fun j => !listed.getD j true).length) := by
  intro l
  induction l with
  | nil => intro _ h; cases h
  | cons x l ih =>
   intro hn hm
   rw [List.nodup_cons] at hn
   by_cases hx : x = i
   · subst hx
     have e1 : (listed.setIfInBounds x true).getD x true = true := by simp [Array.getD_eq_getD_getElem?, hs, hi]
     have e2 : ∀ (m : List Nat), x ∉ m → m.filter (fun j => !(listed.setIfInBounds x true).getD j true) = m.filter (fun j => !listed.getD j true) := by
      intro m hm2
      refine List.filter_congr fun j hj => ?_
      have hne : x ≠ j := fun e => hm2 (e ▸ hj)
      simp [Array.getD_eq_getD_getElem?, hne]
     rw [List.filter_cons_of_neg (by simp [e1]), List.filter_cons_of_pos (by simp [hf]), e2 l hn.1]
     simp
   · have hm2 : i ∈ l := by
      rcases List.mem_cons.1 hm with h | h
      · exact absurd h.symm hx
      · exact h
     have ih2 := ih hn.2 hm2
     have hne : i ≠ x := fun e => hx e.symm
     have e1 : (listed.setIfInBounds i true).getD x true = listed.getD x true := by
      simp [Array.getD_eq_getD_getElem?, hne]
     by_cases hb : listed.getD x true = true
     · rw [List.filter_cons_of_neg (by rw [e1]; simp [hb]), List.filter_cons_of_neg (by simp [hb])]
       exact ih2
     · have hb2 : listed.getD x true = false := by simpa using hb
       rw [List.filter_cons_of_pos (by rw [e1]; simp [hb2]), List.filter_cons_of_pos (by simp [hb2])]
       simp only [List.length_cons]
       omega
 exact key _ List.nodup_range (List.mem_range.2 hi)
theorem wpAny_inv {P : Program} {md : Region.Mode} {ops : Array Oper} {Q : Exit → Act → World → Prop} {V : Nat → Value → World → Prop} {S : World → Prop} {a0 : Act}
 (hord : ∀ (i : Nat) (o : Oper), ops[i]? = some o → ∀ e ∈ o.after, e.on < i)
 (hdst : ∀ (i j : Nat) (oi oj : Oper) (d : Nat), ops[i]? = some oi → ops[j]? = some oj → oi.dst = some d → oj.dst = some d → i = j)
 (hlt : ∀ (i : Nat) (o : Oper) (d : Nat), ops[i]? = some o → o.dst = some d → d < a0.tmps.size)
 (hstep : ∀ i o, ops[i]? = some o → ∀ listed a w, Inv md ops V S a0 listed a w → (∀ e ∈ o.after, Region.binds md e = true → Done listed e.on) → ¬ Done listed i →
  ∀ K : Act → World → Prop, (∀ v w', S w' → V i v w' → (∀ j u, V j u w → V j u w') → K (a.put o.dst v) w') → if Region.wanted o (yielded ops a.tmps) = true then o.wp P a w K Q else K (a.put o.dst undef) w)
 (hend : ∀ listed a w, Inv md ops V S a0 listed a w → (∀ i, i < ops.size → Done listed i) → Q .normal a w) :
 ∀ fuel listed a w, Inv md ops V S a0 listed a w → left ops.size listed ≤ fuel → wpAny P md ops Q fuel listed a w
 | 0, listed, a, w, hI, hf => by
  have hr : Region.ready md ops listed = [] := by
   rw [List.eq_nil_iff_forall_not_mem]
   intro i hi
   obtain ⟨h1, o, h2, _⟩ := mem_ready.1 hi
   have := left_set hI.lsize (Array.getElem?_eq_some_iff.1 h2).1 h1
   omega
  exact ⟨hr, hend listed a w hI (fun i hi => all_done hI.lsize hord hr (i + 1) i (by omega) hi)⟩
 | fuel + 1, listed, a, w, hI, hf => by
  refine ⟨fun hr => hend listed a w hI (fun i hi => all_done hI.lsize hord hr (i + 1) i (by omega) hi), fun i hi => ?_⟩
  obtain ⟨h1, o, h2, h3⟩ := mem_ready.1 hi
  have hsz : i < ops.size := (Array.getElem?_eq_some_iff.1 h2).1
  have hnd : ¬ Done listed i := by
   unfold Done
   rw [← getD_tf (by rw [hI.lsize]; exact hsz), h1]
   simp
  refine wpOp_step h2 (fun K hK => hstep i o h2 listed a w hI h3 hnd K (fun v w' hS hv hst => hK _ _ ?_))
  refine wpAny_inv hord hdst hlt hstep hend fuel _ _ _ ?_ ?_
  · refine ⟨by simpa using hI.lsize, hS, ?_, ?_, ?_, ?_, ?_⟩
    · cases o.dst <;> exact hI.defers
    · cases ho : o.dst <;> simp [Act.put, hI.size]
    · intro j oj hj hd e he hb
      rcases hd.inv with rfl | hd
      · rw [h2] at hj
        cases hj
        exact Done.set (h3 e he hb)
      · exact Done.set (hI.closed j oj hj hd e he hb)
    · intro j oj d hj hjd hd
      by_cases hji : j = i
      · subst hji
        rw [h2] at hj
        cases hj
        refine ⟨v, ?_, hv⟩
        have := hlt j o d h2 hjd
        simp [Act.put, hjd, hI.size, this]
      · rcases hd.inv with h | hd
        · exact absurd h hji
        · obtain ⟨u, hu, hV⟩ := hI.got j oj d hj hjd hd
          refine ⟨u, ?_, hst j u hV⟩
          cases ho : o.dst with
          | none => simpa [Act.put, ho] using hu
          | some d' =>
           have hne : d' ≠ d := fun e => hji (hdst j i oj o d hj h2 hjd (by rw [ho, e]))
           simpa [Act.put, Array.getElem?_setIfInBounds, hne] using hu
    · intro j hj
      have h4 := hI.old j (fun k ok hk hkd hd => hj k ok hk hkd hd.set)
      cases ho : o.dst with
      | none => simpa [Act.put] using h4
      | some d' =>
       have hne : d' ≠ j := fun e => hj i o h2 (by rw [ho, e]) (Done.new (by rw [hI.lsize]; exact hsz))
       simpa [Act.put, Array.getElem?_setIfInBounds, hne] using h4
  · have := left_set hI.lsize hsz h1
    omega
def ordB (ops : Array Oper) : Bool := (List.range ops.size).all fun i => match ops[i]? with
 | some o => o.after.toList.all fun e => decide (e.on < i)
 | none => true
def dstB (ops : Array Oper) (n : Nat) : Bool := (List.range ops.size).all fun i => match ops[i]? with
 | some o => (match o.dst with
  | some d => decide (d < n) && (List.range ops.size).all fun j => i == j || (match ops[j]? with
   | some oj => oj.dst != some d
   | none => true)
  | none => true)
 | none => true
theorem ordB_spec {ops : Array Oper} (h : ordB ops = true) (i : Nat) (o : Oper) (ho : ops[i]? = some o) : ∀ e ∈ o.after, e.on < i := by
 intro e he
 simp only [ordB, List.all_eq_true, List.mem_range] at h
 have := h i (Array.getElem?_eq_some_iff.1 ho).1
 rw [ho] at this
 simp only [List.all_eq_true, decide_eq_true_eq] at this
 exact this e (by simpa using he)
theorem dstB_spec {ops : Array Oper} {n : Nat} (h : dstB ops n = true) (i : Nat) (o : Oper) (d : Nat) (ho : ops[i]? = some o) (hd : o.dst = some d) :
 d < n ∧ ∀ (j : Nat) (oj : Oper), ops[j]? = some oj → oj.dst = some d → i = j := by
 simp only [dstB, List.all_eq_true, List.mem_range] at h
 have := h i (Array.getElem?_eq_some_iff.1 ho).1
 rw [ho] at this
 simp only [hd, Bool.and_eq_true, decide_eq_true_eq, List.all_eq_true, List.mem_range, Bool.or_eq_true, beq_iff_eq] at this
 refine ⟨this.1, fun j oj hj hjd => ?_⟩
 rcases this.2 j (Array.getElem?_eq_some_iff.1 hj).1 with h | h
 · exact h
 · rw [hj] at h
   simp [hjd] at h
def AllOps (P : Nat → Oper → Prop) : Nat → List Oper → Prop
 | _, [] => True
 | k, o :: l => P k o ∧ AllOps P (k + 1) l
theorem AllOps.get {P : Nat → Oper → Prop} : ∀ {k : Nat} {l : List Oper} {i : Nat} {o : Oper}, AllOps P k l → l[i]? = some o → P (k + i) o
 | _, [], _, _, _, h => by simp at h
 | k, x :: l, 0, o, h, ho => by
  simp at ho
  subst ho
  exact h.1
 | k, x :: l, i + 1, o, h, ho => by
  have := AllOps.get (k := k + 1) (i := i) h.2 (by simpa using ho)
  rwa [show k + (i + 1) = k + 1 + i from by omega]
def OpStep (P : Program) (md : Region.Mode) (ops : Array Oper) (Q : Exit → Act → World → Prop) (V : Nat → Value → World → Prop) (S : World → Prop) (a0 : Act) (i : Nat) (o : Oper) : Prop :=
 ∀ listed a w, Inv md ops V S a0 listed a w → (∀ e ∈ o.after, Region.binds md e = true → Done listed e.on) → ¬ Done listed i →
  ∀ K : Act → World → Prop, Shut (∀ v w', S w' → V i v w' → (∀ j u, V j u w → V j u w') → K (a.put o.dst v) w') → if Region.wanted o (yielded ops a.tmps) = true then o.wp P a w K Q else K (a.put o.dst undef) w
theorem wp_region_inv {P : Program} {ops : Array Oper} {Q : Exit → Act → World → Prop} (V : Nat → Value → World → Prop) (S : World → Prop) {id : Nat} {a : Act} {w : World}
 (hm : P.follows .mixedOrders = true) (ho : ordB ops = true) (hd : dstB ops a.tmps.size = true) (hS : S w.drew)
 (hstep : AllOps (OpStep P .any ops Q V S a) 0 ops.toList)
 (hend : ∀ listed a' w', Inv .any ops V S a listed a' w' → (∀ i, i < ops.size → Done listed i) → Q .normal a' w') : (Code.region id ops true).wp P Q a w := by
 refine wp_region_any hm (wpAny_inv (V := V) (S := S) (a0 := a) (ordB_spec ho) (fun i j oi oj d hi hj hid hjd => (dstB_spec hd i oi d hi hid).2 j oj hj hjd) (fun i o d hi hid => (dstB_spec hd i o d hi hid).1)
  (fun i o hi listed a' w' hI hdn hnd K hK => ?_) hend _ _ _ _ ?_ ?_)
 · have := AllOps.get hstep (i := i) (o := o) (by simpa using hi)
   rw [Nat.zero_add] at this
   exact this listed a' w' hI hdn hnd K hK
 · have hno : ∀ i, ¬ Done (Array.replicate ops.size false) i := fun i h => by
    unfold Done at h
    by_cases hi : i < ops.size <;> simp [Array.getD_eq_getD_getElem?, hi] at h
   exact ⟨by simp, hS, rfl, rfl, fun i _ _ h => absurd h (hno i), fun i _ _ _ _ h => absurd h (hno i), fun _ _ => rfl⟩
 · unfold left
   exact Nat.le_trans (List.length_filter_le _ _) (by simp)
section
variable {md : Region.Mode} {ops : Array Oper} {V : Nat → Value → World → Prop} {S : World → Prop} {a0 : Act} {listed : Array Bool} {a : Act} {w : World}
theorem Inv.keep (hI : Inv md ops V S a0 listed a w) {i : Nat} (hnd : ¬ Done listed i) (j : Nat) (v : Value) (h0 : a0.tmps[j]? = some v)
 (h : (ops.toList.all fun o => o.dst != some j || o.after.toList.any fun e => Region.binds md e && e.on == i) = true) : a.eval (.tmp j) = v := by
 have := hI.old j (fun m o hm hmd hdn => hnd ?_)
 · simp [Act.eval, Array.getD_eq_getD_getElem?, this, h0]
 · simp only [List.all_eq_true] at h
   have h1 := h o (by simpa using Array.mem_of_getElem? hm)
   rw [hmd] at h1
   simp only [bne_self_eq_false, Bool.false_or, List.any_eq_true, Bool.and_eq_true, beq_iff_eq] at h1
   obtain ⟨e, he, hb, rfl⟩ := h1
   exact hI.closed m o hm hdn e (by simpa using he) hb
theorem Inv.val (hI : Inv md ops V S a0 listed a w) {o : Oper} (hd : ∀ e ∈ o.after, Region.binds md e = true → Done listed e.on) (j : Nat) {oj : Oper} {d : Nat} (hj : ops[j]? = some oj) (hjd : oj.dst = some d)
 (h : (o.after.toList.any fun e => Region.binds md e && e.on == j) = true) : ∃ v, a.eval (.tmp d) = v ∧ V j v w := by
 simp only [List.any_eq_true, Bool.and_eq_true, beq_iff_eq] at h
 obtain ⟨e, he, hb, rfl⟩ := h
 obtain ⟨v, hv, hV⟩ := hI.got e.on oj d hj hjd (hd e (by simpa using he) hb)
 exact ⟨v, by simp [Act.eval, Array.getD_eq_getD_getElem?, hv], hV⟩
def setAll (t : Array Value) (l : List (Nat × Value)) : Array Value := l.foldl (fun t p => t.setIfInBounds p.1 p.2) t
theorem setAll_get (u : Array Value) (j : Nat) : ∀ (l : List (Nat × Value)) (t : Array Value), t.size = u.size → (∀ p ∈ l, u[p.1]? = some p.2) → (j ∉ l.map (·.1) → t[j]? = u[j]?) → (setAll t l)[j]? = u[j]?
 | [], t, _, _, h => h (by simp)
 | p :: l, t, hs, hl, h => by
  refine setAll_get u j l _ (by simpa using hs) (fun q hq => hl q (List.mem_cons_of_mem _ hq)) (fun hn => ?_)
  have hp := hl p List.mem_cons_self
  have hlt : p.1 < t.size := by rw [hs]; exact (Array.getElem?_eq_some_iff.1 hp).1
  by_cases hj : p.1 = j
  · subst hj
    rw [hp]
    simp [hlt]
  · rw [Array.getElem?_setIfInBounds]
    simp only [hj, if_false]
    exact h (by simp [hn]; exact fun e => hj e.symm)
theorem Inv.tmps (hI : Inv md ops V S a0 listed a w) (l : List (Nat × Value)) (hl : ∀ p ∈ l, a.tmps[p.1]? = some p.2)
 (hc : (ops.toList.all fun o => match o.dst with | some d => (l.map (·.1)).contains d | none => true) = true) : a = ⟨setAll a0.tmps l, a0.defers⟩ := by
 obtain ⟨t, df⟩ := a
 have hd : df = a0.defers := hI.defers
 subst hd
 congr 1
 refine Array.ext_getElem? fun j => (setAll_get t j l a0.tmps hI.size.symm hl fun hn => ?_).symm
 refine (hI.old j fun i o hi hid _ => hn ?_).symm
 simp only [List.all_eq_true] at hc
 have := hc o (by simpa using Array.mem_of_getElem? hi)
 rw [hid] at this
 simpa using this
end
inductive Kind where
 | val (v : Value)
 | own (P : Value → World → Prop) (hP : ∀ v w w', Below w.heap.size w w' → P v w → P v w')
def Kind.holds (W : World) (k : Kind) (v : Value) (w : World) : Prop := match k with
 | .val u => v = u
 | .own P _ => P v w
theorem Kind.keep {W w w' : World} {k : Kind} {v : Value} (h : k.holds W v w) (hb : Below w.heap.size w w') : k.holds W v w' := by
 cases k with
 | val u => exact h
 | own P hP => exact hP v w w' hb h
def Ks (W : World) (ks : List Kind) (i : Nat) (v : Value) (w : World) : Prop := ∀ k, ks[i]? = some k → k.holds W v w
theorem Ks.keep {W w w' : World} {ks : List Kind} (hb : Below w.heap.size w w') (i : Nat) (v : Value) (h : Ks W ks i v w) : Ks W ks i v w' := fun k hk => Kind.keep (h k hk) hb
theorem Ks.of {W w : World} {ks : List Kind} {i : Nat} {k : Kind} {v : Value} (hk : ks[i]? = some k) (h : k.holds W v w) : Ks W ks i v w := fun k' hk' => by rw [hk] at hk'; cases hk'; exact h
theorem kq {S : World → Prop} {W w : World} {ks : List Kind} {i : Nat} {v : Value} {a : Act} {d : Option Tmp} {K : Act → World → Prop} (hK : Shut (∀ v w', S w' → Ks W ks i v w' → (∀ j u, Ks W ks j u w → Ks W ks j u w') → K (a.put d v) w')) (hS : S w) (hk : ks[i]? = some (.val v)) : K (a.put d v) w := hK.out _ _ hS (Ks.of hk rfl) (fun _ _ h => h)
theorem Inv.slot {md : Region.Mode} {ops : Array Oper} {V : Nat → Value → World → Prop} {S : World → Prop} {a0 : Act} {listed : Array Bool} {a : Act} {w : World} (hI : Inv md ops V S a0 listed a w) {i : Nat} (hnd : ¬ Done listed i) (j : Nat) (v : Value) (h0 : a0.tmps[j]? = some v)
 (h : (ops.toList.all fun o => o.dst != some j || o.after.toList.any fun e => Region.binds md e && e.on == i) = true) : a.tmps[j]?.getD undef = v := by
 have := hI.keep hnd j v h0 h
 simpa [Act.eval, Array.getD_eq_getD_getElem?] using this
theorem Inv.dep {md : Region.Mode} {ops : Array Oper} {W : World} {ks : List Kind} {S : World → Prop} {a0 : Act} {listed : Array Bool} {a : Act} {w : World} (hI : Inv md ops (Ks W ks) S a0 listed a w) {o : Oper} (hd : ∀ e ∈ o.after, Region.binds md e = true → Done listed e.on) (j d : Nat) {oj : Oper} {k : Kind} (hk : ks[j]? = some k) (hj : ops[j]? = some oj) (hjd : oj.dst = some d)
 (h : (o.after.toList.any fun e => Region.binds md e && e.on == j) = true) : ∃ v, a.tmps[d]?.getD undef = v ∧ k.holds W v w := by
 obtain ⟨v, hv, hV⟩ := hI.val hd j hj hjd h
 exact ⟨v, by simpa [Act.eval, Array.getD_eq_getD_getElem?] using hv, hV k hk⟩
theorem Inv.depv {md : Region.Mode} {ops : Array Oper} {W : World} {ks : List Kind} {S : World → Prop} {a0 : Act} {listed : Array Bool} {a : Act} {w : World} (hI : Inv md ops (Ks W ks) S a0 listed a w) {o : Oper} (hd : ∀ e ∈ o.after, Region.binds md e = true → Done listed e.on) (j d : Nat) {oj : Oper} (v : Value) (hk : ks[j]? = some (.val v)) (hj : ops[j]? = some oj) (hjd : oj.dst = some d)
 (h : (o.after.toList.any fun e => Region.binds md e && e.on == j) = true) : a.tmps[d]?.getD undef = v := by
 obtain ⟨u, hu, hV⟩ := hI.dep hd j d hk hj hjd h
 exact hu.trans hV
theorem Inv.yield {md : Region.Mode} {ops : Array Oper} {W : World} {ks : List Kind} {S : World → Prop} {a0 : Act} {listed : Array Bool} {a : Act} {w : World} (hI : Inv md ops (Ks W ks) S a0 listed a w) {o : Oper} (hd : ∀ e ∈ o.after, Region.binds md e = true → Done listed e.on) (j d : Nat) {oj : Oper} (b : Bool) (hk : ks[j]? = some (.val (.bool b))) (hj : ops[j]? = some oj) (hjd : oj.dst = some d)
 (h : (o.after.toList.any fun e => Region.binds md e && e.on == j) = true) : yielded ops a.tmps j = some b := by
 simp only [List.any_eq_true, Bool.and_eq_true, beq_iff_eq] at h
 obtain ⟨e, he, hb, rfl⟩ := h
 obtain ⟨v, hv, hV⟩ := hI.got e.on oj d hj hjd (hd e (by simpa using he) hb)
 have h2 : v = .bool b := hV _ hk
 subst h2
 simp [yielded, hj, hjd, hv]
theorem wanted_yes {P : Program} {o : Oper} {a : Act} {w : World} {K : Act → World → Prop} {Q : Exit → Act → World → Prop} {E : Prop} {y : Nat → Option Bool} {j : Nat} {b : Bool} (hg : o.guard = some (j, b)) (hy : y j = some b) (h : o.wp P a w K Q) : if Region.wanted o y = true then o.wp P a w K Q else E := by
 rw [if_pos (by simp [Region.wanted, hg, hy])]; exact h
theorem wanted_no {P : Program} {o : Oper} {a : Act} {w : World} {K : Act → World → Prop} {Q : Exit → Act → World → Prop} {E : Prop} {y : Nat → Option Bool} {j : Nat} {b b' : Bool} (hg : o.guard = some (j, b)) (hy : y j = some b') (hne : (b' == b) = false) (h : E) : if Region.wanted o y = true then o.wp P a w K Q else E := by
 rw [if_neg (by simp only [Region.wanted, hg, hy]; cases b <;> cases b' <;> simp_all)]; exact h
theorem wanted_go {P : Program} {o : Oper} {a : Act} {w : World} {K : Act → World → Prop} {Q : Exit → Act → World → Prop} {E : Prop} {y : Nat → Option Bool} (hg : o.guard = none) (h : o.wp P a w K Q) : if Region.wanted o y = true then o.wp P a w K Q else E := by
 rw [if_pos (by simp [Region.wanted, hg])]; exact h
theorem Inv.step {md : Region.Mode} {ops : Array Oper} {V : Nat → Value → World → Prop} {S : World → Prop} {a0 : Act} {listed : Array Bool} {a : Act} {w w' : World} {i : Nat} {o : Oper} {v : Value} (hI : Inv md ops V S a0 listed a w)
 (hdst : ∀ (i j : Nat) (oi oj : Oper) (d : Nat), ops[i]? = some oi → ops[j]? = some oj → oi.dst = some d → oj.dst = some d → i = j)
 (hlt : ∀ (i : Nat) (o : Oper) (d : Nat), ops[i]? = some o → o.dst = some d → d < a0.tmps.size)
 (h2 : ops[i]? = some o) (h3 : ∀ e ∈ o.after, Region.binds md e = true → Done listed e.on) (hS : S w') (hv : V i v w') (hst : ∀ j u, V j u w → V j u w') :
 Inv md ops V S a0 (listed.setIfInBounds i true) (a.put o.dst v) w' := by
 have hsz : i < ops.size := (Array.getElem?_eq_some_iff.1 h2).1
 refine ⟨by simpa using hI.lsize, hS, ?_, ?_, ?_, ?_, ?_⟩
 · cases o.dst <;> exact hI.defers
 · cases ho : o.dst <;> simp [Act.put, hI.size]
 · intro j oj hj hd e he hb
   rcases hd.inv with rfl | hd
   · rw [h2] at hj
     cases hj
     exact Done.set (h3 e he hb)
   · exact Done.set (hI.closed j oj hj hd e he hb)
 · intro j oj d hj hjd hd
   by_cases hji : j = i
   · subst hji
     rw [h2] at hj
     cases hj
     refine ⟨v, ?_, hv⟩
     have := hlt j o d h2 hjd
     simp [Act.put, hjd, hI.size, this]
   · rcases hd.inv with h | hd
     · exact absurd h hji
     · obtain ⟨u, hu, hV⟩ := hI.got j oj d hj hjd hd
       refine ⟨u, ?_, hst j u hV⟩
       cases ho : o.dst with
       | none => simpa [Act.put, ho] using hu
       | some d' =>
        have hne : d' ≠ d := fun e => hji (hdst j i oj o d hj h2 hjd (by rw [ho, e]))
        simpa [Act.put, Array.getElem?_setIfInBounds, hne] using hu
 · intro j hj
   have h4 := hI.old j (fun k ok hk hkd hd => hj k ok hk hkd hd.set)
   cases ho : o.dst with
   | none => simpa [Act.put] using h4
   | some d' =>
    have hne : d' ≠ j := fun e => hj i o h2 (by rw [ho, e]) (Done.new (by rw [hI.lsize]; exact hsz))
    simpa [Act.put, Array.getElem?_setIfInBounds, hne] using h4
def headDone (m n : Nat) : Array Bool := ((List.range n).map fun i => decide (i < m)).toArray
theorem headDone_get (m n i : Nat) (hi : i < n) : (headDone m n)[i]? = some (decide (i < m)) := by simp [headDone, hi]
theorem eq_headDone {m n : Nat} {listed : Array Bool} (hs : listed.size = n) (h1 : ∀ i, i < m → i < n → Done listed i) (h2 : ∀ i, m ≤ i → i < n → ¬ Done listed i) : listed = headDone m n := by
 refine Array.ext_getElem? fun i => ?_
 by_cases hi : i < n
 · rw [headDone_get m n i hi, Array.getElem?_eq_getElem (by omega)]
   by_cases him : i < m
   · have := h1 i him hi
     simp [Done, Array.getD_eq_getD_getElem?, hs, hi] at this
     simp [this, him]
   · have := h2 i (by omega) hi
     simp [Done, Array.getD_eq_getD_getElem?, hs, hi] at this
     simp [this, him]
 · rw [Array.getElem?_eq_none (by omega), Array.getElem?_eq_none (by simp [headDone]; omega)]
def waitsB (md : Region.Mode) (ops : Array Oper) (m : Nat) : Bool :=
 (List.range m).all fun i => ((List.range ops.size).drop (i + 1)).any fun j => decide (j ≤ m) && match ops[j]? with
  | some o => o.after.toList.any fun e => Region.binds md e && e.on == i
  | none => false
def behindB (md : Region.Mode) (ops : Array Oper) (m : Nat) : Bool :=
 ((List.range ops.size).drop (m + 1)).all fun j => match ops[j]? with
  | some o => o.after.toList.any fun e => Region.binds md e && decide (m ≤ e.on) && decide (e.on < j)
  | none => true
theorem waits_spec {md : Region.Mode} {ops : Array Oper} {V : Nat → Value → World → Prop} {S : World → Prop} {a0 : Act} {listed : Array Bool} {a : Act} {w : World} {m : Nat} (hI : Inv md ops V S a0 listed a w)
 (h : waitsB md ops m = true) {o : Oper} (ho : ops[m]? = some o) (hd : ∀ e ∈ o.after, Region.binds md e = true → Done listed e.on) : ∀ k i, i < m → m - i ≤ k → Done listed i
 | 0, i, hi, hk => absurd hk (by omega)
 | k + 1, i, hi, hk => by
  simp only [waitsB, List.all_eq_true, List.mem_range] at h
  have h1 := h i hi
  simp only [List.any_eq_true, Bool.and_eq_true, decide_eq_true_eq] at h1
  obtain ⟨j, hj, hjm, h2⟩ := h1
  have hij : i < j := by
   rw [List.mem_drop_iff_getElem] at hj
   obtain ⟨q, hq, hq2⟩ := hj
   simp at hq2
   omega
  cases hoj : ops[j]? with
  | none => rw [hoj] at h2; simp at h2
  | some oj =>
   rw [hoj] at h2
   simp only [List.any_eq_true, Bool.and_eq_true, beq_iff_eq] at h2
   obtain ⟨e, he, hb, rfl⟩ := h2
   by_cases hjm2 : j = m
   · subst hjm2
     rw [ho] at hoj
     cases hoj
     exact hd e (by simpa using he) hb
   · have := waits_spec hI (by simpa only [waitsB, List.all_eq_true, List.mem_range] using h) ho hd k j (by omega) (by omega)
     exact hI.closed j oj hoj this e (by simpa using he) hb
theorem left_head (m : Nat) : ∀ n k, k ≤ n → k - m ≤ ((List.range k).filter fun i => !(headDone m n).getD i true).length
 | n, 0, _ => by simp
 | n, k + 1, hk => by
  have ih := left_head m n k (by omega)
  have e := headDone_get m n k (by omega)
  rw [List.range_succ, List.filter_append, List.length_append]
  by_cases h : k < m
  · omega
  · have : ([k].filter fun i => !(headDone m n).getD i true).length = 1 := by simp [Array.getD_eq_getD_getElem?, e, h]
    omega
theorem Inv.oldHead {md : Region.Mode} {ops : Array Oper} {V : Nat → Value → World → Prop} {S : World → Prop} {a0 : Act} {a : Act} {w : World} {m n : Nat} (hI : Inv md ops V S a0 (headDone m n) a w) (j : Nat)
 (h : ((ops.toList.take m).all fun o => o.dst != some j) = true) : a.tmps[j]? = a0.tmps[j]? := by
 refine hI.old j fun i o hi hd hdn => ?_
 have him : i < m := by
  by_cases hin : i < n
  · have := headDone_get m n i hin
    simp only [Done, Array.getD_eq_getD_getElem?, this, Option.getD_some, decide_eq_true_eq] at hdn
    exact hdn
  · have : (headDone m n)[i]? = none := Array.getElem?_eq_none (by simp [headDone]; omega)
    simp [Done, Array.getD_eq_getD_getElem?, this] at hdn
 simp only [List.all_eq_true] at h
 have := h o (List.mem_iff_getElem?.2 ⟨i, by rw [List.getElem?_take_of_lt him]; simpa using hi⟩)
 simp [hd] at this
theorem all_done' {md : Region.Mode} {ops : Array Oper} {listed : Array Bool} (hl : listed.size = ops.size)
 (hord : ∀ (i : Nat) (o : Oper), ops[i]? = some o → ∀ e ∈ o.after, Region.binds md e = true → e.on < i) (h : Region.ready md ops listed = []) : ∀ n i, i < n → i < ops.size → Done listed i
 | 0, i, hi, _ => absurd hi (by omega)
 | n + 1, i, hi, hs => by
  have ih := all_done' hl hord h n
  have hmem : i ∉ Region.ready md ops listed := by rw [h]; simp
  rw [mem_ready] at hmem
  have hd : Done listed i ∨ listed.getD i true = false := by
   rw [getD_tf (by omega)]
   unfold Done
   cases listed.getD i false <;> simp
  rcases hd with hd | hd
  · exact hd
  · refine absurd ⟨hd, ops[i], Array.getElem?_eq_getElem hs, fun e he hb => ?_⟩ hmem
    have := hord i ops[i] (Array.getElem?_eq_getElem hs) e he hb
    exact ih e.on (by omega) (by omega)
def ordB' (md : Region.Mode) (ops : Array Oper) : Bool := (List.range ops.size).all fun i => match ops[i]? with
 | some o => o.after.toList.all fun e => !Region.binds md e || decide (e.on < i)
 | none => true
theorem ordB_spec' {md : Region.Mode} {ops : Array Oper} (h : ordB' md ops = true) (i : Nat) (o : Oper) (ho : ops[i]? = some o) : ∀ e ∈ o.after, Region.binds md e = true → e.on < i := by
 intro e he hb
 simp only [ordB', List.all_eq_true, List.mem_range] at h
 have := h i (Array.getElem?_eq_some_iff.1 ho).1
 rw [ho] at this
 simp only [List.all_eq_true] at this
 have h2 := this e (by simpa using he)
 simpa [hb] using h2
theorem wpAny_inv2' {P : Program} {md : Region.Mode} {ops : Array Oper} {Q : Exit → Act → World → Prop} {V : Nat → Value → World → Prop} {S : World → Prop} {a0 : Act} {m : Nat}
 (hord : ∀ (i : Nat) (o : Oper), ops[i]? = some o → ∀ e ∈ o.after, Region.binds md e = true → e.on < i)
 (hdst : ∀ (i j : Nat) (oi oj : Oper) (d : Nat), ops[i]? = some oi → ops[j]? = some oj → oi.dst = some d → oj.dst = some d → i = j)
 (hlt : ∀ (i : Nat) (o : Oper) (d : Nat), ops[i]? = some o → o.dst = some d → d < a0.tmps.size)
 (hmn : m < ops.size) (hwait : waitsB md ops m = true) (hbeh : behindB md ops m = true)
 (hstep : ∀ i o, i < m → ops[i]? = some o → ∀ listed a w, Inv md ops V S a0 listed a w → (∀ e ∈ o.after, Region.binds md e = true → Done listed e.on) → ¬ Done listed i →
  ∀ K : Act → World → Prop, (∀ v w', S w' → V i v w' → (∀ j u, V j u w → V j u w') → K (a.put o.dst v) w') → if Region.wanted o (yielded ops a.tmps) = true then o.wp P a w K Q else K (a.put o.dst undef) w)
 (hmid : ∀ f a w, Inv md ops V S a0 (headDone m ops.size) a w → wpAny P md ops Q (f + (ops.size - m)) (headDone m ops.size) a w) :
 ∀ fuel listed a w, Inv md ops V S a0 listed a w → (∀ i, m ≤ i → i < ops.size → ¬ Done listed i) → left ops.size listed ≤ fuel → wpAny P md ops Q fuel listed a w := by
 intro fuel
 induction fuel with
 | zero =>
  intro listed a w hI hno hf
  have hr : Region.ready md ops listed = [] := by
   rw [List.eq_nil_iff_forall_not_mem]
   intro i hi
   obtain ⟨h1, o, h2, _⟩ := mem_ready.1 hi
   have := left_set hI.lsize (Array.getElem?_eq_some_iff.1 h2).1 h1
   omega
  exact absurd (all_done' hI.lsize hord hr (m + 1) m (by omega) hmn) (hno m (by omega) hmn)
 | succ fuel ih =>
  intro listed a w hI hno hf
  by_cases hall : ∀ i, i < m → Done listed i
  · have hl := eq_headDone hI.lsize (fun i hi _ => hall i hi) hno
    subst hl
    have h1 := left_head m ops.size ops.size (Nat.le_refl _)
    unfold left at hf
    have h2 := hmid (fuel + 1 - (ops.size - m)) a w hI
    rwa [show fuel + 1 - (ops.size - m) + (ops.size - m) = fuel + 1 from by omega] at h2
  · refine ⟨fun hr => absurd (all_done' hI.lsize hord hr (m + 1) m (by omega) hmn) (hno m (by omega) hmn), fun i hi => ?_⟩
    obtain ⟨h1, o, h2, h3⟩ := mem_ready.1 hi
    have hsz : i < ops.size := (Array.getElem?_eq_some_iff.1 h2).1
    have him : i < m := by
     refine Nat.lt_of_not_le fun hle => ?_
     by_cases he : i = m
     · subst he
       exact hall fun j hj => waits_spec hI hwait h2 h3 (i - j) j hj (Nat.le_refl _)
     · simp only [behindB, List.all_eq_true] at hbeh
       have h4 := hbeh i (by rw [List.mem_drop_iff_getElem]; exact ⟨i - (m + 1), by simp; omega, by simp; omega⟩)
       rw [h2] at h4
       simp only [List.any_eq_true, Bool.and_eq_true, decide_eq_true_eq] at h4
       obtain ⟨e, hem, ⟨hb, hme⟩, hei⟩ := h4
       exact hno e.on hme (by omega) (h3 e (by simpa using hem) hb)
    have hnd : ¬ Done listed i := by
     unfold Done
     rw [← getD_tf (by rw [hI.lsize]; exact hsz), h1]
     simp
    refine wpOp_step h2 (fun K hK => hstep i o him h2 listed a w hI h3 hnd K (fun v w' hS hv hst => hK _ _ ?_))
    refine ih _ _ _ (hI.step hdst hlt h2 h3 hS hv hst) (fun j hj hjs hdj => ?_) ?_
    · rcases hdj.inv with rfl | hdj
      · omega
      · exact hno j hj hjs hdj
    · have := left_set hI.lsize hsz h1
      omega
theorem wp_region_inv2' {P : Program} {ops : Array Oper} {Q : Exit → Act → World → Prop} (m : Nat) (V : Nat → Value → World → Prop) (S : World → Prop) {id : Nat} {a : Act} {w : World}
 (hm : P.follows .mixedOrders = true) (ho : ordB' .any ops = true) (hd : dstB ops a.tmps.size = true) (hmn : m < ops.size) (hwait : waitsB .any ops m = true) (hbeh : behindB .any ops m = true) (hS : S w.drew)
 (hstep : AllOps (OpStep P .any ops Q V S a) 0 (ops.toList.take m))
 (hmid : ∀ f a' w', Inv .any ops V S a (headDone m ops.size) a' w' → wpAny P .any ops Q (f + (ops.size - m)) (headDone m ops.size) a' w') : (Code.region id ops true).wp P Q a w := by
 have hno : ∀ i, ¬ Done (Array.replicate ops.size false) i := fun i h => by
  unfold Done at h
  by_cases hi : i < ops.size <;> simp [Array.getD_eq_getD_getElem?, hi] at h
 refine wp_region_any hm (wpAny_inv2' (V := V) (S := S) (a0 := a) (m := m) (ordB_spec' ho) (fun i j oi oj d hi hj hid hjd => (dstB_spec hd i oi d hi hid).2 j oj hj hjd) (fun i o d hi hid => (dstB_spec hd i o d hi hid).1) hmn hwait hbeh
  (fun i o him hi listed a' w' hI hdn hnd K hK => ?_) hmid _ _ _ _ ?_ (fun i _ _ => hno i) ?_)
 · have := AllOps.get hstep (i := i) (o := o) (by rw [List.getElem?_take_of_lt him]; simpa using hi)
   rw [Nat.zero_add] at this
   exact this listed a' w' hI hdn hnd K hK
 · exact ⟨by simp, hS, rfl, rfl, fun i _ _ h => absurd h (hno i), fun i _ _ _ _ h => absurd h (hno i), fun _ _ => rfl⟩
 · unfold left
   exact Nat.le_trans (List.length_filter_le _ _) (by simp)
end Go.Proofs.Ytebdajkknkapcaa
namespace Go.Proofs.Ytebdajkknkapcaa
open Go Go.RowKit
def IsLen (m : Nat) (v : Value) (_ : World) : Prop := ∃ A c, v = .slice A m c
theorem IsLen.keep (m : Nat) : ∀ v w w', Below w.heap.size w w' → IsLen m v w → IsLen m v w' := fun _ _ _ _ h => h
section
variable (l : List XAccount) (A : Option Addr) (c n m : Nat) (w : World) (hN : l.length = n) (hl : ListC AccountC 4 w (· < w.heap.size) [.slice A l.length c] l) (hn : l.length ≤ 1000)
include hN hl hn in
end
section
variable {l : List XAccount} {g : Bool} {i j : Nat} {a b : XAccount}
end
end Go.Proofs.Ytebdajkknkapcaa
namespace Go.Proofs.Ytebdajkknkapcaa
open Go Go.RowKit
def basedB (a : XAccount) : Bool := if a.kind = 1 ∨ a.kind = 2 then decide (a.basis = 1 ∨ a.basis = 3) else if a.kind = 3 then decide (a.basis = 3) else decide (a.basis = 2)
end Go.Proofs.Ytebdajkknkapcaa
namespace Go.Proofs.Ytebdajkknkapcaa
open Go Go.RowKit
structure XRole where
 name : ByteArray := ByteArray.empty
 code : Int := 0
 kind : Int := 0
 basis : Int := 0
 mapped : Bool := false
def rolesL (r0 r1 r2 r3 r4 r5 r6 r7 r8 r9 r10 r11 r12 r13 r14 : Int) : List XRole := [{ name := ⟨#[105, 110, 118, 101, 115, 116, 109, 101, 110, 116]⟩, code := r0, kind := 1, basis := 3, mapped := true }, { name := ⟨#[103, 111, 111, 100, 119, 105, 108, 108]⟩, code := r1, kind := 1, basis := 3, mapped := false }, { name := ⟨#[97, 115, 115, 111, 99, 105, 97, 116, 101, 115]⟩, code := r2, kind := 1, basis := 3, mapped := false }, { name := ⟨#[105, 110, 118, 101, 110, 116, 111, 114, 121]⟩, code := r3, kind := 1, basis := 1, mapped := true }, { name := ⟨#[114, 101, 115, 101, 114, 118, 101]⟩, code := r4, kind := 3, basis := 3, mapped := false }, { name := ⟨#[109, 105, 110, 111, 114, 105, 116, 121]⟩, code := r5, kind := 3, basis := 3, mapped := false }, { name := ⟨#[114, 101, 116, 97, 105, 110, 101, 100]⟩, code := r6, kind := 3, basis := 3, mapped := true }, { name := ⟨#[97, 99, 113, 117, 105, 114, 101, 100]⟩, code := r7, kind := 3, basis := 3, mapped := false }, { name := ⟨#[111, 119, 110, 101, 114, 115]⟩, code := r8, kind := 3, basis := 3, mapped := false }, { name := ⟨#[100, 105, 115, 112, 111, 115, 97, 108]⟩, code := r9, kind := 4, basis := 2, mapped := false }, { name := ⟨#[97, 115, 115, 111, 99, 105, 97, 116, 101, 80, 114, 111, 102, 105, 116]⟩, code := r10, kind := 4, basis := 2, mapped := false }, { name := ⟨#[100, 105, 118, 105, 100, 101, 110, 100, 115]⟩, code := r11, kind := 4, basis := 2, mapped := true }, { name := ⟨#[109, 105, 110, 111, 114, 105, 116, 121, 80, 114, 111, 102, 105, 116]⟩, code := r12, kind := 5, basis := 2, mapped := false }, { name := ⟨#[100, 105, 102, 102, 101, 114, 101, 110, 99, 101]⟩, code := r13, kind := 5, basis := 2, mapped := false }, { name := ⟨#[109, 97, 114, 103, 105, 110]⟩, code := r14, kind := 5, basis := 2, mapped := false }]
theorem flat_at {β : Type} {w : World} {Q : Nat → Prop} {b sz : Nat} (f : β → List Value) (hf : ∀ x, (f x).length = sz) : ∀ (xs : List β) (o : Nat), At w Q ⟨b, o, none⟩ (xs.flatMap f) → ∀ i x, xs[i]? = some x → At w Q ⟨b, o + i * sz, none⟩ (f x)
 | [], _, _, i, x, h => by simp at h
 | y :: xs, o, ha, i, x, h => by
  rw [List.flatMap_cons] at ha
  obtain ⟨h1, h2⟩ := ha.split
  cases i with
  | zero =>
   simp only [List.getElem?_cons_zero, Option.some.injEq] at h
   subst h
   simpa using h1
  | succ i =>
   simp only [List.getElem?_cons_succ] at h
   rw [hf y] at h2
   have := flat_at f hf xs (o + sz) h2 i x h
   rwa [show o + (i + 1) * sz = o + sz + i * sz from by rw [Nat.succ_mul]; omega]
end Go.Proofs.Ytebdajkknkapcaa
namespace Go.Proofs.Ytebdajkknkapcaa
open Go Go.RowKit
def roleRow (ch : List XAccount) (L : List XRole) (i : Nat) : Bool := match L[i]? with
 | none => false
 | some q => match findA ch q.code with
  | none => false
  | some a => a.kind == q.kind && a.basis == q.basis && !((L.take i).any fun p => p.code == q.code)
def rolesB (ch : List XAccount) (L : List XRole) : Bool := (List.range L.length).all (roleRow ch L)
def rolesOf (r : XRoles) : List XRole := rolesL r.investment r.goodwill r.associates r.inventory r.reserve r.minority r.retained r.acquired r.owners r.disposal r.associateProfit r.dividends r.minorityProfit r.difference r.margin
def accountsB (ch : List XAccount) (r : XRoles) : Bool := chartB ch true && ch.all basedB && rolesB ch (rolesOf r)
def linkB (ec ch : List XAccount) (l : XLink) : Bool := match findA ec l.from_ with
 | none => false
 | some a => match findA ch l.to_ with
  | none => false
  | some b => a.kind == b.kind && decide (inD l.since)
def linkRow (ec ch : List XAccount) (ls : List XLink) (i : Nat) : Bool := match ls[i]? with
 | none => false
 | some l => linkB ec ch l && !((ls.take i).any fun k => k.from_ == l.from_ && k.since == l.since)
def linksB (ec ch : List XAccount) (ls : List XLink) : Bool := (List.range ls.length).all (linkRow ec ch ls)
def mappingB (e : XEntity) (ch : List XAccount) : Bool := chartB ch true && chartB e.chart false && decide (e.links.length ≤ 400) && linksB e.chart ch e.links
def closedB (L : List XRole) (c : Int) : Bool := L.any fun q => q.code == c && !q.mapped
def entityB (ch : List XAccount) (L : List XRole) (e : XEntity) : Bool := nameB e.name && curB e.currency && mappingB e ch && e.links.all fun l => !closedB L l.to_
def entRow (ch : List XAccount) (L : List XRole) (es : List XEntity) (i : Nat) : Bool := match es[i]? with
 | none => false
 | some e => !((es.take i).any fun x => decide (x.name = e.name)) && entityB ch L e
def entsB (ch : List XAccount) (L : List XRole) (es : List XEntity) : Bool := (List.range es.length).all (entRow ch L es)
def groupB (g : XGroup) : Bool := curB g.currency && calB g.calendar.year g.calendar.month g.calendar.periods && accountsB g.chart g.roles && decide (1 ≤ g.entities.length ∧ g.entities.length ≤ 12) && !(g.entities.getD 0 {}).joint && entsB g.chart (rolesOf g.roles) g.entities
end Go.Proofs.Ytebdajkknkapcaa
namespace Go.Proofs.Ytebdajkknkapcaa
open Go Go.RowKit
abbrev grpL (cur : ByteArray) (y m p : Int) (Ac : Option Addr) (n cc : Nat) (r0 r1 r2 r3 r4 r5 r6 r7 r8 r9 r10 r11 r12 r13 r14 : Int) (Ae : Option Addr) (ne ce : Nat) : List Value := [.string cur, .int .i64 y, .int .i64 m, .int .i64 p, .slice Ac n cc, .int .i64 r0, .int .i64 r1, .int .i64 r2, .int .i64 r3, .int .i64 r4, .int .i64 r5, .int .i64 r6, .int .i64 r7, .int .i64 r8, .int .i64 r9, .int .i64 r10, .int .i64 r11, .int .i64 r12, .int .i64 r13, .int .i64 r14, .slice Ae ne ce]
abbrev linkL (l : XLink) : List Value := [.int .i64 l.from_, .int .i64 l.to_, .int .i64 l.since]
def linkBd (l : XLink) : Prop := intBd l.from_ ∧ intBd l.to_ ∧ intBd l.since
theorem LinkC.lit {w : World} {Q : Nat → Prop} {cs : List Value} {x : XLink} (h : LinkC w Q cs x) : cs = linkL x ∧ linkBd x := by
 obtain ⟨c0, c1, c2, rfl, ⟨rfl, h0⟩, ⟨rfl, h1⟩, ⟨rfl, h2⟩⟩ := h
 exact ⟨rfl, h0, h1, h2⟩
abbrev entL (s c : ByteArray) (Ac : Option Addr) (n cc : Nat) (Al : Option Addr) (nl cl : Nat) (j : Bool) : List Value := [.string s, .string c, .slice Ac n cc, .slice Al nl cl, .bool j]
theorem EntityC.lit {w : World} {Q : Nat → Prop} {cs : List Value} {x : XEntity} (h : EntityC w Q cs x) : ∃ Ac cc Al cl, cs = entL x.name x.currency Ac x.chart.length cc Al x.links.length cl x.joint ∧ ListC AccountC 4 w Q [.slice Ac x.chart.length cc] x.chart ∧ ListC LinkC 3 w Q [.slice Al x.links.length cl] x.links := by
 obtain ⟨c0, c1, c2, c3, c4, rfl, h0, h1, h2, h3, h4⟩ := h
 have e0 : c0 = _ := h0
 have e1 : c1 = _ := h1
 have e4 : c4 = _ := h4
 subst e0 e1 e4
 obtain ⟨A, c, e, _⟩ := h2.form
 subst e
 obtain ⟨A', c', e, _⟩ := h3.form
 subst e
 exact ⟨A, c, A', c', rfl, h2, h3⟩
def rolesBd (r : XRoles) : Prop := intBd r.investment ∧ intBd r.goodwill ∧ intBd r.associates ∧ intBd r.inventory ∧ intBd r.reserve ∧ intBd r.minority ∧ intBd r.retained ∧ intBd r.acquired ∧ intBd r.owners ∧ intBd r.disposal ∧ intBd r.associateProfit ∧ intBd r.dividends ∧ intBd r.minorityProfit ∧ intBd r.difference ∧ intBd r.margin
theorem RolesC.lit {w : World} {Q : Nat → Prop} {cs : List Value} {r : XRoles} (h : RolesC w Q cs r) : cs = [.int .i64 r.investment, .int .i64 r.goodwill, .int .i64 r.associates, .int .i64 r.inventory, .int .i64 r.reserve, .int .i64 r.minority, .int .i64 r.retained, .int .i64 r.acquired, .int .i64 r.owners, .int .i64 r.disposal, .int .i64 r.associateProfit, .int .i64 r.dividends, .int .i64 r.minorityProfit, .int .i64 r.difference, .int .i64 r.margin] ∧ rolesBd r := by
 obtain ⟨c0, c1, c2, c3, c4, c5, c6, c7, c8, c9, c10, c11, c12, c13, c14, rfl, ⟨rfl, h0⟩, ⟨rfl, h1⟩, ⟨rfl, h2⟩, ⟨rfl, h3⟩, ⟨rfl, h4⟩, ⟨rfl, h5⟩, ⟨rfl, h6⟩, ⟨rfl, h7⟩, ⟨rfl, h8⟩, ⟨rfl, h9⟩, ⟨rfl, h10⟩, ⟨rfl, h11⟩, ⟨rfl, h12⟩, ⟨rfl, h13⟩, ⟨rfl, h14⟩⟩ := h
 exact ⟨rfl, h0, h1, h2, h3, h4, h5, h6, h7, h8, h9, h10, h11, h12, h13, h14⟩
theorem CalC.lit {w : World} {Q : Nat → Prop} {cs : List Value} {x : XCal} (h : CalC w Q cs x) : cs = [.int .i64 x.year, .int .i64 x.month, .int .i64 x.periods] ∧ intBd x.year ∧ intBd x.month ∧ intBd x.periods := by
 obtain ⟨c0, c1, c2, rfl, ⟨rfl, h0⟩, ⟨rfl, h1⟩, ⟨rfl, h2⟩⟩ := h
 exact ⟨rfl, h0, h1, h2⟩
theorem GroupC.lit {w : World} {Q : Nat → Prop} {cs : List Value} {g : XGroup} (h : GroupC w Q cs g) : ∃ Ac cc Ae ce, cs = grpL g.currency g.calendar.year g.calendar.month g.calendar.periods Ac g.chart.length cc g.roles.investment g.roles.goodwill g.roles.associates g.roles.inventory g.roles.reserve g.roles.minority g.roles.retained g.roles.acquired g.roles.owners g.roles.disposal g.roles.associateProfit g.roles.dividends g.roles.minorityProfit g.roles.difference g.roles.margin Ae g.entities.length ce ∧ ListC AccountC 4 w Q [.slice Ac g.chart.length cc] g.chart ∧ ListC EntityC 5 w Q [.slice Ae g.entities.length ce] g.entities ∧ (intBd g.calendar.year ∧ intBd g.calendar.month ∧ intBd g.calendar.periods) ∧ rolesBd g.roles := by
 obtain ⟨c0, c1, c2, c3, c4, rfl, h0, h1, h2, h3, h4⟩ := h
 have e0 : c0 = _ := h0
 subst e0
 obtain ⟨rfl, b1⟩ := h1.lit
 obtain ⟨rfl, b3⟩ := h3.lit
 obtain ⟨A, c, e, _⟩ := h2.form
 subst e
 obtain ⟨A', c', e, _⟩ := h4.form
 subst e
 exact ⟨A, c, A', c', rfl, h2, h4, b1, b3⟩
theorem meas_v {n k : Nat} (h : k < n) : n - (intOf (.int .i64 ((k : Int) + 1))).toNat < n - (intOf (.int .i64 (k : Int))).toNat := by
 show n - ((k : Int) + 1).toNat < n - ((k : Int)).toNat
 omega
section
variable {ch : List XAccount} {L : List XRole} {k : Nat} {q : XRole} {a : XAccount}
end
end Go.Proofs.Ytebdajkknkapcaa
namespace Go.Proofs.Ytebdajkknkapcaa
open Go Go.RowKit
def chainB (md : Region.Mode) (ops : Array Oper) (m : Nat) : Bool := (List.range (ops.size - m)).all (fun j => Region.ready md ops (headDone (m + j) ops.size) == [m + j]) && Region.ready md ops (headDone ops.size ops.size) == []
theorem headDone_set (m n : Nat) (h : m < n) : (headDone m n).setIfInBounds m true = headDone (m + 1) n := by
 apply Array.ext
 · simp [headDone]
 · intro i h1 h2
   simp only [headDone, List.size_toArray, List.length_map, List.length_range, Array.size_setIfInBounds] at h1 h2
   rw [Array.getElem_setIfInBounds (by simpa [headDone] using h1)]
   simp only [headDone, List.getElem_toArray, List.getElem_map, List.getElem_range]
   by_cases hi : m = i
   · subst hi; simp
   · rw [if_neg hi]
     have : (i < m) ↔ (i < m + 1) := by omega
     simp [this]
theorem wpAny_chain_aux {P : Program} {md : Region.Mode} {ops : Array Oper} {Q : Exit → Act → World → Prop} (f : Nat) : ∀ (d m : Nat) (a : Act) (w : World), m + d = ops.size → (∀ i, m ≤ i → i < ops.size → Region.ready md ops (headDone i ops.size) = [i]) → Region.ready md ops (headDone ops.size ops.size) = [] →
 wpList P ops Q (ops.toList.drop m) a w → wpAny P md ops Q (f + d) (headDone m ops.size) a w
 | 0, m, a, w, hm, hr, h0, h => by
  have hm' : m = ops.size := by omega
  subst hm'
  rw [List.drop_eq_nil_of_le (by simp)] at h
  exact wpAny_done h0 h _
 | d + 1, m, a, w, hm, hr, h0, h => by
  have hlt : m < ops.size := by omega
  refine wpAny_all (rs := [m]) (hr m (Nat.le_refl _) hlt) (by simp) (fun i hi => ?_)
  obtain rfl : i = m := by simpa using hi
  rw [headDone_set i ops.size hlt]
  have ho : ops[i]? = some ops[i] := Array.getElem?_eq_getElem hlt
  have hd : ops.toList.drop i = ops[i] :: ops.toList.drop (i + 1) := by
   rw [List.drop_eq_getElem_cons (by simpa using hlt)]; simp
  rw [hd] at h
  unfold wpOp
  rw [ho]
  simp only [wpList] at h
  have ih := fun a w => wpAny_chain_aux (P := P) (md := md) (ops := ops) (Q := Q) f d (i + 1) a w (by omega) (fun j hj => hr j (by omega)) h0
  show if Region.wanted ops[i] (yielded ops a.tmps) = true then _ else _
  split
  · rename_i hw
    rw [if_pos hw] at h
    rcases h with h | h
    · exact .inl (Oper.wp_mono ih h)
    · exact .inr h
  · rename_i hw
    rw [if_neg hw] at h
    exact ih _ _ h
theorem wpAny_chain {P : Program} {md : Region.Mode} {ops : Array Oper} {Q : Exit → Act → World → Prop} {f m : Nat} {a : Act} {w : World} (hc : chainB md ops m = true) (hm : m < ops.size) (h : wpList P ops Q (ops.toList.drop m) a w) : wpAny P md ops Q (f + (ops.size - m)) (headDone m ops.size) a w := by
 unfold chainB at hc
 simp only [Bool.and_eq_true, List.all_eq_true, beq_iff_eq, List.mem_range] at hc
 exact wpAny_chain_aux f _ m a w (by omega) (fun i h1 h2 => by have := hc.1 (i - m) (by omega); rwa [show m + (i - m) = i from by omega] at this) hc.2 h
theorem wp_region_inv3 {P : Program} {ops : Array Oper} {Q : Exit → Act → World → Prop} (m : Nat) (V : Nat → Value → World → Prop) (S : World → Prop) {id : Nat} {a : Act} {w : World}
 (hm : P.follows .mixedOrders = true) (ho : ordB' .any ops = true) (hd : dstB ops a.tmps.size = true) (hmn : m < ops.size) (hwait : waitsB .any ops m = true) (hbeh : behindB .any ops m = true) (hch : chainB .any ops m = true) (hS : S w.drew)
 (hstep : AllOps (OpStep P .any ops Q V S a) 0 (ops.toList.take m))
 (hmid : ∀ a' w', Inv .any ops V S a (headDone m ops.size) a' w' → wpList P ops Q (ops.toList.drop m) a' w') : (Code.region id ops true).wp P Q a w :=
 wp_region_inv2' m V S hm ho hd hmn hwait hbeh hS hstep (fun f a' w' hI => wpAny_chain hch hmn (hmid a' w' hI))
def isValB : Option Kind → Bool
 | some (.val _) => true
 | some _ => false
 | none => true
theorem Ks.store {W w w' : World} {ks : List Kind} {p i : Nat} {kn : Kind} {u : Value} (hv : ((List.range ks.length).all fun j => j == p || isValB ks[j]?) = true) (h : Ks W ks i u w) (hp : i = p → kn.holds W u w') : Ks W (ks.set p kn) i u w' := by
 intro k hk
 by_cases hip : i = p
 · subst hip
   rw [List.getElem?_set_self'] at hk
   cases hk2 : ks[i]? with
   | none => rw [hk2] at hk; cases hk
   | some k0 =>
    rw [hk2] at hk
    have hk3 : kn = k := Option.some.inj hk
    subst hk3
    exact hp rfl
 · rw [List.getElem?_set_ne (fun e => hip e.symm)] at hk
   have hlen : i < ks.length := (List.getElem?_eq_some_iff.1 hk).1
   rw [List.all_eq_true] at hv
   have h2 := hv i (List.mem_range.2 hlen)
   rw [hk] at h2
   have h3 := h k hk
   cases k with
   | val x => exact h3
   | own P hP => simp [isValB, hip] at h2
def IsNew (W : World) (arr : Array Value) (t : TypeId) (v : Value) (w : World) : Prop := ∃ g, v = .pointer (some ⟨g, 0, none⟩) ∧ W.heap.size ≤ g ∧ w.heap[g]? = some (.cells arr t (0, 0))
theorem IsNew.keep (W : World) (arr : Array Value) (t : TypeId) : ∀ v w w', Below w.heap.size w w' → IsNew W arr t v w → IsNew W arr t v w' := by
 rintro v w w' hb ⟨g, rfl, h1, h2⟩
 exact ⟨g, rfl, h1, (hb.block _ (blk_lt h2)).trans h2⟩
theorem IsNew.made {W w : World} (h : W.heap.size ≤ w.heap.size) (arr : Array Value) (t : TypeId) : IsNew W arr t (.pointer (some ⟨w.heap.size, 0, none⟩)) (w.alloc (.cells arr t)) := ⟨_, rfl, h, heap_alloc_new _ _⟩
end Go.Proofs.Ytebdajkknkapcaa
namespace Go.Proofs.Ytebdajkknkapcaa
open Go Go.RowKit
open Go.Maps (Keyed)
open Go.WideMaps (KeyLaw)
theorem try_laidOut : laidOutB Try.prog = true := by kernel_rfl
theorem link_row : (161 : TypeId) < Try.prog.types.size := of_decide_eq_true (by kernel_rfl)
theorem int_cells : Try.prog.cellsOf 3 = 1 := by kernel_rfl
theorem keyLits_int {d : Nat} {n : Int} (h : intBd n) : Try.prog.keyLits (d + 1) 3 [.int .i64 n] = some [.int .i64 n] := by
 unfold Program.keyLits
 rw [int_uty]
 simp [WalkArith.wf_i64 h]
theorem types_size : ∃ d, Try.prog.types.size + 1 = d + 2 := ⟨Try.prog.types.size - 1, by have h : 161 < Try.prog.types.size := link_row; omega⟩
end Go.Proofs.Ytebdajkknkapcaa
namespace Go.Proofs.Ytebdajkknkapcaa
open Go Go.RowKit
def If (P : Prop) (w : World) (e : Ending) (w' : World) : Prop := ∃ b, e = .returned (.bool b) ∧ (b = true → P) ∧ Below w.heap.size w w'
theorem If.no {P : Prop} {w w' : World} (h : Below w.heap.size w w') : If P w (.returned (.bool false)) w' := ⟨false, rfl, (fun h => by cases h), h⟩
theorem If.yes {P : Prop} {w w' : World} (hp : P) (h : Below w.heap.size w w') : If P w (.returned (.bool true)) w' := ⟨true, rfl, fun _ => hp, h⟩
end Go.Proofs.Ytebdajkknkapcaa
namespace Go.Proofs.Ytebdajkknkapcaa
open Go Go.RowKit
abbrev itemL (x : XItem) : List Value := [.int .i64 x.ref.entry, .int .i64 x.ref.line, .int .i64 x.entity, .int .i64 x.account, .int .i64 x.partner, .int .i64 x.date, .int .i64 x.amount]
theorem ItemC.lit {w : World} {Q : Nat → Prop} {cs : List Value} {x : XItem} (h : ItemC w Q cs x) : cs = itemL x := by
 obtain ⟨c0, c1, c2, c3, c4, c5, rfl, h0, ⟨rfl, h1⟩, ⟨rfl, h2⟩, ⟨rfl, h3⟩, ⟨rfl, h4⟩, ⟨rfl, h5⟩⟩ := h
 obtain ⟨d0, d1, rfl, ⟨rfl, _⟩, ⟨rfl, _⟩⟩ := h0
 rfl
def monB (n : Int) : Bool := decide (-1000000000000 ≤ n ∧ n ≤ 1000000000000)
end Go.Proofs.Ytebdajkknkapcaa
namespace Go.Proofs.Ytebdajkknkapcaa
open Go Go.RowKit
section
variable {P : Program} (w : World)
theorem run_app_none (base : Nat) (t ty e : TypeId) (i : TypeInfo) (size : Nat) (ht : P.underlying t = some (.slice e)) (hi : P.info? e = some i)
 (v : Value) (n : Nat) (xs : List Value) (hown : w.ownsRow base e size v n xs) (c : Nat) : (Builtin.append_ #[t, t] ty #[v, .slice none 0 c]).run P w = .ok v w := by
 rcases hown.2 with ⟨rfl, rfl⟩ | ⟨g, cap, cur, rfl, _, _, hnc, _⟩
 · simp [Builtin.append_, run_underlying ht, sizeOf, typeInfo, hi, Builtin.lenOf, Builtin.firstCells]
 · simp [Builtin.append_, run_underlying ht, sizeOf, typeInfo, hi, Builtin.lenOf, Builtin.firstCells, hnc, storeCells]
theorem run_app (base : Nat) (t ty e : TypeId) (i : TypeInfo) (z : Value) (size bytes : Nat) (ht : P.underlying t = some (.slice e)) (hi : P.info? e = some i) (hz : i.zero = some z)
 (hsize : i.size = size) (hby : i.bytes = bytes) (hzs : z.cells.size = size) (hsz : 0 < size)
 (v : Value) (n : Nat) (xs : List Value) (hown : w.ownsRow base e size v n xs)
 (Q : Nat → Prop) (A : Option Addr) (m c : Nat) (news : List Value) (hr : Rd w Q A m size news) (h1 : ∀ u ∈ news, u.oneCell' = true)
 (h63 : n + m ≤ maxLen) (hbytes : (n + m) * bytes ≤ 140737488355328) (hbase : base ≤ w.heap.size) :
 ∃ v' w', (Builtin.append_ #[t, t] ty #[v, .slice A m c]).run P w = .ok v' w' ∧ w'.ownsRow base e size v' (n + m) (xs ++ news) ∧ w.grownBy w' v.ownBlock ∧
  (v'.ownBlock = v.ownBlock ∨ v'.ownBlock = some w.heap.size) := by
 rcases A with _ | ad
 · have hm : m = 0 := by
    rcases Nat.eq_zero_or_pos m with h0 | h0
    · exact h0
    · obtain ⟨ad, h, _⟩ := hr.2 h0
      cases h
   subst hm
   have hn : news = [] := List.eq_nil_of_length_eq_zero (by simpa using hr.1)
   subst hn
   exact ⟨v, w, run_app_none w base t ty e i size ht hi v n xs hown c, by simpa using hown, World.grownBy.refl w _, .inl rfl⟩
 · have hcells : ∀ j u, news[j]? = some u → w.cell? (ad.add j) = some u := by
    intro j u hu
    rcases Nat.eq_zero_or_pos m with h0 | h0
    · subst h0
      have hn : news = [] := List.eq_nil_of_length_eq_zero (by simpa using hr.1)
      subst hn
      simp at hu
    · obtain ⟨ad', h, hc⟩ := hr.2 h0
      injection h with h
      subst h
      exact (hc.2 j u hu).1
   obtain ⟨v', w', hrun, h2, h3, _, h5⟩ := run_append_own_at (P := P) w base t ty e i z size bytes ht hi hz hsize hby hzs hsz v n xs hown ad m c news hr.1 hcells h1 h63 hbytes hbase
   exact ⟨v', w', hrun, h2, h3, h5⟩
theorem wp_app {o : Oper} {a : Act} {K : Act → World → Prop} {Q' : Exit → Act → World → Prop} (s x : Operand) (t : TypeId)
 (ho : o.op = .call { callee := .builtin .append, args := #[s, x], argTypes := #[t, t] })
 (base : Nat) (e : TypeId) (i : TypeInfo) (z : Value) (size bytes : Nat) (ht : P.underlying t = some (.slice e)) (hi : P.info? e = some i) (hz : i.zero = some z)
 (hsize : i.size = size) (hby : i.bytes = bytes) (hzs : z.cells.size = size) (hsz : 0 < size)
 (v : Value) (n : Nat) (xs : List Value) (hs : a.eval s = v) (hown : w.ownsRow base e size v n xs)
 (Q : Nat → Prop) (A : Option Addr) (m c : Nat) (news : List Value) (hx : a.eval x = .slice A m c) (hr : Rd w Q A m size news) (h1 : ∀ u ∈ news, u.oneCell' = true)
 (h63 : n + m ≤ maxLen) (hbytes : (n + m) * bytes ≤ 140737488355328) (hbase : base ≤ w.heap.size)
 (h : ∀ v' w', w'.ownsRow base e size v' (n + m) (xs ++ news) → w.grownBy w' v.ownBlock → (v'.ownBlock = v.ownBlock ∨ v'.ownBlock = some w.heap.size) → K (a.put o.dst v') w') : o.wp P a w K Q' := by
 obtain ⟨v', w', hrun, h2, h3, h4⟩ := run_app (P := P) w base t o.type e i z size bytes ht hi hz hsize hby hzs hsz v n xs hown Q A m c news hr h1 h63 hbytes hbase
 unfold Oper.wp execOp
 simp only [ho, resolve, invoke, builtin, Sem.run_bind, Sem.run_pure, Result.andThen_ok, List.map_toArray, List.map_cons, List.map_nil, hs, hx, hrun]
 exact h v' w' h2 h3 h4
theorem wpList_app {ops : Array Oper} {rest : List Oper} {o : Oper} {a : Act} {Q' : Exit → Act → World → Prop} (hgd : o.guard = none) (s x : Operand) (t : TypeId)
 (ho : o.op = .call { callee := .builtin .append, args := #[s, x], argTypes := #[t, t] })
 (base : Nat) (e : TypeId) (i : TypeInfo) (z : Value) (size bytes : Nat) (ht : P.underlying t = some (.slice e)) (hi : P.info? e = some i) (hz : i.zero = some z)
 (hsize : i.size = size) (hby : i.bytes = bytes) (hzs : z.cells.size = size) (hsz : 0 < size)
 (v : Value) (n : Nat) (xs : List Value) (hs : a.eval s = v) (hown : w.ownsRow base e size v n xs)
 (Q : Nat → Prop) (A : Option Addr) (m c : Nat) (news : List Value) (hx : a.eval x = .slice A m c) (hr : Rd w Q A m size news) (h1 : ∀ u ∈ news, u.oneCell' = true)
 (h63 : n + m ≤ maxLen) (hbytes : (n + m) * bytes ≤ 140737488355328) (hbase : base ≤ w.heap.size)
 (h : ∀ v' w', w'.ownsRow base e size v' (n + m) (xs ++ news) → w.grownBy w' v.ownBlock → (v'.ownBlock = v.ownBlock ∨ v'.ownBlock = some w.heap.size) → wpList P ops Q' rest (a.put o.dst v') w') : wpList P ops Q' (o :: rest) a w :=
 wpList_plain hgd fun _ hK => wp_app w s x t ho base e i z size bytes ht hi hz hsize hby hzs hsz v n xs hs hown Q A m c news hx hr h1 h63 hbytes hbase fun v' w' h2 h3 h4 => hK _ _ (h v' w' h2 h3 h4)
end
theorem rd_new {w : World} {g n size : Nat} {T : TypeId} {xs : List Value} (h : w.heap[g]? = some (.cells xs.toArray T (0, 0))) (hl : xs.length = n * size) : Rd w (fun _ => True) (some ⟨g, 0, none⟩) n size xs :=
 ⟨hl, fun _ => ⟨⟨g, 0, none⟩, rfl, (box_at h).mono (fun _ _ => trivial)⟩⟩
theorem own_listC {α : Type} {El : World → (Nat → Prop) → List Value → α → Prop} {f : α → List Value} {sz : Nat} (hf : ∀ x, (f x).length = sz) {w : World} {Q : Nat → Prop} {base : Nat} {e : TypeId} {v : Value} {xs : List α} (h : w.ownsRow base e sz v xs.length (xs.flatMap f)) (hE : ∀ x ∈ xs, El w Q (f x) x) (hQ : ∀ g, v.ownBlock = some g → Q g) (hm : xs.length ≤ 1000) : ListC El sz w Q [v] xs := by
 rcases Nat.eq_zero_or_pos xs.length with h0 | h0
 · have hx : xs = [] := List.eq_nil_of_length_eq_zero h0
   subst hx
   rcases h.2 with ⟨rfl, _⟩ | ⟨g, cap, cur, rfl, _⟩
   · exact listC0 _ _ _ _
   · rename_i h2
     exact ⟨_, cap, rfl, by simp, h2.2.2.2.1, fun h => absurd h (by simp)⟩
 · obtain ⟨g, cap, rfl, h1, h2⟩ : ∃ g cap, v = .slice (some ⟨g, 0, none⟩) xs.length cap ∧ xs.length ≤ cap ∧ cap ≤ maxLen := by
    rcases h.2 with ⟨_, hz⟩ | ⟨g, cap, cur, hv, _, _, h3, h4, _⟩
    · omega
    · exact ⟨g, cap, hv, h3, h4⟩
   refine ⟨_, cap, rfl, h1, h2, fun _ => ⟨g, 0, rfl, hQ g rfl, fun i x hx => ⟨f x, hE x (List.mem_of_getElem? hx), ?_⟩⟩⟩
   have hat : At w Q ⟨g, 0, none⟩ (xs.flatMap f) := ⟨hQ g rfl, fun j u hu => ⟨h.cells (g := g) rfl j u hu, own_unfrozen h (g := g) rfl j⟩⟩
   have := flat_at f hf xs 0 hat i x hx
   exact this
end Go.Proofs.Ytebdajkknkapcaa
namespace Go.Proofs.Ytebdajkknkapcaa
open Go Go.RowKit
theorem own_shape {w : World} {base : Nat} {e : TypeId} {size n : Nat} {v : Value} {xs : List Value} (h : w.ownsRow base e size v n xs) : ∃ A n c, v = .slice A n c := by
 rcases h.2 with ⟨rfl, _⟩ | ⟨g, cap, cur, rfl, _⟩
 · exact ⟨_, _, _, rfl⟩
 · exact ⟨_, _, _, rfl⟩
theorem own_same {w w' : World} {base : Nat} {e : TypeId} {size n : Nat} {v : Value} {xs : List Value} (h : w.ownsRow base e size v n xs) (hb : ∀ g, v.ownBlock = some g → w'.heap[g]? = w.heap[g]?) : w'.ownsRow base e size v n xs := by
 refine ⟨h.1, ?_⟩
 rcases h.2 with h1 | ⟨g, cap, cur, rfl, h1, h2, h3⟩
 · exact .inl h1
 · exact .inr ⟨g, cap, cur, rfl, h1, (hb g rfl).trans h2, h3⟩
instance (n : Int) : Decidable (intBd n) := by unfold intBd; infer_instance
theorem accC_of {w : World} {Q : Nat → Prop} {x : XAccount} (h : accB x) : AccountC w Q (accL x) x := ⟨[_], [_], [_], [_], rfl, ⟨rfl, h.1⟩, ⟨rfl, h.2.1⟩, ⟨rfl, h.2.2.1⟩, ⟨rfl, h.2.2.2⟩⟩
theorem linkC_of {w : World} {Q : Nat → Prop} {x : XLink} (h : linkBd x) : LinkC w Q (linkL x) x := ⟨[_], [_], [_], rfl, ⟨rfl, h.1⟩, ⟨rfl, h.2.1⟩, ⟨rfl, h.2.2⟩⟩
end Go.Proofs.Ytebdajkknkapcaa
namespace Go.Proofs.Ytebdajkknkapcaa
open Go Go.RowKit Go.ChangeShapes Go.WideShapes Go.Deep
theorem own : ownKnob Try.prog.godebug = none := by kernel_rfl
theorem laidOut : laidOutB Try.prog = true := by kernel_rfl
section
variable {H : Type} {enc : TypeId × Value → H} {W : World}
def Opens (enc : TypeId × Value → H) (W : World) (T : TypeId) {α : Type} (C : List Value → α → Prop) (Z : α → Prop) : Prop :=
 ∀ fuel cs x, DataW.trod enc Try.prog W 0 (fun _ => true) true fuel T cs = some x → (∀ b off, MemPlace.cell b off ∈ x.2 → W.frozen? ⟨b, off, none⟩ = false) → (∀ n ∈ x.1.weights Try.prog T, n ≤ reachBytes) → ∃ a, C cs a ∧ Z a
def zNone {α : Type} (_ : α) : Prop := True
def zList {α : Type} (Z : α → Prop) (l : List α) : Prop := ∀ x ∈ l, Z x
theorem opInt : Opens enc W 3 IntC zNone := fun fuel cs x h _ _ => by
 obtain ⟨n, rfl, _, hwf⟩ := DataW.trod_int Try.underlying3 h
 refine ⟨n, ⟨rfl, ?_⟩, trivial⟩
 simp only [Lit.wf, IntKind.min, IntKind.max, Bool.and_eq_true, decide_eq_true_eq] at hwf
 simp [IntKind.signed, IntKind.bits] at hwf
 unfold intBd; omega
theorem cells_at {a : Addr} {n k : Nat} {cs : List Value} (h : ∀ i, i < n → W.cell? ((a.add k).add i) = cs[i]?) : ∀ i, i < n → W.cell? (a.add (k + i)) = cs[i]? := fun i hi => by
 rw [← add_add']; exact h i hi
theorem weights_all {P : Program} {e : TypeId} : ∀ {ds : List (DataW H)} {d : DataW H}, d ∈ ds → ∀ n ∈ d.weights P e, n ∈ DataW.weightsAll P e ds
 | [], _, h, _, _ => by cases h
 | a :: r, d, h, n, hn => by
  simp only [DataW.weightsAll, List.mem_append]
  rcases List.mem_cons.1 h with rfl | h
  · exact Or.inl hn
  · exact Or.inr (weights_all h n hn)
theorem opList {α : Type} {El : World → (Nat → Prop) → List Value → α → Prop} {Z : α → Prop} {T E : TypeId} {size : Nat} (ht : Try.prog.underlying T = some (.slice E)) (hC : Try.prog.cellsOf E = size) (hs : 0 < size)
 (hE : Opens enc W E (El W (· < W.heap.size)) Z) : Opens enc W T (ListC El size W (· < W.heap.size)) (zList Z) := fun fuel cs x h hfz hz => by
 have hlt := DataW.trod_lt _ _ _ _ h
 rcases open_slice ht h with ⟨rfl, rfl⟩ | ⟨a, len, cap, m, n, Df, Pl, rfl, _, hl, hm, hmm, rfl, hi⟩
 · exact ⟨[], ⟨none, 0, rfl, by simp, by simp [maxLen], fun h => absurd h (by simp)⟩, fun x hx => by cases hx⟩
 · simp only [if_true] at hmm
   subst hmm
   rw [hC] at hi hlt hfz
   have key : ∀ i, i < len → ∃ es y, (∀ j, j < es.length → W.cell? (a.add (i * size + j)) = es[j]?) ∧ es.length = size ∧ El W (· < W.heap.size) es y ∧ Z y := by
    intro i hil
    have him : i < m := by omega
    obtain ⟨cs', hc, ht'⟩ := hi i him
    obtain ⟨_, hcl, hat⟩ := World.cells?_some hc
    obtain ⟨y, hy, hzy⟩ := hE _ _ _ ht' (fun b off hb => hfz b off (List.mem_append_right _ (List.mem_flatMap.2 ⟨i, List.mem_range.2 him, hb⟩))) (fun n hn => hz n (by
     simp only [DataW.weights, ht]
     exact List.mem_cons_of_mem _ (List.mem_append_left _ (weights_all (List.mem_map.2 ⟨i, List.mem_range.2 hil, rfl⟩) n hn))))
    exact ⟨cs', y, fun j hj => cells_at hat j (by omega), hcl, hy, hzy⟩
   have hlen : ∃ xs : List α, xs.length = len ∧ ∀ i x, xs[i]? = some x → ∃ es, (∀ j, j < es.length → W.cell? (a.add (i * size + j)) = es[j]?) ∧ es.length = size ∧ El W (· < W.heap.size) es x ∧ Z x := by
    have : ∀ k, k ≤ len → ∃ xs : List α, xs.length = k ∧ ∀ i x, xs[i]? = some x → ∃ es, (∀ j, j < es.length → W.cell? (a.add (i * size + j)) = es[j]?) ∧ es.length = size ∧ El W (· < W.heap.size) es x ∧ Z x := by
     intro k
     induction k with
     | zero => exact fun _ => ⟨[], rfl, fun i x h => by simp at h⟩
     | succ k ih =>
      intro hk
      obtain ⟨xs, hxl, hx⟩ := ih (by omega)
      obtain ⟨es, y, h1, h2, h3, h4⟩ := key k (by omega)
      refine ⟨xs ++ [y], by simp [hxl], fun i x hix => ?_⟩
      by_cases hik : i < xs.length
      · rw [List.getElem?_append_left hik] at hix
        exact hx i x hix
      · rw [List.getElem?_append_right (by omega)] at hix
        have h0 : i - xs.length = 0 := by
         have := (List.getElem?_eq_some_iff.1 hix).1
         simp at this; omega
        rw [h0] at hix
        simp at hix
        subst hix
        have : i = k := by omega
        subst this
        exact ⟨es, h1, h2, h3, h4⟩
    exact this len (Nat.le_refl _)
   obtain ⟨xs, rfl, hx⟩ := hlen
   refine ⟨xs, ⟨some a, m, rfl, hl, hm, fun hn => ?_⟩, fun x hx' => ?_⟩
   · have h0 := hx 0 xs[0] (List.getElem?_eq_getElem hn)
     obtain ⟨es0, hc0, hl0, _⟩ := h0
     have hcell0 := hc0 0 (by omega)
     rw [List.getElem?_eq_getElem (by omega)] at hcell0
     obtain ⟨b, off, spot⟩ := a
     have hspot : spot = none := by simpa [Addr.add] using World.cell?_spot hcell0
     subst hspot
     have hmem : ∀ q, q < m * size → MemPlace.cell b (off + q) ∈ MemPlace.row ⟨b, off, none⟩ (m * size) := fun q hq => MemPlace.mem_row.2 ⟨q, hq, rfl⟩
     have hms : 0 < m * size := Nat.mul_pos (by omega) hs
     refine ⟨b, off, rfl, hlt _ (List.mem_append_left _ (hmem 0 hms)), fun i x hix => ?_⟩
     obtain ⟨es, hc, hlE, hel, _⟩ := hx i x hix
     have hil : i < xs.length := (List.getElem?_eq_some_iff.1 hix).1
     refine ⟨es, hel, hlt _ (List.mem_append_left _ (hmem 0 hms)), fun j u hu => ?_⟩
     have hj : j < es.length := (List.getElem?_eq_some_iff.1 hu).1
     have e1 := hc j hj
     rw [add_plain] at e1
     rw [Addr.add_lit, Nat.add_assoc]
     refine ⟨e1.trans hu, hfz _ _ (List.mem_append_left _ (hmem (i * size + j) ?_))⟩
     have : i * size + size ≤ m * size := by rw [← Nat.succ_mul]; exact Nat.mul_le_mul_right _ (by omega)
     omega
   · obtain ⟨i, hi1, hi2⟩ := List.mem_iff_getElem.1 hx'
     obtain ⟨_, _, _, _, hz4⟩ := hx i x (by rw [List.getElem?_eq_getElem hi1, hi2])
     exact hz4
theorem take_drop_one (cs : List Value) (a n : Nat) : cs.drop a = (cs.drop a).take n ++ cs.drop (a + n) := by
 rw [← List.drop_drop, List.take_append_drop]
def szLine (x : XLine) : Prop := True
theorem opLine : Opens enc W 64 (LineC W (· < W.heap.size)) szLine := fun fuel cs x h hfz hz => by
 obtain ⟨xs, n, _, rfl, hcl, hxl, hf⟩ := DataW.trod_struct Try.underlying64 h
 have hcl2 : cs.length = 3 := hcl.trans (by kernel_rfl)
 have hw : ∀ (j : Nat) (t : TypeId) (y : DataW H × List MemPlace), ([3, 3, 3] : List TypeId)[j]? = some t → xs[j]? = some y → ∀ n ∈ y.1.weights Try.prog t, n ≤ reachBytes := fun j t y ht hy n hn => hz n (by
  simp only [DataW.weights, Try.underlying64]
  exact DataW.weights_mem_each (j := j) (t := t) (d := y.1) ht (by rw [List.getElem?_map, hy]; rfl) n hn)
 have h0 := hf 0 _ rfl
 obtain ⟨y0, hy0⟩ : ∃ y, xs[0]? = some y := ⟨_, List.getElem?_eq_getElem (by rw [hxl]; decide)⟩
 obtain ⟨a0, q0, z0⟩ := opInt _ _ _ (h0.trans hy0) (fun b off hb => hfz b off (List.mem_flatMap.2 ⟨y0, List.mem_of_getElem? hy0, hb⟩)) (hw 0 _ y0 rfl hy0)
 have h1 := hf 1 _ rfl
 obtain ⟨y1, hy1⟩ : ∃ y, xs[1]? = some y := ⟨_, List.getElem?_eq_getElem (by rw [hxl]; decide)⟩
 obtain ⟨a1, q1, z1⟩ := opInt _ _ _ (h1.trans hy1) (fun b off hb => hfz b off (List.mem_flatMap.2 ⟨y1, List.mem_of_getElem? hy1, hb⟩)) (hw 1 _ y1 rfl hy1)
 have h2 := hf 2 _ rfl
 obtain ⟨y2, hy2⟩ : ∃ y, xs[2]? = some y := ⟨_, List.getElem?_eq_getElem (by rw [hxl]; decide)⟩
 obtain ⟨a2, q2, z2⟩ := opInt _ _ _ (h2.trans hy2) (fun b off hb => hfz b off (List.mem_flatMap.2 ⟨y2, List.mem_of_getElem? hy2, hb⟩)) (hw 2 _ y2 rfl hy2)
 refine ⟨⟨a0, a1, a2⟩, ⟨_, _, _, ?_, q0, q1, q2⟩, trivial⟩
 have e0 : (cs.drop 0).take (Try.prog.cellsOf 3) = (cs.drop 0).take 1 := by rw [show Try.prog.cellsOf 3 = 1 from by kernel_rfl]
 have e1 : (cs.drop 1).take (Try.prog.cellsOf 3) = (cs.drop 1).take 1 := by rw [show Try.prog.cellsOf 3 = 1 from by kernel_rfl]
 have e2 : (cs.drop 2).take (Try.prog.cellsOf 3) = (cs.drop 2).take 1 := by rw [show Try.prog.cellsOf 3 = 1 from by kernel_rfl]
 show cs = (cs.drop 0).take (Try.prog.cellsOf 3) ++ (cs.drop 1).take (Try.prog.cellsOf 3) ++ (cs.drop 2).take (Try.prog.cellsOf 3)
 rw [e0, e1, e2]
 have z : cs = cs.drop 0 := rfl
 have t0 := take_drop_one cs 0 1
 have t1 := take_drop_one cs 1 1
 have t2 := take_drop_one cs 2 1
 have tn : cs.drop 3 = [] := List.drop_eq_nil_of_le (by omega)
 simp only [Nat.reduceAdd] at t0 t1 t2
 have r2 := t2.trans (by rw [tn, List.append_nil])
 have r1 := t1.trans (congrArg (_ ++ ·) r2)
 have r0 := t0.trans (congrArg (_ ++ ·) r1)
 refine z.trans (r0.trans ?_)
 simp only [List.append_assoc]
theorem opLLine : Opens enc W 40 (ListC LineC 3 W (· < W.heap.size)) (zList szLine) := opList Try.underlying40 (by kernel_rfl) (by decide) opLine
end
end Go.Proofs.Ytebdajkknkapcaa
namespace Go.Proofs.Ytebdajkknkapcaa
open Go Go.RowKit
def printC (c : Nat) : Bool := decide (32 ≤ c ∧ c ≤ 126)
def printB (s : ByteArray) : Bool := (List.range s.size).all (fun k => printC (bat s k)) && decide (s.size ≤ 80)
abbrev lineL (x : XLine) : List Value := [.int .i64 x.account, .int .i64 x.amount, .int .i64 x.partner]
def lineBd (x : XLine) : Prop := intBd x.account ∧ intBd x.amount ∧ intBd x.partner
theorem LineC.lit {w : World} {Q : Nat → Prop} {cs : List Value} {x : XLine} (h : LineC w Q cs x) : cs = lineL x ∧ lineBd x := by
 obtain ⟨c0, c1, c2, rfl, ⟨rfl, h0⟩, ⟨rfl, h1⟩, ⟨rfl, h2⟩⟩ := h
 exact ⟨rfl, h0, h1, h2⟩
theorem info_line : (Try.prog.info? 64).map (·.size) = some 3 := by kernel_rfl
def sumL (l : List XLine) : Int := (l.map (·.amount)).sum
theorem sumL_succ {l : List XLine} {k : Nat} (hk : k < l.length) : sumL (l.take (k + 1)) = sumL (l.take k) + l[k].amount := by
 unfold sumL
 rw [List.take_add_one, List.getElem?_eq_getElem hk, List.map_append, List.sum_append]
 simp
def preL (l : List XLine) : Prop := ∀ k, -4611686018427387904 ≤ sumL (l.take k) ∧ sumL (l.take k) ≤ 4611686018427387904
def smallL (l : List XLine) : Prop := (∀ x ∈ l, -1125899906842624 ≤ x.amount ∧ x.amount ≤ 1125899906842624) ∧ l.length ≤ 100
set_option maxHeartbeats 1000000 in
theorem sumL_c (l : List XLine) (A : Option Addr) (c : Nat) (w : World) (hl : ListC LineC 3 w (· < w.heap.size) [.slice A l.length c] l) (hs : preL l) : Calls Try.prog 30 #[.slice A l.length c] w (Quiet w (.int .i64 (sumL l))) := by
 obtain ⟨r, hr⟩ : ∃ r, sumL l = r := ⟨_, rfl⟩
 rw [hr]
 have HR := Lib.hid hr
 have hbn := hl.cap
 obtain ⟨n, hnl⟩ : ∃ n, l.length = n := ⟨_, rfl⟩
 have HL := Lib.hid hl
 have HN := Lib.hid hnl
 have HS := Lib.hid hs
 rw [hnl] at hbn ⊢
 unfold maxLen at hbn
 have hn : n ≤ 9223372036854775807 := by omega
 clear hr hl hnl hs hbn
 go_enter Try.func30, Try.ntmps30
 go_wp2_with fail
 go_loopw [3, 8] (fun s i wr => ∃ k : Nat, k ≤ n ∧ s = .int .i64 (sumL (l.take k)) ∧ i = .int .i64 (k : Int) ∧ Below w.heap.size w wr) (fun _ i _ => n - (intOf i).toNat)
 case atStart => exact ⟨0, by omega, rfl, rfl, Below.refl _ _⟩
 case round =>
  obtain ⟨k, hk, rfl, rfl, hb⟩ := hrel
  by_cases hlt : k < n
  case pos =>
   have hltI : (k : Int) < (n : Int) := by omega
   have hkl : k < l.length := by rw [HN.out]; exact hlt
   obtain ⟨b, o, es, hAe, hbw, hes, hat⟩ := ListC.get HL.out k hkl
   subst hAe
   have hes1 := (LineC.lit hes).1
   rw [hes1] at hat
   have HSU := Lib.hid (sumL_succ hkl)
   have hB1 := HS.out k
   have hB2 := HS.out (k + 1)
   rw [HSU.out] at hB2
   obtain ⟨x, hx⟩ : ∃ x, l[k] = x := ⟨_, rfl⟩
   rw [hx] at hat hB2
   have HX := Lib.hid hx
   obtain ⟨la, lm, lp⟩ := x
   simp only at hat hB2
   obtain ⟨S, hS⟩ : ∃ S, sumL (l.take k) = S := ⟨_, rfl⟩
   rw [hS] at hB1 hB2 ⊢
   have HSS := Lib.hid hS
   obtain ⟨hB3, hB4⟩ := hB1
   obtain ⟨hB5, hB6⟩ := hB2
   have hatw := hat.fr (Fr.ofBelow hb)
   have HAR := Lib.hid hatw.range
   clear hes hes1 hat hatw hx hS
   go_upto_region 5 with (show wpList _ _ _ (Oper.mk (some 11) _ _ _ _ _ :: _) _ _; refine wpList_load_mid rfl 64 (.tmp 10) rfl b (o + k * 3) rfl [.int .i64 la, .int .i64 lm, .int .i64 lp] _ HAR.out Try.underlying64 rfl info_line ?_)
   have H6 := heap_alloc_new wr (.cells #[.int .i64 la, .int .i64 lm, .int .i64 lp] 64)
   have HB6 := below1 wr (.cells #[.int .i64 la, .int .i64 lm, .int .i64 lp] 64)
   have HS6 : wr.heap.size < (wr.alloc (.cells #[.int .i64 la, .int .i64 lm, .int .i64 lp] 64)).heap.size := blk_lt H6
   generalize hW6 : wr.alloc (Obj.cells #[.int .i64 la, .int .i64 lm, .int .i64 lp] 64) = W6 at *
   clear hW6
   have c6 := blk_cell H6 1
   have hb6 := hb.trans (HB6.mono hb.size)
   clear H6
   go_wp2_with fail
   go_roundw
   case rel => exact ⟨k + 1, by omega, by rw [HSU.out, HX.out, HSS.out]; first | done | go_num, by go_num, hb6⟩
   case measure => first | exact meas_v hlt | (simp only [intOf]; omega)
  case neg =>
   have hltI : ¬ (k : Int) < (n : Int) := by omega
   obtain ⟨S, hS⟩ : ∃ S, sumL (l.take k) = S := ⟨_, rfl⟩
   rw [hS]
   have hf := Lib.hid (show r = S by rw [← HR.out, ← hS, show k = n from by omega, ← HN.out, List.take_length])
   clear hS
   go_wp2_with fail
   go_ret
   exact ⟨by rw [hf.out]; first | done | rfl, hb⟩
set_option maxHeartbeats 1000000 in
theorem rsumL_c (l : List XLine) (A : Option Addr) (c : Nat) (w : World) (hl : ListC LineC 3 w (· < w.heap.size) [.slice A l.length c] l) (hs : preL l) : Calls Try.prog 31 #[.slice A l.length c] w (Quiet w (.int .i64 (sumL l))) := by
 obtain ⟨r, hr⟩ : ∃ r, sumL l = r := ⟨_, rfl⟩
 rw [hr]
 have HR := Lib.hid hr
 have hbn := hl.cap
 obtain ⟨n, hnl⟩ : ∃ n, l.length = n := ⟨_, rfl⟩
 have HL := Lib.hid hl
 have HN := Lib.hid hnl
 have HS := Lib.hid hs
 rw [hnl] at hbn ⊢
 unfold maxLen at hbn
 have hn : n ≤ 9223372036854775807 := by omega
 clear hr hl hnl hs hbn
 go_enter Try.func31, Try.ntmps31
 go_wp2_with fail
 go_loopw [3, 4] (fun s i wr => ∃ k : Nat, k ≤ n ∧ s = .int .i64 (sumL (l.take k)) ∧ i = .int .i64 (k : Int) ∧ Below w.heap.size w wr) (fun _ i _ => n - (intOf i).toNat)
 case atStart => exact ⟨0, by omega, rfl, rfl, Below.refl _ _⟩
 case round =>
  obtain ⟨k, hk, rfl, rfl, hb⟩ := hrel
  by_cases hlt : k < n
  case pos =>
   have hltI : (k : Int) < (n : Int) := by omega
   have hkl : k < l.length := by rw [HN.out]; exact hlt
   obtain ⟨b, o, es, hAe, hbw, hes, hat⟩ := ListC.get HL.out k hkl
   subst hAe
   have hes1 := (LineC.lit hes).1
   rw [hes1] at hat
   have HSU := Lib.hid (sumL_succ hkl)
   have hB1 := HS.out k
   have hB2 := HS.out (k + 1)
   rw [HSU.out] at hB2
   obtain ⟨x, hx⟩ : ∃ x, l[k] = x := ⟨_, rfl⟩
   rw [hx] at hat hB2
   have HX := Lib.hid hx
   obtain ⟨la, lm, lp⟩ := x
   simp only at hat hB2
   obtain ⟨S, hS⟩ : ∃ S, sumL (l.take k) = S := ⟨_, rfl⟩
   rw [hS] at hB1 hB2 ⊢
   have HSS := Lib.hid hS
   obtain ⟨hB3, hB4⟩ := hB1
   obtain ⟨hB5, hB6⟩ := hB2
   have hatw := hat.fr (Fr.ofBelow hb)
   have c6 := hatw.c (j := 1) rfl
   clear hes hes1 hat hatw hx hS
   go_wp2_with fail
   go_roundw
   case rel => exact ⟨k + 1, by omega, by rw [HSU.out, HX.out, HSS.out]; first | done | go_num, by go_num, hb⟩
   case measure => first | exact meas_v hlt | (simp only [intOf]; omega)
  case neg =>
   have hltI : ¬ (k : Int) < (n : Int) := by omega
   obtain ⟨S, hS⟩ : ∃ S, sumL (l.take k) = S := ⟨_, rfl⟩
   rw [hS]
   have hf := Lib.hid (show r = S by rw [← HR.out, ← hS, show k = n from by omega, ← HN.out, List.take_length])
   clear hS
   go_wp2_with fail
   go_ret
   exact ⟨by rw [hf.out]; first | done | rfl, hb⟩
set_option maxHeartbeats 1000000 in
theorem small11_c (l : List XLine) (A : Option Addr) (c : Nat) (w : World) (hl : ListC LineC 3 w (· < w.heap.size) [.slice A l.length c] l) : Calls Try.prog 26 #[.slice A l.length c] w (If (smallL l) w) := by
 have hbn := hl.cap.2
 obtain ⟨n, hnl⟩ : ∃ n, l.length = n := ⟨_, rfl⟩
 have HL := Lib.hid hl
 have HN := Lib.hid hnl
 obtain ⟨P, hP⟩ : ∃ P, smallL l = P := ⟨_, rfl⟩
 rw [hP]
 have HP := Lib.hid (show (∀ x ∈ l, -1125899906842624 ≤ x.amount ∧ x.amount ≤ 1125899906842624) → l.length ≤ 100 → P from fun h h2 => hP ▸ ⟨h, h2⟩)
 rw [hnl] at hbn ⊢
 unfold maxLen at hbn
 clear hl hnl hP
 go_enter Try.func26, Try.ntmps26
 go_wp2_with fail
 go_loopw [3] (fun i wr => ∃ k : Nat, k ≤ n ∧ i = .int .i64 (k : Int) ∧ Below w.heap.size w wr ∧ ∀ j (hj : j < l.length), j < k → -1125899906842624 ≤ l[j].amount ∧ l[j].amount ≤ 1125899906842624) (fun i _ => n - (intOf i).toNat)
 case atStart => exact ⟨0, by omega, rfl, Below.refl _ _, fun j hj h => by omega⟩
 case round =>
  obtain ⟨k, hk, rfl, hb, hall⟩ := hrel
  have HA := Lib.hid hall
  clear hall
  by_cases hlt : k < n
  case pos =>
   have hltI : (k : Int) < (n : Int) := by omega
   have hkl : k < l.length := by rw [HN.out]; exact hlt
   obtain ⟨b, o, es, hAe, hbw, hes, hat⟩ := ListC.get HL.out k hkl
   subst hAe
   have hes1 := (LineC.lit hes).1
   rw [hes1] at hat
   obtain ⟨x, hx⟩ : ∃ x, l[k] = x := ⟨_, rfl⟩
   rw [hx] at hat
   have HX := Lib.hid hx
   obtain ⟨la, am, lp⟩ := x
   have c6 := (hat.fr (Fr.ofBelow hb)).c (j := 1) rfl
   clear hes hes1 hat hx
   by_cases h1 : 1125899906842624 < am
   case pos =>
    go_wp2_with fail
    go_ret
    exact If.no hb
   case neg =>
   by_cases h2 : am < -1125899906842624
   case pos =>
    go_wp2_with fail
    go_ret
    exact If.no hb
   case neg =>
    have HROW := Lib.hid (show -1125899906842624 ≤ am ∧ am ≤ 1125899906842624 by omega)
    go_wp2_with fail
    go_roundw
    case rel => exact ⟨k + 1, by omega, by go_num, hb, fun j hj hjk => by
     rcases Nat.lt_or_ge j k with h | h
     · exact HA.out j hj h
     · have : j = k := by omega
       subst this
       rw [HX.out]
       exact HROW.out⟩
    case measure => first | exact meas_v hlt | (simp only [intOf]; omega)
  case neg =>
   have hltI : ¬ (k : Int) < (n : Int) := by omega
   by_cases h1 : n ≤ 100
   case neg =>
    have h1I : ¬ (n : Int) ≤ 100 := by omega
    go_wp2_with fail
    go_ret
    exact If.no hb
   case pos =>
    have h1I : (n : Int) ≤ 100 := by omega
    have HY := Lib.hid (show P from HP.out (fun x hx => by
     obtain ⟨j, hj, rfl⟩ := List.getElem_of_mem hx
     exact HA.out j hj (by have := HN.out; omega)) (by rw [HN.out]; exact h1))
    go_wp2_with fail
    go_ret
    exact If.yes HY.out hb
end Go.Proofs.Ytebdajkknkapcaa
namespace Go.Proofs.Ytebdajkknkapcaa
open Go Go.RowKit
def inCalB (y m n d : Int) : Bool := decide (monI (perI y m 0) ≤ d ∧ d ≤ lasI (perI y m (n - 1)))
section
variable {y m n d : Int}
end
end Go.Proofs.Ytebdajkknkapcaa
namespace Go.Proofs.Ytebdajkknkapcaa
open Go Go.RowKit
def lineB (ne ent : Int) (l : XLine) : Bool := decide (l.amount ≠ 0) && monB l.amount && decide (-1 ≤ l.partner) && decide (l.partner < ne) && decide (l.partner ≠ ent)
def formB (gv : Bool) (ne : Int) (x : XEntry) : Bool := gv && decide (1 ≤ x.id) && decide (0 ≤ x.entity) && decide (x.entity < ne) && decide (1 ≤ x.kind) && decide (x.kind ≤ 3) && decide (x.kind = 3 → 1 ≤ x.of_) && decide (x.kind ≠ 3 → x.of_ = 0) && printB x.text && decide (2 ≤ x.lines.length) && decide (x.lines.length ≤ 40) && x.lines.all (lineB ne x.entity)
end Go.Proofs.Ytebdajkknkapcaa
namespace Go.Proofs.Ytebdajkknkapcaa
open Go Go.RowKit
def chartedB (ch : List XAccount) (ls : List XLine) : Bool := ls.all (fun l => (findA ch l.account).isSome)
end Go.Proofs.Ytebdajkknkapcaa
namespace Go.Proofs.Ytebdajkknkapcaa
open Go Go.RowKit
theorem lines_keep {w w' : World} {cs : List Value} {l : List XLine} (h : ListC LineC 3 w (· < w.heap.size) cs l) (hb : Below w.heap.size w w') : ListC LineC 3 w' (· < w'.heap.size) cs l :=
 (h.fr (fun h => LineC.fr h (Fr.ofBelow hb)) (Fr.ofBelow hb)).mono (fun h => LineC.mono h (fun k hk => by have := hb.size; omega)) (fun k hk => by have := hb.size; omega)
theorem EntryC.lit {w : World} {Q : Nat → Prop} {cs : List Value} {x : XEntry} (h : EntryC w Q cs x) : ∃ Al cl, cs = [.int .i64 x.id, .int .i64 x.entity, .int .i64 x.date, .int .i64 x.kind, .int .i64 x.of_, .string x.text, .slice Al x.lines.length cl] ∧ (intBd x.id ∧ intBd x.entity ∧ intBd x.date ∧ intBd x.kind ∧ intBd x.of_) ∧ ListC LineC 3 w Q [.slice Al x.lines.length cl] x.lines := by
 obtain ⟨c0, c1, c2, c3, c4, c5, c6, rfl, ⟨rfl, h0⟩, ⟨rfl, h1⟩, ⟨rfl, h2⟩, ⟨rfl, h3⟩, ⟨rfl, h4⟩, h5, h6⟩ := h
 have e5 : c5 = _ := h5
 subst e5
 obtain ⟨A, c, e, _⟩ := h6.form
 subst e
 exact ⟨A, c, rfl, ⟨h0, h1, h2, h3, h4⟩, h6⟩
def checkE (g : XGroup) (x : XEntry) : Int :=
 if formB (groupB g) g.entities.length x = true then (if chartedB (g.entities.getD x.entity.toNat {}).chart x.lines = true then (if inCalB g.calendar.year g.calendar.month g.calendar.periods x.date = true then (if sumL x.lines = 0 then 0 else 11) else 2) else 17) else 1
end Go.Proofs.Ytebdajkknkapcaa
