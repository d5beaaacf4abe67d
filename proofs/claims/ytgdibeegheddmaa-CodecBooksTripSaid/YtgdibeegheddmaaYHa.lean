/- A region that draws its order, walked by an invariant: one goal for each operation. (joined: H1Region, H2RefW, H3RefS, H4RefRate, H5Region2) -/
import Derived.Test.YtgdibeegheddmaaYFa
namespace Go.Proofs.Ytgdibeegheddmaa
open Go Go.RowKit
/-! A REGION THAT DRAWS ITS ORDER, BY AN INVARIANT: one goal for each operation, whatever the order. -/
/-- Operation i has been carried out. -/
def Done (listed : Array Bool) (i : Nat) : Prop := listed.getD i false = true
structure Inv (md : Region.Mode) (ops : Array Oper) (V : Nat → Value → World → Prop) (S : World → Prop) (a0 : Act) (listed : Array Bool) (a : Act) (w : World) : Prop where
  lsize : listed.size = ops.size
  world : S w
  defers : a.defers = a0.defers
  size : a.tmps.size = a0.tmps.size
  closed : ∀ i o, ops[i]? = some o → Done listed i → ∀ e ∈ o.after, Region.binds md e = true → Done listed e.on
  got : ∀ i o d, ops[i]? = some o → o.dst = some d → Done listed i → ∃ v, a.tmps[d]? = some v ∧ V i v w
  old : ∀ j, (∀ i o, ops[i]? = some o → o.dst = some j → ¬ Done listed i) → a.tmps[j]? = a0.tmps[j]?

theorem Done.set {listed : Array Bool} {i j : Nat} (h : Done listed j) : Done (listed.setIfInBounds i true) j := by
  unfold Done at *
  by_cases hij : i = j
  · subst hij
    by_cases hs : i < listed.size
    · simp [Array.getD_eq_getD_getElem?, hs]
    · simp [Array.getD_eq_getD_getElem?, hs] at h
  · simpa [Array.getD_eq_getD_getElem?, Array.getElem?_setIfInBounds, hij] using h
theorem Done.new {listed : Array Bool} {i : Nat} (h : i < listed.size) : Done (listed.setIfInBounds i true) i := by
  simp [Done, Array.getD_eq_getD_getElem?, h]
theorem Done.inv {listed : Array Bool} {i j : Nat} (h : Done (listed.setIfInBounds i true) j) : j = i ∨ Done listed j := by
  by_cases hij : i = j
  · exact .inl hij.symm
  · refine .inr ?_
    unfold Done at *
    simpa [Array.getD_eq_getD_getElem?, Array.getElem?_setIfInBounds, hij] using h
theorem getD_tf {listed : Array Bool} {i : Nat} (h : i < listed.size) : listed.getD i true = listed.getD i false := by
  simp [Array.getD_eq_getD_getElem?, h]

/-- Where nothing is ready all is done (each operation waits for earlier ones alone). -/
theorem all_done {md : Region.Mode} {ops : Array Oper} {listed : Array Bool} (hl : listed.size = ops.size)
    (hord : ∀ (i : Nat) (o : Oper), ops[i]? = some o → ∀ e ∈ o.after, e.on < i) (h : Region.ready md ops listed = []) : ∀ n i, i < n → i < ops.size → Done listed i
  | 0, i, hi, _ => absurd hi (by omega)
  | n + 1, i, hi, hs => by
    have ih := all_done hl hord h n
    have hmem : i ∉ Region.ready md ops listed := by rw [h]; simp
    rw [mem_ready] at hmem
    have hd : Done listed i ∨ listed.getD i true = false := by
      rw [getD_tf (by omega)]
      unfold Done
      cases listed.getD i false <;> simp
    rcases hd with hd | hd
    · exact hd
    · refine absurd ⟨hd, ops[i], Array.getElem?_eq_getElem hs, fun e he _ => ?_⟩ hmem
      have := hord i ops[i] (Array.getElem?_eq_getElem hs) e he
      exact ih e.on (by omega) (by omega)

/-- How many are still to do. -/
def left (n : Nat) (listed : Array Bool) : Nat := ((List.range n).filter fun i => !listed.getD i true).length
theorem left_set {n i : Nat} {listed : Array Bool} (hs : listed.size = n) (hi : i < n) (hf : listed.getD i true = false) : left n (listed.setIfInBounds i true) + 1 ≤ left n listed := by
  unfold left
  have key : ∀ (l : List Nat), l.Nodup → i ∈ l → ((l.filter fun j => !(listed.setIfInBounds i true).getD j true).length + 1 ≤ (l.filter fun j => !listed.getD j true).length) := by
    intro l
    induction l with
    | nil => intro _ h; cases h
    | cons x l ih =>
      intro hn hm
      rw [List.nodup_cons] at hn
      by_cases hx : x = i
      · subst hx
        have e1 : (listed.setIfInBounds x true).getD x true = true := by simp [Array.getD_eq_getD_getElem?, hs, hi]
        have e2 : ∀ (m : List Nat), x ∉ m → m.filter (fun j => !(listed.setIfInBounds x true).getD j true) = m.filter (fun j => !listed.getD j true) := by
          intro m hm2
          refine List.filter_congr fun j hj => ?_
          have hne : x ≠ j := fun e => hm2 (e ▸ hj)
          simp [Array.getD_eq_getD_getElem?, hne]
        rw [List.filter_cons_of_neg (by simp [e1]), List.filter_cons_of_pos (by simp [hf]), e2 l hn.1]
        simp
      · have hm2 : i ∈ l := by
          rcases List.mem_cons.1 hm with h | h
          · exact absurd h.symm hx
          · exact h
        have ih2 := ih hn.2 hm2
        have hne : i ≠ x := fun e => hx e.symm
        have e1 : (listed.setIfInBounds i true).getD x true = listed.getD x true := by
          simp [Array.getD_eq_getD_getElem?, hne]
        by_cases hb : listed.getD x true = true
        · rw [List.filter_cons_of_neg (by rw [e1]; simp [hb]), List.filter_cons_of_neg (by simp [hb])]
          exact ih2
        · have hb2 : listed.getD x true = false := by simpa using hb
          rw [List.filter_cons_of_pos (by rw [e1]; simp [hb2]), List.filter_cons_of_pos (by simp [hb2])]
          simp only [List.length_cons]
          omega
  exact key _ List.nodup_range (List.mem_range.2 hi)

theorem wpAny_inv {P : Program} {md : Region.Mode} {ops : Array Oper} {Q : Exit → Act → World → Prop} {V : Nat → Value → World → Prop} {S : World → Prop} {a0 : Act}
    (hord : ∀ (i : Nat) (o : Oper), ops[i]? = some o → ∀ e ∈ o.after, e.on < i)
    (hdst : ∀ (i j : Nat) (oi oj : Oper) (d : Nat), ops[i]? = some oi → ops[j]? = some oj → oi.dst = some d → oj.dst = some d → i = j)
    (hlt : ∀ (i : Nat) (o : Oper) (d : Nat), ops[i]? = some o → o.dst = some d → d < a0.tmps.size)
    (hstep : ∀ i o, ops[i]? = some o → ∀ listed a w, Inv md ops V S a0 listed a w → (∀ e ∈ o.after, Region.binds md e = true → Done listed e.on) → ¬ Done listed i →
      ∀ K : Act → World → Prop, (∀ v w', S w' → V i v w' → (∀ j u, V j u w → V j u w') → K (a.put o.dst v) w') → if Region.wanted o (yielded ops a.tmps) = true then o.wp P a w K Q else K (a.put o.dst undef) w)
    (hend : ∀ listed a w, Inv md ops V S a0 listed a w → (∀ i, i < ops.size → Done listed i) → Q .normal a w) :
    ∀ fuel listed a w, Inv md ops V S a0 listed a w → left ops.size listed ≤ fuel → wpAny P md ops Q fuel listed a w
  | 0, listed, a, w, hI, hf => by
    have hr : Region.ready md ops listed = [] := by
      rw [List.eq_nil_iff_forall_not_mem]
      intro i hi
      obtain ⟨h1, o, h2, _⟩ := mem_ready.1 hi
      have := left_set hI.lsize (Array.getElem?_eq_some_iff.1 h2).1 h1
      omega
    exact ⟨hr, hend listed a w hI (fun i hi => all_done hI.lsize hord hr (i + 1) i (by omega) hi)⟩
  | fuel + 1, listed, a, w, hI, hf => by
    refine ⟨fun hr => hend listed a w hI (fun i hi => all_done hI.lsize hord hr (i + 1) i (by omega) hi), fun i hi => ?_⟩
    obtain ⟨h1, o, h2, h3⟩ := mem_ready.1 hi
    have hsz : i < ops.size := (Array.getElem?_eq_some_iff.1 h2).1
    have hnd : ¬ Done listed i := by
      unfold Done
      rw [← getD_tf (by rw [hI.lsize]; exact hsz), h1]
      simp
    refine wpOp_step h2 (fun K hK => hstep i o h2 listed a w hI h3 hnd K (fun v w' hS hv hst => hK _ _ ?_))
    refine wpAny_inv hord hdst hlt hstep hend fuel _ _ _ ?_ ?_
    · refine ⟨by simpa using hI.lsize, hS, ?_, ?_, ?_, ?_, ?_⟩
      · cases o.dst <;> exact hI.defers
      · cases ho : o.dst <;> simp [Act.put, hI.size]
      · intro j oj hj hd e he hb
        rcases hd.inv with rfl | hd
        · rw [h2] at hj
          cases hj
          exact Done.set (h3 e he hb)
        · exact Done.set (hI.closed j oj hj hd e he hb)
      · intro j oj d hj hjd hd
        by_cases hji : j = i
        · subst hji
          rw [h2] at hj
          cases hj
          refine ⟨v, ?_, hv⟩
          have := hlt j o d h2 hjd
          simp [Act.put, hjd, hI.size, this]
        · rcases hd.inv with h | hd
          · exact absurd h hji
          · obtain ⟨u, hu, hV⟩ := hI.got j oj d hj hjd hd
            refine ⟨u, ?_, hst j u hV⟩
            cases ho : o.dst with
            | none => simpa [Act.put, ho] using hu
            | some d' =>
              have hne : d' ≠ d := fun e => hji (hdst j i oj o d hj h2 hjd (by rw [ho, e]))
              simpa [Act.put, Array.getElem?_setIfInBounds, hne] using hu
      · intro j hj
        have h4 := hI.old j (fun k ok hk hkd hd => hj k ok hk hkd hd.set)
        cases ho : o.dst with
        | none => simpa [Act.put] using h4
        | some d' =>
          have hne : d' ≠ j := fun e => hj i o h2 (by rw [ho, e]) (Done.new (by rw [hI.lsize]; exact hsz))
          simpa [Act.put, Array.getElem?_setIfInBounds, hne] using h4
    · have := left_set hI.lsize hsz h1
      omega

/-- The checks of a region, by the kernel. -/
def ordB (ops : Array Oper) : Bool := (List.range ops.size).all fun i => match ops[i]? with
  | some o => o.after.toList.all fun e => decide (e.on < i)
  | none => true
def dstB (ops : Array Oper) (n : Nat) : Bool := (List.range ops.size).all fun i => match ops[i]? with
  | some o => (match o.dst with
    | some d => decide (d < n) && (List.range ops.size).all fun j => i == j || (match ops[j]? with
      | some oj => oj.dst != some d
      | none => true)
    | none => true)
  | none => true
theorem ordB_spec {ops : Array Oper} (h : ordB ops = true) (i : Nat) (o : Oper) (ho : ops[i]? = some o) : ∀ e ∈ o.after, e.on < i := by
  intro e he
  simp only [ordB, List.all_eq_true, List.mem_range] at h
  have := h i (Array.getElem?_eq_some_iff.1 ho).1
  rw [ho] at this
  simp only [List.all_eq_true, decide_eq_true_eq] at this
  exact this e (by simpa using he)
theorem dstB_spec {ops : Array Oper} {n : Nat} (h : dstB ops n = true) (i : Nat) (o : Oper) (d : Nat) (ho : ops[i]? = some o) (hd : o.dst = some d) :
    d < n ∧ ∀ (j : Nat) (oj : Oper), ops[j]? = some oj → oj.dst = some d → i = j := by
  simp only [dstB, List.all_eq_true, List.mem_range] at h
  have := h i (Array.getElem?_eq_some_iff.1 ho).1
  rw [ho] at this
  simp only [hd, Bool.and_eq_true, decide_eq_true_eq, List.all_eq_true, List.mem_range, Bool.or_eq_true, beq_iff_eq] at this
  refine ⟨this.1, fun j oj hj hjd => ?_⟩
  rcases this.2 j (Array.getElem?_eq_some_iff.1 hj).1 with h | h
  · exact h
  · rw [hj] at h
    simp [hjd] at h

/-- P holds of each operation. -/
def AllOps (P : Nat → Oper → Prop) : Nat → List Oper → Prop
  | _, [] => True
  | k, o :: l => P k o ∧ AllOps P (k + 1) l
theorem AllOps.get {P : Nat → Oper → Prop} : ∀ {k : Nat} {l : List Oper} {i : Nat} {o : Oper}, AllOps P k l → l[i]? = some o → P (k + i) o
  | _, [], _, _, _, h => by simp at h
  | k, x :: l, 0, o, h, ho => by
    simp at ho
    subst ho
    exact h.1
  | k, x :: l, i + 1, o, h, ho => by
    have := AllOps.get (k := k + 1) (i := i) h.2 (by simpa using ho)
    rwa [show k + (i + 1) = k + 1 + i from by omega]

/-- One operation's goal. -/
def OpStep (P : Program) (md : Region.Mode) (ops : Array Oper) (Q : Exit → Act → World → Prop) (V : Nat → Value → World → Prop) (S : World → Prop) (a0 : Act) (i : Nat) (o : Oper) : Prop :=
  ∀ listed a w, Inv md ops V S a0 listed a w → (∀ e ∈ o.after, Region.binds md e = true → Done listed e.on) → ¬ Done listed i →
      ∀ K : Act → World → Prop, Shut (∀ v w', S w' → V i v w' → (∀ j u, V j u w → V j u w') → K (a.put o.dst v) w') → if Region.wanted o (yielded ops a.tmps) = true then o.wp P a w K Q else K (a.put o.dst undef) w

theorem wp_region_inv {P : Program} {ops : Array Oper} {Q : Exit → Act → World → Prop} (V : Nat → Value → World → Prop) (S : World → Prop) {id : Nat} {a : Act} {w : World}
    (hm : P.follows .mixedOrders = true) (ho : ordB ops = true) (hd : dstB ops a.tmps.size = true) (hS : S w.drew)
    (hstep : AllOps (OpStep P .any ops Q V S a) 0 ops.toList)
    (hend : ∀ listed a' w', Inv .any ops V S a listed a' w' → (∀ i, i < ops.size → Done listed i) → Q .normal a' w') : (Code.region id ops true).wp P Q a w := by
  refine wp_region_any hm (wpAny_inv (V := V) (S := S) (a0 := a) (ordB_spec ho) (fun i j oi oj d hi hj hid hjd => (dstB_spec hd i oi d hi hid).2 j oj hj hjd) (fun i o d hi hid => (dstB_spec hd i o d hi hid).1)
    (fun i o hi listed a' w' hI hdn hnd K hK => ?_) hend _ _ _ _ ?_ ?_)
  · have := AllOps.get hstep (i := i) (o := o) (by simpa using hi)
    rw [Nat.zero_add] at this
    exact this listed a' w' hI hdn hnd K hK
  · have hno : ∀ i, ¬ Done (Array.replicate ops.size false) i := fun i h => by
      unfold Done at h
      by_cases hi : i < ops.size <;> simp [Array.getD_eq_getD_getElem?, hi] at h
    exact ⟨by simp, hS, rfl, rfl, fun i _ _ h => absurd h (hno i), fun i _ _ _ _ h => absurd h (hno i), fun _ _ => rfl⟩
  · unfold left
    exact Nat.le_trans (List.length_filter_le _ _) (by simp)

section
variable {md : Region.Mode} {ops : Array Oper} {V : Nat → Value → World → Prop} {S : World → Prop} {a0 : Act} {listed : Array Bool} {a : Act} {w : World}
/-- A slot that no operation writes, or whose writer waits for the operation i, which is not done: as it was. -/
theorem Inv.keep (hI : Inv md ops V S a0 listed a w) {i : Nat} (hnd : ¬ Done listed i) (j : Nat) (v : Value) (h0 : a0.tmps[j]? = some v)
    (h : (ops.toList.all fun o => o.dst != some j || o.after.toList.any fun e => Region.binds md e && e.on == i) = true) : a.eval (.tmp j) = v := by
  have := hI.old j (fun m o hm hmd hdn => hnd ?_)
  · simp [Act.eval, Array.getD_eq_getD_getElem?, this, h0]
  · simp only [List.all_eq_true] at h
    have h1 := h o (by simpa using Array.mem_of_getElem? hm)
    rw [hmd] at h1
    simp only [bne_self_eq_false, Bool.false_or, List.any_eq_true, Bool.and_eq_true, beq_iff_eq] at h1
    obtain ⟨e, he, hb, rfl⟩ := h1
    exact hI.closed m o hm hdn e (by simpa using he) hb
/-- What an earlier operation has left. -/
theorem Inv.val (hI : Inv md ops V S a0 listed a w) {o : Oper} (hd : ∀ e ∈ o.after, Region.binds md e = true → Done listed e.on) (j : Nat) {oj : Oper} {d : Nat} (hj : ops[j]? = some oj) (hjd : oj.dst = some d)
    (h : (o.after.toList.any fun e => Region.binds md e && e.on == j) = true) : ∃ v, a.eval (.tmp d) = v ∧ V j v w := by
  simp only [List.any_eq_true, Bool.and_eq_true, beq_iff_eq] at h
  obtain ⟨e, he, hb, rfl⟩ := h
  obtain ⟨v, hv, hV⟩ := hI.got e.on oj d hj hjd (hd e (by simpa using he) hb)
  exact ⟨v, by simp [Act.eval, Array.getD_eq_getD_getElem?, hv], hV⟩
def setAll (t : Array Value) (l : List (Nat × Value)) : Array Value := l.foldl (fun t p => t.setIfInBounds p.1 p.2) t
theorem setAll_get (u : Array Value) (j : Nat) : ∀ (l : List (Nat × Value)) (t : Array Value), t.size = u.size → (∀ p ∈ l, u[p.1]? = some p.2) → (j ∉ l.map (·.1) → t[j]? = u[j]?) → (setAll t l)[j]? = u[j]?
  | [], t, _, _, h => h (by simp)
  | p :: l, t, hs, hl, h => by
    refine setAll_get u j l _ (by simpa using hs) (fun q hq => hl q (List.mem_cons_of_mem _ hq)) (fun hn => ?_)
    have hp := hl p List.mem_cons_self
    have hlt : p.1 < t.size := by rw [hs]; exact (Array.getElem?_eq_some_iff.1 hp).1
    by_cases hj : p.1 = j
    · subst hj
      rw [hp]
      simp [hlt]
    · rw [Array.getElem?_setIfInBounds]
      simp only [hj, if_false]
      exact h (by simp [hn]; exact fun e => hj e.symm)
theorem Inv.tmps (hI : Inv md ops V S a0 listed a w) (l : List (Nat × Value)) (hl : ∀ p ∈ l, a.tmps[p.1]? = some p.2)
    (hc : (ops.toList.all fun o => match o.dst with | some d => (l.map (·.1)).contains d | none => true) = true) : a = ⟨setAll a0.tmps l, a0.defers⟩ := by
  obtain ⟨t, df⟩ := a
  have hd : df = a0.defers := hI.defers
  subst hd
  congr 1
  refine Array.ext_getElem? fun j => (setAll_get t j l a0.tmps hI.size.symm hl fun hn => ?_).symm
  refine (hI.old j fun i o hi hid _ => hn ?_).symm
  simp only [List.all_eq_true] at hc
  have := hc o (by simpa using Array.mem_of_getElem? hi)
  rw [hid] at this
  simpa using this
end
end Go.Proofs.Ytgdibeegheddmaa

namespace Go.Proofs.Ytgdibeegheddmaa
open Go Go.RowKit
set_option linter.unusedVariables false
set_option linter.unusedSimpArgs false
/-- A new row holds L. -/
def NewP (w : World) (L : List UInt8) (e : Ending) (w' : World) : Prop := ∃ v, e = .returned v ∧ NewBytes w w' v L
def iv (ns : List Int) : List Value := ns.map (Value.int .i64)
theorem flat_len (ns : List Int) : (ns.flatMap enc).length ≤ 10 * ns.length := by
  induction ns with
  | nil => simp
  | cons n ns ih =>
    have := enc_len n
    simp only [List.flatMap_cons, List.length_append, List.length_cons]
    omega
/-- A row of one's own, made longer by bytes that lie elsewhere or are new. -/
theorem NewBytes.app {w w1 w2 : World} {v v' : Value} {L L' : List UInt8} (h : NewBytes w w1 v L) (hb : Bytes w2 v' L') (hg : w1.grownBy w2 v.ownBlock) (hat : v'.ownBlock = v.ownBlock ∨ v'.ownBlock = some w1.heap.size) : NewBytes w w2 v' L' := by
  refine ⟨hb, fun k hk => ?_, h.2.2.grown hg h.2.2.size h.2.1⟩
  rcases hat with e | e
  · exact h.2.1 k (e ▸ hk)
  · rw [e] at hk
    injection hk with hk
    have := h.2.2.size
    omega
/-- A row stays where what is there is kept. -/
theorem NewBytes.keep {w w1 w2 : World} {v : Value} {L : List UInt8} (h : NewBytes w w1 v L) (hb : Below w1.heap.size w1 w2) : NewBytes w w2 v L :=
  ⟨h.1.keep hb, h.2.1, h.2.2.trans (hb.mono h.2.2.size)⟩

set_option maxRecDepth 100000 in
theorem ints_c (A : Option Addr) (c : Nat) (ns : List Int) (w : World) (h : Rd w (· < w.heap.size) A ns.length 1 (iv ns)) (hb : ∀ n ∈ ns, intBd n) (hl : ns.length ≤ 1000000000) :
    Calls Try.prog 41 #[.slice A ns.length c] w (NewP w (ns.flatMap enc)) := by
  have HB := Lib.hid hb
  clear hb
  go_enter Try.func41, Try.ntmps41
  go_wp2_with fail
  go_loopw [3, 4] (fun o i wr => ∃ k : Nat, k ≤ ns.length ∧ i = .int .i64 (k : Int) ∧ NewBytes w wr o ((ns.take k).flatMap enc)) (fun _ i _ => ns.length - (intOf i).toNat)
  case atStart => exact ⟨0, by omega, rfl, by simpa using NewBytes.nil w⟩
  case round =>
    obtain ⟨k, hk, rfl, hn⟩ := hrel
    by_cases hlt : k < ns.length
    · have hA : (k : Int) < (ns.length : Int) := by omega
      have h0 : (0 : Int) ≤ (k : Int) := by omega
      obtain ⟨a, u, rfl, hq, hu, hca⟩ := (h.keep hn.2.2).at_ hlt
      have e1 : u = .int .i64 ns[k] := by
        rw [iv, List.getElem?_map, List.getElem?_eq_getElem hlt] at hu; simpa using hu.symm
      subst e1
      clear hu
      have hbk : intBd ns[k] := HB.out _ (List.getElem_mem _)
      have ht : (ns.take (k + 1)).flatMap enc = (ns.take k).flatMap enc ++ enc ns[k] := by
        rw [List.take_succ_eq_append_getElem hlt, List.flatMap_append, List.flatMap_singleton]
      have HT := Lib.hid ht
      clear ht
      have hl1 := flat_len (ns.take k)
      have hl2 := enc_len ns[k]
      rw [List.length_take] at hl1
      generalize ns[k] = n at *
      generalize (ns.take k).flatMap enc = L at *
      go_wp2_with fail
      refine (refInt_c n _ hbk.1 hbk.2).mono ?_
      rintro e w1 ⟨v1, rfl, hn1⟩
      have hn' := hn.keep hn1.2.2
      obtain ⟨A1, c1, rfl, _, _⟩ := hn1.1.form
      go_wp2_with (at_builtin; go_loud (refine wpList_appB _ rfl (.tmp 11) (.tmp 16) rfl _ L rfl hn'.1 (· < w1.heap.size) A1 c1 (enc n) rfl (hn1.1.rd (fun k hk => hn1.1.lt hk)).2 (by unfold Lim; omega) ?_); intro v2 w2 hby2 hg2 hat2)
      go_roundw
      case rel =>
        refine ⟨k + 1, by omega, by go_num, ?_⟩
        rw [HT.out]
        exact hn'.app hby2 hg2 hat2
      case measure => simp [intOf]; omega
    · have hA : ¬ (k : Int) < (ns.length : Int) := by omega
      have hkk : k = ns.length := by omega
      subst hkk
      rw [List.take_length] at hn
      go_wp2_with fail
      go_ret
      exact ⟨_, rfl, hn⟩

set_option maxRecDepth 100000 in
theorem text_c (s : ByteArray) (w : World) (hs : s.size ≤ 100000000000) : Calls Try.prog 40 #[.string s] w (NewP w (encS s)) := by
  have hsl := sb_length s
  go_enter Try.func40, Try.ntmps40
  go_wp2_with fail
  refine (refInt_c (s.size : Int) _ (by omega) (by omega)).mono ?_
  rintro e w1 ⟨v1, rfl, hn1⟩
  have hl2 := enc_len (s.size : Int)
  go_wp2_with (at_builtin; go_loud (refine wpList_appS _ rfl (.tmp 5) (.tmp 6) rfl _ _ rfl hn1.1 s rfl (by unfold Lim; omega) ?_); intro v2 w2 hby2 hg2 hat2)
  go_ret
  exact ⟨_, rfl, hn1.app hby2 hg2 hat2⟩

set_option maxRecDepth 100000 in
theorem join_c (A : Option Addr) (c : Nat) (vs : List Value) (Ls : List (List UInt8)) (w : World) (h : Rd w (· < w.heap.size) A Ls.length 1 vs)
    (hp : ∀ i (hi : i < Ls.length), ∃ A c, vs[i]? = some (.slice A Ls[i].length c) ∧ Rd w (· < w.heap.size) A Ls[i].length 1 (bv Ls[i])) (hl : Ls.flatten.length ≤ 100000000000) (hl2 : Ls.length ≤ 1000000000) :
    Calls Try.prog 64 #[.slice A Ls.length c] w (NewP w Ls.flatten) := by
  have HP := Lib.hid hp
  have HL := Lib.hid hl
  clear hp hl
  go_enter Try.func64, Try.ntmps64
  go_wp2_with fail
  go_loopw [3, 4] (fun o i wr => ∃ k : Nat, k ≤ Ls.length ∧ i = .int .i64 (k : Int) ∧ NewBytes w wr o (Ls.take k).flatten) (fun _ i _ => Ls.length - (intOf i).toNat)
  case atStart => exact ⟨0, by omega, rfl, by simpa using NewBytes.nil w⟩
  case round =>
    obtain ⟨k, hk, rfl, hn⟩ := hrel
    by_cases hlt : k < Ls.length
    · have hA : (k : Int) < (Ls.length : Int) := by omega
      have h0 : (0 : Int) ≤ (k : Int) := by omega
      obtain ⟨a, u, rfl, hq, hu, hca⟩ := (h.keep hn.2.2).at_ hlt
      obtain ⟨A1, c1, hu1, hr1⟩ := HP.out k hlt
      have e1 : u = .slice A1 Ls[k].length c1 := by
        rw [hu1] at hu; simpa using hu.symm
      subst e1
      clear hu hu1
      have hr2 := hr1.keep hn.2.2
      have ht : (Ls.take (k + 1)).flatten = (Ls.take k).flatten ++ Ls[k] := by
        rw [List.take_succ_eq_append_getElem hlt, List.flatten_append, List.flatten_singleton]
      have hll : (Ls.take k).flatten.length + Ls[k].length ≤ 100000000000 := by
        have h1 := HL.out
        have h2 : Ls.flatten = (Ls.take (k + 1)).flatten ++ (Ls.drop (k + 1)).flatten := by rw [← List.flatten_append, List.take_append_drop]
        rw [h2, ht, List.length_append, List.length_append] at h1
        omega
      have HT := Lib.hid ht
      clear ht hr1
      generalize Ls[k] = M at *
      generalize (Ls.take k).flatten = L at *
      go_wp2_with (at_builtin; go_loud (refine wpList_appB _ rfl (.tmp 11) (.tmp 15) rfl _ L rfl hn.1 (· < wr.heap.size) A1 c1 M rfl hr2 (by unfold Lim; omega) ?_); intro v2 w2 hby2 hg2 hat2)
      go_roundw
      case rel =>
        refine ⟨k + 1, by omega, by go_num, ?_⟩
        rw [HT.out]
        exact hn.app hby2 hg2 hat2
      case measure => simp [intOf]; omega
    · have hA : ¬ (k : Int) < (Ls.length : Int) := by omega
      have hkk : k = Ls.length := by omega
      subst hkk
      rw [List.take_length] at hn
      go_wp2_with fail
      go_ret
      exact ⟨_, rfl, hn⟩
end Go.Proofs.Ytgdibeegheddmaa

namespace Go.Proofs.Ytgdibeegheddmaa
open Go Go.RowKit
set_option linter.unusedVariables false
set_option linter.unusedSimpArgs false
attribute [local go_sem ↓] Go.wp_at_zero Go.wp_at_succ
theorem row_rd (w : World) (us : List Value) (t : TypeId) (b n : Nat) (hb : b = w.heap.size) (hn : us.length = n) : Rd (w.alloc (.cells us.toArray t)) (· < (w.alloc (.cells us.toArray t)).heap.size) (some ⟨b, 0, none⟩) n 1 us := by
  subst hb hn
  refine ⟨by simp, fun _ => ⟨_, rfl, by simp, fun j x hx => ?_⟩⟩
  rw [Addr.add_lit, Nat.zero_add, blk_cell (heap_alloc_new w _) j, blk_frozen (heap_alloc_new w _) j]
  exact ⟨by simpa using hx, rfl⟩
theorem NewP.below {w w1 w2 : World} {L : List UInt8} {e : Ending} (h : NewP w1 L e w2) (hb : Below w.heap.size w w1) : NewP w L e w2 := by
  obtain ⟨v, rfl, h1, h2, h3⟩ := h
  exact ⟨v, rfl, h1, fun k hk => Nat.le_trans hb.size (h2 k hk), hb.trans (h3.mono hb.size)⟩
theorem ints_n (A : Option Addr) (len c : Nat) (ns : List Int) (L : List UInt8) (w : World) (hn : ns.length = len) (hL : ns.flatMap enc = L) (h : Rd w (· < w.heap.size) A len 1 (iv ns)) (hb : ∀ n ∈ ns, intBd n) (hl : ns.length ≤ 1000000000) :
    Calls Try.prog 41 #[.slice A len c] w (NewP w L) := by subst hn hL; exact ints_c A c ns w h hb hl


theorem below1 (w : World) (o : Obj) : Below w.heap.size w (w.alloc o) := (Below.refl _ _).alloc (Nat.le_refl _) o
theorem below2 (w : World) (o o' : Obj) : Below w.heap.size w ((w.alloc o).alloc o') := (below1 w o).alloc (by simp) o'

set_option maxRecDepth 100000 in
theorem rHolding_n (a b c d : Int) (w : World) (ha : intBd a) (hb : intBd b) (hc : intBd c) (hd : intBd d) (L : List UInt8) (hL : enc a ++ enc b ++ enc c ++ enc d = L) :
    Calls Try.prog 37 #[.agg #[.int .i64 a, .int .i64 b, .int .i64 c, .int .i64 d]] w (NewP w L) := by
  have HL := Lib.hid hL
  clear hL
  go_enter Try.func37, Try.ntmps37
  go_wp2_with fail
  refine (ints_n _ 4 4 [a, b, c, d] L _ rfl (by rw [← HL.out]; simp [List.flatMap]) (row_rd _ (iv [a, b, c, d]) 3 _ 4 (by simp) rfl) (by simp [ha, hb, hc, hd]) (by simp)).mono ?_
  rintro e w1 h1
  obtain ⟨v, rfl, hn⟩ := h1.below (below2 w _ _)
  go_wp2_with fail
  go_ret
  exact ⟨v, rfl, hn⟩
set_option maxRecDepth 100000 in
theorem rStock_n (a b c d f : Int) (w : World) (ha : intBd a) (hb : intBd b) (hc : intBd c) (hd : intBd d) (hf : intBd f) (L : List UInt8) (hL : enc a ++ enc b ++ enc c ++ enc d ++ enc f = L) :
    Calls Try.prog 39 #[.agg #[.int .i64 a, .int .i64 b, .int .i64 c, .int .i64 d, .int .i64 f]] w (NewP w L) := by
  have HL := Lib.hid hL
  clear hL
  go_enter Try.func39, Try.ntmps39
  go_wp2_with fail
  refine (ints_n _ 5 5 [a, b, c, d, f] L _ rfl (by rw [← HL.out]; simp [List.flatMap]) (row_rd _ (iv [a, b, c, d, f]) 3 _ 5 (by simp) rfl) (by simp [ha, hb, hc, hd, hf]) (by simp)).mono ?_
  rintro e w1 h1
  obtain ⟨v, rfl, hn⟩ := h1.below (below2 w _ _)
  go_wp2_with fail
  go_ret
  exact ⟨v, rfl, hn⟩
end Go.Proofs.Ytgdibeegheddmaa

namespace Go.Proofs.Ytgdibeegheddmaa
open Go Go.RowKit
set_option linter.unusedVariables false
set_option linter.unusedSimpArgs false
attribute [local go_sem ↓] Go.wp_at_zero Go.wp_at_succ
/-- A new row of integers; a new row of byte rows. -/
def NewInts (W w : World) (v : Value) (ns : List Int) : Prop := ∃ b, v = .slice (some ⟨b, 0, none⟩) ns.length ns.length ∧ Rd w (· < w.heap.size) (some ⟨b, 0, none⟩) ns.length 1 (iv ns)
def Parts (w : World) (vs : List Value) (Ls : List (List UInt8)) : Prop := ∀ i (hi : i < Ls.length), ∃ A c, vs[i]? = some (.slice A Ls[i].length c) ∧ Rd w (· < w.heap.size) A Ls[i].length 1 (bv Ls[i])
def NewParts (W w : World) (v : Value) (Ls : List (List UInt8)) : Prop := ∃ b vs, v = .slice (some ⟨b, 0, none⟩) Ls.length Ls.length ∧ Rd w (· < w.heap.size) (some ⟨b, 0, none⟩) Ls.length 1 vs ∧ Parts w vs Ls
theorem Parts.keep {w w' : World} {vs : List Value} {Ls : List (List UInt8)} (h : Parts w vs Ls) (hb : Below w.heap.size w w') : Parts w' vs Ls := fun i hi => by
  obtain ⟨A, c, h1, h2⟩ := h i hi
  exact ⟨A, c, h1, h2.keep hb⟩
theorem NewInts.keep {W w w' : World} {v : Value} {ns : List Int} (h : NewInts W w v ns) (hb : Below w.heap.size w w') : NewInts W w' v ns := by
  obtain ⟨b, h1, h2⟩ := h
  exact ⟨b, h1, h2.keep hb⟩
theorem NewParts.keep {W w w' : World} {v : Value} {Ls : List (List UInt8)} (h : NewParts W w v Ls) (hb : Below w.heap.size w w') : NewParts W w' v Ls := by
  obtain ⟨b, vs, h1, h2, h3⟩ := h
  exact ⟨b, vs, h1, h2.keep hb, h3.keep hb⟩
/-- What an operation's value is. -/
inductive Kind where
  | val (v : Value)
  | ints (ns : List Int)
  | row (L : List UInt8)
  | parts (Ls : List (List UInt8))
  | own (P : Value → World → Prop) (hP : ∀ v w w', Below w.heap.size w w' → P v w → P v w')
def Kind.holds (W : World) (k : Kind) (v : Value) (w : World) : Prop := match k with
  | .val u => v = u
  | .ints ns => NewInts W w v ns
  | .row L => NewBytes W w v L
  | .parts Ls => NewParts W w v Ls
  | .own P _ => P v w
theorem Kind.keep {W w w' : World} {k : Kind} {v : Value} (h : k.holds W v w) (hb : Below w.heap.size w w') : k.holds W v w' := by
  cases k with
  | val u => exact h
  | ints ns => exact NewInts.keep (W := W) h hb
  | row L => exact NewBytes.keep h hb
  | parts Ls => exact NewParts.keep (W := W) h hb
  | own P hP => exact hP v w w' hb h
def Ks (W : World) (ks : List Kind) (i : Nat) (v : Value) (w : World) : Prop := ∀ k, ks[i]? = some k → k.holds W v w
theorem Ks.keep {W w w' : World} {ks : List Kind} (hb : Below w.heap.size w w') (i : Nat) (v : Value) (h : Ks W ks i v w) : Ks W ks i v w' := fun k hk => Kind.keep (h k hk) hb

theorem Ks.of {W w : World} {ks : List Kind} {i : Nat} {k : Kind} {v : Value} (hk : ks[i]? = some k) (h : k.holds W v w) : Ks W ks i v w := fun k' hk' => by rw [hk] at hk'; cases hk'; exact h
theorem Inv.slot {md : Region.Mode} {ops : Array Oper} {V : Nat → Value → World → Prop} {S : World → Prop} {a0 : Act} {listed : Array Bool} {a : Act} {w : World} (hI : Inv md ops V S a0 listed a w) {i : Nat} (hnd : ¬ Done listed i) (j : Nat) (v : Value) (h0 : a0.tmps[j]? = some v)
    (h : (ops.toList.all fun o => o.dst != some j || o.after.toList.any fun e => Region.binds md e && e.on == i) = true) : a.tmps[j]?.getD undef = v := by
  have := hI.keep hnd j v h0 h
  simpa [Act.eval, Array.getD_eq_getD_getElem?] using this
theorem Inv.dep {md : Region.Mode} {ops : Array Oper} {W : World} {ks : List Kind} {S : World → Prop} {a0 : Act} {listed : Array Bool} {a : Act} {w : World} (hI : Inv md ops (Ks W ks) S a0 listed a w) {o : Oper} (hd : ∀ e ∈ o.after, Region.binds md e = true → Done listed e.on) (j d : Nat) {oj : Oper} {k : Kind} (hk : ks[j]? = some k) (hj : ops[j]? = some oj) (hjd : oj.dst = some d)
    (h : (o.after.toList.any fun e => Region.binds md e && e.on == j) = true) : ∃ v, a.tmps[d]?.getD undef = v ∧ k.holds W v w := by
  obtain ⟨v, hv, hV⟩ := hI.val hd j hj hjd h
  exact ⟨v, by simpa [Act.eval, Array.getD_eq_getD_getElem?] using hv, hV k hk⟩
theorem Inv.depv {md : Region.Mode} {ops : Array Oper} {W : World} {ks : List Kind} {S : World → Prop} {a0 : Act} {listed : Array Bool} {a : Act} {w : World} (hI : Inv md ops (Ks W ks) S a0 listed a w) {o : Oper} (hd : ∀ e ∈ o.after, Region.binds md e = true → Done listed e.on) (j d : Nat) {oj : Oper} (v : Value) (hk : ks[j]? = some (.val v)) (hj : ops[j]? = some oj) (hjd : oj.dst = some d)
    (h : (o.after.toList.any fun e => Region.binds md e && e.on == j) = true) : a.tmps[d]?.getD undef = v := by
  obtain ⟨u, hu, hV⟩ := hI.dep hd j d hk hj hjd h
  exact hu.trans hV
theorem NewP.from {W w w' : World} {L : List UInt8} {e : Ending} (h : NewP w L e w') (hS : Below W.heap.size W w) : ∃ v, e = .returned v ∧ Below W.heap.size W w' ∧ NewBytes W w' v L ∧ Below w.heap.size w w' := by
  obtain ⟨v, he, h1, h2, h3⟩ := h
  have hb := hS.trans (h3.mono hS.size)
  exact ⟨v, he, hb, ⟨h1, fun k hk => Nat.le_trans hS.size (h2 k hk), hb⟩, h3⟩
theorem NewInts.made {W w : World} (ns : List Int) (n : Nat) (hn : ns.length = n) (b : Nat) (hb : b = w.heap.size) (arr : Array Value) (ha : arr = (iv ns).toArray) : NewInts W (w.alloc (.cells arr 3)) (.slice (some ⟨b, 0, none⟩) n n) ns := by
  subst hn ha hb
  exact ⟨_, rfl, row_rd w (iv ns) 3 _ _ rfl (by simp [iv])⟩
theorem NewParts.made {W w : World} (vs : List Value) (Ls : List (List UInt8)) (n : Nat) (hn : Ls.length = n) (hv : vs.length = n) (b : Nat) (hb : b = w.heap.size) (arr : Array Value) (ha : arr = vs.toArray) (hp : Parts w vs Ls) : NewParts W (w.alloc (.cells arr 22)) (.slice (some ⟨b, 0, none⟩) n n) Ls := by
  subst hn ha hb
  exact ⟨_, vs, rfl, row_rd w vs 22 _ _ rfl hv, hp.keep (below1 w _)⟩
theorem Parts.nil (w : World) : Parts w [] [] := fun i hi => absurd hi (by simp)
theorem Parts.cons {W w : World} {v : Value} {vs : List Value} {L : List UInt8} {Ls : List (List UInt8)} (h : NewBytes W w v L) (hp : Parts w vs Ls) : Parts w (v :: vs) (L :: Ls) := fun i hi => by
  cases i with
  | zero =>
    obtain ⟨A, c, rfl, _, _⟩ := h.1.form
    exact ⟨A, c, rfl, (h.1.rd (fun k hk => h.1.lt hk)).2⟩
  | succ i => simpa using hp i (by simpa using hi)
theorem join_n (A : Option Addr) (len c : Nat) (vs : List Value) (Ls : List (List UInt8)) (L : List UInt8) (w : World) (hn : Ls.length = len) (hL : Ls.flatten = L) (h : Rd w (· < w.heap.size) A len 1 vs) (hp : Parts w vs Ls) (hl : L.length ≤ 100000000000) (hl2 : Ls.length ≤ 1000000000) :
    Calls Try.prog 64 #[.slice A len c] w (NewP w L) := by subst hn hL; exact join_c A c vs Ls w h hp hl hl2
theorem Inv.yield {md : Region.Mode} {ops : Array Oper} {W : World} {ks : List Kind} {S : World → Prop} {a0 : Act} {listed : Array Bool} {a : Act} {w : World} (hI : Inv md ops (Ks W ks) S a0 listed a w) {o : Oper} (hd : ∀ e ∈ o.after, Region.binds md e = true → Done listed e.on) (j d : Nat) {oj : Oper} (b : Bool) (hk : ks[j]? = some (.val (.bool b))) (hj : ops[j]? = some oj) (hjd : oj.dst = some d)
    (h : (o.after.toList.any fun e => Region.binds md e && e.on == j) = true) : yielded ops a.tmps j = some b := by
  simp only [List.any_eq_true, Bool.and_eq_true, beq_iff_eq] at h
  obtain ⟨e, he, hb, rfl⟩ := h
  obtain ⟨v, hv, hV⟩ := hI.got e.on oj d hj hjd (hd e (by simpa using he) hb)
  have h2 : v = .bool b := hV _ hk
  subst h2
  simp [yielded, hj, hjd, hv]
theorem wanted_yes {P : Program} {o : Oper} {a : Act} {w : World} {K : Act → World → Prop} {Q : Exit → Act → World → Prop} {E : Prop} {y : Nat → Option Bool} {j : Nat} {b : Bool} (hg : o.guard = some (j, b)) (hy : y j = some b) (h : o.wp P a w K Q) : if Region.wanted o y = true then o.wp P a w K Q else E := by
  rw [if_pos (by simp [Region.wanted, hg, hy])]; exact h
theorem wanted_no {P : Program} {o : Oper} {a : Act} {w : World} {K : Act → World → Prop} {Q : Exit → Act → World → Prop} {E : Prop} {y : Nat → Option Bool} {j : Nat} {b b' : Bool} (hg : o.guard = some (j, b)) (hy : y j = some b') (hne : (b' == b) = false) (h : E) : if Region.wanted o y = true then o.wp P a w K Q else E := by
  rw [if_neg (by simp only [Region.wanted, hg, hy]; cases b <;> cases b' <;> simp_all)]; exact h
theorem wanted_go {P : Program} {o : Oper} {a : Act} {w : World} {K : Act → World → Prop} {Q : Exit → Act → World → Prop} {E : Prop} {y : Nat → Option Bool} (hg : o.guard = none) (h : o.wp P a w K Q) : if Region.wanted o y = true then o.wp P a w K Q else E := by
  rw [if_pos (by simp [Region.wanted, hg])]; exact h

set_option maxRecDepth 100000 in
theorem rRate_n (s : ByteArray) (a b c : Int) (w : World) (hs : s.size ≤ 10000000000) (ha : intBd a) (hb : intBd b) (hc : intBd c) (L : List UInt8) (hL : encS s ++ enc a ++ enc b ++ enc c = L) :
    Calls Try.prog 36 #[.agg #[.string s, .int .i64 a, .int .i64 b, .int .i64 c]] w (NewP w L) := by
  have hLL : L.length ≤ 100000000000 := by
    have h1 := enc_len a
    have h2 := enc_len b
    have h3 := enc_len c
    have h4 := enc_len (s.size : Int)
    rw [← hL]
    simp only [encS, List.length_append, sb_length]
    omega
  have HL := Lib.hid hL
  have HLL := Lib.hid hLL
  clear hL hLL
  go_enter Try.func36, Try.ntmps36
  go_wp2_with fail
  have hbox : (w.alloc (Obj.cells #[.string s, .int .i64 a, .int .i64 b, .int .i64 c] 36)).heap[w.heap.size]? = some (Obj.cells #[.string s, .int .i64 a, .int .i64 b, .int .i64 c] 36) := heap_alloc_new w _
  generalize hW : w.alloc (Obj.cells #[.string s, .int .i64 a, .int .i64 b, .int .i64 c] 36) = W at *
  have hbW : Below w.heap.size w W := by rw [← hW]; exact below1 w _
  have hWs : w.heap.size < W.heap.size := by rw [← hW]; simp
  clear hW
  refine wp_region_inv (Ks W [.val (.pointer (some ⟨w.heap.size, 0, none⟩)), .val (.string s), .row (encS s), .val (.pointer (some ⟨w.heap.size, 1, none⟩)), .val (.int .i64 a),
    .val (.pointer (some ⟨w.heap.size, 2, none⟩)), .val (.int .i64 b), .val (.pointer (some ⟨w.heap.size, 3, none⟩)), .val (.int .i64 c), .ints [a, b, c], .row ([a, b, c].flatMap enc), .parts [encS s, [a, b, c].flatMap enc], .row L, .row L])
    (fun w' => Below W.heap.size W w') (by kernel_rfl) (by kernel_rfl) (by kernel_rfl) (Below.refl _ _).drew ?_ ?_
  · refine ⟨?_, ?_, ?_, ?_, ?_, ?_, ?_, ?_, ?_, ?_, ?_, ?_, ?_, ?_, trivial⟩
    · intro listed A w2 hI hd hnd K hK
      have e1 := hI.slot hnd 1 _ rfl (by kernel_rfl)
      have hS := hI.world
      refine wanted_go rfl ?_
      clear hI hd hnd
      go_simp
      exact hK.out _ _ hS (Ks.of rfl rfl) (fun _ _ h => h)
    · intro listed A w2 hI hd hnd K hK
      have e3 := hI.depv hd 0 3 _ rfl rfl rfl (by kernel_rfl)
      have hS := hI.world
      have hc := hS.block w.heap.size hWs
      rw [hbox] at hc
      have hc1 := blk_cell hc 0
      refine wanted_go rfl ?_
      clear hI hd hnd hc
      go_simp
      exact hK.out _ _ hS (Ks.of rfl rfl) (fun _ _ h => h)
    · intro listed A w2 hI hd hnd K hK
      have e4 := hI.depv hd 1 4 _ rfl rfl rfl (by kernel_rfl)
      have hS := hI.world
      refine wanted_go rfl ?_
      clear hI hd hnd
      go_simp
      go_at_call 40
      refine (text_c s w2 (by omega)).mono ?_
      rintro e w3 hP
      obtain ⟨v, rfl, h1, h2, h3⟩ := hP.from hS
      exact hK.out _ _ h1 (Ks.of rfl h2) (Ks.keep h3)
    · intro listed A w2 hI hd hnd K hK
      have e1 := hI.slot hnd 1 _ rfl (by kernel_rfl)
      have hS := hI.world
      refine wanted_go rfl ?_
      clear hI hd hnd
      go_simp
      exact hK.out _ _ hS (Ks.of rfl rfl) (fun _ _ h => h)
    · intro listed A w2 hI hd hnd K hK
      have e3 := hI.depv hd 3 6 _ rfl rfl rfl (by kernel_rfl)
      have hS := hI.world
      have hc := hS.block w.heap.size hWs
      rw [hbox] at hc
      have hc1 := blk_cell hc 1
      refine wanted_go rfl ?_
      clear hI hd hnd hc
      go_simp
      exact hK.out _ _ hS (Ks.of rfl rfl) (fun _ _ h => h)
    · intro listed A w2 hI hd hnd K hK
      have e1 := hI.slot hnd 1 _ rfl (by kernel_rfl)
      have hS := hI.world
      refine wanted_go rfl ?_
      clear hI hd hnd
      go_simp
      exact hK.out _ _ hS (Ks.of rfl rfl) (fun _ _ h => h)
    · intro listed A w2 hI hd hnd K hK
      have e3 := hI.depv hd 5 8 _ rfl rfl rfl (by kernel_rfl)
      have hS := hI.world
      have hc := hS.block w.heap.size hWs
      rw [hbox] at hc
      have hc1 := blk_cell hc 2
      refine wanted_go rfl ?_
      clear hI hd hnd hc
      go_simp
      exact hK.out _ _ hS (Ks.of rfl rfl) (fun _ _ h => h)
    · intro listed A w2 hI hd hnd K hK
      have e1 := hI.slot hnd 1 _ rfl (by kernel_rfl)
      have hS := hI.world
      refine wanted_go rfl ?_
      clear hI hd hnd
      go_simp
      exact hK.out _ _ hS (Ks.of rfl rfl) (fun _ _ h => h)
    · intro listed A w2 hI hd hnd K hK
      have e3 := hI.depv hd 7 10 _ rfl rfl rfl (by kernel_rfl)
      have hS := hI.world
      have hc := hS.block w.heap.size hWs
      rw [hbox] at hc
      have hc1 := blk_cell hc 3
      refine wanted_go rfl ?_
      clear hI hd hnd hc
      go_simp
      exact hK.out _ _ hS (Ks.of rfl rfl) (fun _ _ h => h)
    · intro listed A w2 hI hd hnd K hK
      have e4 := hI.depv hd 4 7 _ rfl rfl rfl (by kernel_rfl)
      have e5 := hI.depv hd 6 9 _ rfl rfl rfl (by kernel_rfl)
      have e6 := hI.depv hd 8 11 _ rfl rfl rfl (by kernel_rfl)
      have hS := hI.world
      refine wanted_go rfl ?_
      clear hI hd hnd
      go_simp
      exact hK.out _ _ (hS.alloc hS.size _) (Ks.of rfl (NewInts.made (W := W) [a, b, c] 3 rfl _ rfl _ rfl)) (Ks.keep (below1 w2 _))
    · intro listed A w2 hI hd hnd K hK
      obtain ⟨v12, e12, h12⟩ := hI.dep hd 9 12 rfl rfl rfl (by kernel_rfl)
      obtain ⟨bb, rfl, hr⟩ := h12
      have hS := hI.world
      refine wanted_go rfl ?_
      clear hI hd hnd
      go_simp
      go_at_call 41
      refine (ints_n _ _ _ [a, b, c] _ w2 rfl rfl hr (by simp [ha, hb, hc]) (by simp)).mono ?_
      rintro e w3 hP
      obtain ⟨v, rfl, h1, h2, h3⟩ := hP.from hS
      exact hK.out _ _ h1 (Ks.of rfl h2) (Ks.keep h3)
    · intro listed A w2 hI hd hnd K hK
      obtain ⟨v5, e5, h5⟩ := hI.dep hd 2 5 rfl rfl rfl (by kernel_rfl)
      obtain ⟨v13, e13, h13⟩ := hI.dep hd 10 13 rfl rfl rfl (by kernel_rfl)
      obtain ⟨A5, n5, c5, rfl⟩ := Bytes.shape h5.1
      obtain ⟨A13, n13, c13, rfl⟩ := Bytes.shape h13.1
      have hp := Parts.cons h5 (Parts.cons h13 (Parts.nil w2))
      have hS := hI.world
      have HPP := Lib.hid hp
      refine wanted_go rfl ?_
      clear hI hd hnd hp h5 h13
      go_simp
      exact hK.out _ _ (hS.alloc hS.size _) (Ks.of rfl (NewParts.made (W := W) _ [encS s, [a, b, c].flatMap enc] 2 rfl rfl _ rfl _ rfl HPP.out)) (Ks.keep (below1 w2 _))
    · intro listed A w2 hI hd hnd K hK
      obtain ⟨v14, e14, h14⟩ := hI.dep hd 11 14 rfl rfl rfl (by kernel_rfl)
      obtain ⟨bb, vs, rfl, hr, hp⟩ := h14
      have hS := hI.world
      have HPP := Lib.hid hp
      refine wanted_go rfl ?_
      clear hI hd hnd hp
      go_simp
      go_at_call 64
      refine (join_n _ _ _ vs [encS s, [a, b, c].flatMap enc] L w2 rfl (by rw [← HL.out]; simp [List.flatMap]) hr HPP.out HLL.out (by simp)).mono ?_
      rintro e w3 hP
      obtain ⟨v, rfl, h1, h2, h3⟩ := hP.from hS
      exact hK.out _ _ h1 (Ks.of rfl h2) (Ks.keep h3)
    · intro listed A w2 hI hd hnd K hK
      obtain ⟨v15, e15, h15⟩ := hI.dep hd 12 15 rfl rfl rfl (by kernel_rfl)
      have hS := hI.world
      refine wanted_go rfl ?_
      clear hI hd hnd
      go_simp
      exact hK.out _ _ hS (Ks.of rfl h15) (fun _ _ h => h)
  · intro listed A w2 hI hall
    obtain ⟨x0, g0, h0⟩ := hI.got 0 _ 3 rfl rfl (hall 0 (by decide))
    obtain ⟨x1, g1, h1⟩ := hI.got 1 _ 4 rfl rfl (hall 1 (by decide))
    obtain ⟨x2, g2, h2⟩ := hI.got 2 _ 5 rfl rfl (hall 2 (by decide))
    obtain ⟨x3, g3, h3⟩ := hI.got 3 _ 6 rfl rfl (hall 3 (by decide))
    obtain ⟨x4, g4, h4⟩ := hI.got 4 _ 7 rfl rfl (hall 4 (by decide))
    obtain ⟨x5, g5, h5⟩ := hI.got 5 _ 8 rfl rfl (hall 5 (by decide))
    obtain ⟨x6, g6, h6⟩ := hI.got 6 _ 9 rfl rfl (hall 6 (by decide))
    obtain ⟨x7, g7, h7⟩ := hI.got 7 _ 10 rfl rfl (hall 7 (by decide))
    obtain ⟨x8, g8, h8⟩ := hI.got 8 _ 11 rfl rfl (hall 8 (by decide))
    obtain ⟨x9, g9, h9⟩ := hI.got 9 _ 12 rfl rfl (hall 9 (by decide))
    obtain ⟨x10, g10, h10⟩ := hI.got 10 _ 13 rfl rfl (hall 10 (by decide))
    obtain ⟨x11, g11, h11⟩ := hI.got 11 _ 14 rfl rfl (hall 11 (by decide))
    obtain ⟨x12, g12, h12⟩ := hI.got 12 _ 15 rfl rfl (hall 12 (by decide))
    obtain ⟨x13, g13, h13⟩ := hI.got 13 _ 2 rfl rfl (hall 13 (by decide))
    have hA := hI.tmps [(3, x0), (4, x1), (5, x2), (6, x3), (7, x4), (8, x5), (9, x6), (10, x7), (11, x8), (12, x9), (13, x10), (14, x11), (15, x12), (2, x13)] (by simp only [List.mem_cons, List.not_mem_nil, or_false, forall_eq_or_imp, forall_eq]; exact ⟨g0, g1, g2, g3, g4, g5, g6, g7, g8, g9, g10, g11, g12, g13⟩) (by kernel_rfl)
    have h13' : NewBytes W w2 x13 L := h13 _ rfl
    subst hA
    simp only [setAll, List.foldl, List.setIfInBounds_toArray, List.set_cons_zero, List.set_cons_succ]
    clear hI hall h0 h1 h2 h3 h4 h5 h6 h7 h8 h9 h10 h11 h12 h13 g0 g1 g2 g3 g4 g5 g6 g7 g8 g9 g10 g11 g12 g13
    obtain ⟨v, hv, hn⟩ := NewP.below ⟨x13, rfl, h13'⟩ hbW
    injection hv with hv
    subst hv
    go_wp2_with fail
    go_ret
    exact ⟨_, rfl, hn⟩
end Go.Proofs.Ytgdibeegheddmaa

namespace Go.Proofs.Ytgdibeegheddmaa
open Go Go.RowKit
set_option linter.unusedVariables false
set_option linter.unusedSimpArgs false
theorem Inv.step {md : Region.Mode} {ops : Array Oper} {V : Nat → Value → World → Prop} {S : World → Prop} {a0 : Act} {listed : Array Bool} {a : Act} {w w' : World} {i : Nat} {o : Oper} {v : Value} (hI : Inv md ops V S a0 listed a w)
    (hdst : ∀ (i j : Nat) (oi oj : Oper) (d : Nat), ops[i]? = some oi → ops[j]? = some oj → oi.dst = some d → oj.dst = some d → i = j)
    (hlt : ∀ (i : Nat) (o : Oper) (d : Nat), ops[i]? = some o → o.dst = some d → d < a0.tmps.size)
    (h2 : ops[i]? = some o) (h3 : ∀ e ∈ o.after, Region.binds md e = true → Done listed e.on) (hS : S w') (hv : V i v w') (hst : ∀ j u, V j u w → V j u w') :
    Inv md ops V S a0 (listed.setIfInBounds i true) (a.put o.dst v) w' := by
  have hsz : i < ops.size := (Array.getElem?_eq_some_iff.1 h2).1
  refine ⟨by simpa using hI.lsize, hS, ?_, ?_, ?_, ?_, ?_⟩
  · cases o.dst <;> exact hI.defers
  · cases ho : o.dst <;> simp [Act.put, hI.size]
  · intro j oj hj hd e he hb
    rcases hd.inv with rfl | hd
    · rw [h2] at hj
      cases hj
      exact Done.set (h3 e he hb)
    · exact Done.set (hI.closed j oj hj hd e he hb)
  · intro j oj d hj hjd hd
    by_cases hji : j = i
    · subst hji
      rw [h2] at hj
      cases hj
      refine ⟨v, ?_, hv⟩
      have := hlt j o d h2 hjd
      simp [Act.put, hjd, hI.size, this]
    · rcases hd.inv with h | hd
      · exact absurd h hji
      · obtain ⟨u, hu, hV⟩ := hI.got j oj d hj hjd hd
        refine ⟨u, ?_, hst j u hV⟩
        cases ho : o.dst with
        | none => simpa [Act.put, ho] using hu
        | some d' =>
          have hne : d' ≠ d := fun e => hji (hdst j i oj o d hj h2 hjd (by rw [ho, e]))
          simpa [Act.put, Array.getElem?_setIfInBounds, hne] using hu
  · intro j hj
    have h4 := hI.old j (fun k ok hk hkd hd => hj k ok hk hkd hd.set)
    cases ho : o.dst with
    | none => simpa [Act.put] using h4
    | some d' =>
      have hne : d' ≠ j := fun e => hj i o h2 (by rw [ho, e]) (Done.new (by rw [hI.lsize]; exact hsz))
      simpa [Act.put, Array.getElem?_setIfInBounds, hne] using h4

/-- The first m operations are done, no other is. -/
def headDone (m n : Nat) : Array Bool := ((List.range n).map fun i => decide (i < m)).toArray
theorem headDone_get (m n i : Nat) (hi : i < n) : (headDone m n)[i]? = some (decide (i < m)) := by simp [headDone, hi]
theorem eq_headDone {m n : Nat} {listed : Array Bool} (hs : listed.size = n) (h1 : ∀ i, i < m → i < n → Done listed i) (h2 : ∀ i, m ≤ i → i < n → ¬ Done listed i) : listed = headDone m n := by
  refine Array.ext_getElem? fun i => ?_
  by_cases hi : i < n
  · rw [headDone_get m n i hi, Array.getElem?_eq_getElem (by omega)]
    by_cases him : i < m
    · have := h1 i him hi
      simp [Done, Array.getD_eq_getD_getElem?, hs, hi] at this
      simp [this, him]
    · have := h2 i (by omega) hi
      simp [Done, Array.getD_eq_getD_getElem?, hs, hi] at this
      simp [this, him]
  · rw [Array.getElem?_eq_none (by omega), Array.getElem?_eq_none (by simp [headDone]; omega)]
/-- Where the operation i waits, through others, for all of the first m. -/
def waitsB (md : Region.Mode) (ops : Array Oper) (m : Nat) : Bool :=
  (List.range m).all fun i => ((List.range ops.size).drop (i + 1)).any fun j => decide (j ≤ m) && match ops[j]? with
    | some o => o.after.toList.any fun e => Region.binds md e && e.on == i
    | none => false
/-- Each operation behind m waits for m. -/
def behindB (md : Region.Mode) (ops : Array Oper) (m : Nat) : Bool :=
  ((List.range ops.size).drop (m + 1)).all fun j => match ops[j]? with
    | some o => o.after.toList.any fun e => Region.binds md e && decide (m ≤ e.on) && decide (e.on < j)
    | none => true
/-- What is not done among the first m is waited for by something not done that is at most m: so nothing from m on is ready till all of them are done. -/
theorem waits_spec {md : Region.Mode} {ops : Array Oper} {V : Nat → Value → World → Prop} {S : World → Prop} {a0 : Act} {listed : Array Bool} {a : Act} {w : World} {m : Nat} (hI : Inv md ops V S a0 listed a w)
    (h : waitsB md ops m = true) {o : Oper} (ho : ops[m]? = some o) (hd : ∀ e ∈ o.after, Region.binds md e = true → Done listed e.on) : ∀ k i, i < m → m - i ≤ k → Done listed i
  | 0, i, hi, hk => absurd hk (by omega)
  | k + 1, i, hi, hk => by
    simp only [waitsB, List.all_eq_true, List.mem_range] at h
    have h1 := h i hi
    simp only [List.any_eq_true, Bool.and_eq_true, decide_eq_true_eq] at h1
    obtain ⟨j, hj, hjm, h2⟩ := h1
    have hij : i < j := by
      rw [List.mem_drop_iff_getElem] at hj
      obtain ⟨q, hq, hq2⟩ := hj
      simp at hq2
      omega
    cases hoj : ops[j]? with
    | none => rw [hoj] at h2; simp at h2
    | some oj =>
      rw [hoj] at h2
      simp only [List.any_eq_true, Bool.and_eq_true, beq_iff_eq] at h2
      obtain ⟨e, he, hb, rfl⟩ := h2
      by_cases hjm2 : j = m
      · subst hjm2
        rw [ho] at hoj
        cases hoj
        exact hd e (by simpa using he) hb
      · have := waits_spec hI (by simpa only [waitsB, List.all_eq_true, List.mem_range] using h) ho hd k j (by omega) (by omega)
        exact hI.closed j oj hoj this e (by simpa using he) hb
theorem left_head (m : Nat) : ∀ n k, k ≤ n → k - m ≤ ((List.range k).filter fun i => !(headDone m n).getD i true).length
  | n, 0, _ => by simp
  | n, k + 1, hk => by
    have ih := left_head m n k (by omega)
    have e := headDone_get m n k (by omega)
    rw [List.range_succ, List.filter_append, List.length_append]
    by_cases h : k < m
    · omega
    · have : ([k].filter fun i => !(headDone m n).getD i true).length = 1 := by simp [Array.getD_eq_getD_getElem?, e, h]
      omega
theorem wpAny_inv2 {P : Program} {md : Region.Mode} {ops : Array Oper} {Q : Exit → Act → World → Prop} {V : Nat → Value → World → Prop} {S : World → Prop} {a0 : Act} {m : Nat}
    (hord : ∀ (i : Nat) (o : Oper), ops[i]? = some o → ∀ e ∈ o.after, e.on < i)
    (hdst : ∀ (i j : Nat) (oi oj : Oper) (d : Nat), ops[i]? = some oi → ops[j]? = some oj → oi.dst = some d → oj.dst = some d → i = j)
    (hlt : ∀ (i : Nat) (o : Oper) (d : Nat), ops[i]? = some o → o.dst = some d → d < a0.tmps.size)
    (hmn : m < ops.size) (hwait : waitsB md ops m = true) (hbeh : behindB md ops m = true)
    (hstep : ∀ i o, i < m → ops[i]? = some o → ∀ listed a w, Inv md ops V S a0 listed a w → (∀ e ∈ o.after, Region.binds md e = true → Done listed e.on) → ¬ Done listed i →
      ∀ K : Act → World → Prop, (∀ v w', S w' → V i v w' → (∀ j u, V j u w → V j u w') → K (a.put o.dst v) w') → if Region.wanted o (yielded ops a.tmps) = true then o.wp P a w K Q else K (a.put o.dst undef) w)
    (hmid : ∀ f a w, Inv md ops V S a0 (headDone m ops.size) a w → wpAny P md ops Q (f + (ops.size - m)) (headDone m ops.size) a w) :
    ∀ fuel listed a w, Inv md ops V S a0 listed a w → (∀ i, m ≤ i → i < ops.size → ¬ Done listed i) → left ops.size listed ≤ fuel → wpAny P md ops Q fuel listed a w := by
  intro fuel
  induction fuel with
  | zero =>
    intro listed a w hI hno hf
    have hr : Region.ready md ops listed = [] := by
      rw [List.eq_nil_iff_forall_not_mem]
      intro i hi
      obtain ⟨h1, o, h2, _⟩ := mem_ready.1 hi
      have := left_set hI.lsize (Array.getElem?_eq_some_iff.1 h2).1 h1
      omega
    exact absurd (all_done hI.lsize hord hr (m + 1) m (by omega) hmn) (hno m (by omega) hmn)
  | succ fuel ih =>
    intro listed a w hI hno hf
    by_cases hall : ∀ i, i < m → Done listed i
    · have hl := eq_headDone hI.lsize (fun i hi _ => hall i hi) hno
      subst hl
      have h1 := left_head m ops.size ops.size (Nat.le_refl _)
      unfold left at hf
      have h2 := hmid (fuel + 1 - (ops.size - m)) a w hI
      rwa [show fuel + 1 - (ops.size - m) + (ops.size - m) = fuel + 1 from by omega] at h2
    · refine ⟨fun hr => absurd (all_done hI.lsize hord hr (m + 1) m (by omega) hmn) (hno m (by omega) hmn), fun i hi => ?_⟩
      obtain ⟨h1, o, h2, h3⟩ := mem_ready.1 hi
      have hsz : i < ops.size := (Array.getElem?_eq_some_iff.1 h2).1
      have him : i < m := by
        refine Nat.lt_of_not_le fun hle => ?_
        by_cases he : i = m
        · subst he
          exact hall fun j hj => waits_spec hI hwait h2 h3 (i - j) j hj (Nat.le_refl _)
        · simp only [behindB, List.all_eq_true] at hbeh
          have h4 := hbeh i (by rw [List.mem_drop_iff_getElem]; exact ⟨i - (m + 1), by simp; omega, by simp; omega⟩)
          rw [h2] at h4
          simp only [List.any_eq_true, Bool.and_eq_true, decide_eq_true_eq] at h4
          obtain ⟨e, hem, ⟨hb, hme⟩, hei⟩ := h4
          exact hno e.on hme (by omega) (h3 e (by simpa using hem) hb)
      have hnd : ¬ Done listed i := by
        unfold Done
        rw [← getD_tf (by rw [hI.lsize]; exact hsz), h1]
        simp
      refine wpOp_step h2 (fun K hK => hstep i o him h2 listed a w hI h3 hnd K (fun v w' hS hv hst => hK _ _ ?_))
      refine ih _ _ _ (hI.step hdst hlt h2 h3 hS hv hst) (fun j hj hjs hdj => ?_) ?_
      · rcases hdj.inv with rfl | hdj
        · omega
        · exact hno j hj hjs hdj
      · have := left_set hI.lsize hsz h1
        omega
theorem wp_region_inv2 {P : Program} {ops : Array Oper} {Q : Exit → Act → World → Prop} (m : Nat) (V : Nat → Value → World → Prop) (S : World → Prop) {id : Nat} {a : Act} {w : World}
    (hm : P.follows .mixedOrders = true) (ho : ordB ops = true) (hd : dstB ops a.tmps.size = true) (hmn : m < ops.size) (hwait : waitsB .any ops m = true) (hbeh : behindB .any ops m = true) (hS : S w.drew)
    (hstep : AllOps (OpStep P .any ops Q V S a) 0 (ops.toList.take m))
    (hmid : ∀ f a' w', Inv .any ops V S a (headDone m ops.size) a' w' → wpAny P .any ops Q (f + (ops.size - m)) (headDone m ops.size) a' w') : (Code.region id ops true).wp P Q a w := by
  have hno : ∀ i, ¬ Done (Array.replicate ops.size false) i := fun i h => by
    unfold Done at h
    by_cases hi : i < ops.size <;> simp [Array.getD_eq_getD_getElem?, hi] at h
  refine wp_region_any hm (wpAny_inv2 (V := V) (S := S) (a0 := a) (m := m) (ordB_spec ho) (fun i j oi oj d hi hj hid hjd => (dstB_spec hd i oi d hi hid).2 j oj hj hjd) (fun i o d hi hid => (dstB_spec hd i o d hi hid).1) hmn hwait hbeh
    (fun i o him hi listed a' w' hI hdn hnd K hK => ?_) hmid _ _ _ _ ?_ (fun i _ _ => hno i) ?_)
  · have := AllOps.get hstep (i := i) (o := o) (by rw [List.getElem?_take_of_lt him]; simpa using hi)
    rw [Nat.zero_add] at this
    exact this listed a' w' hI hdn hnd K hK
  · exact ⟨by simp, hS, rfl, rfl, fun i _ _ h => absurd h (hno i), fun i _ _ _ _ h => absurd h (hno i), fun _ _ => rfl⟩
  · unfold left
    exact Nat.le_trans (List.length_filter_le _ _) (by simp)
end Go.Proofs.Ytgdibeegheddmaa

namespace Go.Proofs.Ytgdibeegheddmaa
open Go Go.RowKit
set_option linter.unusedVariables false
set_option linter.unusedSimpArgs false
attribute [local go_sem ↓] Go.wp_at_zero Go.wp_at_succ
def IsRow (L : List UInt8) (v : Value) (w : World) : Prop := ∃ A c, v = .slice A L.length c ∧ Rd w (· < w.heap.size) A L.length 1 (bv L)
theorem IsRow.keep (L : List UInt8) : ∀ v w w', Below w.heap.size w w' → IsRow L v w → IsRow L v w' := fun v w w' hb ⟨A, c, e, h⟩ => ⟨A, c, e, h.keep hb⟩
theorem At.keep {w w' : World} {a : Addr} {vs : List Value} (h : At w (· < w.heap.size) a vs) (hb : Below w.heap.size w w') : At w' (· < w'.heap.size) a vs :=
  (h.fr (Fr.ofBelow hb)).mono (fun k hk => by have := hb.size; omega)
theorem wpList_load_row_g {P : Program} {ops : Array Oper} {rest : List Oper} {o : Oper} {a : Act} {w : World} {Q : Exit → Act → World → Prop} (hw : Region.wanted o (yielded ops a.tmps) = true) (ty : TypeId) (x : Operand) (ho : o.op = .load ty x)
    (g : Nat) (hx : a.eval x = .pointer (some ⟨g, 0, none⟩)) (t : TypeId) (cs : Array Value) (fr : Nat × Nat) (d : TypeDesc) (hg : w.heap[g]? = some (.cells cs t fr))
    (hu : P.underlying ty = some d) (hd : (match d with | .struct _ | .array _ _ => true | _ => false) = true) (hi : (P.info? ty).map (·.size) = some cs.size)
    (h : wpList P ops Q rest (a.put o.dst (.agg cs)) w) : wpList P ops Q (o :: rest) a w :=
  wpList_step fun K hK => by rw [if_pos hw]; exact wp_load_row ty x ho g hx t cs fr d hg hu hd hi (hK _ _ h)
/-- A new variable is set whole: the world behind it is a letter. -/
theorem wpList_store_fresh2 {P : Program} {ops : Array Oper} {rest : List Oper} {o : Oper} {a : Act} {Q : Exit → Act → World → Prop} (hgd : o.guard = none) (ty : TypeId) (x y : Operand) (ho : o.op = .store ty x y) (hd : o.dst = none)
    (w1 : World) (old : Array Value) (t : TypeId) (cells : Array Value) (hx : a.eval x = .pointer (some ⟨w1.heap.size, 0, none⟩)) (hy : a.eval y = .agg cells)
    (hi : (P.info? ty).map (·.size) = some cells.size) (hold : old.size = cells.size) (h1 : cells.all (·.oneCell') = true)
    (h : ∀ w2 : World, w2.heap[w1.heap.size]? = some (.cells cells t (0, 0)) → Below w1.heap.size w1 w2 → w1.heap.size < w2.heap.size → wpList P ops Q rest a w2) :
    wpList P ops Q (o :: rest) a (w1.alloc (.cells old t)) := by
  have hg : (w1.alloc (.cells old t)).heap[w1.heap.size]? = some (.cells old t (0, 0)) := heap_alloc_new w1 _
  refine wpList_store_row hgd ty x y ho w1.heap.size cells hx hy t old hg hi hold h1 ?_
  rw [hd]
  have f := ((Fr.refl (· < w1.heap.size) w1).alloc (fun _ h => h) (.cells old t)).trans ((fr_setRow (w1.alloc (.cells old t)) w1.heap.size cells).mono (fun k (hk : k < w1.heap.size) => by show k ≠ w1.heap.size; omega))
  have hsz : w1.heap.size < ((w1.alloc (.cells old t)).setRow w1.heap.size cells).heap.size := by
    have k1 := (fr_setRow (w1.alloc (.cells old t)) w1.heap.size cells).size
    have k2 : (w1.alloc (.cells old t)).heap.size = w1.heap.size + 1 := by simp
    omega
  exact h _ (heap_setRow hg cells) f.below hsz
end Go.Proofs.Ytgdibeegheddmaa
