/- The invariant rule for regions whose edges may also lead forward, where these do not bind. (joined: L0Region, L1Num) -/
import Derived.Test.YtgdibeegheddmaaYHX
import Derived.Test.YtgdibeegheddmaaYIa
import Derived.Test.YtgdibeegheddmaaYI3Open
namespace Go.Proofs.Ytgdibeegheddmaa
open Go Go.RowKit
set_option linter.unusedVariables false
set_option linter.unusedSimpArgs false
/-- Where nothing is ready all is done (each operation waits for earlier ones alone). -/
theorem all_done' {md : Region.Mode} {ops : Array Oper} {listed : Array Bool} (hl : listed.size = ops.size)
    (hord : ∀ (i : Nat) (o : Oper), ops[i]? = some o → ∀ e ∈ o.after, Region.binds md e = true → e.on < i) (h : Region.ready md ops listed = []) : ∀ n i, i < n → i < ops.size → Done listed i
  | 0, i, hi, _ => absurd hi (by omega)
  | n + 1, i, hi, hs => by
    have ih := all_done' hl hord h n
    have hmem : i ∉ Region.ready md ops listed := by rw [h]; simp
    rw [mem_ready] at hmem
    have hd : Done listed i ∨ listed.getD i true = false := by
      rw [getD_tf (by omega)]
      unfold Done
      cases listed.getD i false <;> simp
    rcases hd with hd | hd
    · exact hd
    · refine absurd ⟨hd, ops[i], Array.getElem?_eq_getElem hs, fun e he hb => ?_⟩ hmem
      have := hord i ops[i] (Array.getElem?_eq_getElem hs) e he hb
      exact ih e.on (by omega) (by omega)

theorem wpAny_inv' {P : Program} {md : Region.Mode} {ops : Array Oper} {Q : Exit → Act → World → Prop} {V : Nat → Value → World → Prop} {S : World → Prop} {a0 : Act}
    (hord : ∀ (i : Nat) (o : Oper), ops[i]? = some o → ∀ e ∈ o.after, Region.binds md e = true → e.on < i)
    (hdst : ∀ (i j : Nat) (oi oj : Oper) (d : Nat), ops[i]? = some oi → ops[j]? = some oj → oi.dst = some d → oj.dst = some d → i = j)
    (hlt : ∀ (i : Nat) (o : Oper) (d : Nat), ops[i]? = some o → o.dst = some d → d < a0.tmps.size)
    (hstep : ∀ i o, ops[i]? = some o → ∀ listed a w, Inv md ops V S a0 listed a w → (∀ e ∈ o.after, Region.binds md e = true → Done listed e.on) → ¬ Done listed i →
      ∀ K : Act → World → Prop, (∀ v w', S w' → V i v w' → (∀ j u, V j u w → V j u w') → K (a.put o.dst v) w') → if Region.wanted o (yielded ops a.tmps) = true then o.wp P a w K Q else K (a.put o.dst undef) w)
    (hend : ∀ listed a w, Inv md ops V S a0 listed a w → (∀ i, i < ops.size → Done listed i) → Q .normal a w) :
    ∀ fuel listed a w, Inv md ops V S a0 listed a w → left ops.size listed ≤ fuel → wpAny P md ops Q fuel listed a w
  | 0, listed, a, w, hI, hf => by
    have hr : Region.ready md ops listed = [] := by
      rw [List.eq_nil_iff_forall_not_mem]
      intro i hi
      obtain ⟨h1, o, h2, _⟩ := mem_ready.1 hi
      have := left_set hI.lsize (Array.getElem?_eq_some_iff.1 h2).1 h1
      omega
    exact ⟨hr, hend listed a w hI (fun i hi => all_done' hI.lsize hord hr (i + 1) i (by omega) hi)⟩
  | fuel + 1, listed, a, w, hI, hf => by
    refine ⟨fun hr => hend listed a w hI (fun i hi => all_done' hI.lsize hord hr (i + 1) i (by omega) hi), fun i hi => ?_⟩
    obtain ⟨h1, o, h2, h3⟩ := mem_ready.1 hi
    have hsz : i < ops.size := (Array.getElem?_eq_some_iff.1 h2).1
    have hnd : ¬ Done listed i := by
      unfold Done
      rw [← getD_tf (by rw [hI.lsize]; exact hsz), h1]
      simp
    refine wpOp_step h2 (fun K hK => hstep i o h2 listed a w hI h3 hnd K (fun v w' hS hv hst => hK _ _ ?_))
    refine wpAny_inv' hord hdst hlt hstep hend fuel _ _ _ ?_ ?_
    · refine ⟨by simpa using hI.lsize, hS, ?_, ?_, ?_, ?_, ?_⟩
      · cases o.dst <;> exact hI.defers
      · cases ho : o.dst <;> simp [Act.put, hI.size]
      · intro j oj hj hd e he hb
        rcases hd.inv with rfl | hd
        · rw [h2] at hj
          cases hj
          exact Done.set (h3 e he hb)
        · exact Done.set (hI.closed j oj hj hd e he hb)
      · intro j oj d hj hjd hd
        by_cases hji : j = i
        · subst hji
          rw [h2] at hj
          cases hj
          refine ⟨v, ?_, hv⟩
          have := hlt j o d h2 hjd
          simp [Act.put, hjd, hI.size, this]
        · rcases hd.inv with h | hd
          · exact absurd h hji
          · obtain ⟨u, hu, hV⟩ := hI.got j oj d hj hjd hd
            refine ⟨u, ?_, hst j u hV⟩
            cases ho : o.dst with
            | none => simpa [Act.put, ho] using hu
            | some d' =>
              have hne : d' ≠ d := fun e => hji (hdst j i oj o d hj h2 hjd (by rw [ho, e]))
              simpa [Act.put, Array.getElem?_setIfInBounds, hne] using hu
      · intro j hj
        have h4 := hI.old j (fun k ok hk hkd hd => hj k ok hk hkd hd.set)
        cases ho : o.dst with
        | none => simpa [Act.put] using h4
        | some d' =>
          have hne : d' ≠ j := fun e => hj i o h2 (by rw [ho, e]) (Done.new (by rw [hI.lsize]; exact hsz))
          simpa [Act.put, Array.getElem?_setIfInBounds, hne] using h4
    · have := left_set hI.lsize hsz h1
      omega

def ordB' (md : Region.Mode) (ops : Array Oper) : Bool := (List.range ops.size).all fun i => match ops[i]? with
  | some o => o.after.toList.all fun e => !Region.binds md e || decide (e.on < i)
  | none => true
theorem ordB_spec' {md : Region.Mode} {ops : Array Oper} (h : ordB' md ops = true) (i : Nat) (o : Oper) (ho : ops[i]? = some o) : ∀ e ∈ o.after, Region.binds md e = true → e.on < i := by
  intro e he hb
  simp only [ordB', List.all_eq_true, List.mem_range] at h
  have := h i (Array.getElem?_eq_some_iff.1 ho).1
  rw [ho] at this
  simp only [List.all_eq_true] at this
  have h2 := this e (by simpa using he)
  simpa [hb] using h2
theorem wp_region_inv' {P : Program} {ops : Array Oper} {Q : Exit → Act → World → Prop} (V : Nat → Value → World → Prop) (S : World → Prop) {id : Nat} {a : Act} {w : World}
    (hm : P.follows .mixedOrders = true) (ho : ordB' .any ops = true) (hd : dstB ops a.tmps.size = true) (hS : S w.drew)
    (hstep : AllOps (OpStep P .any ops Q V S a) 0 ops.toList)
    (hend : ∀ listed a' w', Inv .any ops V S a listed a' w' → (∀ i, i < ops.size → Done listed i) → Q .normal a' w') : (Code.region id ops true).wp P Q a w := by
  refine wp_region_any hm (wpAny_inv' (V := V) (S := S) (a0 := a) (ordB_spec' ho) (fun i j oi oj d hi hj hid hjd => (dstB_spec hd i oi d hi hid).2 j oj hj hjd) (fun i o d hi hid => (dstB_spec hd i o d hi hid).1)
    (fun i o hi listed a' w' hI hdn hnd K hK => ?_) hend _ _ _ _ ?_ ?_)
  · have := AllOps.get hstep (i := i) (o := o) (by simpa using hi)
    rw [Nat.zero_add] at this
    exact this listed a' w' hI hdn hnd K hK
  · have hno : ∀ i, ¬ Done (Array.replicate ops.size false) i := fun i h => by
      unfold Done at h
      by_cases hi : i < ops.size <;> simp [Array.getD_eq_getD_getElem?, hi] at h
    exact ⟨by simp, hS, rfl, rfl, fun i _ _ h => absurd h (hno i), fun i _ _ _ _ h => absurd h (hno i), fun _ _ => rfl⟩
  · unfold left
    exact Nat.le_trans (List.length_filter_le _ _) (by simp)

theorem wpAny_inv2' {P : Program} {md : Region.Mode} {ops : Array Oper} {Q : Exit → Act → World → Prop} {V : Nat → Value → World → Prop} {S : World → Prop} {a0 : Act} {m : Nat}
    (hord : ∀ (i : Nat) (o : Oper), ops[i]? = some o → ∀ e ∈ o.after, Region.binds md e = true → e.on < i)
    (hdst : ∀ (i j : Nat) (oi oj : Oper) (d : Nat), ops[i]? = some oi → ops[j]? = some oj → oi.dst = some d → oj.dst = some d → i = j)
    (hlt : ∀ (i : Nat) (o : Oper) (d : Nat), ops[i]? = some o → o.dst = some d → d < a0.tmps.size)
    (hmn : m < ops.size) (hwait : waitsB md ops m = true) (hbeh : behindB md ops m = true)
    (hstep : ∀ i o, i < m → ops[i]? = some o → ∀ listed a w, Inv md ops V S a0 listed a w → (∀ e ∈ o.after, Region.binds md e = true → Done listed e.on) → ¬ Done listed i →
      ∀ K : Act → World → Prop, (∀ v w', S w' → V i v w' → (∀ j u, V j u w → V j u w') → K (a.put o.dst v) w') → if Region.wanted o (yielded ops a.tmps) = true then o.wp P a w K Q else K (a.put o.dst undef) w)
    (hmid : ∀ f a w, Inv md ops V S a0 (headDone m ops.size) a w → wpAny P md ops Q (f + (ops.size - m)) (headDone m ops.size) a w) :
    ∀ fuel listed a w, Inv md ops V S a0 listed a w → (∀ i, m ≤ i → i < ops.size → ¬ Done listed i) → left ops.size listed ≤ fuel → wpAny P md ops Q fuel listed a w := by
  intro fuel
  induction fuel with
  | zero =>
    intro listed a w hI hno hf
    have hr : Region.ready md ops listed = [] := by
      rw [List.eq_nil_iff_forall_not_mem]
      intro i hi
      obtain ⟨h1, o, h2, _⟩ := mem_ready.1 hi
      have := left_set hI.lsize (Array.getElem?_eq_some_iff.1 h2).1 h1
      omega
    exact absurd (all_done' hI.lsize hord hr (m + 1) m (by omega) hmn) (hno m (by omega) hmn)
  | succ fuel ih =>
    intro listed a w hI hno hf
    by_cases hall : ∀ i, i < m → Done listed i
    · have hl := eq_headDone hI.lsize (fun i hi _ => hall i hi) hno
      subst hl
      have h1 := left_head m ops.size ops.size (Nat.le_refl _)
      unfold left at hf
      have h2 := hmid (fuel + 1 - (ops.size - m)) a w hI
      rwa [show fuel + 1 - (ops.size - m) + (ops.size - m) = fuel + 1 from by omega] at h2
    · refine ⟨fun hr => absurd (all_done' hI.lsize hord hr (m + 1) m (by omega) hmn) (hno m (by omega) hmn), fun i hi => ?_⟩
      obtain ⟨h1, o, h2, h3⟩ := mem_ready.1 hi
      have hsz : i < ops.size := (Array.getElem?_eq_some_iff.1 h2).1
      have him : i < m := by
        refine Nat.lt_of_not_le fun hle => ?_
        by_cases he : i = m
        · subst he
          exact hall fun j hj => waits_spec hI hwait h2 h3 (i - j) j hj (Nat.le_refl _)
        · simp only [behindB, List.all_eq_true] at hbeh
          have h4 := hbeh i (by rw [List.mem_drop_iff_getElem]; exact ⟨i - (m + 1), by simp; omega, by simp; omega⟩)
          rw [h2] at h4
          simp only [List.any_eq_true, Bool.and_eq_true, decide_eq_true_eq] at h4
          obtain ⟨e, hem, ⟨hb, hme⟩, hei⟩ := h4
          exact hno e.on hme (by omega) (h3 e (by simpa using hem) hb)
      have hnd : ¬ Done listed i := by
        unfold Done
        rw [← getD_tf (by rw [hI.lsize]; exact hsz), h1]
        simp
      refine wpOp_step h2 (fun K hK => hstep i o him h2 listed a w hI h3 hnd K (fun v w' hS hv hst => hK _ _ ?_))
      refine ih _ _ _ (hI.step hdst hlt h2 h3 hS hv hst) (fun j hj hjs hdj => ?_) ?_
      · rcases hdj.inv with rfl | hdj
        · omega
        · exact hno j hj hjs hdj
      · have := left_set hI.lsize hsz h1
        omega
theorem wp_region_inv2' {P : Program} {ops : Array Oper} {Q : Exit → Act → World → Prop} (m : Nat) (V : Nat → Value → World → Prop) (S : World → Prop) {id : Nat} {a : Act} {w : World}
    (hm : P.follows .mixedOrders = true) (ho : ordB' .any ops = true) (hd : dstB ops a.tmps.size = true) (hmn : m < ops.size) (hwait : waitsB .any ops m = true) (hbeh : behindB .any ops m = true) (hS : S w.drew)
    (hstep : AllOps (OpStep P .any ops Q V S a) 0 (ops.toList.take m))
    (hmid : ∀ f a' w', Inv .any ops V S a (headDone m ops.size) a' w' → wpAny P .any ops Q (f + (ops.size - m)) (headDone m ops.size) a' w') : (Code.region id ops true).wp P Q a w := by
  have hno : ∀ i, ¬ Done (Array.replicate ops.size false) i := fun i h => by
    unfold Done at h
    by_cases hi : i < ops.size <;> simp [Array.getD_eq_getD_getElem?, hi] at h
  refine wp_region_any hm (wpAny_inv2' (V := V) (S := S) (a0 := a) (m := m) (ordB_spec' ho) (fun i j oi oj d hi hj hid hjd => (dstB_spec hd i oi d hi hid).2 j oj hj hjd) (fun i o d hi hid => (dstB_spec hd i o d hi hid).1) hmn hwait hbeh
    (fun i o him hi listed a' w' hI hdn hnd K hK => ?_) hmid _ _ _ _ ?_ (fun i _ _ => hno i) ?_)
  · have := AllOps.get hstep (i := i) (o := o) (by rw [List.getElem?_take_of_lt him]; simpa using hi)
    rw [Nat.zero_add] at this
    exact this listed a' w' hI hdn hnd K hK
  · exact ⟨by simp, hS, rfl, rfl, fun i _ _ h => absurd h (hno i), fun i _ _ _ _ h => absurd h (hno i), fun _ _ => rfl⟩
  · unfold left
    exact Nat.le_trans (List.length_filter_le _ _) (by simp)
end Go.Proofs.Ytgdibeegheddmaa

namespace Go.Proofs.Ytgdibeegheddmaa
open Go Go.RowKit
set_option linter.unusedVariables false
set_option linter.unusedSimpArgs false
attribute [local go_sem ↓] Go.wp_at_zero Go.wp_at_succ
/-- The stream in block g reads: o is what is left; none: something was no encoding. -/
def RS (w : World) (g : Nat) (o : Option (List UInt8)) : Prop := ∃ (A : Option Addr) (c : Nat) (L : List UInt8) (bad : Bool), w.heap[g]? = some (.cells #[.slice A L.length c, .bool true, .bool bad] 81 (0, 0)) ∧ Rd w (· < g) A L.length 1 (bv L) ∧ L.length ≤ c ∧ L.length ≤ 100000000 ∧
  (match o with | some l => bad = false ∧ l = L | none => bad = true)
/-- The blocks that a reader leaves alone. -/
def Kp (w : World) (g tb : Nat) (k : Nat) : Prop := k < w.heap.size ∧ k ≠ g ∧ k ≠ tb
/-- New blocks. -/
def Nw (w w' : World) (k : Nat) : Prop := w.heap.size ≤ k ∧ k < w'.heap.size
theorem RS.lt {w : World} {g : Nat} {o : Option (List UInt8)} (h : RS w g o) : g < w.heap.size := by obtain ⟨A, c, L, bad, h1, _⟩ := h; exact blk_lt h1
theorem RS.fr {Q : Nat → Prop} {w w' : World} {g : Nat} {o : Option (List UInt8)} (h : RS w g o) (hf : Fr Q w w') (hq : ∀ k, k ≤ g → Q k) : RS w' g o := by
  obtain ⟨A, c, L, bad, h1, h2, h3⟩ := h
  exact ⟨A, c, L, bad, (hf.block g (hq g (Nat.le_refl _))).trans h1, h2.fr (hf.mono (fun k hk => hq k (Nat.le_of_lt hk))), h3⟩
theorem RS.alloc {w : World} {g : Nat} {o : Option (List UInt8)} (h : RS w g o) (b : Obj) : RS (w.alloc b) g o :=
  h.fr (Q := (· < w.heap.size)) ((Fr.refl _ w).alloc (fun _ h => h) b) (fun k hk => by have := h.lt; omega)
theorem RS.drew {w : World} {g : Nat} {o : Option (List UInt8)} (h : RS w g o) : RS w.drew g o := h
theorem Kp.trans {a b c : World} {g tb : Nat} (h : Fr (Kp a g tb) a b) (k : Fr (Kp b g tb) b c) : Fr (Kp a g tb) a c :=
  h.trans (k.mono (fun i hi => ⟨Nat.lt_of_lt_of_le hi.1 h.size, hi.2⟩))
theorem blk_get {w : World} {b o j : Nat} {pre cs post : List Value} {t : TypeId} {u : Value} (h : w.heap[b]? = some (.cells (pre ++ cs ++ post).toArray t (0, 0))) (ho : pre.length = o) (hj : cs[j]? = some u) :
    w.cell? ⟨b, o + j, none⟩ = some u := by
  subst ho
  have hl := (List.getElem?_eq_some_iff.1 hj).1
  rw [blk_cell h]
  simp only [List.getElem?_toArray, List.append_assoc]
  rw [List.getElem?_append_right (by omega), Nat.add_sub_cancel_left, List.getElem?_append_left hl, hj]
theorem blk_set {w : World} {b o j : Nat} {pre cs post : List Value} {t : TypeId} (h : w.heap[b]? = some (.cells (pre ++ cs ++ post).toArray t (0, 0))) (ho : pre.length = o) (hj : j < cs.length) (v : Value) :
    (w.setCell ⟨b, o + j, none⟩ v).heap[b]? = some (.cells (pre ++ cs.set j v ++ post).toArray t (0, 0)) := by
  subst ho
  rw [heap_setCell_same h (pre.length + j) v]
  congr 2
  simp only [List.setIfInBounds_toArray, List.append_assoc]
  rw [List.set_append_right _ _ (by omega), Nat.add_sub_cancel_left, List.set_append_left _ _ hj]
theorem blk_at {w : World} {b o : Nat} {pre cs post : List Value} {t : TypeId} {Q : Nat → Prop} (h : w.heap[b]? = some (.cells (pre ++ cs ++ post).toArray t (0, 0))) (ho : pre.length = o) (hq : Q b) : At w Q ⟨b, o, none⟩ cs :=
  ⟨hq, fun j u hj => by rw [Addr.add_lit]; exact ⟨blk_get h ho hj, blk_frozen h _⟩⟩
def stI : Nat → Option (List UInt8) → Option (List UInt8)
  | 0, o => o
  | n + 1, o => stI n (cInt.st o)
theorem stI_succ : ∀ (n : Nat) (o : Option (List UInt8)), stI (n + 1) o = cInt.st (stI n o)
  | 0, o => rfl
  | n + 1, o => stI_succ n (cInt.st o)
theorem stI_none : ∀ n, stI n none = none
  | 0 => rfl
  | n + 1 => stI_none n
def VlI : Option (List UInt8) → List Int → Prop
  | _, [] => True
  | o, n :: ns => cInt.vl o n ∧ VlI (cInt.st o) ns
theorem VlI.none : ∀ ns, VlI none ns
  | [] => trivial
  | n :: ns => ⟨Cod.vl_none _ _, VlI.none ns⟩
theorem VlI.snoc : ∀ (ns : List Int) (o : Option (List UInt8)) (n : Int), VlI o ns → cInt.vl (stI ns.length o) n → VlI o (ns ++ [n])
  | [], o, n, _, h => ⟨h, trivial⟩
  | m :: ns, o, n, h, h2 => ⟨h.1, VlI.snoc ns (cInt.st o) n h.2 h2⟩
theorem VlI.rest : ∀ (ns ms : List Int) (o : Option (List UInt8)), VlI o ns → stI ns.length o = Option.none → VlI o (ns ++ ms)
  | [], ms, o, _, h => by
    have h' : o = Option.none := h
    subst h'; exact VlI.none ms
  | m :: ns, ms, o, h, h2 => ⟨h.1, VlI.rest ns ms (cInt.st o) h.2 h2⟩
theorem nextU_take : ∀ (i m k : Nat) (l : List UInt8), i ≤ 9 → 10 ≤ i + k → nextU i m (l.take k) = nextU i m l
  | i, m, k, [], hi, hk => by simp
  | i, m, 0, c :: r, hi, hk => by omega
  | i, m, k + 1, c :: r, hi, hk => by
    rw [List.take_succ_cons]
    simp only [nextU]
    by_cases hb : (i = 9 ∧ 1 < c.toNat) ∨ (c.toNat = 0 ∧ 0 < i)
    · rw [if_pos hb, if_pos hb]
    · rw [if_neg hb, if_neg hb]
      by_cases h8 : c.toNat < 128
      · rw [if_pos h8, if_pos h8]
      · rw [if_neg h8, if_neg h8]
        exact nextU_take (i + 1) _ k r (by omega) (by omega)
theorem next_take (l : List UInt8) : next (l.take 10) = next l := by
  unfold next
  rw [nextU_take 0 0 10 l (by omega) (by omega)]
/-- One integer: the two cases. -/
theorem int_bad {l : List UInt8} (h : next l = none) : cInt.st (some l) = none ∧ ∀ n, cInt.vl (some l) n := by
  have e : decInt l = none := by simp [decInt, h]
  refine ⟨?_, fun n p hp => ?_⟩
  · show (Option.map (·.2) (decInt l)) = none
    rw [e]; rfl
  · have hp' : decInt l = some p := hp
    rw [e] at hp'; cases hp'
theorem int_good {l : List UInt8} {n : Int} {k : Nat} (h : next l = some (n, k)) : cInt.st (some l) = some (l.drop k) ∧ cInt.vl (some l) n := by
  have e : decInt l = some (n, l.drop k) := by simp [decInt, h]
  refine ⟨?_, fun p hp => ?_⟩
  · show (Option.map (·.2) (decInt l)) = some (l.drop k)
    rw [e]; rfl
  · have hp' : decInt l = some p := hp
    rw [e] at hp'
    injection hp' with hp'
    rw [← hp']
theorem set_int (a : List Int) (n : Int) (b : List Int) (m : Int) : (iv (a ++ n :: b)).set a.length (.int .i64 m) = iv (a ++ m :: b) := by
  simp [iv]
theorem Rd.headN {w : World} {Q : Nat → Prop} {A : Option Addr} {L : List UInt8} (h : Rd w Q A L.length 1 (bv L)) {k : Nat} (hk : k ≤ L.length) : Rd w Q A (L.take k).length 1 (bv (L.take k)) := by
  have h1 := h.head (k := k) hk
  rw [show (bv L).take (k * 1) = bv (L.take k) from by simp [bv, List.map_take]] at h1
  rwa [show (L.take k).length = k from by simp; omega]
theorem Rd.cutN {w : World} {Q : Nat → Prop} {A : Option Addr} {L : List UInt8} {c k : Nat} (h : Rd w Q A L.length 1 (bv L)) (hk : k ≤ L.length) (hc : L.length ≤ c) : Rd w Q (if c = k then A else A.map (·.add k)) (L.drop k).length 1 (bv (L.drop k)) := by
  have h1 := h.cut (k := k) (cap := c) hk hc
  rw [show (bv L).drop (k * 1) = bv (L.drop k) from by simp [bv], Nat.mul_one] at h1
  rwa [List.length_drop]
theorem Rd.headN' {w : World} {Q : Nat → Prop} {A : Option Addr} {L : List UInt8} (h : Rd w Q A L.length 1 (bv L)) (k : Nat) : Rd w Q A (L.take k).length 1 (bv (L.take k)) := by
  by_cases hk : k ≤ L.length
  · exact h.headN hk
  · rw [List.take_of_length_le (by omega)]; exact h
/-- What reading integers leaves. -/
def IPost (g tb : Nat) (pre post : List Value) (m : Nat) (t : TypeId) (st : Option (List UInt8)) (w : World) (e : Ending) (w' : World) : Prop :=
  e = .returned (.tuple #[]) ∧ ∃ ns' : List Int, ns'.length = m ∧ (∀ n ∈ ns', intBd n) ∧ VlI st ns' ∧ w'.heap[tb]? = some (.cells (pre ++ iv ns' ++ post).toArray t (0, 0)) ∧ RS w' g (stI m st) ∧ Fr (Kp w g tb) w w'
def TupR (W : World) (n : Int) (R : List UInt8) (e : Int) (v : Value) (w : World) : Prop := ∃ v3, v = .tuple #[.int .i64 n, v3, .int .i64 e] ∧ NewBytes W w v3 R
theorem TupR.keep (W : World) (n : Int) (R : List UInt8) (e : Int) : ∀ v w w', Below w.heap.size w w' → TupR W n R e v w → TupR W n R e v w' := fun v w w' hb ⟨v3, h1, h2⟩ => ⟨v3, h1, h2.keep hb⟩

set_option maxHeartbeats 4000000 in
set_option maxRecDepth 100000 in
theorem num_r (g tb o : Nat) (pre post : List Value) (ns : List Int) (t : TypeId) (st : Option (List UInt8)) (A0 : Option Addr) (c0 : Nat) (w : World)
    (hs : RS w g st) (hgt : g < tb) (ho : pre.length = o) (hT : w.heap[tb]? = some (.cells (pre ++ iv ns ++ post).toArray t (0, 0))) (hb : ∀ n ∈ ns, intBd n)
    (hA : Rd w (Kp w g tb) A0 ns.length 1 ((List.range ns.length).map fun i => .pointer (some ⟨tb, o + i, none⟩))) (hm : ns.length ≤ 1000) :
    Calls Try.prog 33 #[.pointer (some ⟨g, 0, none⟩), .slice A0 ns.length c0] w (IPost g tb pre post ns.length t st w) := by
  have hne : tb ≠ g := by omega
  have HPRE := Lib.hid ho
  clear ho
  go_enter Try.func33, Try.ntmps33
  go_wp2_with fail
  go_loopw [11] (fun i wr => ∃ (k : Nat) (a : List Int) (b : List Int), k ≤ ns.length ∧ i = .int .i64 (k : Int) ∧ a.length = k ∧ a.length + b.length = ns.length ∧ (∀ n ∈ a ++ b, intBd n) ∧ VlI st a ∧ wr.heap[tb]? = some (.cells (pre ++ iv (a ++ b) ++ post).toArray t (0, 0)) ∧ RS wr g (stI k st) ∧ Fr (Kp w g tb) w wr) (fun i _ => ns.length - (intOf i).toNat)
  case atStart => exact ⟨0, [], ns, Nat.zero_le _, rfl, rfl, by simp, by simpa using hb, trivial, by simpa using hT, hs, Fr.refl _ _⟩
  case round =>
    obtain ⟨k, a, b, hk, rfl, hak, hab, hbd, hvl, hTk, hsk, hfr⟩ := hrel
    have HVL := Lib.hid hvl
    have HBD := Lib.hid hbd
    have HAK := Lib.hid hak
    have HTK := Lib.hid hTk
    have HFR := Lib.hid hfr
    clear hvl hbd hTk
    by_cases hlt : k < ns.length
    · have hltI : (k : Int) < (ns.length : Int) := by omega
      obtain ⟨ad, u, rfl, hqa, hu, hcell⟩ := (hA.fr hfr).at_ hlt
      have hu' : u = .pointer (some ⟨tb, o + k, none⟩) := by simpa [hlt] using hu.symm
      subst hu'
      match b, HTK, HBD, hab with
      | [], _, _, hab => exact absurd hab (by simp; omega)
      | n0 :: b, HTK, HBD, hab =>
      have hcn : (iv (a ++ n0 :: b))[k]? = some (.int .i64 n0) := by rw [← HAK.out]; simp [iv]
      have htk := blk_get HTK.out HPRE.out hcn
      have htf := blk_frozen HTK.out (o + k)
      have hgT : tb < wr.heap.size := blk_lt HTK.out
      have hgW0 : g < wr.heap.size := hsk.lt
      obtain ⟨A, c, L, bad, hG, hrd, hLc, hLL, hst⟩ := hsk
      have b0 := blk_cell hG 0
      have b1 : wr.cell? ⟨g, 1, none⟩ = some (.bool true) := blk_cell hG 1
      have b2 : wr.cell? ⟨g, 2, none⟩ = some (.bool bad) := blk_cell hG 2
      have HRD := Lib.hid hrd
      have HGG := Lib.hid hG
      clear hu hA hrd hG hs hT hb hfr
      cases hstk : stI k st with
      | none =>
        rw [hstk] at hst
        have hbad : bad = true := hst
        subst hbad
        have HSTK := Lib.hid hstk
        clear hst hstk
        go_wp2_with fail
        go_end0
        refine ⟨rfl, a ++ n0 :: b, by simp at hab ⊢; omega, HBD.out, VlI.rest a _ st HVL.out (by rw [HAK.out]; exact HSTK.out), HTK.out, ?_, HFR.out⟩
        have e : stI ns.length st = none := by
          have : ∀ j, stI (k + j) st = none := fun j => by
            induction j with
            | zero => exact HSTK.out
            | succ j ih => rw [← Nat.add_assoc, stI_succ, ih]; rfl
          have := this (ns.length - k)
          rwa [show k + (ns.length - k) = ns.length from by omega] at this
        rw [e]
        exact ⟨A, c, L, true, HGG.out, HRD.out, hLc, hLL, rfl⟩
      | some l =>
        rw [hstk] at hst
        obtain ⟨hbad, hl⟩ : bad = false ∧ l = L := hst
        subst hbad hl
        have HSTK := Lib.hid hstk
        clear hstk
        obtain ⟨mm, hmm⟩ : ∃ mm, mm = min l.length 10 := ⟨_, rfl⟩
        have hmml : mm ≤ l.length := by omega
        have hmm10 : mm ≤ 10 := by omega
        have hmmc : mm ≤ c := by omega
        have HMN : Hid ((if (10 : Int) < (l.length : Int) then (10 : Int) else (l.length : Int)) = (mm : Int)) := Lib.hid (by split <;> omega)
        have HT10 : Hid ((l.take 10).length = mm) := Lib.hid (by rw [List.length_take]; omega)
        have HT10c : Hid ((l.take 10).length ≤ c) := Lib.hid (by rw [HT10.out]; omega)
        have HMM := Lib.hid hmm
        clear hmm
        obtain ⟨n1, R1, e1, hnx⟩ : ∃ n1 R1 e1, nextR (l.take 10) = (n1, R1, e1) := ⟨_, _, _, rfl⟩
        have HNX := Lib.hid hnx
        clear hnx
        have hl10 : (l.take 10).length ≤ 1000000000 := by rw [HT10.out]; omega
        go_wp2_with fail
        obtain ⟨W, hWW⟩ : ∃ W, W = wr := ⟨_, rfl⟩
        subst hWW
        have hgW : g < W.heap.size := hgW0
        have RD : Hid (Rd W (· < W.heap.size) A (l.take 10).length 1 (bv (l.take 10))) := Lib.hid ((HRD.out.mono (fun k hk => by omega)).headN' 10)
        refine wp_region_inv' (Ks W [.val (.pointer (some ⟨g, 0, none⟩)), .val (.pointer (some ⟨g, 0, none⟩)), .val (.pointer (some ⟨g, 0, none⟩)), .val (.slice A l.length c), .val (.pointer (some ⟨g, 0, none⟩)), .val (.pointer (some ⟨g, 0, none⟩)), .val (.pointer (some ⟨g, 0, none⟩)), .val (.slice A l.length c), .val (.int .i64 (l.length : Int)), .val (.int .i64 (mm : Int)), .val (.slice A mm c), .own (TupR W n1 R1 e1) (TupR.keep W n1 R1 e1), .own (TupR W n1 R1 e1) (TupR.keep W n1 R1 e1), .val (.int .i64 n1), .row (R1), .val (.int .i64 e1), .val (.int .i64 n1), .row (R1), .val (.int .i64 e1)])
          (fun w' => Below W.heap.size W w') (by kernel_rfl) (by kernel_rfl) (by kernel_rfl) (Below.refl _ _).drew ?_ ?_
        · refine ⟨?_, ?_, ?_, ?_, ?_, ?_, ?_, ?_, ?_, ?_, ?_, ?_, ?_, ?_, ?_, ?_, ?_, ?_, ?_, trivial⟩
          · intro listed A0 w2 hI hd hnd K hK
            have e0 := hI.slot hnd 0 _ rfl (by kernel_rfl)
            have hS := hI.world
            refine wanted_go rfl ?_
            clear hI hd hnd
            go_simp
            exact hK.out _ _ hS (Ks.of rfl rfl) (fun _ _ h => h)
          · intro listed A0 w2 hI hd hnd K hK
            have e0 := hI.depv hd 0 37 _ rfl rfl rfl (by kernel_rfl)
            have hS := hI.world
            refine wanted_go rfl ?_
            clear hI hd hnd
            go_simp
            exact hK.out _ _ hS (Ks.of rfl rfl) (fun _ _ h => h)
          · intro listed A0 w2 hI hd hnd K hK
            have e0 := hI.depv hd 1 38 _ rfl rfl rfl (by kernel_rfl)
            have hS := hI.world
            refine wanted_go rfl ?_
            clear hI hd hnd
            go_simp
            exact hK.out _ _ hS (Ks.of rfl rfl) (fun _ _ h => h)
          · intro listed A0 w2 hI hd hnd K hK
            have e0 := hI.depv hd 2 39 _ rfl rfl rfl (by kernel_rfl)
            have hS := hI.world
            have hcc : w2.cell? ⟨g, 0, none⟩ = _ := (hS.cell (p := ⟨g, 0, none⟩) hgW).trans b0
            refine wanted_go rfl ?_
            clear hI hd hnd
            go_simp
            exact hK.out _ _ hS (Ks.of rfl rfl) (fun _ _ h => h)
          · intro listed A0 w2 hI hd hnd K hK
            have e0 := hI.slot hnd 0 _ rfl (by kernel_rfl)
            have hS := hI.world
            refine wanted_go rfl ?_
            clear hI hd hnd
            go_simp
            exact hK.out _ _ hS (Ks.of rfl rfl) (fun _ _ h => h)
          · intro listed A0 w2 hI hd hnd K hK
            have e0 := hI.depv hd 4 41 _ rfl rfl rfl (by kernel_rfl)
            have hS := hI.world
            refine wanted_go rfl ?_
            clear hI hd hnd
            go_simp
            exact hK.out _ _ hS (Ks.of rfl rfl) (fun _ _ h => h)
          · intro listed A0 w2 hI hd hnd K hK
            have e0 := hI.depv hd 5 42 _ rfl rfl rfl (by kernel_rfl)
            have hS := hI.world
            refine wanted_go rfl ?_
            clear hI hd hnd
            go_simp
            exact hK.out _ _ hS (Ks.of rfl rfl) (fun _ _ h => h)
          · intro listed A0 w2 hI hd hnd K hK
            have e0 := hI.depv hd 6 43 _ rfl rfl rfl (by kernel_rfl)
            have hS := hI.world
            have hcc : w2.cell? ⟨g, 0, none⟩ = _ := (hS.cell (p := ⟨g, 0, none⟩) hgW).trans b0
            refine wanted_go rfl ?_
            clear hI hd hnd
            go_simp
            exact hK.out _ _ hS (Ks.of rfl rfl) (fun _ _ h => h)
          · intro listed A0 w2 hI hd hnd K hK
            have e0 := hI.depv hd 7 44 _ rfl rfl rfl (by kernel_rfl)
            have hS := hI.world
            refine wanted_go rfl ?_
            clear hI hd hnd
            go_simp
            exact hK.out _ _ hS (Ks.of rfl rfl) (fun _ _ h => h)
          · intro listed A0 w2 hI hd hnd K hK
            have e0 := hI.depv hd 8 45 _ rfl rfl rfl (by kernel_rfl)
            have hS := hI.world
            have hmn := HMN.out
            refine wanted_go rfl ?_
            clear hI hd hnd
            go_simp
            exact hK.out _ _ hS (Ks.of rfl rfl) (fun _ _ h => h)
          · intro listed A0 w2 hI hd hnd K hK
            have e0 := hI.depv hd 3 40 _ rfl rfl rfl (by kernel_rfl)
            have e1 := hI.depv hd 9 46 _ rfl rfl rfl (by kernel_rfl)
            have hS := hI.world
            refine wanted_go rfl ?_
            clear hI hd hnd
            go_simp
            exact hK.out _ _ hS (Ks.of rfl rfl) (fun _ _ h => h)
          · intro listed A0 w2 hI hd hnd K hK
            have e0 := hI.depv hd 10 47 _ rfl rfl rfl (by kernel_rfl)
            have hS := hI.world
            refine wanted_go rfl ?_
            clear hI hd hnd
            go_simp
            go_at_call 13
            refine (next_n A mm c (l.take 10) w2 HT10.out (RD.out.keep hS) HT10c.out (by unfold Lim; omega)).mono ?_
            rw [HNX.out]
            rintro e w3 ⟨v3, rfl, hn3⟩
            exact hK.out _ _ (hS.trans (hn3.2.2.mono hS.size)) (Ks.of rfl ⟨v3, rfl, hn3.1, fun k hk => Nat.le_trans hS.size (hn3.2.1 k hk), hS.trans (hn3.2.2.mono hS.size)⟩) (Ks.keep hn3.2.2)
          · intro listed A0 w2 hI hd hnd K hK
            obtain ⟨x0, e0, h0⟩ := hI.dep hd 11 48 rfl rfl rfl (by kernel_rfl)
            have hS := hI.world
            refine wanted_go rfl ?_
            clear hI hd hnd
            go_simp
            exact hK.out _ _ hS (Ks.of rfl h0) (fun _ _ h => h)
          · intro listed A0 w2 hI hd hnd K hK
            obtain ⟨x0, e0, h0⟩ := hI.dep hd 12 36 rfl rfl rfl (by kernel_rfl)
            have hS := hI.world
            obtain ⟨v3, rfl, h3⟩ := h0
            clear h3
            refine wanted_go rfl ?_
            clear hI hd hnd
            go_simp
            exact hK.out _ _ hS (Ks.of rfl rfl) (fun _ _ h => h)
          · intro listed A0 w2 hI hd hnd K hK
            obtain ⟨x0, e0, h0⟩ := hI.dep hd 12 36 rfl rfl rfl (by kernel_rfl)
            have hS := hI.world
            obtain ⟨v3, rfl, h3⟩ := h0
            have H3 := Lib.hid h3
            clear h3
            refine wanted_go rfl ?_
            clear hI hd hnd
            go_simp
            exact hK.out _ _ hS (Ks.of rfl H3.out) (fun _ _ h => h)
          · intro listed A0 w2 hI hd hnd K hK
            obtain ⟨x0, e0, h0⟩ := hI.dep hd 12 36 rfl rfl rfl (by kernel_rfl)
            have hS := hI.world
            obtain ⟨v3, rfl, h3⟩ := h0
            clear h3
            refine wanted_go rfl ?_
            clear hI hd hnd
            go_simp
            exact hK.out _ _ hS (Ks.of rfl rfl) (fun _ _ h => h)
          · intro listed A0 w2 hI hd hnd K hK
            have e0 := hI.depv hd 13 49 _ rfl rfl rfl (by kernel_rfl)
            have hS := hI.world
            refine wanted_go rfl ?_
            clear hI hd hnd
            go_simp
            exact hK.out _ _ hS (Ks.of rfl rfl) (fun _ _ h => h)
          · intro listed A0 w2 hI hd hnd K hK
            obtain ⟨x0, e0, h0⟩ := hI.dep hd 14 50 rfl rfl rfl (by kernel_rfl)
            have hS := hI.world
            refine wanted_go rfl ?_
            clear hI hd hnd
            go_simp
            exact hK.out _ _ hS (Ks.of rfl h0) (fun _ _ h => h)
          · intro listed A0 w2 hI hd hnd K hK
            have e0 := hI.depv hd 15 51 _ rfl rfl rfl (by kernel_rfl)
            have hS := hI.world
            refine wanted_go rfl ?_
            clear hI hd hnd
            go_simp
            exact hK.out _ _ hS (Ks.of rfl rfl) (fun _ _ h => h)
        · intro listed A0 w2 hI hall
          obtain ⟨x0, g0, h0⟩ := hI.got 0 _ 37 rfl rfl (hall 0 (by decide))
          obtain ⟨x1, g1, h1⟩ := hI.got 1 _ 38 rfl rfl (hall 1 (by decide))
          obtain ⟨x2, g2, h2⟩ := hI.got 2 _ 39 rfl rfl (hall 2 (by decide))
          obtain ⟨x3, g3, h3⟩ := hI.got 3 _ 40 rfl rfl (hall 3 (by decide))
          obtain ⟨x4, g4, h4⟩ := hI.got 4 _ 41 rfl rfl (hall 4 (by decide))
          obtain ⟨x5, g5, h5⟩ := hI.got 5 _ 42 rfl rfl (hall 5 (by decide))
          obtain ⟨x6, g6, h6⟩ := hI.got 6 _ 43 rfl rfl (hall 6 (by decide))
          obtain ⟨x7, g7, h7⟩ := hI.got 7 _ 44 rfl rfl (hall 7 (by decide))
          obtain ⟨x8, g8, h8⟩ := hI.got 8 _ 45 rfl rfl (hall 8 (by decide))
          obtain ⟨x9, g9, h9⟩ := hI.got 9 _ 46 rfl rfl (hall 9 (by decide))
          obtain ⟨x10, g10, h10⟩ := hI.got 10 _ 47 rfl rfl (hall 10 (by decide))
          obtain ⟨x11, g11, h11⟩ := hI.got 11 _ 48 rfl rfl (hall 11 (by decide))
          obtain ⟨x12, g12, h12⟩ := hI.got 12 _ 36 rfl rfl (hall 12 (by decide))
          obtain ⟨x13, g13, h13⟩ := hI.got 13 _ 49 rfl rfl (hall 13 (by decide))
          obtain ⟨x14, g14, h14⟩ := hI.got 14 _ 50 rfl rfl (hall 14 (by decide))
          obtain ⟨x15, g15, h15⟩ := hI.got 15 _ 51 rfl rfl (hall 15 (by decide))
          obtain ⟨x16, g16, h16⟩ := hI.got 16 _ 6 rfl rfl (hall 16 (by decide))
          obtain ⟨x17, g17, h17⟩ := hI.got 17 _ 7 rfl rfl (hall 17 (by decide))
          obtain ⟨x18, g18, h18⟩ := hI.got 18 _ 8 rfl rfl (hall 18 (by decide))
          have hS := hI.world
          have hA : A0 = _ := hI.tmps [(37, x0), (38, x1), (39, x2), (40, x3), (41, x4), (42, x5), (43, x6), (44, x7), (45, x8), (46, x9), (47, x10), (48, x11), (36, x12), (49, x13), (50, x14), (51, x15), (6, x16), (7, x17), (8, x18)] (by simp only [List.mem_cons, List.not_mem_nil, or_false, forall_eq_or_imp, forall_eq]; exact ⟨g0, g1, g2, g3, g4, g5, g6, g7, g8, g9, g10, g11, g12, g13, g14, g15, g16, g17, g18⟩) (by kernel_rfl)
          obtain rfl : x16 = .int .i64 n1 := h16 _ rfl
          have k17 : NewBytes W w2 x17 (R1) := h17 _ rfl
          obtain rfl : x18 = .int .i64 e1 := h18 _ rfl
          clear h0 g0 h1 g1 h2 g2 h3 g3 h4 g4 h5 g5 h6 g6 h7 g7 h8 g8 h9 g9 h10 g10 h11 g11 h12 g12 h13 g13 h14 g14 h15 g15 h16 g16 h17 g17 h18 g18 hI hall
          simp only [setAll, List.foldl, List.setIfInBounds_toArray, List.set_cons_zero, List.set_cons_succ] at hA
          rw [hA]
          clear hA
          have G2 := (hS.block g hgW).trans HGG.out
          have T2 := (hS.block tb hgT).trans HTK.out
          have c2 : w2.cell? ⟨g, 2, none⟩ = some (.bool false) := blk_cell G2 2
          have f2 := blk_frozen G2 2
          have c0' : w2.cell? ⟨g, 0, none⟩ = some (.slice A l.length c) := blk_cell G2 0
          have f0' := blk_frozen G2 0
          have t2 := blk_get T2 HPRE.out hcn
          have tf2 := blk_frozen T2 (o + k)
          have HG2 := Lib.hid G2
          have HT2 := Lib.hid T2
          have HF2 : Hid (Fr (Kp w g tb) w w2) := Lib.hid (HFR.out.trans ((Fr.ofBelow hS).mono (fun i hi => by have := HFR.out.size; have := hi.1; omega)))
          have HRD2 := Lib.hid (HRD.out.fr ((Fr.ofBelow hS).mono (fun i hi => by omega)))
          clear G2 T2 hcn htk htf b0 b1 b2
          obtain ⟨A7, c7, rfl, _, _⟩ := k17.1.form
          clear k17
          cases hnl : next l with
          | none =>
            have hnx := HNX.out
            rw [show nextR (l.take 10) = (0, [], 4) from by simp [nextR, next_take, hnl]] at hnx
            simp only [Prod.mk.injEq] at hnx
            obtain ⟨rfl, rfl, rfl⟩ := hnx
            have HNL := Lib.hid hnl
            clear hnl
            go_wp2_with fail
            go_end0
            have hfS : Fr (fun i => i ≠ g) w2 (w2.setCell ⟨g, 2, none⟩ (.bool true)) := (Fr.refl _ _).setCell (p := ⟨g, 2, none⟩) (fun h => h rfl) _
            have hbad := int_bad HNL.out
            refine ⟨rfl, a ++ n0 :: b, by simp at hab ⊢; omega, HBD.out, ?_, (hfS.block tb hne).trans HT2.out, ?_, HF2.out.trans (hfS.mono (fun i hi => hi.2.1))⟩
            · have := VlI.snoc a st n0 HVL.out (by rw [HAK.out, HSTK.out]; exact hbad.2 n0)
              have h3 := VlI.rest (a ++ [n0]) b st this (by rw [List.length_append, HAK.out]; show stI (k + 1) st = none; rw [stI_succ, HSTK.out]; exact hbad.1)
              rwa [List.append_assoc] at h3
            · have e : stI ns.length st = none := by
                have : ∀ j, stI (k + 1 + j) st = none := fun j => by
                  induction j with
                  | zero => rw [Nat.add_zero, stI_succ, HSTK.out]; exact hbad.1
                  | succ j ih => rw [← Nat.add_assoc, stI_succ, ih]; rfl
                have := this (ns.length - (k + 1))
                rwa [show k + 1 + (ns.length - (k + 1)) = ns.length from by omega] at this
              rw [e]
              exact ⟨A, c, l, true, heap_setCell_same HG2.out 2 _, HRD2.out.fr (hfS.mono (fun i hi => Nat.ne_of_lt hi)), hLc, hLL, rfl⟩
          | some p =>
            obtain ⟨nn, kk⟩ := p
            have hnx := HNX.out
            rw [show nextR (l.take 10) = (nn, (l.take 10).drop kk, 0) from by simp [nextR, next_take, hnl]] at hnx
            simp only [Prod.mk.injEq] at hnx
            obtain ⟨rfl, hR1, rfl⟩ := hnx
            obtain ⟨_, hnbd, hkk1, hkk10, hkkl⟩ := next_conv hnl
            have hkmm : kk ≤ mm := by have := HMM.out; omega
            have hRl : R1.length = mm - kk := by rw [← hR1, List.length_drop, HT10.out]
            have HSUB : Hid ((mm : Int) - (R1.length : Int) = (kk : Int)) := Lib.hid (by omega)
            have hkL0 : kk ≤ l.length := hkkl
            have hkc0 : kk ≤ c := by omega
            have HRL := Lib.hid hRl
            have HNL := Lib.hid hnl
            clear hnl hR1 hRl
            go_wp2_with fail
            have hfT : Fr (fun i => i ≠ tb) w2 (w2.setCell ⟨tb, o + k, none⟩ (.int .i64 nn)) := (Fr.refl _ _).setCell (p := ⟨tb, o + k, none⟩) (fun h => h rfl) _
            have HT3 : Hid ((w2.setCell ⟨tb, o + k, none⟩ (.int .i64 nn)).heap[tb]? = some (.cells (pre ++ iv ((a ++ [nn]) ++ b) ++ post).toArray t (0, 0))) := Lib.hid (by
              have h1 := blk_set HT2.out HPRE.out (j := k) (by simp [iv, ← HAK.out]) (.int .i64 nn)
              rw [show (iv (a ++ n0 :: b)).set k (.int .i64 nn) = iv (a ++ nn :: b) from by rw [← HAK.out]; exact set_int a n0 b nn] at h1
              rw [show (a ++ [nn]) ++ b = a ++ nn :: b from by simp]; exact h1)
            have HG3 := Lib.hid ((hfT.block g (Ne.symm hne)).trans HG2.out)
            have HF3 := Lib.hid (HF2.out.trans (hfT.mono (fun i hi => hi.2.2)))
            have HRD3 : Hid (Rd (w2.setCell ⟨tb, o + k, none⟩ (.int .i64 nn)) (· < g) A l.length 1 (bv l)) := Lib.hid (HRD2.out.fr (hfT.mono (fun i hi => by omega)))
            generalize hV : w2.setCell ⟨tb, o + k, none⟩ (.int .i64 nn) = V at *
            have B0 : Hid (V.cell? ⟨g, 0, none⟩ = some (.slice A l.length c)) := Lib.hid (blk_cell HG3.out 0)
            clear hV hfT c2 f2 c0' f0' t2 tf2
            refine wp_region_inv2' 17 (Ks V [.val (.pointer (some ⟨g, 0, none⟩)), .val (.pointer (some ⟨g, 0, none⟩)), .val (.pointer (some ⟨g, 0, none⟩)), .val (.pointer (some ⟨g, 0, none⟩)), .val (.slice A l.length c), .val (.pointer (some ⟨g, 0, none⟩)), .val (.pointer (some ⟨g, 0, none⟩)), .val (.pointer (some ⟨g, 0, none⟩)), .val (.slice A l.length c), .val (.int .i64 (l.length : Int)), .val (.int .i64 (mm : Int)), .val (.slice A7 R1.length c7), .val (.int .i64 (R1.length : Int)), .val (.int .i64 (kk : Int)), .val (.slice (if c = kk then A else A.map (·.add kk)) (l.length - kk) (c - kk)), .val (.pointer (some ⟨g, 0, none⟩)), .val (.pointer (some ⟨g, 0, none⟩))])
              (fun w' => w' = V.drew) (by kernel_rfl) (by kernel_rfl) (by kernel_rfl) (by decide) (by kernel_rfl) (by kernel_rfl) rfl ?_ ?_
            · refine ⟨?_, ?_, ?_, ?_, ?_, ?_, ?_, ?_, ?_, ?_, ?_, ?_, ?_, ?_, ?_, ?_, ?_, trivial⟩
              · intro listed A0 w2 hI hd hnd K hK
                have e0 := hI.slot hnd 0 _ rfl (by kernel_rfl)
                have hS := Lib.hid (show w2 = V.drew from hI.world)
                refine wanted_go rfl ?_
                clear hI hd hnd
                go_simp
                exact hK.out _ _ hS.out (Ks.of rfl rfl) (fun _ _ h => h)
              · intro listed A0 w2 hI hd hnd K hK
                have e0 := hI.slot hnd 0 _ rfl (by kernel_rfl)
                have hS := Lib.hid (show w2 = V.drew from hI.world)
                refine wanted_go rfl ?_
                clear hI hd hnd
                go_simp
                exact hK.out _ _ hS.out (Ks.of rfl rfl) (fun _ _ h => h)
              · intro listed A0 w2 hI hd hnd K hK
                have e0 := hI.depv hd 1 61 _ rfl rfl rfl (by kernel_rfl)
                have hS := Lib.hid (show w2 = V.drew from hI.world)
                refine wanted_go rfl ?_
                clear hI hd hnd
                go_simp
                exact hK.out _ _ hS.out (Ks.of rfl rfl) (fun _ _ h => h)
              · intro listed A0 w2 hI hd hnd K hK
                have e0 := hI.depv hd 2 62 _ rfl rfl rfl (by kernel_rfl)
                have hS := Lib.hid (show w2 = V.drew from hI.world)
                refine wanted_go rfl ?_
                clear hI hd hnd
                go_simp
                exact hK.out _ _ hS.out (Ks.of rfl rfl) (fun _ _ h => h)
              · intro listed A0 w2 hI hd hnd K hK
                have e0 := hI.depv hd 3 63 _ rfl rfl rfl (by kernel_rfl)
                have hS := Lib.hid (show w2 = V.drew from hI.world)
                have hcc : w2.cell? ⟨g, 0, none⟩ = some (.slice A l.length c) := by rw [hS.out]; exact B0.out
                refine wanted_go rfl ?_
                clear hI hd hnd
                go_simp
                exact hK.out _ _ hS.out (Ks.of rfl rfl) (fun _ _ h => h)
              · intro listed A0 w2 hI hd hnd K hK
                have e0 := hI.slot hnd 0 _ rfl (by kernel_rfl)
                have hS := Lib.hid (show w2 = V.drew from hI.world)
                refine wanted_go rfl ?_
                clear hI hd hnd
                go_simp
                exact hK.out _ _ hS.out (Ks.of rfl rfl) (fun _ _ h => h)
              · intro listed A0 w2 hI hd hnd K hK
                have e0 := hI.depv hd 5 65 _ rfl rfl rfl (by kernel_rfl)
                have hS := Lib.hid (show w2 = V.drew from hI.world)
                refine wanted_go rfl ?_
                clear hI hd hnd
                go_simp
                exact hK.out _ _ hS.out (Ks.of rfl rfl) (fun _ _ h => h)
              · intro listed A0 w2 hI hd hnd K hK
                have e0 := hI.depv hd 6 66 _ rfl rfl rfl (by kernel_rfl)
                have hS := Lib.hid (show w2 = V.drew from hI.world)
                refine wanted_go rfl ?_
                clear hI hd hnd
                go_simp
                exact hK.out _ _ hS.out (Ks.of rfl rfl) (fun _ _ h => h)
              · intro listed A0 w2 hI hd hnd K hK
                have e0 := hI.depv hd 7 67 _ rfl rfl rfl (by kernel_rfl)
                have hS := Lib.hid (show w2 = V.drew from hI.world)
                have hcc : w2.cell? ⟨g, 0, none⟩ = some (.slice A l.length c) := by rw [hS.out]; exact B0.out
                refine wanted_go rfl ?_
                clear hI hd hnd
                go_simp
                exact hK.out _ _ hS.out (Ks.of rfl rfl) (fun _ _ h => h)
              · intro listed A0 w2 hI hd hnd K hK
                have e0 := hI.depv hd 8 68 _ rfl rfl rfl (by kernel_rfl)
                have hS := Lib.hid (show w2 = V.drew from hI.world)
                refine wanted_go rfl ?_
                clear hI hd hnd
                go_simp
                exact hK.out _ _ hS.out (Ks.of rfl rfl) (fun _ _ h => h)
              · intro listed A0 w2 hI hd hnd K hK
                have e0 := hI.depv hd 9 69 _ rfl rfl rfl (by kernel_rfl)
                have hS := Lib.hid (show w2 = V.drew from hI.world)
                have hmn := HMN.out
                refine wanted_go rfl ?_
                clear hI hd hnd
                go_simp
                exact hK.out _ _ hS.out (Ks.of rfl rfl) (fun _ _ h => h)
              · intro listed A0 w2 hI hd hnd K hK
                have e0 := hI.slot hnd 7 _ rfl (by kernel_rfl)
                have hS := Lib.hid (show w2 = V.drew from hI.world)
                refine wanted_go rfl ?_
                clear hI hd hnd
                go_simp
                exact hK.out _ _ hS.out (Ks.of rfl rfl) (fun _ _ h => h)
              · intro listed A0 w2 hI hd hnd K hK
                have e0 := hI.depv hd 11 71 _ rfl rfl rfl (by kernel_rfl)
                have hS := Lib.hid (show w2 = V.drew from hI.world)
                refine wanted_go rfl ?_
                clear hI hd hnd
                go_simp
                exact hK.out _ _ hS.out (Ks.of rfl rfl) (fun _ _ h => h)
              · intro listed A0 w2 hI hd hnd K hK
                have e0 := hI.depv hd 10 70 _ rfl rfl rfl (by kernel_rfl)
                have e1 := hI.depv hd 12 72 _ rfl rfl rfl (by kernel_rfl)
                have hS := Lib.hid (show w2 = V.drew from hI.world)
                have hsub := HSUB.out
                have hwr : IntKind.i64.wrap (kk : Int) = (kk : Int) := IntWalk.i64_in _ (by omega)
                refine wanted_go rfl ?_
                clear hI hd hnd
                go_simp
                exact hK.out _ _ hS.out (Ks.of rfl rfl) (fun _ _ h => h)
              · intro listed A0 w2 hI hd hnd K hK
                have e0 := hI.depv hd 4 64 _ rfl rfl rfl (by kernel_rfl)
                have e1 := hI.depv hd 13 73 _ rfl rfl rfl (by kernel_rfl)
                have hS := Lib.hid (show w2 = V.drew from hI.world)
                have hkL := hkL0
                have hkc := hkc0
                refine wanted_go rfl ?_
                clear hI hd hnd
                go_simp
                exact hK.out _ _ hS.out (Ks.of rfl rfl) (fun _ _ h => h)
              · intro listed A0 w2 hI hd hnd K hK
                have e0 := hI.depv hd 0 60 _ rfl rfl rfl (by kernel_rfl)
                have hS := Lib.hid (show w2 = V.drew from hI.world)
                refine wanted_go rfl ?_
                clear hI hd hnd
                go_simp
                exact hK.out _ _ hS.out (Ks.of rfl rfl) (fun _ _ h => h)
              · intro listed A0 w2 hI hd hnd K hK
                have e0 := hI.depv hd 15 75 _ rfl rfl rfl (by kernel_rfl)
                have hS := Lib.hid (show w2 = V.drew from hI.world)
                refine wanted_go rfl ?_
                clear hI hd hnd
                go_simp
                exact hK.out _ _ hS.out (Ks.of rfl rfl) (fun _ _ h => h)
            · intro f A0 w2 hI
              obtain ⟨x0, g0, h0⟩ := hI.got 0 _ 60 rfl rfl rfl
              obtain ⟨x1, g1, h1⟩ := hI.got 1 _ 61 rfl rfl rfl
              obtain ⟨x2, g2, h2⟩ := hI.got 2 _ 62 rfl rfl rfl
              obtain ⟨x3, g3, h3⟩ := hI.got 3 _ 63 rfl rfl rfl
              obtain ⟨x4, g4, h4⟩ := hI.got 4 _ 64 rfl rfl rfl
              obtain ⟨x5, g5, h5⟩ := hI.got 5 _ 65 rfl rfl rfl
              obtain ⟨x6, g6, h6⟩ := hI.got 6 _ 66 rfl rfl rfl
              obtain ⟨x7, g7, h7⟩ := hI.got 7 _ 67 rfl rfl rfl
              obtain ⟨x8, g8, h8⟩ := hI.got 8 _ 68 rfl rfl rfl
              obtain ⟨x9, g9, h9⟩ := hI.got 9 _ 69 rfl rfl rfl
              obtain ⟨x10, g10, h10⟩ := hI.got 10 _ 70 rfl rfl rfl
              obtain ⟨x11, g11, h11⟩ := hI.got 11 _ 71 rfl rfl rfl
              obtain ⟨x12, g12, h12⟩ := hI.got 12 _ 72 rfl rfl rfl
              obtain ⟨x13, g13, h13⟩ := hI.got 13 _ 73 rfl rfl rfl
              obtain ⟨x14, g14, h14⟩ := hI.got 14 _ 74 rfl rfl rfl
              obtain ⟨x15, g15, h15⟩ := hI.got 15 _ 75 rfl rfl rfl
              obtain ⟨x16, g16, h16⟩ := hI.got 16 _ 76 rfl rfl rfl
              have hS := Lib.hid (show w2 = V.drew from hI.world)
              have hA : A0 = _ := hI.tmps [(60, x0), (61, x1), (62, x2), (63, x3), (64, x4), (65, x5), (66, x6), (67, x7), (68, x8), (69, x9), (70, x10), (71, x11), (72, x12), (73, x13), (74, x14), (75, x15), (76, x16)] (by simp only [List.mem_cons, List.not_mem_nil, or_false, forall_eq_or_imp, forall_eq]; exact ⟨g0, g1, g2, g3, g4, g5, g6, g7, g8, g9, g10, g11, g12, g13, g14, g15, g16⟩) (by kernel_rfl)
              obtain rfl : x14 = .slice (if c = kk then A else A.map (·.add kk)) (l.length - kk) (c - kk) := h14 _ rfl
              obtain rfl : x16 = .pointer (some ⟨g, 0, none⟩) := h16 _ rfl
              clear h0 g0 h1 g1 h2 g2 h3 g3 h4 g4 h5 g5 h6 g6 h7 g7 h8 g8 h9 g9 h10 g10 h11 g11 h12 g12 h13 g13 h14 g14 h15 g15 h16 g16 hI
              simp only [setAll, List.foldl, List.setIfInBounds_toArray, List.set_cons_zero, List.set_cons_succ] at hA
              rw [hA]
              clear hA
              show wpAny _ _ _ _ (f + 1) _ _ _
              refine wpAny_all (rs := [17]) (by kernel_rfl) (by simp) ?_
              intro i hi
              obtain rfl : i = 17 := by simpa using hi
              refine wpOp_step (o := _) rfl (fun K hK => ?_)
              refine wanted_go rfl ?_
              have hc9 : w2.cell? ⟨g, 0, none⟩ = some (.slice A l.length c) := by rw [hS.out]; exact B0.out
              have hf9 : w2.frozen? ⟨g, 0, none⟩ = false := by rw [hS.out]; exact blk_frozen HG3.out 0
              go_simp
              refine hK _ _ ?_
              refine wpAny_done (by kernel_rfl) ?_ _
              have hfW : Fr (Kp w g tb) w w2 := by rw [hS.out]; exact HF3.out.drew
              have hTW : w2.heap[tb]? = some (.cells (pre ++ iv ((a ++ [nn]) ++ b) ++ post).toArray t (0, 0)) := by rw [hS.out]; exact HT3.out
              have hGW : w2.heap[g]? = some (.cells #[.slice A l.length c, .bool true, .bool false] 81 (0, 0)) := by rw [hS.out]; exact HG3.out
              have hRW : Rd w2 (· < g) A l.length 1 (bv l) := by rw [hS.out]; exact HRD3.out
              have HfW := Lib.hid hfW
              have HTW := Lib.hid hTW
              have HGW := Lib.hid hGW
              have HRW := Lib.hid hRW
              clear hfW hTW hGW hRW hK
              go_wp2_with fail
              go_roundw
              case rel =>
                have hgood := int_good HNL.out
                have hfS : Fr (fun i => i ≠ g) w2 (w2.setCell ⟨g, 0, none⟩ (.slice (if c = kk then A else A.map (·.add kk)) (l.length - kk) (c - kk))) := (Fr.refl _ _).setCell (p := ⟨g, 0, none⟩) (fun h => h rfl) _
                refine ⟨k + 1, a ++ [nn], b, by omega, by go_num, by rw [List.length_append, HAK.out]; rfl, by simp at hab ⊢; omega, ?_, VlI.snoc a st nn HVL.out (by rw [HAK.out, HSTK.out]; exact hgood.2), (hfS.block tb hne).trans HTW.out, ?_, HfW.out.trans (hfS.mono (fun i hi => hi.2.1))⟩
                · intro n hn
                  rcases List.mem_append.1 hn with h | h
                  · rcases List.mem_append.1 h with h | h
                    · exact HBD.out n (List.mem_append_left _ h)
                    · obtain rfl := List.mem_singleton.1 h
                      exact hnbd
                  · exact HBD.out n (List.mem_append_right _ (List.mem_cons_of_mem _ h))
                · rw [stI_succ, HSTK.out, hgood.1]
                  refine ⟨if c = kk then A else A.map (·.add kk), c - kk, l.drop kk, false, ?_, ?_, by rw [List.length_drop]; omega, by rw [List.length_drop]; omega, rfl, rfl⟩
                  · rw [List.length_drop]; exact heap_setCell_same HGW.out 0 _
                  · exact (HRW.out.cutN hkL0 hLc).fr (hfS.mono (fun i hi => Nat.ne_of_lt hi))
              case measure => simp [intOf]; omega
    · have hkk : k = ns.length := by omega
      subst hkk
      have hltI : ¬ ((ns.length : Nat) : Int) < (ns.length : Int) := by omega
      have hb0 : b = [] := List.eq_nil_of_length_eq_zero (by omega)
      subst hb0
      have HSK := Lib.hid hsk
      clear hsk hfr
      go_wp2_with fail
      go_end0
      have e : a ++ [] = a := List.append_nil a
      exact ⟨rfl, a, HAK.out, by have := HBD.out; rwa [e] at this, HVL.out, by have := HTK.out; rwa [e] at this, HSK.out, HFR.out⟩
/-- num, handed a new row of pointers to neighbouring cells. -/
theorem num_rv (g tb o : Nat) (pre post : List Value) (ns : List Int) (t : TypeId) (st : Option (List UInt8)) {w : World} {H n : Nat} {row : Array Value}
    (hH : w.heap.size = H) (hn : ns.length = n) (hrow : ((List.range n).map fun i => Value.pointer (some ⟨tb, o + i, none⟩)).toArray = row)
    (hs : RS w g st) (hgt : g < tb) (ho : pre.length = o) (hT : w.heap[tb]? = some (.cells (pre ++ iv ns ++ post).toArray t (0, 0))) (hb : ∀ n ∈ ns, intBd n) (hm : ns.length ≤ 1000) :
    Calls Try.prog 33 #[.pointer (some ⟨g, 0, none⟩), .slice (some ⟨H, 0, none⟩) n n] (w.alloc (.cells row 83)) (IPost g tb pre post n t st w) := by
  subst hH hn hrow
  have hlt := blk_lt hT
  have hfA : Fr (· < w.heap.size) w (w.alloc (.cells ((List.range ns.length).map fun i => Value.pointer (some ⟨tb, o + i, none⟩)).toArray 83)) := (Fr.refl _ w).alloc (fun _ h => h) _
  refine (num_r g tb o pre post ns t st (some ⟨w.heap.size, 0, none⟩) ns.length (w.alloc (.cells ((List.range ns.length).map fun i => Value.pointer (some ⟨tb, o + i, none⟩)).toArray 83)) (hs.alloc _) hgt ho ((hfA.block tb hlt).trans hT) hb ?_ hm).mono ?_
  · refine ⟨by simp, fun _ => ⟨_, rfl, ⟨by simp, by show w.heap.size ≠ g; omega, by show w.heap.size ≠ tb; omega⟩, fun j x hx => ?_⟩⟩
    rw [Addr.add_lit, Nat.zero_add, blk_cell (heap_alloc_new w _) j, blk_frozen (heap_alloc_new w _) j]
    exact ⟨by simpa using hx, rfl⟩
  · rintro e w' ⟨rfl, ns', h1, h2, h3, h4, h5, h6⟩
    exact ⟨rfl, ns', h1, h2, h3, h4, h5, (hfA.mono (fun k hk => hk.1)).trans (h6.mono (fun k hk => ⟨by simp; have := hk.1; omega, hk.2⟩))⟩
theorem num_rd (g tb o : Nat) (pre post : List Value) (ns : List Int) (t : TypeId) (st : Option (List UInt8)) {w : World} {H n : Nat} {row : Array Value}
    (hH : w.heap.size = H) (hn : ns.length = n) (hrow : ((List.range n).map fun i => Value.pointer (some ⟨tb, o + i, none⟩)).toArray = row)
    (hs : RS w g st) (hgt : g < tb) (ho : pre.length = o) (hT : w.heap[tb]? = some (.cells (pre ++ iv ns ++ post).toArray t (0, 0))) (hb : ∀ n ∈ ns, intBd n) (hm : ns.length ≤ 1000) :
    Calls Try.prog 33 #[.pointer (some ⟨g, 0, none⟩), .slice (some ⟨H, 0, none⟩) n n] (w.alloc (.cells row 83)).drew (IPost g tb pre post n t st w) :=
  (num_rv (w := w.drew) g tb o pre post ns t st hH hn hrow hs hgt ho hT hb hm).mono fun _ _ ⟨he, ns', h1, h2, h3, h4, h5, h6⟩ => ⟨he, ns', h1, h2, h3, h4, h5, Fr.ofDrew h6⟩
end Go.Proofs.Ytgdibeegheddmaa
