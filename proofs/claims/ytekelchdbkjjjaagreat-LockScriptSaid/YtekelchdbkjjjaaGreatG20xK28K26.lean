/- The reference's locks: Add. Written by gen_k28.py. -/
import Derived.Test.YtekelchdbkjjjaaGreatG20xB0B2
import Derived.Test.YtekelchdbkjjjaaGreatG20xB3B8
import Derived.Test.YtekelchdbkjjjaaGreatG20xB9B13
import Derived.Test.YtekelchdbkjjjaaGreatG20xB14
import Derived.Test.YtekelchdbkjjjaaGreatG20xB16
import Derived.Test.YtekelchdbkjjjaaGreatG20xB17B24
import Derived.Test.YtekelchdbkjjjaaGreatG20xB29B32
import Derived.Test.YtekelchdbkjjjaaGreatG20xB33C3
import Derived.Test.YtekelchdbkjjjaaGreatG20xC4I2
import Derived.Test.YtekelchdbkjjjaaGreatG20xI3I16
import Derived.Test.YtekelchdbkjjjaaGreatG20xK1K12
import Derived.Test.YtekelchdbkjjjaaGreatG20xT1K13
import Derived.Test.YtekelchdbkjjjaaGreatG20xK14K24
import Derived.Test.YtekelchdbkjjjaaGreatG20xK25
import Derived.Test.YtekelchdbkjjjaaGreatProg
set_option linter.unusedVariables false
set_option linter.unusedSimpArgs false
set_option maxRecDepth 4000
attribute [local go_sem ↓] Go.wp_at_zero Go.wp_at_succ
namespace Go.Proofs.YtekelchdbkjjjaaGreat
open Go Go.RowKit
theorem Inv.stepD {md : Region.Mode} {ops : Array Oper} {V : Nat → Value → World → Prop} {S : World → Prop} {a0 : Act} {listed : Array Bool} {a : Act} {w w' : World} {i : Nat} {o : Oper} {v : Value} (hI : Inv md ops V S a0 listed a w)
 (hdst : ∀ (i j : Nat) (oi oj : Oper) (d : Nat), ops[i]? = some oi → ops[j]? = some oj → oi.dst = some d → oj.dst = some d → i = j)
 (hlt : ∀ (i : Nat) (o : Oper) (d : Nat), ops[i]? = some o → o.dst = some d → d < a0.tmps.size)
 (h2 : ops[i]? = some o) (h3 : ∀ e ∈ o.after, Region.binds md e = true → Done listed e.on) (hS : S w') (hv : V i v w') (hst : ∀ j u, j ≠ i → Done listed j → V j u w → V j u w') :
 Inv md ops V S a0 (listed.setIfInBounds i true) (a.put o.dst v) w' := by
 have hsz : i < ops.size := (Array.getElem?_eq_some_iff.1 h2).1
 refine ⟨by simpa using hI.lsize, hS, ?_, ?_, ?_, ?_, ?_⟩
 · cases o.dst <;> exact hI.defers
 · cases ho : o.dst <;> simp [Act.put, hI.size]
 · intro j oj hj hd e he hb
   rcases hd.inv with rfl | hd
   · rw [h2] at hj
     cases hj
     exact Done.set (h3 e he hb)
   · exact Done.set (hI.closed j oj hj hd e he hb)
 · intro j oj d hj hjd hd
   by_cases hji : j = i
   · subst hji
     rw [h2] at hj
     cases hj
     refine ⟨v, ?_, hv⟩
     have := hlt j o d h2 hjd
     simp [Act.put, hjd, hI.size, this]
   · rcases hd.inv with h | hd
     · exact absurd h hji
     · obtain ⟨u, hu, hV⟩ := hI.got j oj d hj hjd hd
       refine ⟨u, ?_, hst j u hji hd hV⟩
       cases ho : o.dst with
       | none => simpa [Act.put, ho] using hu
       | some d' =>
        have hne : d' ≠ d := fun e => hji (hdst j i oj o d hj h2 hjd (by rw [ho, e]))
        simpa [Act.put, Array.getElem?_setIfInBounds, hne] using hu
 · intro j hj
   have h4 := hI.old j (fun k ok hk hkd hd => hj k ok hk hkd hd.set)
   cases ho : o.dst with
   | none => simpa [Act.put] using h4
   | some d' =>
    have hne : d' ≠ j := fun e => hj i o h2 (by rw [ho, e]) (Done.new (by rw [hI.lsize]; exact hsz))
    simpa [Act.put, Array.getElem?_setIfInBounds, hne] using h4
def OpStepD (P : Program) (md : Region.Mode) (ops : Array Oper) (Q : Exit → Act → World → Prop) (V : Nat → Value → World → Prop) (S : World → Prop) (a0 : Act) (i : Nat) (o : Oper) : Prop :=
 ∀ listed a w, Inv md ops V S a0 listed a w → (∀ e ∈ o.after, Region.binds md e = true → Done listed e.on) → ¬ Done listed i →
  ∀ K : Act → World → Prop, Shut (∀ v w', S w' → V i v w' → (∀ j u, j ≠ i → Done listed j → V j u w → V j u w') → K (a.put o.dst v) w') → if Region.wanted o (yielded ops a.tmps) = true then o.wp P a w K Q else K (a.put o.dst undef) w
theorem wpAny_invD {P : Program} {md : Region.Mode} {ops : Array Oper} {Q : Exit → Act → World → Prop} {V : Nat → Value → World → Prop} {S : World → Prop} {a0 : Act} {m : Nat}
 (hord : ∀ (i : Nat) (o : Oper), ops[i]? = some o → ∀ e ∈ o.after, Region.binds md e = true → e.on < i)
 (hdst : ∀ (i j : Nat) (oi oj : Oper) (d : Nat), ops[i]? = some oi → ops[j]? = some oj → oi.dst = some d → oj.dst = some d → i = j)
 (hlt : ∀ (i : Nat) (o : Oper) (d : Nat), ops[i]? = some o → o.dst = some d → d < a0.tmps.size)
 (hmn : m < ops.size) (hwait : waitsB md ops m = true) (hbeh : behindB md ops m = true)
 (hstep : ∀ i o, i < m → ops[i]? = some o → ∀ listed a w, Inv md ops V S a0 listed a w → (∀ e ∈ o.after, Region.binds md e = true → Done listed e.on) → ¬ Done listed i →
  ∀ K : Act → World → Prop, (∀ v w', S w' → V i v w' → (∀ j u, j ≠ i → Done listed j → V j u w → V j u w') → K (a.put o.dst v) w') → if Region.wanted o (yielded ops a.tmps) = true then o.wp P a w K Q else K (a.put o.dst undef) w)
 (hmid : ∀ f a w, Inv md ops V S a0 (headDone m ops.size) a w → wpAny P md ops Q (f + (ops.size - m)) (headDone m ops.size) a w) :
 ∀ fuel listed a w, Inv md ops V S a0 listed a w → (∀ i, m ≤ i → i < ops.size → ¬ Done listed i) → left ops.size listed ≤ fuel → wpAny P md ops Q fuel listed a w := by
 intro fuel
 induction fuel with
 | zero =>
  intro listed a w hI hno hf
  have hr : Region.ready md ops listed = [] := by
   rw [List.eq_nil_iff_forall_not_mem]
   intro i hi
   obtain ⟨h1, o, h2, _⟩ := mem_ready.1 hi
   have := left_set hI.lsize (Array.getElem?_eq_some_iff.1 h2).1 h1
   omega
  exact absurd (all_done' hI.lsize hord hr (m + 1) m (by omega) hmn) (hno m (by omega) hmn)
 | succ fuel ih =>
  intro listed a w hI hno hf
  by_cases hall : ∀ i, i < m → Done listed i
  · have hl := eq_headDone hI.lsize (fun i hi _ => hall i hi) hno
    subst hl
    have h1 := left_head m ops.size ops.size (Nat.le_refl _)
    unfold left at hf
    have h2 := hmid (fuel + 1 - (ops.size - m)) a w hI
    rwa [show fuel + 1 - (ops.size - m) + (ops.size - m) = fuel + 1 from by omega] at h2
  · refine ⟨fun hr => absurd (all_done' hI.lsize hord hr (m + 1) m (by omega) hmn) (hno m (by omega) hmn), fun i hi => ?_⟩
    obtain ⟨h1, o, h2, h3⟩ := mem_ready.1 hi
    have hsz : i < ops.size := (Array.getElem?_eq_some_iff.1 h2).1
    have him : i < m := by
     refine Nat.lt_of_not_le fun hle => ?_
     by_cases he : i = m
     · subst he
       exact hall fun j hj => waits_spec hI hwait h2 h3 (i - j) j hj (Nat.le_refl _)
     · simp only [behindB, List.all_eq_true] at hbeh
       have h4 := hbeh i (by rw [List.mem_drop_iff_getElem]; exact ⟨i - (m + 1), by simp; omega, by simp; omega⟩)
       rw [h2] at h4
       simp only [List.any_eq_true, Bool.and_eq_true, decide_eq_true_eq] at h4
       obtain ⟨e, hem, ⟨hb, hme⟩, hei⟩ := h4
       exact hno e.on hme (by omega) (h3 e (by simpa using hem) hb)
    have hnd : ¬ Done listed i := by
     unfold Done
     rw [← getD_tf (by rw [hI.lsize]; exact hsz), h1]
     simp
    refine wpOp_step h2 (fun K hK => hstep i o him h2 listed a w hI h3 hnd K (fun v w' hS hv hst => hK _ _ ?_))
    refine ih _ _ _ (hI.stepD hdst hlt h2 h3 hS hv hst) (fun j hj hjs hdj => ?_) ?_
    · rcases hdj.inv with rfl | hdj
      · omega
      · exact hno j hj hjs hdj
    · have := left_set hI.lsize hsz h1
      omega
theorem wp_region_invD2 {P : Program} {ops : Array Oper} {Q : Exit → Act → World → Prop} (m : Nat) (V : Nat → Value → World → Prop) (S : World → Prop) {id : Nat} {a : Act} {w : World}
 (hm : P.follows .mixedOrders = true) (ho : ordB' .any ops = true) (hd : dstB ops a.tmps.size = true) (hmn : m < ops.size) (hwait : waitsB .any ops m = true) (hbeh : behindB .any ops m = true) (hS : S w.drew)
 (hstep : AllOps (OpStepD P .any ops Q V S a) 0 (ops.toList.take m))
 (hmid : ∀ f a' w', Inv .any ops V S a (headDone m ops.size) a' w' → wpAny P .any ops Q (f + (ops.size - m)) (headDone m ops.size) a' w') : (Code.region id ops true).wp P Q a w := by
 have hno : ∀ i, ¬ Done (Array.replicate ops.size false) i := fun i h => by
  unfold Done at h
  by_cases hi : i < ops.size <;> simp [Array.getD_eq_getD_getElem?, hi] at h
 refine wp_region_any hm (wpAny_invD (V := V) (S := S) (a0 := a) (m := m) (ordB_spec' ho) (fun i j oi oj d hi hj hid hjd => (dstB_spec hd i oi d hi hid).2 j oj hj hjd) (fun i o d hi hid => (dstB_spec hd i o d hi hid).1) hmn hwait hbeh
  (fun i o him hi listed a' w' hI hdn hnd K hK => ?_) hmid _ _ _ _ ?_ (fun i _ _ => hno i) ?_)
 · have := AllOps.get hstep (i := i) (o := o) (by rw [List.getElem?_take_of_lt him]; simpa using hi)
   rw [Nat.zero_add] at this
   exact this listed a' w' hI hdn hnd K hK
 · exact ⟨by simp, hS, rfl, rfl, fun i _ _ h => absurd h (hno i), fun i _ _ _ _ h => absurd h (hno i), fun _ _ => rfl⟩
 · unfold left
   exact Nat.le_trans (List.length_filter_le _ _) (by simp)
theorem Inv.waitsD {md : Region.Mode} {ops : Array Oper} {V : Nat → Value → World → Prop} {S : World → Prop} {a0 : Act} {listed : Array Bool} {a : Act} {w : World} (hI : Inv md ops V S a0 listed a w) {i : Nat} (hnd : ¬ Done listed i) (j : Nat) {oj : Oper} (hj : ops[j]? = some oj) (h : (oj.after.toList.any fun e => Region.binds md e && e.on == i) = true) : listed.getD j false = false := by
 cases hd : listed.getD j false with
 | false => rfl
 | true =>
  simp only [List.any_eq_true, Bool.and_eq_true, beq_iff_eq] at h
  obtain ⟨e, he, hb, rfl⟩ := h
  exact absurd (hI.closed j oj hj hd e (by simpa using he) hb) hnd
theorem Ks.keepD {W w w' : World} {ks : List Kind} {i : Nat} {p : Nat → Prop} (hb : Below w.heap.size w w') (j : Nat) (v : Value) (_ : j ≠ i) (_ : p j) (h : Ks W ks j v w) : Ks W ks j v w' := Ks.keep hb j v h
set_option maxHeartbeats 8000000 in
theorem radd_c (g : XGroup) (ks : List KK) (ll : List Value) (c : KK) (fl : KK → Bool) (m : Nat) (w : World) (h : RLk w (· < w.heap.size) ll g ks) (hf : ListK fl ks) (hm : ks.length ≤ m) (hm2 : m ≤ 100) : Calls Tryz.prog 15 #[.agg ll.toArray, .int .i64 c.1.1, .int .i64 c.1.2] w (RLPost ll ks (lockE g.calendar.periods (g.entities.length : Int) fl c) (lockF g.calendar.periods (g.entities.length : Int) fl c) (m + 1) w) := by
 obtain ⟨ia, hia, hzia, hsia, hbia⟩ := info_parts info_lock2A
 obtain ⟨Ae, ce, A, cc, v21, v20, _, _, v3, hl⟩ := h.view
 have HIX := Lib.hid (fun (w2 : World) (hb : Below w.heap.size w w2) => index_c ks A cc c w2 (ks_keep (fun q hq => hq) hl hb))
 have HV21 := Lib.hid v21
 have HV20 := Lib.hid v20
 have HV3 := Lib.hid v3
 have HRL := Lib.hid h
 have HLS := Lib.hid hl
 have HLEN := Lib.hid h.len
 have HLI := Lib.hid (show (Tryz.prog.info? 53).map (·.size) = some ll.toArray.size by rw [info_locks]; simp [h.len])
 have HLO := Lib.hid h.one
 have HF := Lib.hid hf
 have HM := Lib.hid (show ks.length ≤ m + 1 ∧ m ≤ 100 ∧ ks.length ≤ m from ⟨by omega, hm2, hm⟩)
 obtain ⟨R, hR⟩ : ∃ R, idxK ks c = R := ⟨_, rfl⟩
 have HR := Lib.hid hR
 obtain ⟨n, hn⟩ : ∃ R, ks.length = R := ⟨_, rfl⟩
 have HN := Lib.hid hn
 rw [hR] at HIX
 rw [hn] at HIX HV21
 obtain ⟨ne, hne⟩ : ∃ x, g.entities.length = x := ⟨_, rfl⟩
 have HNE := Lib.hid hne
 obtain ⟨pp, hpp⟩ : ∃ x, g.calendar.periods = x := ⟨_, rfl⟩
 have HPP := Lib.hid hpp
 rw [hne] at HV20
 rw [hpp] at HV3
 obtain ⟨ca, hca⟩ : ∃ x, c.1.1 = x := ⟨_, rfl⟩
 obtain ⟨cb, hcb⟩ : ∃ x, c.1.2 = x := ⟨_, rfl⟩
 have HCE := Lib.hid (And.intro hca hcb)
 rw [hca, hcb] at HIX ⊢
 clear h hl hR hn v21 v20 v3 hf hm hm2 hne hpp hca hcb
 go_enter Tryz.func15, Tryz.ntmps15
 go_upto_region 1 with fail
 have H := heap_alloc_new w (.cells ll.toArray 53)
 have HB := below1 w (.cells ll.toArray 53)
 have HS := blk_lt H
 generalize hW : w.alloc (Obj.cells ll.toArray 53) = W at *
 have H2 := heap_alloc_new W (.cells #[.string ⟨#[]⟩, .int .i64 0, .int .i64 0, .int .i64 0, .slice none 0 0, .int .i64 0, .int .i64 0, .int .i64 0, .int .i64 0, .int .i64 0, .int .i64 0, .int .i64 0, .int .i64 0, .int .i64 0, .int .i64 0, .int .i64 0, .int .i64 0, .int .i64 0, .int .i64 0, .int .i64 0, .slice none 0 0, .slice none 0 0] 53)
 have HB2 := below1 W (.cells #[.string ⟨#[]⟩, .int .i64 0, .int .i64 0, .int .i64 0, .slice none 0 0, .int .i64 0, .int .i64 0, .int .i64 0, .int .i64 0, .int .i64 0, .int .i64 0, .int .i64 0, .int .i64 0, .int .i64 0, .int .i64 0, .int .i64 0, .int .i64 0, .int .i64 0, .int .i64 0, .int .i64 0, .slice none 0 0, .slice none 0 0] 53)
 have HS2 := blk_lt H2
 replace H := alloc_keep H (Obj.cells #[.string ⟨#[]⟩, .int .i64 0, .int .i64 0, .int .i64 0, .slice none 0 0, .int .i64 0, .int .i64 0, .int .i64 0, .int .i64 0, .int .i64 0, .int .i64 0, .int .i64 0, .int .i64 0, .int .i64 0, .int .i64 0, .int .i64 0, .int .i64 0, .int .i64 0, .int .i64 0, .int .i64 0, .slice none 0 0, .slice none 0 0] 53)
 generalize hW2 : W.alloc (Obj.cells #[.string ⟨#[]⟩, .int .i64 0, .int .i64 0, .int .i64 0, .slice none 0 0, .int .i64 0, .int .i64 0, .int .i64 0, .int .i64 0, .int .i64 0, .int .i64 0, .int .i64 0, .int .i64 0, .int .i64 0, .int .i64 0, .int .i64 0, .int .i64 0, .int .i64 0, .int .i64 0, .int .i64 0, .slice none 0 0, .slice none 0 0] 53) = W2 at *
 clear hW2
 have eW : W.heap.size = w.heap.size + 1 := by rw [← hW]; simp
 rw [eW] at H2
 clear hW
 have hb2 := HB.trans (HB2.mono HB.size)
 have hs2 := HB2.size
 have LT1 := blk_lt H2
 have LT0 : w.heap.size < W2.heap.size := by omega
 have HH := Lib.hid H
 have HZ := Lib.hid H2
 have EW := Lib.hid eW
 clear H H2 eW
 have hb02 := hb2
 have LT02 := LT0
 have LT12 := LT1
 have HH2 := HH
 have HZ2 := HZ
 go_upto_region 2 with (show wpList _ _ _ (Oper.mk none (Op.store _ (Operand.tmp 8) _) _ _ _ _ :: _) _ _; refine wpList_store_fresh3 rfl 99 (.tmp 8) (.tmp 12) rfl rfl W2 #[.int .i64 0, .int .i64 0] 99 #[.int .i64 ca, .int .i64 cb] rfl rfl rfl info_lock2 rfl (by simp [Value.oneCell']) ?_; intro w5 H5 hb5 HS5)
 have HX5 := Lib.hid H5
 have LTX5 := HS5
 clear H5
 have hb05 := hb02.trans (hb5.mono hb02.size)
 have hs5 := hb5.size
 have LT05 := Nat.lt_of_lt_of_le LT02 hs5
 have LT15 := Nat.lt_of_lt_of_le LT12 hs5
 have HH5 := Lib.hid ((hb5.block _ LT02).trans HH2.out)
 have HZ5 := Lib.hid ((hb5.block _ LT12).trans HZ2.out)
 have c20 : w5.cell? ⟨w.heap.size, 20, none⟩ = some (.slice Ae ne ce) := (blk_cell HH5.out 20).trans (by simpa using HV20.out)
 have c03 : w5.cell? ⟨w.heap.size, 3, none⟩ = some (.int .i64 pp) := (blk_cell HH5.out 3).trans (by simpa using HV3.out)
 have c21 : w5.cell? ⟨w.heap.size, 21, none⟩ = some (.slice A n cc) := (blk_cell HH5.out 21).trans (by simpa using HV21.out)
 by_cases h1 : ca < 0
 case pos =>
  have h1d : decide (ca < 0) = true := decide_eq_true h1
  have H1 := Lib.hid h1
  clear h1
  go_wp2_with (first | (show wpList _ _ _ (Oper.mk (some 24) _ _ _ _ _ :: _) _ _; refine wpList_load_row_g rfl 53 (.tmp 3) rfl (w.heap.size) rfl _ _ _ _ HH5.out Tryz.underlying53 rfl HLI.out ?_) | (show wpList _ _ _ (Oper.mk none (Op.store _ (Operand.tmp 6) _) _ _ _ _ :: _) _ _; refine wpList_store_row rfl 53 (.tmp 6) (.tmp 24) rfl (w.heap.size + 1) ll.toArray rfl rfl 53 #[.string ⟨#[]⟩, .int .i64 0, .int .i64 0, .int .i64 0, .slice none 0 0, .int .i64 0, .int .i64 0, .int .i64 0, .int .i64 0, .int .i64 0, .int .i64 0, .int .i64 0, .int .i64 0, .int .i64 0, .int .i64 0, .int .i64 0, .int .i64 0, .int .i64 0, .int .i64 0, .int .i64 0, .slice none 0 0, .slice none 0 0] HZ5.out HLI.out (by simp [HLEN.out]) HLO.out ?_))
  refine bodyPost_ret (v := .tuple #[.agg ll.toArray, .int .i64 1]) (results_cell_tmp rfl _ _ (w.heap.size + 1) 53 _ (0, 0) _ rfl (heap_setRow HZ5.out _) Tryz.underlying53 rfl HLI.out _ rfl) rfl ?_
  have hb9 := below_setRow (g := w.heap.size + 1) hb05 (by omega) ll.toArray
  have hE : lockE g.calendar.periods (g.entities.length : Int) fl c = 1 := by unfold lockE; rw [HCE.out.1, if_pos (.inl H1.out)]
  refine ⟨ll, ks, by rw [hE], .inl ⟨by rw [hE]; decide, rfl, rfl⟩, ?_, HM.out.1, hb9⟩
  unfold lockF
  rw [hE, if_neg (by decide)]
  exact HF.out
 case neg =>
 have h1d : decide (ca < 0) = false := decide_eq_false h1
 by_cases h2 : (ne : Int) ≤ ca
 case pos =>
  have h2d : decide (ca ≥ (ne : Int)) = true := decide_eq_true h2
  have H2 := Lib.hid h2
  clear h1 h2
  go_wp2_with (first | (show wpList _ _ _ (Oper.mk (some 24) _ _ _ _ _ :: _) _ _; refine wpList_load_row_g rfl 53 (.tmp 3) rfl (w.heap.size) rfl _ _ _ _ HH5.out Tryz.underlying53 rfl HLI.out ?_) | (show wpList _ _ _ (Oper.mk none (Op.store _ (Operand.tmp 6) _) _ _ _ _ :: _) _ _; refine wpList_store_row rfl 53 (.tmp 6) (.tmp 24) rfl (w.heap.size + 1) ll.toArray rfl rfl 53 #[.string ⟨#[]⟩, .int .i64 0, .int .i64 0, .int .i64 0, .slice none 0 0, .int .i64 0, .int .i64 0, .int .i64 0, .int .i64 0, .int .i64 0, .int .i64 0, .int .i64 0, .int .i64 0, .int .i64 0, .int .i64 0, .int .i64 0, .int .i64 0, .int .i64 0, .int .i64 0, .int .i64 0, .slice none 0 0, .slice none 0 0] HZ5.out HLI.out (by simp [HLEN.out]) HLO.out ?_))
  refine bodyPost_ret (v := .tuple #[.agg ll.toArray, .int .i64 1]) (results_cell_tmp rfl _ _ (w.heap.size + 1) 53 _ (0, 0) _ rfl (heap_setRow HZ5.out _) Tryz.underlying53 rfl HLI.out _ rfl) rfl ?_
  have hb9 := below_setRow (g := w.heap.size + 1) hb05 (by omega) ll.toArray
  have hE : lockE g.calendar.periods (g.entities.length : Int) fl c = 1 := by unfold lockE; rw [HCE.out.1, HNE.out, if_pos (.inr H2.out)]
  refine ⟨ll, ks, by rw [hE], .inl ⟨by rw [hE]; decide, rfl, rfl⟩, ?_, HM.out.1, hb9⟩
  unfold lockF
  rw [hE, if_neg (by decide)]
  exact HF.out
 case neg =>
 have h2d : decide (ca ≥ (ne : Int)) = false := decide_eq_false h2
 have HIN := Lib.hid (show ¬ (c.1.1 < 0 ∨ (g.entities.length : Int) ≤ c.1.1) by rw [HCE.out.1, HNE.out]; omega)
 by_cases h3 : cb < 0
 case pos =>
  have h3d : decide (cb < 0) = true := decide_eq_true h3
  have H3 := Lib.hid h3
  clear h1 h2 h3
  go_wp2_with (first | (show wpList _ _ _ (Oper.mk (some 36) _ _ _ _ _ :: _) _ _; refine wpList_load_row_g rfl 53 (.tmp 3) rfl (w.heap.size) rfl _ _ _ _ HH5.out Tryz.underlying53 rfl HLI.out ?_) | (show wpList _ _ _ (Oper.mk none (Op.store _ (Operand.tmp 6) _) _ _ _ _ :: _) _ _; refine wpList_store_row rfl 53 (.tmp 6) (.tmp 36) rfl (w.heap.size + 1) ll.toArray rfl rfl 53 #[.string ⟨#[]⟩, .int .i64 0, .int .i64 0, .int .i64 0, .slice none 0 0, .int .i64 0, .int .i64 0, .int .i64 0, .int .i64 0, .int .i64 0, .int .i64 0, .int .i64 0, .int .i64 0, .int .i64 0, .int .i64 0, .int .i64 0, .int .i64 0, .int .i64 0, .int .i64 0, .int .i64 0, .slice none 0 0, .slice none 0 0] HZ5.out HLI.out (by simp [HLEN.out]) HLO.out ?_))
  refine bodyPost_ret (v := .tuple #[.agg ll.toArray, .int .i64 2]) (results_cell_tmp rfl _ _ (w.heap.size + 1) 53 _ (0, 0) _ rfl (heap_setRow HZ5.out _) Tryz.underlying53 rfl HLI.out _ rfl) rfl ?_
  have hb9 := below_setRow (g := w.heap.size + 1) hb05 (by omega) ll.toArray
  have hE : lockE g.calendar.periods (g.entities.length : Int) fl c = 2 := by unfold lockE; rw [if_neg HIN.out, HCE.out.2, if_pos (.inl H3.out)]
  refine ⟨ll, ks, by rw [hE], .inl ⟨by rw [hE]; decide, rfl, rfl⟩, ?_, HM.out.1, hb9⟩
  unfold lockF
  rw [hE, if_neg (by decide)]
  exact HF.out
 case neg =>
 have h3d : decide (cb < 0) = false := decide_eq_false h3
 by_cases h4 : pp ≤ cb
 case pos =>
  have h4d : decide (cb ≥ pp) = true := decide_eq_true h4
  have H4 := Lib.hid h4
  clear h1 h2 h3 h4
  go_wp2_with (first | (show wpList _ _ _ (Oper.mk (some 36) _ _ _ _ _ :: _) _ _; refine wpList_load_row_g rfl 53 (.tmp 3) rfl (w.heap.size) rfl _ _ _ _ HH5.out Tryz.underlying53 rfl HLI.out ?_) | (show wpList _ _ _ (Oper.mk none (Op.store _ (Operand.tmp 6) _) _ _ _ _ :: _) _ _; refine wpList_store_row rfl 53 (.tmp 6) (.tmp 36) rfl (w.heap.size + 1) ll.toArray rfl rfl 53 #[.string ⟨#[]⟩, .int .i64 0, .int .i64 0, .int .i64 0, .slice none 0 0, .int .i64 0, .int .i64 0, .int .i64 0, .int .i64 0, .int .i64 0, .int .i64 0, .int .i64 0, .int .i64 0, .int .i64 0, .int .i64 0, .int .i64 0, .int .i64 0, .int .i64 0, .int .i64 0, .int .i64 0, .slice none 0 0, .slice none 0 0] HZ5.out HLI.out (by simp [HLEN.out]) HLO.out ?_))
  refine bodyPost_ret (v := .tuple #[.agg ll.toArray, .int .i64 2]) (results_cell_tmp rfl _ _ (w.heap.size + 1) 53 _ (0, 0) _ rfl (heap_setRow HZ5.out _) Tryz.underlying53 rfl HLI.out _ rfl) rfl ?_
  have hb9 := below_setRow (g := w.heap.size + 1) hb05 (by omega) ll.toArray
  have hE : lockE g.calendar.periods (g.entities.length : Int) fl c = 2 := by unfold lockE; rw [if_neg HIN.out, HCE.out.2, HPP.out, if_pos (.inr H4.out)]
  refine ⟨ll, ks, by rw [hE], .inl ⟨by rw [hE]; decide, rfl, rfl⟩, ?_, HM.out.1, hb9⟩
  unfold lockF
  rw [hE, if_neg (by decide)]
  exact HF.out
 case neg =>
 have h4d : decide (cb ≥ pp) = false := decide_eq_false h4
 have HIN2 := Lib.hid (show ¬ (c.1.2 < 0 ∨ g.calendar.periods ≤ c.1.2) by rw [HCE.out.2, HPP.out]; omega)
 clear h1 h2 h3 h4
 go_wp2_with (show wpList _ _ _ (Oper.mk (some 40) _ _ _ _ _ :: _) _ _; refine wpList_load_row_g rfl 99 (.tmp 8) rfl W2.heap.size rfl _ _ _ _ HX5.out Tryz.underlying99 rfl info_lock2 ?_)
 refine (HIX.out w5 hb05).mono ?_
 rintro e w6 ⟨rfl, hb6⟩
 have hb06 := hb05.trans (hb6.mono hb05.size)
 have hs6 := hb6.size
 have LT06 := Nat.lt_of_lt_of_le LT05 hs6
 have LT16 := Nat.lt_of_lt_of_le LT15 hs6
 have HH6 := Lib.hid ((hb6.block _ LT05).trans HH5.out)
 have HZ6 := Lib.hid ((hb6.block _ LT15).trans HZ5.out)
 have HX6 := Lib.hid ((hb6.block _ LTX5).trans HX5.out)
 have LTX6 := Nat.lt_of_lt_of_le LTX5 hs6
 clear c20 c03 c21 h1d h2d h3d h4d
 rcases idxK_cases ks c with ⟨hc0, hc2⟩ | ⟨k, hc0, hk, hc2⟩
 case inr =>
  obtain rfl : R = (k : Int) := HR.out.symm.trans hc0
  have HDU := Lib.hid (show fl c = true from (HF.out.2 c).1 (by rw [← hc2]; exact List.getElem_mem hk))
  have hk0 : (0 : Int) ≤ (k : Int) := by omega
  clear hc0 hk hc2
  go_wp2_with (first | (show wpList _ _ _ (Oper.mk (some 43) _ _ _ _ _ :: _) _ _; refine wpList_load_row_g rfl 53 (.tmp 3) rfl (w.heap.size) rfl _ _ _ _ HH6.out Tryz.underlying53 rfl HLI.out ?_) | (show wpList _ _ _ (Oper.mk none (Op.store _ (Operand.tmp 6) _) _ _ _ _ :: _) _ _; refine wpList_store_row rfl 53 (.tmp 6) (.tmp 43) rfl (w.heap.size + 1) ll.toArray rfl rfl 53 #[.string ⟨#[]⟩, .int .i64 0, .int .i64 0, .int .i64 0, .slice none 0 0, .int .i64 0, .int .i64 0, .int .i64 0, .int .i64 0, .int .i64 0, .int .i64 0, .int .i64 0, .int .i64 0, .int .i64 0, .int .i64 0, .int .i64 0, .int .i64 0, .int .i64 0, .int .i64 0, .int .i64 0, .slice none 0 0, .slice none 0 0] HZ6.out HLI.out (by simp [HLEN.out]) HLO.out ?_))
  refine bodyPost_ret (v := .tuple #[.agg ll.toArray, .int .i64 9]) (results_cell_tmp rfl _ _ (w.heap.size + 1) 53 _ (0, 0) _ rfl (heap_setRow HZ6.out _) Tryz.underlying53 rfl HLI.out _ rfl) rfl ?_
  have hb9 := below_setRow (g := w.heap.size + 1) hb06 (by omega) ll.toArray
  have hE : lockE g.calendar.periods (g.entities.length : Int) fl c = 9 := by unfold lockE; rw [if_neg HIN.out, if_neg HIN2.out, if_pos HDU.out]
  refine ⟨ll, ks, by rw [hE], .inl ⟨by rw [hE]; decide, rfl, rfl⟩, ?_, HM.out.1, hb9⟩
  unfold lockF
  rw [hE, if_neg (by decide)]
  exact HF.out
 case inl =>
 obtain rfl : R = -1 := HR.out.symm.trans hc0
 have HNC := Lib.hid hc2
 clear hc0 hc2
 go_wp2_with fail
 go_loopw [9] (fun i wr => ∃ k : Nat, k ≤ n ∧ i = .int .i64 (k : Int) ∧ Below w6.heap.size w6 wr ∧ ∀ j (hj : j < ks.length), j < k → ltK ks[j] c) (fun i _ => n - (intOf i).toNat)
 case atStart => exact ⟨0, by omega, rfl, Below.refl _ _, fun j hj h => by omega⟩
 case round =>
  obtain ⟨k, hk, rfl, hb7, hall⟩ := hrel
  have HALL := Lib.hid hall
  have HKN := Lib.hid hk
  have hs7 := hb7.size
  generalize wr = w7 at *
  have hb07 := hb06.trans (hb7.mono hb06.size)
  have LT07 := Nat.lt_of_lt_of_le LT06 hs7
  have LT17 := Nat.lt_of_lt_of_le LT16 hs7
  have HH7 := Lib.hid ((hb7.block _ LT06).trans HH6.out)
  have HZ7 := Lib.hid ((hb7.block _ LT16).trans HZ6.out)
  have HX7 := Lib.hid ((hb7.block _ LTX6).trans HX6.out)
  have LTX7 := Nat.lt_of_lt_of_le LTX6 hs7
  have HB7 := Lib.hid hb7
  have c21 : w7.cell? ⟨w.heap.size, 21, none⟩ = some (.slice A n cc) := (blk_cell HH7.out 21).trans (by simpa using HV21.out)
  obtain ⟨G, hG⟩ : ∃ G : Bool, decide (k < n ∧ ∀ h : k < ks.length, ltK ks[k] c) = G := ⟨_, rfl⟩
  have HG := Lib.hid hG
  clear hall hG hb7
  go_upto_region 9 with fail
  go_cut [78] from 44 to 78 (fun v wx => v = .bool G ∧ Below w7.heap.size w7 wx)
  case first =>
   by_cases hlt : k < n
   case pos =>
    have hltI : (k : Int) < (n : Int) := by omega
    have hltI2 : 0 < n := by omega
    have hkl : k < ks.length := by rw [HN.out]; exact hlt
    obtain ⟨b, o, cs1, hAe1, hbw1, hes1, hat1⟩ := ListC.get HLS.out k hkl
    subst hAe1
    have hcs1 : cs1 = kL ks[k] := hes1
    subst hcs1
    have HGX := Lib.hid (show G = decide (ltK ks[k] c) by rw [← HG.out]; exact decide_eq_decide.2 ⟨fun h => h.2 hkl, fun h => ⟨hlt, fun _ => h⟩⟩)
    obtain ⟨x, hx⟩ : ∃ x, ks[k] = x := ⟨_, rfl⟩
    rw [hx] at hat1 HGX
    obtain ⟨⟨xa, xb⟩, hxx⟩ := x
    have HGY := Lib.hid (show G = decide (xa < ca ∨ xa = ca ∧ xb < cb) by rw [HGX.out, ← HCE.out.1, ← HCE.out.2]; rfl)
    have hat := hat1.fr (Fr.ofBelow hb07)
    have x0 : w7.cell? ⟨b, o + k * 2, none⟩ = some (.int .i64 xa) := by have h := hat.c (j := 0) rfl; simpa using h
    have x1 : w7.cell? ⟨b, o + k * 2 + 1, none⟩ = some (.int .i64 xb) := hat.c (j := 1) rfl
    clear hes1 hat1 hx hbw1 hkl hat HGX hxx
    by_cases q1 : xa < ca
    case pos =>
     have q1d : decide (xa < ca) = true := decide_eq_true q1
     have hf := Lib.hid (show G = true by rw [HGY.out]; simp [q1])
     clear q1
     go_wp2_with fail
     go_meet
     exact ⟨by rw [hf.out], Below.refl _ _⟩
    case neg =>
    have q1d : decide (xa < ca) = false := decide_eq_false q1
    by_cases q2 : xa = ca
    case pos =>
     have q2d : (xa == ca) = true := by simp [q2]
     by_cases q3 : xb < cb
     case pos =>
      have q3d : decide (xb < cb) = true := decide_eq_true q3
      have hf := Lib.hid (show G = true by rw [HGY.out]; simp [q2, q3])
      clear q1 q2 q3
      go_wp2_with fail
      go_meet
      exact ⟨by rw [hf.out], Below.refl _ _⟩
     case neg =>
      have q3d : decide (xb < cb) = false := decide_eq_false q3
      have hf := Lib.hid (show G = false by rw [HGY.out]; simp [q2, q3])
      clear q1 q2 q3
      go_wp2_with fail
      go_meet
      exact ⟨by rw [hf.out], Below.refl _ _⟩
    case neg =>
     have q2d : (xa == ca) = false := by simp [q2]
     have hf := Lib.hid (show G = false by rw [HGY.out]; simp [q1, q2])
     clear q1 q2
     go_wp2_with fail
     go_meet
     exact ⟨by rw [hf.out], Below.refl _ _⟩
   case neg =>
    have hltI : ¬ (k : Int) < (n : Int) := by omega
    have hf := Lib.hid (show G = false by rw [← HG.out]; simp [hlt])
    go_wp2_with fail
    go_meet
    exact ⟨by rw [hf.out], Below.refl _ _⟩
  case rest =>
  obtain ⟨hv, hbx⟩ := hcut
  subst hv
  generalize wc = w8 at *
  have hb8 := hbx
  have hb08 := hb07.trans (hb8.mono hb07.size)
  have hs8 := hb8.size
  have LT08 := Nat.lt_of_lt_of_le LT07 hs8
  have LT18 := Nat.lt_of_lt_of_le LT17 hs8
  have HH8 := Lib.hid ((hb8.block _ LT07).trans HH7.out)
  have HZ8 := Lib.hid ((hb8.block _ LT17).trans HZ7.out)
  have HX8 := Lib.hid ((hb8.block _ LTX7).trans HX7.out)
  have LTX8 := Nat.lt_of_lt_of_le LTX7 hs8
  have HB8 := Lib.hid (HB7.out.trans (hb8.mono HB7.out.size))
  clear hbx hb8 c21
  cases G with
  | true =>
   have hg : k < n ∧ ∀ h : k < ks.length, ltK ks[k] c := by simpa using HG.out
   have HGG := Lib.hid hg
   have hlt := hg.1
   have hn100 : n ≤ 100 := by have := HM.out; have := HN.out; omega
   clear hg
   go_wp2_with fail
   go_roundw
   case rel => exact ⟨k + 1, by omega, by go_num, HB8.out, fun j hj h => by
    rcases Nat.lt_or_ge j k with h3 | h3
    · exact HALL.out j hj h3
    · obtain rfl : j = k := by omega
      exact HGG.out.2 hj⟩
   case measure => first | exact meas_v hlt | (simp only [intOf]; omega)
  | false =>
  have HCN := Lib.hid (show cntK ks c = k from by
   refine takeWhile_eq (fun j hj hjk => by simpa using HALL.out j hj hjk) ?_
   have hg : ¬ (k < n ∧ ∀ h : k < ks.length, ltK ks[k] c) := by simpa using HG.out
   rcases Nat.lt_or_ge k n with h3 | h3
   · have hkl : k < ks.length := by rw [HN.out]; exact h3
     refine .inr ⟨hkl, ?_⟩
     have : ¬ ltK ks[k] c := fun h => hg ⟨h3, fun _ => h⟩
     simpa using this
   · exact .inl (by rw [HN.out]; omega))
  have HK1 := Lib.hid (show k ≤ 100 ∧ n ≤ 100 from by have := HM.out; have := HN.out; omega)
  obtain ⟨hncc, hr0, hr1⟩ := kl_cut (ks_keep (fun q hq => hq) HLS.out hb08) HN.out HKN.out
  have HKC := Lib.hid (show k ≤ cc by have := HKN.out; omega)
  obtain ⟨A1, hA1⟩ : ∃ A1, (if cc = k then A else Option.map (fun x : Addr => x.add (k * 2)) A) = A1 := ⟨_, rfl⟩
  obtain ⟨m1, hm1⟩ : ∃ m1, n - k = m1 := ⟨_, rfl⟩
  obtain ⟨c1, hc1⟩ : ∃ m1, cc - k = m1 := ⟨_, rfl⟩
  have HQ := Lib.hid (show (if cc = k then A else Option.map (fun x : Addr => x.add (k * 2)) A) = A1 ∧ n - k = m1 ∧ cc - k = c1 ∧ k ≤ cc ∧ (k : Int) ≤ (n : Int) from ⟨hA1, hm1, hc1, HKC.out, by have := HKN.out; omega⟩)
  have HM1 := Lib.hid (show k + m1 = n by have := HKN.out; omega)
  rw [hA1, hm1] at hr1
  obtain ⟨F0, hF0⟩ : ∃ F, (ks.take k).flatMap kL = F := ⟨_, rfl⟩
  obtain ⟨F1, hF1⟩ : ∃ F, (ks.drop k).flatMap kL = F := ⟨_, rfl⟩
  have HFF := Lib.hid (And.intro hF0 hF1)
  have HONE0 := Lib.hid (show ∀ u ∈ F0, u.oneCell' = true from hF0 ▸ kl_one _)
  have HONE1 := Lib.hid (show ∀ u ∈ F1, u.oneCell' = true from hF1 ▸ kl_one _)
  rw [hF0] at hr0
  rw [hF1] at hr1
  have HRD0 := Lib.hid hr0
  have HRD1 := Lib.hid hr1
  have HM1N := Lib.hid (show m1 ≤ 100 by have := HK1.out; omega)
  clear hncc hr0 hr1 hA1 hm1 hc1 hF0 hF1
  go_upto_region 11 with fail
  have hb03 := hb08
  have HH3 := HH8
  have HZ3 := HZ8
  have LT03 := LT08
  have LT13 := LT18
  clear LT08 LT18 HH8 HZ8 hb08
  generalize w8 = V at *
  have HC21 := Lib.hid (show V.cell? ⟨w.heap.size, 21, none⟩ = some (.slice A n cc) from (blk_cell HH3.out 21).trans (by simpa using HV21.out))
  have HLT := Lib.hid LT03
  have HATC := Lib.hid (show At V (· < V.heap.size) ⟨W2.heap.size, 0, none⟩ [.int .i64 ca, .int .i64 cb] from ⟨LTX8, (box_at (cs := [.int .i64 ca, .int .i64 cb]) HX8.out).2⟩)
  refine wp_region_invD2 15 (Ks V [.own (MdL V.heap.size) (MdL.keep), .val (.pointer (some ⟨w.heap.size, 21, none⟩)), .val (.slice A n cc), .val (.int .i64 (k : Int)), .val (.slice A k cc), .own (RwL V.heap.size k F0) (RwL.keep), .val (.agg #[.int .i64 ca, .int .i64 cb]), .own (OneL V.heap.size [.int .i64 ca, .int .i64 cb]) (OneL.keep), .own (RwL V.heap.size (k + 1) (F0 ++ [.int .i64 ca, .int .i64 cb])) (RwL.keep), .val (.pointer (some ⟨w.heap.size, 21, none⟩)), .val (.slice A n cc), .val (.int .i64 (k : Int)), .val (.slice A1 m1 c1), .own (OwL V.heap.size (k + 1 + m1) (F0 ++ [.int .i64 ca, .int .i64 cb] ++ F1)) (OwL.keep), .val (.pointer (some ⟨w.heap.size, 21, none⟩))])
   (fun w' => Below V.heap.size V w') (by kernel_rfl) (by kernel_rfl) (by kernel_rfl) (by decide) (by kernel_rfl) (by kernel_rfl) (Below.refl _ _).drew ?_ ?_
  · refine ⟨?_, ?_, ?_, ?_, ?_, ?_, ?_, ?_, ?_, ?_, ?_, ?_, ?_, ?_, ?_, trivial⟩
    · intro _ A0 w2 hI hd hnd K hK; have hS := hI.world; refine wanted_go rfl ?_; clear hI hd hnd; go_simp
      exact hK.out _ _ (hS.alloc hS.size _) (Ks.of rfl ⟨_, rfl, hS.size, heap_alloc_new _ _⟩) (Ks.keepD (below1 w2 _))
    · intro _ A0 w2 hI hd hnd K hK; have e0 := hI.q hnd 3; have hS := hI.world; refine wanted_go rfl ?_; clear hI hd hnd; go_simp
      exact hK.out _ _ hS (Ks.of rfl rfl) (fun _ _ _ _ h => h)
    · intro _ A0 w2 hI hd hnd K hK; have e0 := hI.p hd 1 82; have hS := hI.world; have hcc : w2.cell? ⟨w.heap.size, 21, none⟩ = _ := (hS.cell (p := ⟨w.heap.size, 21, none⟩) HLT.out).trans HC21.out; refine wanted_go rfl ?_; clear hI hd hnd; go_simp
      exact hK.out _ _ hS (Ks.of rfl rfl) (fun _ _ _ _ h => h)
    · intro _ A0 w2 hI hd hnd K hK; have e0 := hI.q hnd 9; have hS := hI.world; refine wanted_go rfl ?_; clear hI hd hnd; go_simp
      exact hK.out _ _ hS (Ks.of rfl rfl) (fun _ _ _ _ h => h)
    · intro _ A0 w2 hI hd hnd K hK; have e0 := hI.p hd 2 83; have e1 := hI.p hd 3 84; have hS := hI.world
      have hkn := HKN.out
      have hkc := HKC.out
      refine wanted_go rfl ?_; clear hI hd hnd; go_simp
      exact hK.out _ _ hS (Ks.of rfl rfl) (fun _ _ _ _ h => h)
    · intro _ A0 w2 hI hd hnd K hK
      obtain ⟨x0, e0, h0⟩ := hI.dep hd 0 81 rfl rfl rfl (by kernel_rfl)
      have e1 := hI.p hd 4 85; have hS := hI.world
      obtain ⟨g5, rfl, hg1, hg2⟩ := h0
      refine wanted_go rfl ?_; clear hI hd hnd
      refine wp_app3 (w := w2) (.tmp 81) (.tmp 85) 51 rfl V.heap.size 99 ia _ 2 16 locks2_uty hia hzia hsia hbia rfl (by decide) (.slice (some ⟨g5, 0, none⟩) 0 0) 0 [] (by simpa [Act.eval, Array.getD_eq_getD_getElem?] using e0) (own_empty hg1 hg2) (· < V.heap.size) A k cc F0 (by simpa [Act.eval, Array.getD_eq_getD_getElem?] using e1) (HRD0.out.fr (Fr.ofBelow hS)) HONE0.out (by simp only [maxLen]; have := HK1.out; omega) (by have := HK1.out; omega) hS.size ?_
      intro v9 w9 hown9 _ hg9 hc9 hz9
      have hb9 : Below w2.heap.size w2 w9 := hc9.elim id (fun ⟨g, cap, e, h1, h2⟩ => by simp at e; omega)
      exact hK.out _ _ (hS.trans (hb9.mono hS.size)) (Ks.of rfl ⟨by simpa using hown9, fun hk0 => ⟨g5, hz9 hk0 ⟨g5, 0, rfl⟩⟩⟩) (Ks.keepD hb9)
    · intro _ A0 w2 hI hd hnd K hK; have e0 := hI.q hnd 8; have hS := hI.world; have hrange : w2.rangeAt W2.heap.size 0 [.int .i64 ca, .int .i64 cb] := (HATC.out.fr (Fr.ofBelow hS)).range; have hisize := info_lock2; refine wanted_go rfl ?_; clear hI hd hnd
      refine wp_load_mid 99 (.tmp 8) rfl _ _ (by simpa [Act.eval, Array.getD_eq_getD_getElem?] using e0) _ _ hrange Tryz.underlying99 rfl hisize ?_
      exact hK.out _ _ hS (Ks.of rfl rfl) (fun _ _ _ _ h => h)
    · intro _ A0 w2 hI hd hnd K hK; have e0 := hI.p hd 6 87; have hS := hI.world; refine wanted_go rfl ?_; clear hI hd hnd; go_simp
      exact hK.out _ _ (hS.alloc hS.size _) (Ks.of rfl ⟨_, rfl, hS.size, heap_alloc_new _ _⟩) (Ks.keepD (below1 w2 _))
    · intro _ A0 w2 hI hd hnd K hK
      obtain ⟨x0, e0, h0⟩ := hI.dep hd 5 86 rfl rfl rfl (by kernel_rfl)
      obtain ⟨x1, e1, h1⟩ := hI.dep hd 7 88 rfl rfl rfl (by kernel_rfl)
      have hS := hI.world
      obtain ⟨g7, rfl, hg1, hg2⟩ := h1
      have hw13 := hI.waitsD hnd 13 rfl (by kernel_rfl)
      refine wanted_go rfl ?_; clear hI hd hnd
      refine wp_app3 (w := w2) (.tmp 86) (.tmp 88) 51 rfl V.heap.size 99 ia _ 2 16 locks2_uty hia hzia hsia hbia rfl (by decide) x0 k F0 (by simpa [Act.eval, Array.getD_eq_getD_getElem?] using e0) h0.1 (fun _ => True) (some ⟨g7, 0, none⟩) 1 1 [.int .i64 ca, .int .i64 cb] (by simpa [Act.eval, Array.getD_eq_getD_getElem?] using e1) ⟨rfl, fun _ => ⟨_, rfl, trivial, (box_at (cs := [.int .i64 ca, .int .i64 cb]) hg2).2⟩⟩ (by simp [Value.oneCell']) (by simp only [maxLen]; have := HK1.out; omega) (by have := HK1.out; omega) hS.size ?_
      intro v9 w9 hown9 hold9 hg9 hc9 hz9
      have hb9 : Below V.heap.size V w9 := below_grown hS hg9 (fun q hq => (h0.1.lt _ hq).1) (Nat.le_refl _)
      exact hK.out _ _ hb9 (Ks.of rfl ⟨hown9, fun h => by omega⟩) (by
       intro j u hj hdn hV q hq
       rcases j with _ | _ | _ | _ | _ | _ | _ | _ | _ | _ | _ | _ | _ | _ | _ | j
       all_goals first | (exact absurd rfl hj) | (cases hq; done) | (exact absurd hdn (by unfold Done; rw [hw13]; decide)) | (cases hq; first | exact hV _ rfl | exact MdL.app (hV _ rfl) h0.1 hg9 hc9 | exact RwL.app (hV _ rfl) h0.1 hold9 hg9 (Nat.le_refl _) | exact OneL.app rfl (hV _ rfl) h0 hg9 hc9))
    · intro _ A0 w2 hI hd hnd K hK; have e0 := hI.q hnd 3; have hS := hI.world; refine wanted_go rfl ?_; clear hI hd hnd; go_simp
      exact hK.out _ _ hS (Ks.of rfl rfl) (fun _ _ _ _ h => h)
    · intro _ A0 w2 hI hd hnd K hK; have e0 := hI.p hd 9 90; have hS := hI.world; have hcc : w2.cell? ⟨w.heap.size, 21, none⟩ = _ := (hS.cell (p := ⟨w.heap.size, 21, none⟩) HLT.out).trans HC21.out; refine wanted_go rfl ?_; clear hI hd hnd; go_simp
      exact hK.out _ _ hS (Ks.of rfl rfl) (fun _ _ _ _ h => h)
    · intro _ A0 w2 hI hd hnd K hK; have e0 := hI.q hnd 9; have hS := hI.world; refine wanted_go rfl ?_; clear hI hd hnd; go_simp
      exact hK.out _ _ hS (Ks.of rfl rfl) (fun _ _ _ _ h => h)
    · intro _ A0 w2 hI hd hnd K hK; have e0 := hI.p hd 10 91; have e1 := hI.p hd 11 92; have hS := hI.world
      have hq1 := HQ.out
      obtain ⟨q1, q2, q3, q4, q5⟩ := hq1
      refine wanted_go rfl ?_; clear hI hd hnd; go_simp
      exact hK.out _ _ hS (Ks.of rfl rfl) (fun _ _ _ _ h => h)
    · intro _ A0 w2 hI hd hnd K hK
      obtain ⟨x0, e0, h0⟩ := hI.dep hd 8 89 rfl rfl rfl (by kernel_rfl)
      have e1 := hI.p hd 12 93; have hS := hI.world; refine wanted_go rfl ?_; clear hI hd hnd
      refine wp_app3 (w := w2) (.tmp 89) (.tmp 93) 51 rfl V.heap.size 99 ia _ 2 16 locks2_uty hia hzia hsia hbia rfl (by decide) x0 (k + 1) (F0 ++ [.int .i64 ca, .int .i64 cb]) (by simpa [Act.eval, Array.getD_eq_getD_getElem?] using e0) h0.1 (· < V.heap.size) A1 m1 c1 F1 (by simpa [Act.eval, Array.getD_eq_getD_getElem?] using e1) (HRD1.out.fr (Fr.ofBelow hS)) HONE1.out (by simp only [maxLen]; have := HK1.out; have := HM1N.out; omega) (by have := HK1.out; have := HM1N.out; omega) hS.size ?_
      intro v9 w9 hown9 hold9 hg9 hc9 hz9
      have hb9 : Below V.heap.size V w9 := below_grown hS hg9 (fun q hq => (h0.1.lt _ hq).1) (Nat.le_refl _)
      exact hK.out _ _ hb9 (Ks.of rfl hown9) (by
       intro j u hj hdn hV q hq
       rcases j with _ | _ | _ | _ | _ | _ | _ | _ | _ | _ | _ | _ | _ | _ | _ | j
       all_goals first | (exact absurd rfl hj) | (cases hq; done) | (cases hq; first | exact hV _ rfl | exact MdL.app (hV _ rfl) h0.1 hg9 hc9 | exact RwL.app (hV _ rfl) h0.1 hold9 hg9 (Nat.le_succ _) | exact RwL.app (hV _ rfl) h0.1 hold9 hg9 (Nat.le_refl _) | exact OneL.app rfl (hV _ rfl) h0 hg9 hc9))
    · intro _ A0 w2 hI hd hnd K hK; have e0 := hI.q hnd 3; have hS := hI.world; refine wanted_go rfl ?_; clear hI hd hnd; go_simp
      exact hK.out _ _ hS (Ks.of rfl rfl) (fun _ _ _ _ h => h)
  · intro f A0 w2 hI
    obtain ⟨x0, g0, h0⟩ := hI.got 0 _ 81 rfl rfl rfl
    obtain ⟨x1, g1, h1⟩ := hI.got 1 _ 82 rfl rfl rfl
    obtain ⟨x2, g2, h2⟩ := hI.got 2 _ 83 rfl rfl rfl
    obtain ⟨x3, g3, h3⟩ := hI.got 3 _ 84 rfl rfl rfl
    obtain ⟨x4, g4, h4⟩ := hI.got 4 _ 85 rfl rfl rfl
    obtain ⟨x5, g5, h5⟩ := hI.got 5 _ 86 rfl rfl rfl
    obtain ⟨x6, g6, h6⟩ := hI.got 6 _ 87 rfl rfl rfl
    obtain ⟨x7, g7, h7⟩ := hI.got 7 _ 88 rfl rfl rfl
    obtain ⟨x8, g8, h8⟩ := hI.got 8 _ 89 rfl rfl rfl
    obtain ⟨x9, g9, h9⟩ := hI.got 9 _ 90 rfl rfl rfl
    obtain ⟨x10, g10, h10⟩ := hI.got 10 _ 91 rfl rfl rfl
    obtain ⟨x11, g11, h11⟩ := hI.got 11 _ 92 rfl rfl rfl
    obtain ⟨x12, g12, h12⟩ := hI.got 12 _ 93 rfl rfl rfl
    obtain ⟨x13, g13, h13⟩ := hI.got 13 _ 94 rfl rfl rfl
    obtain ⟨x14, g14, h14⟩ := hI.got 14 _ 95 rfl rfl rfl
    have hS := hI.world
    have hA : A0 = _ := hI.tmps [(81, x0), (82, x1), (83, x2), (84, x3), (85, x4), (86, x5), (87, x6), (88, x7), (89, x8), (90, x9), (91, x10), (92, x11), (93, x12), (94, x13), (95, x14)] (by simp only [List.mem_cons, List.not_mem_nil, or_false, forall_eq_or_imp, forall_eq]; exact ⟨g0, g1, g2, g3, g4, g5, g6, g7, g8, g9, g10, g11, g12, g13, g14⟩) (by kernel_rfl)
    have k13 : (OwL V.heap.size (k + 1 + m1) (F0 ++ [.int .i64 ca, .int .i64 cb] ++ F1)) x13 w2 := h13 _ rfl
    obtain rfl : x14 = .pointer (some ⟨w.heap.size, 21, none⟩) := h14 _ rfl
    clear h0 g0 h1 g1 h2 g2 h3 g3 h4 g4 h5 g5 h6 g6 h7 g7 h8 g8 h9 g9 h10 g10 h11 g11 h12 g12 h13 g13 h14 g14 hI
    simp only [setAll, List.foldl, List.setIfInBounds_toArray, List.set_cons_zero, List.set_cons_succ] at hA
    rw [hA]
    clear hA
    have hown : w2.ownsRow V.heap.size 99 2 x13 (k + 1 + m1) (F0 ++ [.int .i64 ca, .int .i64 cb] ++ F1) := k13
    obtain ⟨A9, n9, c9, rfl⟩ := own_shape hown
    have HOW := Lib.hid hown
    clear hown k13
    show wpAny _ _ _ _ (f + 1) _ _ _
    refine wpAny_all (rs := [15]) (by kernel_rfl) (by simp) ?_
    intro i hi
    obtain rfl : i = 15 := by simpa using hi
    refine wpOp_step (o := _) rfl (fun K hK => ?_)
    refine wanted_go rfl ?_; have hcc : w2.cell? ⟨w.heap.size, 21, none⟩ = some (.slice A n cc) := (hS.cell (p := ⟨w.heap.size, 21, none⟩) HLT.out).trans HC21.out
    have hcf : w2.frozen? ⟨w.heap.size, 21, none⟩ = false := blk_frozen ((hS.block _ HLT.out).trans HH3.out) 21
    go_simp
    refine hK _ _ ?_
    refine wpAny_done (by kernel_rfl) ?_ _
    clear hK
    have hown := HOW.out
    obtain rfl : n9 = k + 1 + m1 := own_val hown
    have HCUT := Lib.hid (show ks.take k ++ [c] ++ ks.drop k = insK ks c by rw [ins_take, HCN.out])
    obtain ⟨FN, hFN⟩ : ∃ F, F0 ++ [.int .i64 ca, .int .i64 cb] ++ F1 = F := ⟨_, rfl⟩
    rw [hFN] at HOW
    have HFN := Lib.hid hFN
    obtain ⟨n9, hn9⟩ : ∃ q, k + 1 + m1 = q := ⟨_, rfl⟩
    rw [hn9] at HOW ⊢
    have HN9 := Lib.hid hn9
    clear hown hFN hn9
    obtain ⟨v9, hv9⟩ : ∃ v, Value.slice A9 n9 c9 = v := ⟨_, rfl⟩
    rw [hv9]
    have HOV := Lib.hid (show w2.ownsRow V.heap.size 99 2 v9 n9 FN from by rw [← hv9]; exact HOW.out)
    have HV9 := Lib.hid hv9
    have HG9 := Lib.hid (show (w2.setCell ⟨w.heap.size, 21, none⟩ v9).heap[w.heap.size]? = some (.cells (ll.set 21 v9).toArray 53 (0, 0)) from by
     have h := heap_setCell_same ((hS.block _ HLT.out).trans HH3.out) 21 v9
     rwa [show ll.toArray.setIfInBounds 21 v9 = (ll.set 21 v9).toArray from by simp] at h)
    have HZ9 := Lib.hid (show (w2.setCell ⟨w.heap.size, 21, none⟩ v9).heap[w.heap.size + 1]? = some (.cells #[.string ⟨#[]⟩, .int .i64 0, .int .i64 0, .int .i64 0, .slice none 0 0, .int .i64 0, .int .i64 0, .int .i64 0, .int .i64 0, .int .i64 0, .int .i64 0, .int .i64 0, .int .i64 0, .int .i64 0, .int .i64 0, .int .i64 0, .int .i64 0, .int .i64 0, .int .i64 0, .int .i64 0, .slice none 0 0, .slice none 0 0] 53 (0, 0)) from
     (Below.heap_setCell w2 ⟨w.heap.size, 21, none⟩ v9 (w.heap.size + 1) (by show w.heap.size + 1 ≠ w.heap.size; omega)).trans ((hS.block _ LT13).trans HZ3.out))
    have HB9 := Lib.hid (show Below w.heap.size w (w2.setCell ⟨w.heap.size, 21, none⟩ v9) from (hb03.trans (hS.mono hb03.size)).setCell (Nat.le_refl _) _)
    have HW9 := Lib.hid (show (w2.setCell ⟨w.heap.size, 21, none⟩ v9).ownsRow V.heap.size 99 2 v9 n9 FN from own_same HOV.out (fun q hq => Below.heap_setCell w2 ⟨w.heap.size, 21, none⟩ v9 q (by have := (HOV.out.lt q hq).1; have := HLT.out; show q ≠ w.heap.size; omega)))
    have HLI9 := Lib.hid (show (Tryz.prog.info? 53).map (·.size) = some (ll.set 21 v9).toArray.size by rw [info_locks]; simp [HLEN.out])
    have HL22 := Lib.hid (show (ll.set 21 v9).length = 22 by simp [HLEN.out])
    have HLO9 := Lib.hid (show (ll.set 21 v9).toArray.all (·.oneCell') = true by
     have h := HLO.out
     rw [List.all_toArray, List.all_eq_true] at h ⊢
     intro x hx
     rcases List.mem_or_eq_of_mem_set hx with hx | rfl
     · exact h x hx
     · rw [← HV9.out]; rfl)
    generalize (w2.setCell ⟨w.heap.size, 21, none⟩ v9) = W9 at *
    obtain ⟨L9, hL9⟩ : ∃ L, ll.set 21 v9 = L := ⟨_, rfl⟩
    rw [hL9] at HG9 HLI9 HLO9 HL22
    have HL9 := Lib.hid hL9
    clear hL9 hv9 hS
    go_wp2_with (first | (show wpList _ _ _ (Oper.mk (some 96) _ _ _ _ _ :: _) _ _; refine wpList_load_row_g rfl 53 (.tmp 3) rfl (w.heap.size) rfl _ _ _ _ HG9.out Tryz.underlying53 rfl HLI9.out ?_) | (show wpList _ _ _ (Oper.mk none (Op.store _ (Operand.tmp 6) _) _ _ _ _ :: _) _ _; refine wpList_store_row rfl 53 (.tmp 6) (.tmp 96) rfl (w.heap.size + 1) L9.toArray rfl rfl 53 #[.string ⟨#[]⟩, .int .i64 0, .int .i64 0, .int .i64 0, .slice none 0 0, .int .i64 0, .int .i64 0, .int .i64 0, .int .i64 0, .int .i64 0, .int .i64 0, .int .i64 0, .int .i64 0, .int .i64 0, .int .i64 0, .int .i64 0, .int .i64 0, .int .i64 0, .int .i64 0, .int .i64 0, .slice none 0 0, .slice none 0 0] HZ9.out HLI9.out (by simp [HL22.out]) HLO9.out ?_))
    refine bodyPost_ret (v := .tuple #[.agg L9.toArray, .int .i64 0]) (results_cell_tmp rfl _ _ (w.heap.size + 1) 53 _ (0, 0) _ rfl (heap_setRow HZ9.out _) Tryz.underlying53 rfl HLI9.out _ rfl) rfl ?_
    have hb10 := below_setRow (g := w.heap.size + 1) HB9.out (by omega) L9.toArray
    have hln : (insK ks c).length = n9 := (by rw [← HCUT.out, ← HN9.out, List.length_append, List.length_append, List.length_take, List.length_drop, List.length_singleton]; have := HN.out; have := HM1.out; omega)
    have hown10 : (W9.setRow (w.heap.size + 1) L9.toArray).ownsRow V.heap.size 99 2 v9 (insK ks c).length ((insK ks c).flatMap kL) := by
     have h := own_same (w' := W9.setRow (w.heap.size + 1) L9.toArray) HW9.out (fun q hq => (fr_setRow W9 (w.heap.size + 1) L9.toArray).block q (by have := (HW9.out.lt q hq).1; have := LT13; show q ≠ w.heap.size + 1; omega))
     rw [hln, (show (insK ks c).flatMap kL = FN by rw [← HCUT.out, List.flatMap_append, List.flatMap_append, HFF.out.1, HFF.out.2, List.flatMap_singleton, ← HFN.out]; rw [show kL c = [.int .i64 ca, .int .i64 cb] by unfold kL; rw [HCE.out.1, HCE.out.2]])]
     exact h
    have hv : v9 = .slice A9 (insK ks c).length c9 := by rw [hln, HV9.out]
    have hlc : ListC KC 2 (W9.setRow (w.heap.size + 1) L9.toArray) (fun q => w.heap.size ≤ q ∧ q < (W9.setRow (w.heap.size + 1) L9.toArray).heap.size) [.slice A9 (insK ks c).length c9] (insK ks c) := by
     have h := own_listC (El := KC) (f := kL) (Q := fun q => w.heap.size ≤ q ∧ q < (W9.setRow (w.heap.size + 1) L9.toArray).heap.size) (fun _ => rfl) hown10 (fun x hx => rfl) (fun q hq => ⟨Nat.le_trans (Nat.le_of_lt HLT.out) (hown10.lt q hq).1, (hown10.lt q hq).2⟩) (by rw [hln]; have := HN9.out; have := HM.out; have := HK1.out; have := HM1N.out; omega)
     rwa [hv] at h
    have hL9s : L9 = ll.set 21 (.slice A9 (insK ks c).length c9) := by rw [← hv, HL9.out]
    have hE : lockE g.calendar.periods (g.entities.length : Int) fl c = 0 := by
     unfold lockE
     rw [if_neg HIN.out, if_neg HIN2.out, if_neg (fun h => HNC.out ((HF.out.2 c).2 h))]
    refine ⟨L9, _, by rw [hE], .inr ⟨hE, A9, c9, hL9s, hlc⟩, ?_, ?_, hb10⟩
    · unfold lockF
      rw [if_pos hE]
      exact insK_list HF.out (by
       cases h : fl c with
       | false => rfl
       | true => exact absurd ((HF.out.2 c).2 h) HNC.out)
    · rw [hln]
      have := HN9.out; have := HM.out; have := HM1.out; have := HN.out
      omega
theorem wpAny_takeU {P : Program} {md : Region.Mode} {ops : Array Oper} {Q : Exit → Act → World → Prop} {i d : Nat} {oi : Oper} {v : Value} {fuel : Nat} {listed : Array Bool} {a : Act} {w : World} (hi : ops[i]? = some oi) (hd : oi.dst = some d)
 (hs : Region.noSelect ops = true) (hf : Region.free md ops listed i = true) (hr : (Region.ready md ops listed).contains i = true)
 (hQ : ∀ c a w, Q (.panic c) (a.put oi.dst v) w → Q (.panic c) a w) (hy : Yields P ops oi v a)
 (h : wpAny P md ops Q fuel (listed.setIfInBounds i true) (a.put (some d) v) w) : wpAny P md ops Q (fuel + 1) listed a w :=
 wpAny_take hi hs hf hr hQ hy (by rw [hd]; exact h)
def LastU (ks : List KK) (e : Int) (y m p : Int) (k : Nat) (out : Int) (ok : Bool) : Prop :=
 ((∀ j (hj : j < ks.length), j < k → ks[j].1.1 ≠ e) ∧ out = 0 ∧ ok = false) ∨ ∃ q, ∃ hq : q < ks.length, q < k ∧ ks[q].1.1 = e ∧ (∀ j (hj : j < ks.length), q < j → j < k → ks[j].1.1 ≠ e) ∧ out = (calLast y m p ks[q].1.2).1 ∧ ok = true
theorem LastU.end_ {fl : KK → Bool} {ks : List KK} {e y m p : Int} {out : Int} {ok : Bool} (hf : ListK fl ks) (hpos : ∀ c, fl c = true → 0 ≤ c.1.2) (h : LastU ks e y m p ks.length out ok) : ∃ last, MostP fl e last ∧ -1 ≤ last ∧ out = untD y m p last ∧ ok = decide (0 ≤ last) := by
 rcases h with ⟨h1, h2, h3⟩ | ⟨q, hq, _, h1, h2, h3, h4⟩
 · refine ⟨-1, ⟨fun c hc he => ?_, .inl rfl⟩, by omega, ?_, ?_⟩
   · obtain ⟨j, hj, rfl⟩ := List.getElem_of_mem ((hf.2 c).2 hc)
     exact absurd he (h1 j hj hj)
   · rw [h2]; rfl
   · rw [h3]; rfl
 · have hp := hpos ks[q] ((hf.2 _).1 (List.getElem_mem hq))
   refine ⟨ks[q].1.2, last_most hf hq h1 (fun j hj hqj => h2 j hj hqj hj), by omega, ?_, ?_⟩
   · unfold untD; rw [if_neg (by omega)]; exact h3
   · rw [h4]; simp [hp]
set_option maxHeartbeats 4000000 in
theorem runtil_c (g : XGroup) (ks : List KK) (ll : List Value) (en : Int) (fl : KK → Bool) (w : World) (h : RLk w (· < w.heap.size) ll g ks) (hf : ListK fl ks) (hpos : ∀ c, fl c = true → 0 ≤ c.1.2) : Calls Tryz.prog 20 #[.agg ll.toArray, .int .i64 en] w (UntPost g.calendar.year g.calendar.month g.calendar.periods fl en w) := by
 obtain ⟨Ae, ce, A, cc, v21, _, v1, v2, v3, hl⟩ := h.view
 have HV21 := Lib.hid v21
 have HLS := Lib.hid hl
 have HLEN := Lib.hid h.len
 obtain ⟨yy, hyy⟩ : ∃ x, g.calendar.year = x := ⟨_, rfl⟩
 obtain ⟨mm, hmm⟩ : ∃ x, g.calendar.month = x := ⟨_, rfl⟩
 obtain ⟨pp, hpp⟩ : ∃ x, g.calendar.periods = x := ⟨_, rfl⟩
 rw [hyy] at v1 ⊢
 rw [hmm] at v2 ⊢
 rw [hpp] at v3 ⊢
 have HV := Lib.hid (And.intro v1 (And.intro v2 v3))
 have HEND := Lib.hid (fun (out : Int) (ok : Bool) (hx : LastU ks en yy mm pp ks.length out ok) => LastU.end_ hf hpos hx)
 have hcap := hl.cap
 unfold maxLen at hcap
 obtain ⟨n, hn⟩ : ∃ R, ks.length = R := ⟨_, rfl⟩
 have HN := Lib.hid hn
 rw [hn] at HV21 hcap
 clear h hl hn v21 v1 v2 v3 hf hpos hyy hmm hpp
 go_enter Tryz.func20, Tryz.ntmps20
 go_upto_region 1 with fail
 have H := heap_alloc_new w (.cells ll.toArray 53)
 have HB := below1 w (.cells ll.toArray 53)
 have HS := blk_lt H
 generalize hW : w.alloc (Obj.cells ll.toArray 53) = W at *
 clear hW
 have HX := Lib.hid H
 have HBW := Lib.hid HB
 have HC0 := Lib.hid (show W.cell? ⟨w.heap.size, 21, none⟩ = some (.slice A n cc) from (blk_cell HX.out 21).trans (by simpa using HV21.out))
 have HCA0 := Lib.hid (show At W (· < W.heap.size) ⟨w.heap.size, 1, none⟩ [.int .i64 yy, .int .i64 mm, .int .i64 pp] from ⟨HS, fun j u hj => by
  rw [Addr.add_lit]
  refine ⟨?_, blk_frozen HX.out _⟩
  rw [blk_cell HX.out]
  rcases j with _ | _ | _ | j
  · cases hj; simpa using HV.out.1
  · cases hj; simpa using HV.out.2.1
  · cases hj; simpa using HV.out.2.2
  · simp at hj⟩)
 clear H
 go_wp2_with fail
 go_loopw [6, 7, 8] (fun vo vk i wr => ∃ (k : Nat) (out : Int) (ok : Bool), k ≤ n ∧ vo = .int .i64 out ∧ vk = .bool ok ∧ i = .int .i64 (k : Int) ∧ Below W.heap.size W wr ∧ LastU ks en yy mm pp k out ok) (fun _ _ i _ => n - (intOf i).toNat)
 case atStart => exact ⟨0, 0, false, by omega, rfl, rfl, rfl, Below.refl _ _, .inl ⟨fun j hj h => by omega, rfl, rfl⟩⟩
 case round =>
  obtain ⟨k, out, ok, hk, rfl, rfl, rfl, hb, hlu⟩ := hrel
  have HLU := Lib.hid hlu
  have HBR := Lib.hid hb
  have HLT := Lib.hid (Nat.lt_of_lt_of_le HS hb.size)
  have HC21 := Lib.hid (show wr.cell? ⟨w.heap.size, 21, none⟩ = some (.slice A n cc) from ((hb.cell (p := ⟨w.heap.size, 21, none⟩) HS).trans HC0.out))
  have c21 := HC21.out
  clear hlu
  by_cases hlt : k < n
  case pos =>
   have hltI : (k : Int) < (n : Int) := by omega
   have hltI2 : 0 < n := by omega
   have HMI := Lib.hid hltI
   have hkl : k < ks.length := by rw [HN.out]; exact hlt
   obtain ⟨b, o, cs1, hAe1, hbw1, hes1, hat1⟩ := ListC.get HLS.out k hkl
   subst hAe1
   have hcs1 : cs1 = kL ks[k] := hes1
   subst hcs1
   obtain ⟨x, hx⟩ : ∃ x, ks[k] = x := ⟨_, rfl⟩
   have HX0 := Lib.hid hx
   rw [hx] at hat1
   obtain ⟨⟨xa, xb⟩, hxx⟩ := x
   have hat := hat1.fr (Fr.ofBelow (HB.trans (hb.mono HB.size)))
   have x0 : wr.cell? ⟨b, o + k * 2, none⟩ = some (.int .i64 xa) := by have h := hat.c (j := 0) rfl; simpa using h
   have HXB := Lib.hid (show wr.cell? ⟨b, o + k * 2 + 1, none⟩ = some (.int .i64 xb) from hat.c (j := 1) rfl)
   have HBL := Lib.hid (show b < wr.heap.size from Nat.lt_of_lt_of_le (Nat.lt_of_lt_of_le hbw1 HB.size) hb.size)
   have HCAL := Lib.hid ((HCA0.out.fr (Fr.ofBelow hb)).mono (fun q hq => Nat.lt_of_lt_of_le hq hb.size))
   clear hes1 hat1 hx hbw1 hat
   by_cases he : xa = en
   case pos =>
    have hed : (xa == en) = true := by simp [he]
    have HNX := Lib.hid (show ks[k].1.1 = en by rw [HX0.out]; exact he)
    have HNY := Lib.hid (show ks[k].1.2 = xb by rw [HX0.out])
    clear he
    go_upto_region 6 with fail
    clear hed x0 c21
    refine wp_region_inv2' 10 (Ks wr [.val (.pointer (some ⟨w.heap.size, 0, none⟩)), .val (.pointer (some ⟨w.heap.size, 1, none⟩)), .val (.agg #[.int .i64 yy, .int .i64 mm, .int .i64 pp]), .val (.pointer (some ⟨w.heap.size, 21, none⟩)), .val (.slice (some ⟨b, o, none⟩) n cc), .val (.int .i64 (k : Int)), .val (.pointer (some ⟨b, o + k * 2, none⟩)), .val (.pointer (some ⟨b, o + k * 2 + 1, none⟩)), .val (.int .i64 xb), .val (.tuple #[.int .i64 (calLast yy mm pp xb).1, .int .i64 (calLast yy mm pp xb).2])])
     (fun w' => Below wr.heap.size wr w') (by kernel_rfl) (by kernel_rfl) (by kernel_rfl) (by decide) (by kernel_rfl) (by kernel_rfl) (Below.refl _ _).drew ?_ ?_
    · refine ⟨?_, ?_, ?_, ?_, ?_, ?_, ?_, ?_, ?_, ?_, trivial⟩
      · intro _ A0 w2 hI hd hnd K hK; have e0 := hI.q hnd 2; exact hI.z hK
      · intro _ A0 w2 hI hd hnd K hK; have e0 := hI.p hd 0 25; exact hI.z hK
      · intro _ A0 w2 hI hd hnd K hK; have e0 := hI.p hd 1 26; have hS := hI.world; have hrange : w2.rangeAt w.heap.size 1 [.int .i64 yy, .int .i64 mm, .int .i64 pp] := (HCAL.out.fr (Fr.ofBelow hS)).range; have hisize := info_cal; refine wanted_go rfl ?_; clear hI hd hnd
        refine wp_load_mid 23 (.tmp 26) rfl _ _ (by simpa [Act.eval, Array.getD_eq_getD_getElem?] using e0) _ _ hrange Tryz.underlying23 rfl hisize ?_
        exact kq hK hS rfl
      · intro _ A0 w2 hI hd hnd K hK; have e0 := hI.q hnd 2; exact hI.z hK
      · intro _ A0 w2 hI hd hnd K hK; have e0 := hI.p hd 3 28; have hS := hI.world; have hcc : w2.cell? ⟨w.heap.size, 21, none⟩ = _ := (hS.cell (p := ⟨w.heap.size, 21, none⟩) HLT.out).trans HC21.out; exact hI.z hK
      · intro _ A0 w2 hI hd hnd K hK; have e0 := hI.q hnd 8; exact hI.z hK
      · intro _ A0 w2 hI hd hnd K hK
        have hmi := HMI.out
        have e0 := hI.p hd 4 29; have e1 := hI.p hd 5 30; exact hI.z hK
      · intro _ A0 w2 hI hd hnd K hK; have e0 := hI.p hd 6 31; exact hI.z hK
      · intro _ A0 w2 hI hd hnd K hK; have e0 := hI.p hd 7 32; have hS := hI.world; have hcc : w2.cell? ⟨b, o + k * 2 + 1, none⟩ = _ := (hS.cell (p := ⟨b, o + k * 2 + 1, none⟩) HBL.out).trans HXB.out; exact hI.z hK
      · intro _ A0 w2 hI hd hnd K hK; have e0 := hI.p hd 2 27; have e1 := hI.p hd 8 33; have hS := hI.world; refine wanted_go rfl ?_; clear hI hd hnd; go_simp
        go_at_call 41
        refine (rcalLast_c yy mm pp xb w2).mono ?_
        rintro e w3 ⟨rfl, h3⟩
        exact hK.out _ _ (hS.trans (h3.mono hS.size)) (Ks.of rfl rfl) (Ks.keep h3)
    · intro f A0 w2 hI
      obtain ⟨x0, g0, h0⟩ := hI.got 0 _ 25 rfl rfl rfl
      obtain ⟨x1, g1, h1⟩ := hI.got 1 _ 26 rfl rfl rfl
      obtain ⟨x2, g2, h2⟩ := hI.got 2 _ 27 rfl rfl rfl
      obtain ⟨x3, g3, h3⟩ := hI.got 3 _ 28 rfl rfl rfl
      obtain ⟨x4, g4, h4⟩ := hI.got 4 _ 29 rfl rfl rfl
      obtain ⟨x5, g5, h5⟩ := hI.got 5 _ 30 rfl rfl rfl
      obtain ⟨x6, g6, h6⟩ := hI.got 6 _ 31 rfl rfl rfl
      obtain ⟨x7, g7, h7⟩ := hI.got 7 _ 32 rfl rfl rfl
      obtain ⟨x8, g8, h8⟩ := hI.got 8 _ 33 rfl rfl rfl
      obtain ⟨x9, g9, h9⟩ := hI.got 9 _ 34 rfl rfl rfl
      have hS := hI.world
      obtain ⟨y24, o24⟩ : ∃ v, A0.tmps[24]? = some v := ⟨_, hI.oldHead 24 (by kernel_rfl)⟩
      obtain ⟨y35, o35⟩ : ∃ v, A0.tmps[35]? = some v := ⟨_, hI.oldHead 35 (by kernel_rfl)⟩
      obtain ⟨y36, o36⟩ : ∃ v, A0.tmps[36]? = some v := ⟨_, hI.oldHead 36 (by kernel_rfl)⟩
      obtain ⟨y6, o6⟩ : ∃ v, A0.tmps[6]? = some v := ⟨_, hI.oldHead 6 (by kernel_rfl)⟩
      have hA : A0 = _ := hI.tmps [(25, x0), (26, x1), (27, x2), (28, x3), (29, x4), (30, x5), (31, x6), (32, x7), (33, x8), (34, x9), (24, y24), (35, y35), (36, y36), (6, y6)] (by simp only [List.mem_cons, List.not_mem_nil, or_false, forall_eq_or_imp, forall_eq]; exact ⟨g0, g1, g2, g3, g4, g5, g6, g7, g8, g9, o24, o35, o36, o6⟩) (by kernel_rfl)
      obtain rfl : x9 = .tuple #[.int .i64 (calLast yy mm pp xb).1, .int .i64 (calLast yy mm pp xb).2] := h9 _ rfl
      clear h0 g0 h1 g1 h2 g2 h3 g3 h4 g4 h5 g5 h6 g6 h7 g7 h8 g8 h9 g9 o24 o35 o36 o6 hI
      simp only [setAll, List.foldl, List.setIfInBounds_toArray, List.set_cons_zero, List.set_cons_succ] at hA
      rw [hA]
      clear hA
      show wpAny _ _ _ _ (f + 4) _ _ _
      refine wpAny_takeU (i := 10) (d := 24) (v := ?_) rfl rfl (by kernel_rfl) (by kernel_rfl) (by kernel_rfl) (fun _ _ _ h => h) (Or.inl ⟨by rfl, ?_⟩) ?_
      rotate_left
      · intro w; go_simp; (try with_reducible rfl)
      simp only [Act.put, List.setIfInBounds_toArray, List.set_cons_zero, List.set_cons_succ]
      refine wpAny_takeU (i := 11) (d := 35) (v := ?_) rfl rfl (by kernel_rfl) (by kernel_rfl) (by kernel_rfl) (fun _ _ _ h => h) (Or.inl ⟨by rfl, ?_⟩) ?_
      rotate_left
      · intro w; go_simp; (try with_reducible rfl)
      simp only [Act.put, List.setIfInBounds_toArray, List.set_cons_zero, List.set_cons_succ]
      refine wpAny_takeU (i := 12) (d := 36) (v := ?_) rfl rfl (by kernel_rfl) (by kernel_rfl) (by kernel_rfl) (fun _ _ _ h => h) (Or.inl ⟨by rfl, ?_⟩) ?_
      rotate_left
      · intro w; go_simp; (try with_reducible rfl)
      simp only [Act.put, List.setIfInBounds_toArray, List.set_cons_zero, List.set_cons_succ]
      refine wpAny_takeU (i := 13) (d := 6) (v := ?_) rfl rfl (by kernel_rfl) (by kernel_rfl) (by kernel_rfl) (fun _ _ _ h => h) (Or.inl ⟨by rfl, ?_⟩) ?_
      rotate_left
      · intro w; go_simp; (try with_reducible rfl)
      simp only [Act.put, List.setIfInBounds_toArray, List.set_cons_zero, List.set_cons_succ]
      refine wpAny_done (by kernel_rfl) ?_ _
      have HBW2 := Lib.hid (HBR.out.trans (hS.mono HBR.out.size))
      clear hS
      go_wp2_with fail
      go_roundw
      case rel => exact ⟨k + 1, _, _, by omega, rfl, rfl, by go_num, HBW2.out, .inr ⟨k, hkl, by omega, HNX.out, fun j hj h1 h2 => by omega, by rw [HNY.out], rfl⟩⟩
      case measure => first | exact meas_v hlt | (simp only [intOf]; omega)
   case neg =>
    have hed : (xa == en) = false := by simp [he]
    have HNX := Lib.hid (show ks[k].1.1 ≠ en by rw [HX0.out]; exact he)
    clear he
    go_wp2_with fail
    go_roundw
    case rel =>
     refine ⟨k + 1, out, ok, by omega, rfl, rfl, by go_num, HBR.out, ?_⟩
     rcases HLU.out with ⟨h1, h2, h3⟩ | ⟨q, hq, hqk, h1, h2, h3, h4⟩
     · refine .inl ⟨fun j hj h => ?_, h2, h3⟩
       rcases Nat.lt_or_ge j k with h5 | h5
       · exact h1 j hj h5
       · obtain rfl : j = k := by omega
         exact HNX.out
     · refine .inr ⟨q, hq, by omega, h1, fun j hj hqj h => ?_, h3, h4⟩
       rcases Nat.lt_or_ge j k with h5 | h5
       · exact h2 j hj hqj h5
       · obtain rfl : j = k := by omega
         exact HNX.out
    case measure => first | exact meas_v hlt | (simp only [intOf]; omega)
  case neg =>
   have hltI : ¬ (k : Int) < (n : Int) := by omega
   have HKL := Lib.hid (show k = ks.length by rw [HN.out]; omega)
   go_wp2_with fail
   go_ret2
   have hlu := HLU.out
   rw [HKL.out] at hlu
   obtain ⟨last, h1, h2, h3, h4⟩ := HEND.out out ok hlu
   exact ⟨last, h1, h2, by rw [← h3, ← h4]; rfl, HBW.out.trans (HBR.out.mono HBW.out.size)⟩
set_option maxHeartbeats 4000000 in
theorem rcheck13_c (g : XGroup) (ks : List KK) (ll : List Value) (fl : KK → Bool) (xi xe xd xk xo : Int) (xt : ByteArray) (Al : Option Addr) (nl cl : Nat) (w : World) (h : RLk w (· < w.heap.size) ll g ks) (hf : ListK fl ks) (hpos : ∀ c, fl c = true → 0 ≤ c.1.2) : Calls Tryz.prog 22 #[.agg ll.toArray, .agg #[.int .i64 xi, .int .i64 xe, .int .i64 xd, .int .i64 xk, .int .i64 xo, .string xt, .slice Al nl cl]] w (CkPost g.calendar.year g.calendar.month g.calendar.periods (g.entities.length : Int) fl xe xd w) := by
 obtain ⟨Ae, ce, A, cc, v21, v20, v1, v2, v3, hl⟩ := h.view
 have HUN := Lib.hid (fun (w2 : World) (hb : Below w.heap.size w w2) => runtil_c g ks ll xe fl w2 (h.keep hb) hf hpos)
 have HV20 := Lib.hid v20
 have HLI := Lib.hid (show (Tryz.prog.info? 53).map (·.size) = some ll.toArray.size by rw [info_locks]; simp [h.len])
 obtain ⟨ne, hne⟩ : ∃ x, g.entities.length = x := ⟨_, rfl⟩
 rw [hne] at HV20 ⊢
 clear h hl v21 v20 v1 v2 v3 hf hpos hne
 go_enter Tryz.func22, Tryz.ntmps22
 go_upto_region 1 with fail
 have H := heap_alloc_new w (.cells ll.toArray 53)
 have HB := below1 w (.cells ll.toArray 53)
 have HS := blk_lt H
 generalize hW : w.alloc (Obj.cells ll.toArray 53) = W at *
 have H2 := heap_alloc_new W (.cells #[.int .i64 xi, .int .i64 xe, .int .i64 xd, .int .i64 xk, .int .i64 xo, .string xt, .slice Al nl cl] 46)
 have HB2 := below1 W (.cells #[.int .i64 xi, .int .i64 xe, .int .i64 xd, .int .i64 xk, .int .i64 xo, .string xt, .slice Al nl cl] 46)
 have HS2 := blk_lt H2
 replace H := alloc_keep H (Obj.cells #[.int .i64 xi, .int .i64 xe, .int .i64 xd, .int .i64 xk, .int .i64 xo, .string xt, .slice Al nl cl] 46)
 generalize hW2 : W.alloc (Obj.cells #[.int .i64 xi, .int .i64 xe, .int .i64 xd, .int .i64 xk, .int .i64 xo, .string xt, .slice Al nl cl] 46) = W2 at *
 clear hW2
 have eW : W.heap.size = w.heap.size + 1 := by rw [← hW]; simp
 rw [eW] at H2
 clear hW
 have hb2 := HB.trans (HB2.mono HB.size)
 have hs2 := HB2.size
 have LT1 := blk_lt H2
 have LT0 : w.heap.size < W2.heap.size := by omega
 have HH := Lib.hid H
 have HZ := Lib.hid H2
 have EW := Lib.hid eW
 clear H H2 eW
 have hb02 := hb2
 have LT02 := LT0
 have LT12 := LT1
 have HH2 := HH
 have HZ2 := HZ
 have c20 : W2.cell? ⟨w.heap.size, 20, none⟩ = some (.slice Ae ne ce) := (blk_cell HH2.out 20).trans (by simpa using HV20.out)
 have e1 := blk_cell HZ2.out 1
 by_cases h1 : xe < 0
 case pos =>
  have h1d : decide (xe < 0) = true := decide_eq_true h1
  have H1 := Lib.hid h1
  clear h1
  go_wp2_with fail
  go_ret
  exact ⟨1, rfl, .inl ⟨.inl H1.out, rfl⟩, hb02⟩
 case neg =>
 have h1d : decide (xe < 0) = false := decide_eq_false h1
 by_cases h2 : (ne : Int) ≤ xe
 case pos =>
  have h2d : decide (xe ≥ (ne : Int)) = true := decide_eq_true h2
  have H2 := Lib.hid h2
  clear h1 h2
  go_wp2_with fail
  go_ret
  exact ⟨1, rfl, .inl ⟨.inr H2.out, rfl⟩, hb02⟩
 case neg =>
 have h2d : decide (xe ≥ (ne : Int)) = false := decide_eq_false h2
 have HIN := Lib.hid (show ¬ (xe < 0 ∨ (ne : Int) ≤ xe) by omega)
 clear h1 h2
 go_wp2_with (show wpList _ _ _ (Oper.mk (some 20) _ _ _ _ _ :: _) _ _; refine wpList_load_row_g rfl 53 (.tmp 2) rfl (w.heap.size) rfl _ _ _ _ HH2.out Tryz.underlying53 rfl HLI.out ?_)
 refine (HUN.out W2 hb02).mono ?_
 rintro e w3 ⟨last, hm, hlo, rfl, hb3⟩
 have HMP := Lib.hid hm
 have HLO := Lib.hid hlo
 have hb03 := hb02.trans (hb3.mono hb02.size)
 have hs3 := hb3.size
 have LT03 := Nat.lt_of_lt_of_le LT02 hs3
 have LT13 := Nat.lt_of_lt_of_le LT12 hs3
 have HH3 := Lib.hid ((hb3.block _ LT02).trans HH2.out)
 have HZ3 := Lib.hid ((hb3.block _ LT12).trans HZ2.out)
 clear c20 e1 h1d h2d hm hlo
 have e2 := blk_cell HZ3.out 2
 obtain ⟨dd, hdd⟩ : ∃ d, untD g.calendar.year g.calendar.month g.calendar.periods last = d := ⟨_, rfl⟩
 have HDD := Lib.hid hdd
 rw [hdd]
 clear hdd
 by_cases h3 : 0 ≤ last
 case neg =>
  have h3d : decide (0 ≤ last) = false := decide_eq_false h3
  rw [h3d]
  have H3 := Lib.hid h3
  clear h3 h3d
  go_wp2_with fail
  go_ret
  exact ⟨0, rfl, .inr ⟨last, HMP.out, HLO.out, by unfold chkL; rw [if_neg HIN.out, if_neg (fun h => absurd h.1 (by have := H3.out; omega))]⟩, hb03⟩
 case pos =>
 have h3d : decide (0 ≤ last) = true := decide_eq_true h3
 rw [h3d]
 have H3 := Lib.hid h3
 clear h3 h3d
 by_cases h4 : xd ≤ dd
 case pos =>
  have h4d : decide (xd ≤ dd) = true := decide_eq_true h4
  have H4 := Lib.hid h4
  clear h4
  go_wp2_with fail
  go_ret
  exact ⟨12, rfl, .inr ⟨last, HMP.out, HLO.out, by unfold chkL; rw [if_neg HIN.out, HDD.out, if_pos ⟨H3.out, H4.out⟩]⟩, hb03⟩
 case neg =>
  have h4d : decide (xd ≤ dd) = false := decide_eq_false h4
  have H4 := Lib.hid h4
  clear h4
  go_wp2_with fail
  go_ret
  exact ⟨0, rfl, .inr ⟨last, HMP.out, HLO.out, by unfold chkL; rw [if_neg HIN.out, HDD.out, if_neg (fun h => absurd h.2 (by have := H4.out; omega))]⟩, hb03⟩
theorem GroupC.locks {w : World} {Q : Nat → Prop} {cs : List Value} {g : XGroup} (h : GroupC w Q cs g) : Tryz.prog.built 53 [(0, .agg cs.toArray)] = some (cs ++ ([.slice none 0 0] : List Value)).toArray := by
 obtain ⟨Ac, cc, Ae, ce, e, _⟩ := h.lit
 subst e
 kernel_rfl
def RNewPost (g : XGroup) (gl : List Value) (w : World) (e : Ending) (w' : World) : Prop := Below w.heap.size w w' ∧
 ((groupB g = false ∧ ∃ ll : List Value, e = .returned (.tuple #[.agg ll.toArray, .int .i64 1]) ∧ ll.length = 22 ∧ ll.toArray.all (·.oneCell') = true) ∨
  (groupB g = true ∧ e = .returned (.tuple #[.agg (gl ++ ([.slice none 0 0] : List Value)).toArray, .int .i64 0])))
set_option maxHeartbeats 4000000 in
theorem rnew13_c (g : XGroup) (gl : List Value) (w : World) (hg : GroupC w (· < w.heap.size) gl g) (hsm : smallG g) : Calls Tryz.prog 13 #[.agg gl.toArray] w (RNewPost g gl w) := by
 have HVAL := Lib.hid (rgroup_v hg hsm)
 have HGS := Lib.hid (show gl.toArray.size = 21 by have := hg.len; simpa using this)
 have HBU := Lib.hid hg.locks
 have HG := Lib.hid hg
 obtain ⟨BL, hBL⟩ : ∃ BL, (gl ++ ([.slice none 0 0] : List Value)) = BL := ⟨_, rfl⟩
 have HBLE := Lib.hid hBL
 rw [hBL] at HBU
 have HRL := Lib.hid (fun (w2 : World) (hb : Below w.heap.size w w2) => show RLk w2 (· < w2.heap.size) BL g [] from ⟨gl, none, 0, hBL.symm, hg.keep hb, none, 0, rfl, by simp, by simp [maxLen], fun h => absurd h (by simp)⟩)
 have HSZ := Lib.hid (show BL.toArray.size = 22 by rw [← hBL]; have := hg.len; simp; omega)
 have HON := Lib.hid (HRL.out w (Below.refl _ _)).one
 have HLI := Lib.hid (show (Tryz.prog.info? 53).map (·.size) = some BL.toArray.size by rw [info_locks, HSZ.out])
 obtain ⟨b, hb⟩ : ∃ b, groupB g = b := ⟨_, rfl⟩
 have HB := Lib.hid hb
 rw [hb] at HVAL
 clear hg hsm hb hBL
 go_enter Tryz.func13, Tryz.ntmps13
 go_upto_region 1 with fail
 have H := heap_alloc_new w (.cells gl.toArray 29)
 have HB := below1 w (.cells gl.toArray 29)
 have HS := blk_lt H
 generalize hW : w.alloc (Obj.cells gl.toArray 29) = W at *
 have H2 := heap_alloc_new W (.cells #[.string ⟨#[]⟩, .int .i64 0, .int .i64 0, .int .i64 0, .slice none 0 0, .int .i64 0, .int .i64 0, .int .i64 0, .int .i64 0, .int .i64 0, .int .i64 0, .int .i64 0, .int .i64 0, .int .i64 0, .int .i64 0, .int .i64 0, .int .i64 0, .int .i64 0, .int .i64 0, .int .i64 0, .slice none 0 0, .slice none 0 0] 53)
 have HB2 := below1 W (.cells #[.string ⟨#[]⟩, .int .i64 0, .int .i64 0, .int .i64 0, .slice none 0 0, .int .i64 0, .int .i64 0, .int .i64 0, .int .i64 0, .int .i64 0, .int .i64 0, .int .i64 0, .int .i64 0, .int .i64 0, .int .i64 0, .int .i64 0, .int .i64 0, .int .i64 0, .int .i64 0, .int .i64 0, .slice none 0 0, .slice none 0 0] 53)
 have HS2 := blk_lt H2
 replace H := alloc_keep H (Obj.cells #[.string ⟨#[]⟩, .int .i64 0, .int .i64 0, .int .i64 0, .slice none 0 0, .int .i64 0, .int .i64 0, .int .i64 0, .int .i64 0, .int .i64 0, .int .i64 0, .int .i64 0, .int .i64 0, .int .i64 0, .int .i64 0, .int .i64 0, .int .i64 0, .int .i64 0, .int .i64 0, .int .i64 0, .slice none 0 0, .slice none 0 0] 53)
 generalize hW2 : W.alloc (Obj.cells #[.string ⟨#[]⟩, .int .i64 0, .int .i64 0, .int .i64 0, .slice none 0 0, .int .i64 0, .int .i64 0, .int .i64 0, .int .i64 0, .int .i64 0, .int .i64 0, .int .i64 0, .int .i64 0, .int .i64 0, .int .i64 0, .int .i64 0, .int .i64 0, .int .i64 0, .int .i64 0, .int .i64 0, .slice none 0 0, .slice none 0 0] 53) = W2 at *
 clear hW2
 have eW : W.heap.size = w.heap.size + 1 := by rw [← hW]; simp
 rw [eW] at H2
 clear hW
 have hb2 := HB.trans (HB2.mono HB.size)
 have hs2 := HB2.size
 have LT1 := blk_lt H2
 have LT0 : w.heap.size < W2.heap.size := by omega
 have HH := Lib.hid H
 have HZ := Lib.hid H2
 have EW := Lib.hid eW
 clear H H2 eW
 have hb02 := hb2
 have LT02 := LT0
 have LT12 := LT1
 have HH2 := HH
 have HZ2 := HZ
 go_wp2_with (show wpList _ _ _ (Oper.mk (some 4) _ _ _ _ _ :: _) _ _; refine wpList_load_row_g rfl 29 (.tmp 1) rfl (w.heap.size) rfl _ _ _ _ HH2.out Tryz.underlying29 rfl (by rw [info_group]; exact congrArg some HGS.out.symm) ?_)
 refine (HVAL.out W2 hb02).mono ?_
 rintro e w3 ⟨rfl, hb3⟩
 have hb03 := hb02.trans (hb3.mono hb02.size)
 have hs3 := hb3.size
 have LT03 := Nat.lt_of_lt_of_le LT02 hs3
 have LT13 := Nat.lt_of_lt_of_le LT12 hs3
 have HH3 := Lib.hid ((hb3.block _ LT02).trans HH2.out)
 have HZ3 := Lib.hid ((hb3.block _ LT12).trans HZ2.out)
 cases b with
 | false =>
  have hf := HB.out
  go_wp2_with (show wpList _ _ _ (Oper.mk none (Op.store _ (Operand.tmp 2) _) _ _ _ _ :: _) _ _; refine wpList_store_row rfl 53 (.tmp 2) (.tmp 7) rfl (w.heap.size + 1) #[.string ⟨#[]⟩, .int .i64 0, .int .i64 0, .int .i64 0, .slice none 0 0, .int .i64 0, .int .i64 0, .int .i64 0, .int .i64 0, .int .i64 0, .int .i64 0, .int .i64 0, .int .i64 0, .int .i64 0, .int .i64 0, .int .i64 0, .int .i64 0, .int .i64 0, .int .i64 0, .int .i64 0, .slice none 0 0, .slice none 0 0] rfl rfl 53 #[.string ⟨#[]⟩, .int .i64 0, .int .i64 0, .int .i64 0, .slice none 0 0, .int .i64 0, .int .i64 0, .int .i64 0, .int .i64 0, .int .i64 0, .int .i64 0, .int .i64 0, .int .i64 0, .int .i64 0, .int .i64 0, .int .i64 0, .int .i64 0, .int .i64 0, .int .i64 0, .int .i64 0, .slice none 0 0, .slice none 0 0] HZ3.out (by rw [info_locks]; rfl) rfl (by simp [Value.oneCell']) ?_)
  refine bodyPost_ret (v := .tuple #[.agg ([.string ⟨#[]⟩, .int .i64 0, .int .i64 0, .int .i64 0, .slice none 0 0, .int .i64 0, .int .i64 0, .int .i64 0, .int .i64 0, .int .i64 0, .int .i64 0, .int .i64 0, .int .i64 0, .int .i64 0, .int .i64 0, .int .i64 0, .int .i64 0, .int .i64 0, .int .i64 0, .int .i64 0, .slice none 0 0, .slice none 0 0] : List Value).toArray, .int .i64 1]) (results_cell_tmp rfl _ _ (w.heap.size + 1) 53 _ (0, 0) _ rfl (heap_setRow HZ3.out _) Tryz.underlying53 rfl (by rw [info_locks]; rfl) _ rfl) rfl ?_
  exact ⟨below_setRow (g := w.heap.size + 1) hb03 (by omega) _, .inl ⟨hf, _, rfl, rfl, by simp [Value.oneCell']⟩⟩
 | true =>
  have hf := HB.out
  go_wp2_with (first | (show wpList _ _ _ (Oper.mk (some 8) _ _ _ _ _ :: _) _ _; refine wpList_load_row_g rfl 29 (.tmp 1) rfl (w.heap.size) rfl _ _ _ _ HH3.out Tryz.underlying29 rfl (by rw [info_group]; exact congrArg some HGS.out.symm) ?_) | (show wpList _ _ _ (Oper.mk (some 9) _ _ _ _ _ :: _) _ _; go_loud (refine wpList_built rfl 53 _ rfl [(0, .agg gl.toArray)] (by simp [Act.eval, Act.put]) BL.toArray HBU.out ?_)) | (show wpList _ _ _ (Oper.mk none (Op.store _ (Operand.tmp 2) _) _ _ _ _ :: _) _ _; refine wpList_store_row rfl 53 (.tmp 2) (.tmp 9) rfl (w.heap.size + 1) BL.toArray rfl rfl 53 #[.string ⟨#[]⟩, .int .i64 0, .int .i64 0, .int .i64 0, .slice none 0 0, .int .i64 0, .int .i64 0, .int .i64 0, .int .i64 0, .int .i64 0, .int .i64 0, .int .i64 0, .int .i64 0, .int .i64 0, .int .i64 0, .int .i64 0, .int .i64 0, .int .i64 0, .int .i64 0, .int .i64 0, .slice none 0 0, .slice none 0 0] HZ3.out HLI.out (by rw [HSZ.out]; rfl) HON.out ?_))
  refine bodyPost_ret (v := .tuple #[.agg BL.toArray, .int .i64 0]) (results_cell_tmp rfl _ _ (w.heap.size + 1) 53 _ (0, 0) _ rfl (heap_setRow HZ3.out _) Tryz.underlying53 rfl HLI.out _ rfl) rfl ?_
  have hb9 := below_setRow (g := w.heap.size + 1) hb03 (by omega) BL.toArray
  exact ⟨hb9, .inr ⟨hf, by rw [HBLE.out]⟩⟩
end Go.Proofs.YtekelchdbkjjjaaGreat
