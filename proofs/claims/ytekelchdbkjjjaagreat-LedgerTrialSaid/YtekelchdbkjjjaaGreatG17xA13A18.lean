/- The example of the document for the ledger: awake. Written by gen_a13.py. -/
import Derived.Test.YtekelchdbkjjjaaGreatG17xB0B2
import Derived.Test.YtekelchdbkjjjaaGreatG17xB3B8
import Derived.Test.YtekelchdbkjjjaaGreatG17xB9B13
import Derived.Test.YtekelchdbkjjjaaGreatG17xB14
import Derived.Test.YtekelchdbkjjjaaGreatG17xB16
import Derived.Test.YtekelchdbkjjjaaGreatG17xB17B24
import Derived.Test.YtekelchdbkjjjaaGreatG17xB25B28
import Derived.Test.YtekelchdbkjjjaaGreatG17xB29B32
import Derived.Test.YtekelchdbkjjjaaGreatG17xB33S2
import Derived.Test.YtekelchdbkjjjaaGreatG17xS3C3
import Derived.Test.YtekelchdbkjjjaaGreatG17xC4E3
import Derived.Test.YtekelchdbkjjjaaGreatG17xE4E5
import Derived.Test.YtekelchdbkjjjaaGreatG17xE6F1
import Derived.Test.YtekelchdbkjjjaaGreatG17xF2I7
import Derived.Test.YtekelchdbkjjjaaGreatG17xI8I11
import Derived.Test.YtekelchdbkjjjaaGreatG17xI12
import Derived.Test.YtekelchdbkjjjaaGreatG17xI13I15
import Derived.Test.YtekelchdbkjjjaaGreatG17xI16
import Derived.Test.YtekelchdbkjjjaaGreatG17xI19Q2
import Derived.Test.YtekelchdbkjjjaaGreatG17xK1A5
import Derived.Test.YtekelchdbkjjjaaGreatG17xA6A12
import Derived.Test.YtekelchdbkjjjaaGreatProg
import Derived.OrdersIn
import Derived.RangeFuncCalls
import Derived.OwnWalkIn
import Derived.Great.BuildSlice
import Derived.Sort.CutIn
set_option linter.unusedVariables false
set_option linter.unusedSimpArgs false
set_option maxRecDepth 4000
attribute [local go_sem ↓] Go.wp_at_zero Go.wp_at_succ
namespace Go.Proofs.YtekelchdbkjjjaaGreat
open Go Go.RowKit
def aw14L : List XLine := [⟨10, 100, -1⟩, ⟨100, -100, -1⟩]
def aw14 : XEntry := ⟨1, 0, 20454, 1, 0, ⟨#[]⟩, aw14L⟩
theorem aw14_bd : ∀ x ∈ aw14L, lineBd x := by
 show ∀ x ∈ aw14L, intBd x.account ∧ intBd x.amount ∧ intBd x.partner
 decide
theorem aw14_first : calFirst 2026 1 36 0 = (20454, 0) := by decide +kernel
theorem aw14_post : postE sampleG [] aw14 = 0 := by decide +kernel
theorem aw14_valid : validJ sampleG [aw14] := ⟨sample_valid, fun k hk => by
 have : k = 0 := by simp at hk; omega
 subst this
 exact aw14_post⟩
theorem aw14_chk : BChk sampleG [aw14] 0 (-4611686018427387904) 100 true 0 := .inr ⟨aw14_valid, by decide +kernel⟩
theorem aw14_sum : sumE (qB 20454) [aw14] 0 100 = -100 := by decide +kernel
theorem entry_lay {w W : World} {T : TypeId} {x : XEntry} {cs : List Value} (hW : W.heap[w.heap.size]? = some (.cells cs.toArray T (0, 0))) (hx : EntryC W (· < W.heap.size) cs x) (hs : cs.length = 7) : ListC EntryC 7 W (· < W.heap.size) [.slice (some ⟨w.heap.size, 0, none⟩) 1 1] [x] :=
 ⟨_, _, rfl, Nat.le_refl _, by unfold maxLen; decide, fun _ => ⟨w.heap.size, 0, rfl, blk_lt hW, fun i y hi => by
  have hi0 : i = 0 := by
   have := (List.getElem?_eq_some_iff.1 hi).1
   simp at this
   exact this
  subst hi0
  simp at hi
  subst hi
  exact ⟨cs, hx, by simpa using box_at hW⟩⟩⟩
set_option maxHeartbeats 4000000 in
theorem awake14_c (w : World) : Calls Tryz.prog 5 #[] w (Quiet w (.bool true)) := by
 go_enter Tryz.func5, Tryz.ntmps5
 go_wp2_with fail
 refine (sample_c w).mono ?_
 rintro e w2 ⟨vs, rfl, hg, hb2⟩
 have hone : vs.toArray.all (·.oneCell') = true := by rw [List.all_toArray, List.all_eq_true]; exact grp_one hg
 have HGS := Lib.hid (show vs.toArray.size = 21 by simpa using hg.len)
 have HONE := Lib.hid hone
 have HG := Lib.hid hg
 obtain ⟨_, _, _, _, _, _, _, k1, k2, k3, _, _⟩ := hg.view
 have K1 := Lib.hid (show vs[1]? = some (.int .i64 2026) from k1)
 have K2 := Lib.hid (show vs[2]? = some (.int .i64 1) from k2)
 have K3 := Lib.hid (show vs[3]? = some (.int .i64 36) from k3)
 clear hg hone k1 k2 k3
 go_upto_region 2 with (show wpList _ _ _ (Oper.mk none (Op.store _ (Operand.tmp 1) _) _ _ _ _ :: _) _ _; refine wpList_store_fresh3 rfl 29 (.tmp 1) (.tmp 7) rfl rfl w2 #[.string ⟨#[]⟩, .int .i64 0, .int .i64 0, .int .i64 0, .slice none 0 0, .int .i64 0, .int .i64 0, .int .i64 0, .int .i64 0, .int .i64 0, .int .i64 0, .int .i64 0, .int .i64 0, .int .i64 0, .int .i64 0, .int .i64 0, .int .i64 0, .int .i64 0, .int .i64 0, .int .i64 0, .slice none 0 0] 29 vs.toArray rfl rfl rfl (by rw [info_group]; exact congrArg some HGS.out.symm) HGS.out.symm HONE.out ?_; intro w3 H3 HB3 HS3)
 have HK3 := Lib.hid H3
 have HB03 := Lib.hid (hb2.trans (HB3.mono hb2.size))
 have HCR := Lib.hid (cal_range H3 K1.out K2.out K3.out)
 have HG3 := Lib.hid (HG.out.keep HB3)
 clear H3 HB3 hb2
 go_wp2_with (show wpList _ _ _ (Oper.mk (some 10) _ _ _ _ _ :: _) _ _; refine wpList_load_mid rfl 23 (.tmp 9) rfl w2.heap.size 1 rfl [.int .i64 2026, .int .i64 1, .int .i64 36] _ HCR.out Tryz.underlying23 rfl info_cal ?_)
 refine (rcalFirst_c 2026 1 36 0 w3).mono ?_
 rintro e w5 ⟨rfl, hb5⟩
 rw [aw14_first]
 have HB05 := Lib.hid (HB03.out.trans (hb5.mono HB03.out.size))
 have HK5 := Lib.hid ((hb5.block _ (blk_lt HK3.out)).trans HK3.out)
 have HG5 := Lib.hid (HG3.out.keep hb5)
 clear hb5
 go_upto_region 4 with fail
 have H6 := heap_alloc_new w5 (.cells #[.int .i64 10, .int .i64 100, .int .i64 (-1), .int .i64 100, .int .i64 (-100), .int .i64 (-1)] 76)
 have HB6 := below1 w5 (.cells #[.int .i64 10, .int .i64 100, .int .i64 (-1), .int .i64 100, .int .i64 (-100), .int .i64 (-1)] 76)
 have es6 : (w5.alloc (.cells #[.int .i64 10, .int .i64 100, .int .i64 (-1), .int .i64 100, .int .i64 (-100), .int .i64 (-1)] 76)).heap.size = w5.heap.size + 1 := by simp
 generalize w5.alloc (.cells #[.int .i64 10, .int .i64 100, .int .i64 (-1), .int .i64 100, .int .i64 (-100), .int .i64 (-1)] 76) = w6 at *
 have HL6 := Lib.hid (lines_lay aw14L aw14_bd (by decide) w5 w6 _ _ rfl H6)
 have H7 := heap_alloc_new w6 (.cells #[.int .i64 1, .int .i64 0, .int .i64 20454, .int .i64 1, .int .i64 0, .string ⟨#[]⟩, .slice (some ⟨w5.heap.size, 0, none⟩) 2 2] 46)
 have HB7 := below1 w6 (.cells #[.int .i64 1, .int .i64 0, .int .i64 20454, .int .i64 1, .int .i64 0, .string ⟨#[]⟩, .slice (some ⟨w5.heap.size, 0, none⟩) 2 2] 46)
 rw [es6] at H7
 generalize w6.alloc (.cells #[.int .i64 1, .int .i64 0, .int .i64 20454, .int .i64 1, .int .i64 0, .string ⟨#[]⟩, .slice (some ⟨w5.heap.size, 0, none⟩) 2 2] 46) = w7 at *
 have hb57 := HB6.trans (HB7.mono HB6.size)
 have HB07 := Lib.hid (HB05.out.trans (hb57.mono HB05.out.size))
 have HG7 := Lib.hid (HG5.out.keep hb57)
 have HK7 := Lib.hid ((hb57.block _ (blk_lt HK5.out)).trans HK5.out)
 have HX7 := Lib.hid H7
 have HL7 := Lib.hid (lines_keep HL6.out HB7)
 clear H6 HB6 es6 H7 HB7 hb57 HL6
 go_upto_region 5 with (first | (show wpList _ _ _ (Oper.mk (some 20) _ _ _ _ _ :: _) _ _; refine wpList_load_row_g rfl 29 (.tmp 1) rfl (w2.heap.size) rfl _ _ _ _ HK7.out Tryz.underlying29 rfl (by rw [info_group]; exact congrArg some HGS.out.symm) ?_) | (show wpList _ _ _ (Oper.mk (some 21) _ _ _ _ _ :: _) _ _; refine wpList_load_row_g rfl 46 (.tmp 4) rfl (w5.heap.size + 1) rfl _ _ _ _ HX7.out Tryz.underlying46 rfl info_entry ?_))
 have H8 := heap_alloc_new w7 (.cells #[.int .i64 1, .int .i64 0, .int .i64 20454, .int .i64 1, .int .i64 0, .string ⟨#[]⟩, .slice (some ⟨w5.heap.size, 0, none⟩) 2 2] 46)
 have HB8 := below1 w7 (.cells #[.int .i64 1, .int .i64 0, .int .i64 20454, .int .i64 1, .int .i64 0, .string ⟨#[]⟩, .slice (some ⟨w5.heap.size, 0, none⟩) 2 2] 46)
 generalize w7.alloc (.cells #[.int .i64 1, .int .i64 0, .int .i64 20454, .int .i64 1, .int .i64 0, .string ⟨#[]⟩, .slice (some ⟨w5.heap.size, 0, none⟩) 2 2] 46) = w8 at *
 have hx := EntryC.mk (w := w8) (Q := (· < w8.heap.size)) (x := aw14) (A := some ⟨w5.heap.size, 0, none⟩) (c := 2) (by show intBd 1 ∧ intBd 0 ∧ intBd 20454 ∧ intBd 1 ∧ intBd 0; unfold intBd; omega) (lines_keep HL7.out HB8)
 have hb := balance_c sampleG [aw14] vs (some ⟨w7.heap.size, 0, none⟩) 1 0 100 20454 w8 (HG7.out.keep HB8) (entry_lay H8 hx rfl) sample_small ⟨by intro x hx; simp at hx; subst hx; decide, by simp⟩ (by simp) (by unfold intBd; omega)
 have HBAL := Lib.hid hb
 have HB08 := Lib.hid (HB07.out.trans (HB8.mono HB07.out.size))
 clear hb hx H8 HB8
 refine HBAL.out.mono ?_
 rintro e w9 ⟨r, rfl, hr, hb9⟩
 obtain rfl : r = 0 := hr.uniq aw14_chk
 rw [if_pos rfl, aw14_sum]
 have HB09 := Lib.hid (HB08.out.trans (hb9.mono HB08.out.size))
 clear hr hb9
 go_wp2_with fail
 go_ret
 exact ⟨rfl, HB09.out⟩
theorem few_modest {g : XGroup} {l : List XEntry} (h : fewJ g l) : modest l := ⟨fun x hx => by have h1 := h.1 x hx; have h2 := h1.1; have h3 := h1.2.1; omega, by have := h.2.1; omega⟩
section
variable {H : Type} {enc : TypeId × Value → H} {W : World}
theorem opPlace : Opens enc W 32 (CalC W (· < W.heap.size)) szCal := fun fuel cs x h hfz hz => by
 obtain ⟨xs, n, _, rfl, hcl, hxl, hf⟩ := DataW.trod_struct Tryz.underlying32 h
 have hcl2 : cs.length = 3 := hcl.trans (by kernel_rfl)
 have hw : ∀ (j : Nat) (t : TypeId) (y : DataW H × List MemPlace), ([3, 3, 3] : List TypeId)[j]? = some t → xs[j]? = some y → ∀ n ∈ y.1.weights Tryz.prog t, n ≤ reachBytes := fun j t y ht hy n hn => hz n (by
  simp only [DataW.weights, Tryz.underlying32]
  exact DataW.weights_mem_each (j := j) (t := t) (d := y.1) ht (by rw [List.getElem?_map, hy]; rfl) n hn)
 have h0 := hf 0 _ rfl
 obtain ⟨y0, hy0⟩ : ∃ y, xs[0]? = some y := ⟨_, List.getElem?_eq_getElem (by rw [hxl]; decide)⟩
 obtain ⟨a0, q0, z0⟩ := opInt _ _ _ (h0.trans hy0) (fun b off hb => hfz b off (List.mem_flatMap.2 ⟨y0, List.mem_of_getElem? hy0, hb⟩)) (hw 0 _ y0 rfl hy0)
 have h1 := hf 1 _ rfl
 obtain ⟨y1, hy1⟩ : ∃ y, xs[1]? = some y := ⟨_, List.getElem?_eq_getElem (by rw [hxl]; decide)⟩
 obtain ⟨a1, q1, z1⟩ := opInt _ _ _ (h1.trans hy1) (fun b off hb => hfz b off (List.mem_flatMap.2 ⟨y1, List.mem_of_getElem? hy1, hb⟩)) (hw 1 _ y1 rfl hy1)
 have h2 := hf 2 _ rfl
 obtain ⟨y2, hy2⟩ : ∃ y, xs[2]? = some y := ⟨_, List.getElem?_eq_getElem (by rw [hxl]; decide)⟩
 obtain ⟨a2, q2, z2⟩ := opInt _ _ _ (h2.trans hy2) (fun b off hb => hfz b off (List.mem_flatMap.2 ⟨y2, List.mem_of_getElem? hy2, hb⟩)) (hw 2 _ y2 rfl hy2)
 refine ⟨⟨a0, a1, a2⟩, ⟨_, _, _, ?_, q0, q1, q2⟩, trivial⟩
 have e0 : (cs.drop 0).take (Tryz.prog.cellsOf 3) = (cs.drop 0).take 1 := by rw [show Tryz.prog.cellsOf 3 = 1 from by kernel_rfl]
 have e1 : (cs.drop 1).take (Tryz.prog.cellsOf 3) = (cs.drop 1).take 1 := by rw [show Tryz.prog.cellsOf 3 = 1 from by kernel_rfl]
 have e2 : (cs.drop 2).take (Tryz.prog.cellsOf 3) = (cs.drop 2).take 1 := by rw [show Tryz.prog.cellsOf 3 = 1 from by kernel_rfl]
 show cs = (cs.drop 0).take (Tryz.prog.cellsOf 3) ++ (cs.drop 1).take (Tryz.prog.cellsOf 3) ++ (cs.drop 2).take (Tryz.prog.cellsOf 3)
 rw [e0, e1, e2]
 have z : cs = cs.drop 0 := rfl
 have t0 := take_drop_one cs 0 1
 have t1 := take_drop_one cs 1 1
 have t2 := take_drop_one cs 2 1
 have tn : cs.drop 3 = [] := List.drop_eq_nil_of_le (by omega)
 simp only [Nat.reduceAdd] at t0 t1 t2
 have r2 := t2.trans (by rw [tn, List.append_nil])
 have r1 := t1.trans (congrArg (_ ++ ·) r2)
 have r0 := t0.trans (congrArg (_ ++ ·) r1)
 refine z.trans (r0.trans ?_)
 simp only [List.append_assoc]
end
theorem wp_round {P : Program} {o : Oper} (hnd : ∀ c, o.op ≠ .defer c) {l n : Nat} {a : Act} {w : World} {K : Act → World → Prop} {Q : Exit → Act → World → Prop} (h : o.wp P a w K Q) : o.wpIn (Fence.wide.inRound l) n P a w K Q := by
 refine ⟨fun f _ => trivial, ?_⟩
 rw [Oper.semAt_plain _ _ _ hnd]
 unfold Oper.wp at h
 generalize (execOp a.eval o).run P w = r at *
 cases r with
 | ok nx w' =>
  cases nx with
  | enter f args => exact ⟨fun hd => (by cases hd), CallsIn.inRound l (callsIn_wide.2 h)⟩
  | row row args => exact ⟨fun hd => (by cases hd), fun c cs _ => by
   obtain ⟨v, w2, h1, h2⟩ := h c cs
   exact ⟨v, w2, h1, stepsIn_wide.2 h2⟩⟩
  | value v => exact h
  | skip => exact h
  | defer d => exact h
  | _ => exact h.elim
 | halt hl w' =>
  cases hl with
  | panic v => exact h
  | _ => exact h.elim
def noDefer (ops : Array Oper) : Bool := ops.toList.all fun o => match o.op with | .defer _ => false | _ => true
theorem noDefer_at {ops : Array Oper} (h : noDefer ops = true) {i : Nat} {o : Oper} (hi : ops[i]? = some o) (c : Call) : o.op ≠ .defer c := fun e => by
 unfold noDefer at h
 rw [List.all_eq_true] at h
 have := h o (by simpa using Array.mem_of_getElem? hi)
 rw [e] at this
 cases this
theorem any_round {P : Program} {md : Region.Mode} {ops : Array Oper} {Q : Exit → Act → World → Prop} {l n : Nat} (hnd : noDefer ops = true) (hlo : ¬ LetsOut Q) : ∀ (fuel : Nat) (listed : Array Bool) (a : Act) (w : World), wpAny P md ops Q fuel listed a w → wpAnyIn (Fence.wide.inRound l) n P md ops Q fuel listed a w
 | 0, _, _, _, h => h
 | fuel + 1, listed, a, w, h => ⟨h.1, fun i hi => by
  have h2 := h.2 i hi
  refine wpOpIn_mono (fun a w => any_round hnd hlo fuel _ a w) ?_
  unfold wpOp at h2
  unfold wpOpIn
  cases ho : ops[i]? with
  | none => rw [ho] at h2; exact h2
  | some o =>
   rw [ho] at h2
   simp only at h2 ⊢
   split
   · rename_i hw
     rw [if_pos hw] at h2
     rcases h2 with h2 | h2
     · exact wp_round (fun c => noDefer_at hnd ho c) h2
     · exact absurd h2.2 hlo
   · rename_i hw
     rw [if_neg hw] at h2
     exact ⟨fun f _ => trivial, h2⟩⟩
theorem Inv.withS {md : Region.Mode} {ops : Array Oper} {V : Nat → Value → World → Prop} {S S' : World → Prop} {a0 : Act} {listed : Array Bool} {a : Act} {w : World} (hI : Inv md ops V S a0 listed a w) (h : S' w) : Inv md ops V S' a0 listed a w :=
 ⟨hI.lsize, h, hI.defers, hI.size, hI.closed, hI.got, hI.old⟩
theorem Inv.waits {md : Region.Mode} {ops : Array Oper} {V : Nat → Value → World → Prop} {S : World → Prop} {a0 : Act} {listed : Array Bool} {a : Act} {w : World} (hI : Inv md ops V S a0 listed a w) {i : Nat} (hnd : ¬ Done listed i) (j : Nat) {oj : Oper} (hj : ops[j]? = some oj) (h : (oj.after.toList.any fun e => Region.binds md e && e.on == i) = true) : listed.getD j false = false := by
 cases hd : listed.getD j false with
 | false => rfl
 | true =>
  simp only [List.any_eq_true, Bool.and_eq_true, beq_iff_eq] at h
  obtain ⟨e, he, hb, rfl⟩ := h
  exact absurd (hI.closed j oj hj hd e (by simpa using he) hb) hnd
theorem wpAny_invL {P : Program} {md : Region.Mode} {ops : Array Oper} {Q : Exit → Act → World → Prop} {V : Nat → Value → World → Prop} {S : Array Bool → World → Prop} {a0 : Act}
 (hord : ∀ (i : Nat) (o : Oper), ops[i]? = some o → ∀ e ∈ o.after, e.on < i)
 (hdst : ∀ (i j : Nat) (oi oj : Oper) (d : Nat), ops[i]? = some oi → ops[j]? = some oj → oi.dst = some d → oj.dst = some d → i = j)
 (hlt : ∀ (i : Nat) (o : Oper) (d : Nat), ops[i]? = some o → o.dst = some d → d < a0.tmps.size)
 (hstep : ∀ i o, ops[i]? = some o → ∀ listed a w, Inv md ops V (S listed) a0 listed a w → (∀ e ∈ o.after, Region.binds md e = true → Done listed e.on) → ¬ Done listed i →
  ∀ K : Act → World → Prop, (∀ v w', S (listed.setIfInBounds i true) w' → V i v w' → (∀ j u, V j u w → V j u w') → K (a.put o.dst v) w') → if Region.wanted o (yielded ops a.tmps) = true then o.wp P a w K Q else K (a.put o.dst undef) w)
 (hend : ∀ listed a w, Inv md ops V (S listed) a0 listed a w → (∀ i, i < ops.size → Done listed i) → Q .normal a w) :
 ∀ fuel listed a w, Inv md ops V (S listed) a0 listed a w → left ops.size listed ≤ fuel → wpAny P md ops Q fuel listed a w
 | 0, listed, a, w, hI, hf => by
  have hr : Region.ready md ops listed = [] := by
   rw [List.eq_nil_iff_forall_not_mem]
   intro i hi
   obtain ⟨h1, o, h2, _⟩ := mem_ready.1 hi
   have := left_set hI.lsize (Array.getElem?_eq_some_iff.1 h2).1 h1
   omega
  exact ⟨hr, hend listed a w hI (fun i hi => all_done hI.lsize hord hr (i + 1) i (by omega) hi)⟩
 | fuel + 1, listed, a, w, hI, hf => by
  refine ⟨fun hr => hend listed a w hI (fun i hi => all_done hI.lsize hord hr (i + 1) i (by omega) hi), fun i hi => ?_⟩
  obtain ⟨h1, o, h2, h3⟩ := mem_ready.1 hi
  have hsz : i < ops.size := (Array.getElem?_eq_some_iff.1 h2).1
  have hnd : ¬ Done listed i := by
   unfold Done
   rw [← getD_tf (by rw [hI.lsize]; exact hsz), h1]
   simp
  refine wpOp_step h2 (fun K hK => hstep i o h2 listed a w hI h3 hnd K (fun v w' hS hv hst => hK _ _ ?_))
  refine wpAny_invL hord hdst hlt hstep hend fuel _ _ _ ((Inv.step (hI.withS (S' := fun _ => True) trivial) hdst hlt h2 h3 trivial hv hst).withS hS) ?_
  have := left_set hI.lsize hsz h1
  omega
def OpStepL (P : Program) (md : Region.Mode) (ops : Array Oper) (Q : Exit → Act → World → Prop) (V : Nat → Value → World → Prop) (S : Array Bool → World → Prop) (a0 : Act) (i : Nat) (o : Oper) : Prop :=
 ∀ listed a w, Inv md ops V (S listed) a0 listed a w → (∀ e ∈ o.after, Region.binds md e = true → Done listed e.on) → ¬ Done listed i →
  ∀ K : Act → World → Prop, Shut (∀ v w', S (listed.setIfInBounds i true) w' → V i v w' → (∀ j u, V j u w → V j u w') → K (a.put o.dst v) w') → if Region.wanted o (yielded ops a.tmps) = true then o.wp P a w K Q else K (a.put o.dst undef) w
theorem wpIn_region_invL {P : Program} {ops : Array Oper} {Q : Exit → Act → World → Prop} {l n : Nat} (V : Nat → Value → World → Prop) (S : Array Bool → World → Prop) {id : Nat} {a : Act} {w : World}
 (hm : P.follows .mixedOrders = true) (ho : ordB ops = true) (hd : dstB ops a.tmps.size = true) (hnf : noDefer ops = true) (hlo : ¬ LetsOut Q) (hS : S (Array.replicate ops.size false) w.drew)
 (hstep : AllOps (OpStepL P .any ops Q V S a) 0 ops.toList)
 (hend : ∀ listed a' w', Inv .any ops V (S listed) a listed a' w' → (∀ i, i < ops.size → Done listed i) → Q .normal a' w') : (Code.region id ops true).wpIn (Fence.wide.inRound l) n P Q a w := by
 refine wpIn_region_any hm (any_round hnf hlo _ _ _ _ (wpAny_invL (V := V) (S := S) (a0 := a) (ordB_spec ho) (fun i j oi oj d hi hj hid hjd => (dstB_spec hd i oi d hi hid).2 j oj hj hjd) (fun i o d hi hid => (dstB_spec hd i o d hi hid).1)
  (fun i o hi listed a' w' hI hdn hnd K hK => ?_) hend _ _ _ _ ?_ ?_))
 · have := AllOps.get hstep (i := i) (o := o) (by simpa using hi)
   rw [Nat.zero_add] at this
   exact this listed a' w' hI hdn hnd K hK
 · have hno : ∀ i, ¬ Done (Array.replicate ops.size false) i := fun i h => by
    unfold Done at h
    by_cases hi : i < ops.size <;> simp [Array.getD_eq_getD_getElem?, hi] at h
   exact ⟨by simp, hS, rfl, rfl, fun i _ _ h => absurd h (hno i), fun i _ _ _ _ h => absurd h (hno i), fun _ _ => rfl⟩
 · unfold left
   exact Nat.le_trans (List.length_filter_le _ _) (by simp)
end Go.Proofs.YtekelchdbkjjjaaGreat
namespace Go.Proofs.YtekelchdbkjjjaaGreat
open Go Go.RowKit Go.Shelf
attribute [local go_sem] Oper.semAt_some
theorem MapO.look1 {w : World} {b n : Nat} {f : Int → Option Int} (h : MapO w b n f) {c : Int} (hc : intBd c) : (Instr.lookup 81 (.map (some b)) (.int .i64 c) false).run Tryz.prog w = .ok (.int .i64 ((f c).getD 0)) w := by
 obtain ⟨D, h1, h2⟩ := h
 obtain ⟨a, hrun, hat, _⟩ := h1.lookup_int int_keyed3 iimap_uty int_uty (int_zero w) (iKey_of hc)
 have h3 := (h2 c).2
 rw [hat] at h3
 simp only [DataW.lit.injEq, Lit.int.injEq, true_and] at h3
 rw [hrun, h3]
section
variable {F : Fence} {n : Nat} {ops : Array Oper} {rest : List Oper} {o : Oper} {a : Act} {Q : Exit → Act → World → Prop} {w : World}
theorem wpListIn_look1 (hgd : o.guard = none) (m x : Operand) (ho : o.op = Op.lookup 81 m x false) (b k : Nat) (f : Int → Option Int) (hm : a.eval m = .map (some b)) (h : MapO w b k f) (c : Int) (hx : a.eval x = .int .i64 c) (hc : intBd c)
 (hK : wpListIn F n Tryz.prog ops Q rest (a.put o.dst (.int .i64 ((f c).getD 0))) w) : wpListIn F n Tryz.prog ops Q (o :: rest) a w := by
 refine wpListIn_plain hgd fun K hK' => ?_
 unfold Oper.wpIn
 refine ⟨by simp [Oper.about, ho], ?_⟩
 rw [Oper.semAt_plain F _ _ (by rw [ho]; intro c hc'; cases hc')]
 have hrun := h.look1 hc
 simp [execOp, ho, hm, hx, hrun, Result.andThen]
 exact hK' _ _ hK
theorem wpListIn_upd (hgd : o.guard = none) (m x v : Operand) (ho : o.op = Op.mapUpdate 81 m x v) (b k : Nat) (f : Int → Option Int) (hm : a.eval m = .map (some b)) (h : MapO w b k f) (hn : k < maxLen) (c : Int) (hx : a.eval x = .int .i64 c) (hc : intBd c) (xv : Int) (hv : a.eval v = .int .i64 xv) (hxv : intBd xv)
 (hK : ∀ w', MapO w' b (k + 1) (fun d => if d = c then some xv else f d) → Fr (fun q => q ≠ b) w w' → wpListIn F n Tryz.prog ops Q rest (a.put o.dst undef) w') : wpListIn F n Tryz.prog ops Q (o :: rest) a w := by
 obtain ⟨w', hrun, r1, r2⟩ := h.store hn hc hxv
 refine wpListIn_plain hgd fun K hK' => ?_
 unfold Oper.wpIn
 refine ⟨by simp [Oper.about, ho], ?_⟩
 rw [Oper.semAt_plain F _ _ (by rw [ho]; intro c hc'; cases hc')]
 simp [execOp, ho, hm, hx, hv, hrun, Result.andThen]
 exact hK' _ _ (hK w' r1 r2)
end
theorem wpList_look1 {ops : Array Oper} {rest : List Oper} {o : Oper} {a : Act} {w : World} {Q : Exit → Act → World → Prop} (hg : o.guard = none) (m x : Operand) (hop : o.op = Op.lookup 81 m x false)
 (b n : Nat) (f : Int → Option Int) (hm : a.eval m = .map (some b)) (h : MapO w b n f) (c : Int) (hx : a.eval x = .int .i64 c) (hc : intBd c)
 (hK : wpList Tryz.prog ops Q rest (a.put o.dst (.int .i64 ((f c).getD 0))) w) : wpList Tryz.prog ops Q (o :: rest) a w := by
 refine wpList_plain hg fun K' hK' => ?_
 have hrun := h.look1 hc
 unfold Oper.wp
 simp [execOp, hop, hm, hx, hrun, Result.andThen]
 exact hK' _ _ hK
def TriPost (g : XGroup) (l : List XEntry) (ent d : Int) (w : World) (e : Ending) (w' : World) : Prop := ∃ (r : Int) (A' : Option Addr) (c' : Nat) (ts : List XBalance), e = .returned (.tuple #[.slice A' ts.length c', .int .i64 r]) ∧ BChk g l ent (-4611686018427387904) 0 false r ∧ (r = 0 → IsTri (fun c => sumE (qB d) l ent c) ts) ∧ (r ≠ 0 → ts = []) ∧ ts.length ≤ 100000 ∧ ListC BalanceC 2 w' (· < w'.heap.size) [.slice A' ts.length c'] ts ∧ Below w.heap.size w w'
def Span (pre : List (DL lineOk)) (lo hi : Int) : Prop := (pre = [] ∧ lo = 0 ∧ hi = -1) ∨ (1 ≤ lo ∧ lo ≤ hi ∧ hi ≤ 99999 ∧ ∀ z ∈ pre, lo ≤ z.1.2.account ∧ z.1.2.account ≤ hi)
theorem Span.next {pre : List (DL lineOk)} {lo hi : Int} (h : 1 ≤ lo ∧ lo ≤ hi ∧ hi ≤ 99999 ∧ ∀ z ∈ pre, lo ≤ z.1.2.account ∧ z.1.2.account ≤ hi) (z : DL lineOk) : Span (pre ++ [z]) (min lo z.1.2.account) (max hi z.1.2.account) := by
 have h1 := z.2.2
 obtain ⟨a, b, c, e⟩ := h
 refine .inr ⟨by omega, by omega, by omega, fun y hy => ?_⟩
 rcases List.mem_append.1 hy with hy | hy
 · have := e y hy; omega
 · simp at hy; subst hy; omega
theorem Span.first (z : DL lineOk) : Span ([] ++ [z]) (min z.1.2.account z.1.2.account) (max z.1.2.account z.1.2.account) := by
 have h1 := z.2.2
 refine .inr ⟨by omega, by omega, by omega, fun y hy => ?_⟩
 simp at hy; subst hy; omega
def TriI (n₀ bm : Nat) (w0 : World) (pre : List (DL lineOk)) (W : World) : Prop := KeepN n₀ (fun q => q = bm + 2 ∨ q = bm + 3) w0 W ∧ (∃ f, MapO W bm pre.length f ∧ ∀ c, (f c).getD 0 = sumPd (fun _ _ => true) c (pre.map (·.1))) ∧ ∃ lo hi : Int, W.heap[bm + 2]? = some (.cells #[.int .i64 lo] 3 (0, 0)) ∧ W.heap[bm + 3]? = some (.cells #[.int .i64 hi] 3 (0, 0)) ∧ Span pre lo hi
theorem triI_own {n₀ bm B : Nat} {w0 : World} (hn : n₀ ≤ w0.heap.size) (hB : n₀ ≤ B) (hbm : bm < B) : OwnFrom B (TriI n₀ bm w0) := fun pre W W' row hs hg hr => by
 obtain ⟨h1, ⟨f, h2, h3⟩, lo, hi, h4, h5, h6⟩ := hs
 refine ⟨keepN_own hn hB pre W W' row h1 hg hr, ⟨f, h2.same (hg.block bm h2.lt (fun e => by have := (hr bm e.symm).1; omega)), h3⟩, lo, hi, ?_, ?_, h6⟩
 · exact cells_own (β := List (DL lineOk)) (f := fun _ => #[.int .i64 lo]) pre W W' row h4 hg hr
 · exact cells_own (β := List (DL lineOk)) (f := fun _ => #[.int .i64 hi]) pre W W' row h5 hg hr
theorem two_sets {w : World} {b : Nat} {x y : Int} (h1 : w.heap[b + 2]? = some (.cells #[.int .i64 x] 3 (0, 0))) (h2 : w.heap[b + 3]? = some (.cells #[.int .i64 y] 3 (0, 0))) (u v : Int) :
 ((w.setCell ⟨b + 1 + 1, 0, none⟩ (.int .i64 u)).setCell ⟨b + 1 + 1 + 1, 0, none⟩ (.int .i64 v)).heap[b + 2]? = some (.cells #[.int .i64 u] 3 (0, 0)) ∧ ((w.setCell ⟨b + 1 + 1, 0, none⟩ (.int .i64 u)).setCell ⟨b + 1 + 1 + 1, 0, none⟩ (.int .i64 v)).heap[b + 3]? = some (.cells #[.int .i64 v] 3 (0, 0)) ∧ Fr (fun q => q ≠ b + 2 ∧ q ≠ b + 3) w ((w.setCell ⟨b + 1 + 1, 0, none⟩ (.int .i64 u)).setCell ⟨b + 1 + 1 + 1, 0, none⟩ (.int .i64 v)) := by
 have e1 := heap_setCell_same h1 0 (.int .i64 u)
 have e2 : (w.setCell ⟨b + 2, 0, none⟩ (.int .i64 u)).heap[b + 3]? = some (.cells #[.int .i64 y] 3 (0, 0)) := (Below.heap_setCell w ⟨b + 2, 0, none⟩ _ (b + 3) (by show b + 3 ≠ b + 2; omega)).trans h2
 refine ⟨(Below.heap_setCell _ ⟨b + 3, 0, none⟩ _ (b + 2) (by show b + 2 ≠ b + 3; omega)).trans e1, heap_setCell_same e2 0 (.int .i64 v), ((Fr.refl _ w).setCell (p := ⟨b + 2, 0, none⟩) (fun h => h.1 rfl) _).setCell (p := ⟨b + 3, 0, none⟩) (fun h => h.2 rfl) _⟩
theorem span_out {pre : List (DL lineOk)} {lo hi c : Int} (h : Span pre lo hi) (hc : ¬ (lo ≤ c ∧ c ≤ hi)) : sumPd (fun _ _ => true) c (pre.map (·.1)) = 0 := by
 have h2 : ∀ z ∈ pre, z.1.2.account ≠ c := fun z hz e => by
  rcases h with ⟨h, _⟩ | ⟨_, _, _, h⟩
  · rw [h] at hz; cases hz
  · have := h z hz; omega
 clear h
 induction pre with
 | nil => rfl
 | cons z pre ih =>
  have h3 : sumPd (fun _ _ => true) c ((z :: pre).map (·.1)) = (if z.1.2.account = c ∧ true = true then z.1.2.amount else 0) + sumPd (fun _ _ => true) c (pre.map (·.1)) := by simp [sumPd]
  rw [h3, if_neg (fun e => h2 z (List.mem_cons_self ..) e.1), ih (fun y hy => h2 y (List.mem_cons_of_mem _ hy))]
  rfl
theorem info_balA : (Tryz.prog.info? 40).map (fun i => (i.zero, i.size, i.bytes)) = some (some (.agg #[.int .i64 0, .int .i64 0]), 2, 16) := by kernel_rfl
theorem bals_uty : Tryz.prog.underlying 35 = some (.slice 40) := by kernel_rfl
def balL (y : XBalance) : List Value := [.int .i64 y.account, .int .i64 y.amount]
def SpanS (bm : Nat) (lo hi la : Int) (w0 : World) (listed : Array Bool) (w : World) : Prop := Fr (fun q => q ≠ bm + 2 ∧ q ≠ bm + 3) w0 w ∧ w.heap[bm + 2]? = some (.cells #[.int .i64 (if listed.getD 8 false = true then min lo la else lo)] 3 (0, 0)) ∧ w.heap[bm + 3]? = some (.cells #[.int .i64 (if listed.getD 9 false = true then max hi la else hi)] 3 (0, 0))
section
variable {bm : Nat} {lo hi la : Int} {w0 w : World} {listed : Array Bool}
theorem getD_other {i j : Nat} (h : i ≠ j) : (listed.setIfInBounds i true).getD j false = listed.getD j false := by simp [Array.getD_eq_getD_getElem?, Array.getElem?_setIfInBounds, h]
theorem getD_same {i : Nat} (h : i < listed.size) : (listed.setIfInBounds i true).getD i false = true := by simp [Array.getD_eq_getD_getElem?, h]
theorem SpanS.other (h : SpanS bm lo hi la w0 listed w) (i : Nat) (h8 : i ≠ 8) (h9 : i ≠ 9) : SpanS bm lo hi la w0 (listed.setIfInBounds i true) w := by
 unfold SpanS
 rw [getD_other h8, getD_other h9]
 exact h
theorem SpanS.load13 (h : SpanS bm lo hi la w0 listed w) (hn : listed.getD 8 false = false) : w.cell? ⟨bm + 1 + 1, 0, none⟩ = some (.int .i64 lo) := by
 have := blk_cell h.2.1 0
 rw [hn] at this
 exact this
theorem SpanS.load14 (h : SpanS bm lo hi la w0 listed w) (hn : listed.getD 9 false = false) : w.cell? ⟨bm + 1 + 1 + 1, 0, none⟩ = some (.int .i64 hi) := by
 have := blk_cell h.2.2 0
 rw [hn] at this
 exact this
theorem SpanS.c13 (h : SpanS bm lo hi la w0 listed w) : w.cell? ⟨bm + 1 + 1, 0, none⟩ = some (.int .i64 (if listed.getD 8 false = true then min lo la else lo)) := blk_cell h.2.1 0
theorem SpanS.c14 (h : SpanS bm lo hi la w0 listed w) : w.cell? ⟨bm + 1 + 1 + 1, 0, none⟩ = some (.int .i64 (if listed.getD 9 false = true then max hi la else hi)) := blk_cell h.2.2 0
theorem SpanS.f13 (h : SpanS bm lo hi la w0 listed w) : w.frozen? ⟨bm + 1 + 1, 0, none⟩ = false := blk_frozen h.2.1 0
theorem SpanS.f14 (h : SpanS bm lo hi la w0 listed w) : w.frozen? ⟨bm + 1 + 1 + 1, 0, none⟩ = false := blk_frozen h.2.2 0
theorem SpanS.set13 (h : SpanS bm lo hi la w0 listed w) (hs : 8 < listed.size) : SpanS bm lo hi la w0 (listed.setIfInBounds 8 true) (w.setCell ⟨bm + 1 + 1, 0, none⟩ (.int .i64 (min lo la))) := by
 unfold SpanS
 rw [getD_same hs, getD_other (by decide), if_pos rfl]
 exact ⟨h.1.setCell (p := ⟨bm + 2, 0, none⟩) (fun h => h.1 rfl) _, heap_setCell_same h.2.1 0 _, (Below.heap_setCell w ⟨bm + 2, 0, none⟩ _ (bm + 3) (by show bm + 3 ≠ bm + 2; omega)).trans h.2.2⟩
theorem SpanS.set14 (h : SpanS bm lo hi la w0 listed w) (hs : 9 < listed.size) : SpanS bm lo hi la w0 (listed.setIfInBounds 9 true) (w.setCell ⟨bm + 1 + 1 + 1, 0, none⟩ (.int .i64 (max hi la))) := by
 unfold SpanS
 rw [getD_same hs, getD_other (by decide), if_pos (c := (true = true)) rfl]
 exact ⟨h.1.setCell (p := ⟨bm + 3, 0, none⟩) (fun h => h.2 rfl) _, (Below.heap_setCell w ⟨bm + 3, 0, none⟩ _ (bm + 2) (by show bm + 2 ≠ bm + 3; omega)).trans h.2.1, heap_setCell_same h.2.2 0 _⟩
theorem SpanS.fin (h : SpanS bm lo hi la w0 listed w) (h8 : Done listed 8) (h9 : Done listed 9) : Fr (fun q => q ≠ bm + 2 ∧ q ≠ bm + 3) w0 w ∧ w.heap[bm + 2]? = some (.cells #[.int .i64 (min lo la)] 3 (0, 0)) ∧ w.heap[bm + 3]? = some (.cells #[.int .i64 (max hi la)] 3 (0, 0)) := by
 unfold SpanS at h
 rw [if_pos (show listed.getD 8 false = true from h8), if_pos (show listed.getD 9 false = true from h9)] at h
 exact h
end
theorem Ks.vals {W w w' : World} {ks : List Kind} {j : Nat} {u : Value} (hv : ∀ k ∈ ks, ∃ x, k = .val x) (h : Ks W ks j u w) : Ks W ks j u w' := fun k hk => by
 obtain ⟨x, rfl⟩ := hv k (List.mem_of_getElem? hk)
 exact h _ hk
set_option maxHeartbeats 4000000 in
theorem trial_c (g : XGroup) (l : List XEntry) (gl : List Value) (A : Option Addr) (c : Nat) (ent d : Int) (w : World) (hg : GroupC w (· < w.heap.size) gl g) (hl : ListC EntryC 7 w (· < w.heap.size) [.slice A l.length c] l) (hsm : smallG g) (hmo : modest l) (hle : l.length ≤ 100) :
 Calls Tryz.prog 7 #[.agg gl.toArray, .slice A l.length c, .int .i64 ent, .int .i64 d] w (TriPost g l ent d w) := by
 have hmm := @run_makeMap Tryz.prog
 have HCK := Lib.hid (fun (w2 : World) (hb : Below w.heap.size w w2) => bcheck_c g l gl A c ent (-4611686018427387904) 0 false w2 (hg.keep hb) (entries_keep hl hb) hsm hmo (by unfold intBd; omega))
 have HGS := Lib.hid (show gl.toArray.size = 21 by have := hg.len; simpa using this)
 have HBU := Lib.hid (hg.books A l.length c ent)
 have HON := Lib.hid (show (gl ++ ([.slice A l.length c, .int .i64 ent] : List Value)).toArray.all (·.oneCell') = true by
  have h1 := hg.ones
  rw [List.all_toArray, List.all_append, h1]
  rfl)
 have HSZ := Lib.hid (show (gl ++ ([.slice A l.length c, .int .i64 ent] : List Value)).toArray.size = 23 by have := hg.len; simp; omega)
 have HL := Lib.hid hl
 have HLE := Lib.hid hle
 obtain ⟨BL, hBL⟩ : ∃ BL, (gl ++ ([.slice A l.length c, .int .i64 ent] : List Value)).toArray = BL := ⟨_, rfl⟩
 rw [hBL] at HCK HBU HON HSZ
 obtain ⟨n, hn⟩ : ∃ n, l.length = n := ⟨_, rfl⟩
 have HN := Lib.hid hn
 rw [hn] at HBU ⊢
 have HIB := Lib.hid (show (Tryz.prog.info? 79).map (·.size) = some BL.size by rw [info_books, HSZ.out])
 clear hg hl hsm hmo hle hBL hn
 refine callsIn_wide.1 (callsIn_of_wp_marks (n := 6) Tryz.func7 rfl trivial (wpIn_wide.2 ?_) rfl)
 simp only [Tryz.ntmps7, List.size_toArray, List.length_cons, List.length_nil, Nat.reduceAdd, Nat.reduceSub, Array.replicate_succ, Array.replicate_zero, List.push_toArray, List.append_toArray, List.nil_append, List.cons_append]
 go_upto_region 1 with fail
 have H1 := heap_alloc_new w (.cells gl.toArray 29)
 have HB1 := below1 w (.cells gl.toArray 29)
 have HS1 := blk_lt H1
 generalize hW1 : w.alloc (Obj.cells gl.toArray 29) = W at *
 clear hW1
 have HK := Lib.hid H1
 have HB1h := Lib.hid HB1
 clear H1
 go_wp2_with (first | (show wpList _ _ _ (Oper.mk (some 20) _ _ _ _ _ :: _) _ _; refine wpList_load_row_g rfl 29 (.tmp 4) rfl (w.heap.size) rfl _ _ _ _ HK.out Tryz.underlying29 rfl (by rw [info_group]; exact congrArg some HGS.out.symm) ?_) | (show wpList _ _ _ (Oper.mk (some 23) _ _ _ _ _ :: _) _ _; go_loud (refine wpList_built rfl 79 _ rfl [(0, .agg gl.toArray), (1, .slice A n c), (2, .int .i64 ent)] (by simp [Act.eval]) BL HBU.out ?_)) | (show wpList _ _ _ (Oper.mk none (Op.store _ (Operand.tmp 10) _) _ _ _ _ :: _) _ _; refine wpList_store_fresh3 rfl 79 (.tmp 10) (.tmp 23) rfl rfl W #[.string ⟨#[]⟩, .int .i64 0, .int .i64 0, .int .i64 0, .slice none 0 0, .int .i64 0, .int .i64 0, .int .i64 0, .int .i64 0, .int .i64 0, .int .i64 0, .int .i64 0, .int .i64 0, .int .i64 0, .int .i64 0, .int .i64 0, .int .i64 0, .int .i64 0, .int .i64 0, .int .i64 0, .slice none 0 0, .slice none 0 0, .int .i64 0] 79 BL rfl rfl rfl HIB.out HSZ.out.symm HON.out ?_; intro w4 H4 HB4 HS4) | (show wpList _ _ _ (Oper.mk (some 24) _ _ _ _ _ :: _) _ _; refine wpList_load_row_g rfl 79 (.tmp 10) rfl W.heap.size rfl _ _ _ _ H4 Tryz.underlying79 rfl HIB.out ?_))
 have HB04 := Lib.hid (HB1h.out.trans (HB4.mono HB1h.out.size))
 clear HB4 H4
 refine (HCK.out w4 HB04.out).mono ?_
 rintro e w5 ⟨r, rfl, hr, hb5⟩
 have HR := Lib.hid hr
 have HB05 := Lib.hid (HB04.out.trans (hb5.mono HB04.out.size))
 clear hb5 hr
 by_cases hr0 : r = 0
 case neg =>
  have hrb : (r != 0) = true := by simpa using hr0
  have HP := Lib.hid hr0
  clear hr0
  go_wp2_with fail
  exact ⟨_, results_tmp2 rfl _ _ _, r, none, 0, [], rfl, HR.out, fun h => absurd h HP.out, fun _ => rfl, by decide, ⟨_, _, rfl, by decide, by decide, fun h => by cases h⟩, HB05.out⟩
 case pos =>
  subst hr0
  have HV := Lib.hid (bchk_valid HR.out)
  go_upto_region 7 with fail
  obtain ⟨W9, hW9⟩ : ∃ W9, (((w5.alloc (Obj.map #[] 0)).alloc (Obj.cells #[.map (some w5.heap.size)] 81)).alloc (Obj.cells #[.int .i64 0] 3)).alloc (Obj.cells #[.int .i64 (-1)] 3) = W9 := ⟨_, rfl⟩
  rw [hW9]
  have hM9 : MapO W9 w5.heap.size 0 (fun _ => none) := by
   rw [← hW9]
   exact ((MapO.made w5).below (((below1 _ _).trans ((below1 _ _).mono (by simp))).trans ((below1 _ _).mono (by simp))))
  have e1 : W9.heap[w5.heap.size + 1]? = some (.cells #[.map (some w5.heap.size)] 81 (0, 0)) := by
   rw [← hW9]
   refine alloc_keep (alloc_keep ?_ _) _
   have := heap_alloc_new (w5.alloc (Obj.map #[] 0)) (Obj.cells #[.map (some w5.heap.size)] 81)
   rwa [World.size_alloc] at this
  have e2 : W9.heap[w5.heap.size + 1 + 1]? = some (.cells #[.int .i64 0] 3 (0, 0)) := by
   rw [← hW9]
   refine alloc_keep ?_ _
   have := heap_alloc_new ((w5.alloc (Obj.map #[] 0)).alloc (Obj.cells #[.map (some w5.heap.size)] 81)) (Obj.cells #[.int .i64 0] 3)
   rwa [World.size_alloc, World.size_alloc] at this
  have e3 : W9.heap[w5.heap.size + 1 + 1 + 1]? = some (.cells #[.int .i64 (-1)] 3 (0, 0)) := by
   rw [← hW9]
   have := heap_alloc_new (((w5.alloc (Obj.map #[] 0)).alloc (Obj.cells #[.map (some w5.heap.size)] 81)).alloc (Obj.cells #[.int .i64 0] 3)) (Obj.cells #[.int .i64 (-1)] 3)
   rwa [World.size_alloc, World.size_alloc, World.size_alloc] at this
  have hs9 : W9.heap.size = w5.heap.size + 4 := by rw [← hW9]; simp
  have hb9 : Below w5.heap.size w5 W9 := by rw [← hW9]; exact ((((Below.refl _ w5).alloc (Nat.le_refl _) _).alloc (by simp) _).alloc (by simp; omega) _).alloc (by simp; omega) _
  have HB9 := Lib.hid (HB05.out.trans (hb9.mono HB05.out.size))
  have HS9 := Lib.hid hs9
  have HM9 := Lib.hid hM9
  have E1 := Lib.hid e1
  have E2 := Lib.hid e2
  have E3 := Lib.hid e3
  have HS5 := Lib.hid HB05.out.size
  clear hW9 e1 e2 e3 hs9 hb9 hM9
  go_wp2_with (go_at_call 30; refine (callsIn_wide.1 (lines_in Fence.wide 5 trivial rfl _ n c ent d W9)).mono ?_; rintro e w' ⟨rfl, rfl⟩)
  obtain ⟨W12, hW12⟩ : ∃ W, ((W9.alloc (.cells #[.slice A n c] 30)).alloc (.cells #[.int .i64 ent] 3)).alloc (.cells #[.int .i64 d] 3) = W := ⟨_, rfl⟩
  rw [hW12]
  have HL0 := Lib.hid (show ¬ (W9.heap.size = w5.heap.size + 2 ∨ W9.heap.size = w5.heap.size + 3) ∧ W12.heap[W9.heap.size]? = some (.cells #[.slice A l.length c] 30 (0, 0)) from ⟨by have := HS9.out; omega, by rw [← hW12, HN.out]; exact alloc_keep (alloc_keep (heap_alloc_new W9 _) _) _⟩)
  have HL1 := Lib.hid (show ¬ (W9.heap.size + 1 = w5.heap.size + 2 ∨ W9.heap.size + 1 = w5.heap.size + 3) ∧ W12.heap[W9.heap.size + 1]? = some (.cells #[.int .i64 ent] 3 (0, 0)) from ⟨by have := HS9.out; omega, by
   rw [← hW12]
   refine alloc_keep ?_ _
   have := heap_alloc_new (W9.alloc (.cells #[.slice A n c] 30)) (.cells #[.int .i64 ent] 3)
   rwa [World.size_alloc] at this⟩)
  have HL2 := Lib.hid (show ¬ (W9.heap.size + 1 + 1 = w5.heap.size + 2 ∨ W9.heap.size + 1 + 1 = w5.heap.size + 3) ∧ W12.heap[W9.heap.size + 1 + 1]? = some (.cells #[.int .i64 d] 3 (0, 0)) from ⟨by have := HS9.out; omega, by
   rw [← hW12]
   have := heap_alloc_new ((W9.alloc (.cells #[.slice A n c] 30)).alloc (.cells #[.int .i64 ent] 3)) (.cells #[.int .i64 d] 3)
   rwa [World.size_alloc, World.size_alloc] at this⟩)
  have HS12 := Lib.hid (show W12.heap.size = w5.heap.size + 7 by rw [← hW12]; have := HS9.out; simp; omega)
  have hb12 : Below W9.heap.size W9 W12 := by rw [← hW12]; exact (((Below.refl _ W9).alloc (Nat.le_refl _) _).alloc (by simp) _).alloc (by simp; omega) _
  have HB12 := Lib.hid (HB9.out.trans (hb12.mono HB9.out.size))
  have F1 := Lib.hid ((hb12.block _ (blk_lt E1.out)).trans E1.out)
  have F2 := Lib.hid ((hb12.block _ (blk_lt E2.out)).trans E2.out)
  have F3 := Lib.hid ((hb12.block _ (blk_lt E3.out)).trans E3.out)
  have FM := Lib.hid (HM9.out.below hb12)
  have HLE2 := Lib.hid (show ListC EntryC 7 W12 (· < w.heap.size) [.slice A l.length c] l from HL.out.fr (fun h => EntryC.fr h (Fr.ofBelow HB12.out)) (Fr.ofBelow HB12.out))
  clear hb12 hW12 E1 E2 E3
  have HSQ := Lib.hid (lines_gives Fence.wide 5 trivial rfl (by omega) W9.heap.size (W9.heap.size + 1) (W9.heap.size + 1 + 1) w.heap.size (fun q => q = w5.heap.size + 2 ∨ q = w5.heap.size + 3) l A c ent d lineOk 4000 W12 (by have := HS12.out; have := HS5.out; omega) (fun q hq => by have := HS12.out; omega) HL0.out HL1.out HL2.out HLE2.out (fun x hx => by have := valid_lines HV.out hx; omega) (by have := HLE.out; omega) (fun x hx _ _ y hy => (valid_line HV.out hx hy).1) (by have := linesD_len (l := l) ent d (fun x hx => valid_lines HV.out hx); have := HLE.out; omega))
  refine wpIn_wide.1 (wpIn_rangeBox (n := 6) rfl (by omega) (gf := 57) (lb := #[.pointer (some ⟨W9.heap.size, 0, none⟩), .pointer (some ⟨W9.heap.size + 1, 0, none⟩), .pointer (some ⟨W9.heap.size + 1 + 1, 0, none⟩)]) rfl trivial (enters_of Tryz.func57 (by kernel_rfl) rfl) HSQ.out (fun h k => h.trans k) (fun W l o o' hl ho hc hw => KeepN.putObj (w := W12) (by have := HS12.out; have := HS5.out; omega) W l o o' hl ho hc hw) (fun W W' hW hg => KeepN.grown hg (by have := HS12.out; have := HS5.out; omega)) (Below.refl _ _) (fun _ => rfl)
   (TriI w.heap.size w5.heap.size W12) (triI_own (by have := HS12.out; have := HS5.out; omega) (by have := HS12.out; have := HS5.out; omega) (by have := HS12.out; omega)) ⟨KeepN.refl _, ⟨_, FM.out, fun c => rfl⟩, 0, -1, F2.out, F3.out, .inl ⟨rfl, rfl, rfl⟩⟩ (fun x => (lineL x.1.2).toArray) 76 (fun x b => { tmps := #[.agg gl.toArray, .slice A n c, .int .i64 ent, .int .i64 d, .pointer (some ⟨w.heap.size, 0, none⟩), undef, undef, undef, .slice none 0 0, .int .i64 0, .pointer (some ⟨W.heap.size, 0, none⟩), .int .i64 0, .pointer (some ⟨w5.heap.size + 1, 0, none⟩), .pointer (some ⟨w5.heap.size + 1 + 1, 0, none⟩), .pointer (some ⟨w5.heap.size + 1 + 1 + 1, 0, none⟩), undef, .pointer (some ⟨b, 0, none⟩), undef, undef, undef, .agg gl.toArray, .slice A n c, .int .i64 ent, .agg BL, .agg BL, .int .i64 0, .int .i64 0, .bool false, undef, .map (some w5.heap.size), .slice A n c, .int .i64 ent, .int .i64 d, .func (.func 57) #[] #[.pointer (some ⟨W9.heap.size, 0, none⟩), .pointer (some ⟨W9.heap.size + 1, 0, none⟩), .pointer (some ⟨W9.heap.size + 1 + 1, 0, none⟩)], .int .i64 x.1.1, .agg (lineL x.1.2).toArray, undef, undef, undef, undef, undef, undef, undef, undef, undef, undef, undef, undef, undef, undef, undef, undef, undef, undef, undef, undef, undef, undef, undef, undef, undef, undef, undef, undef, undef, undef, undef, undef, undef, undef, undef, undef, undef, undef, undef, undef], defers := [] }) ?assign ?body ?done)
  case assign =>
   rintro l ⟨⟨t, la, lm, lp⟩, hx⟩ W K hK
   have HK := Lib.hid hK
   clear hK
   simp only [encDL, lineL]
   gi_wp2_with (show wpListIn _ _ _ _ _ (Oper.mk none (Op.store _ (Operand.tmp 16) _) _ _ _ _ :: _) _ _; refine wpListIn_store_fresh rfl 76 (.tmp 16) (.tmp 35) rfl rfl W #[.int .i64 0, .int .i64 0, .int .i64 0] 76 #[.int .i64 la, .int .i64 lm, .int .i64 lp] rfl rfl rfl info_line rfl (by simp [Value.oneCell']) ?_; intro w4 H4 HG4 HS4)
   exact HK.out w4 HG4 H4
  case body =>
   rintro l pre ⟨⟨t, la, lm, lp⟩, hx⟩ b W ⟨hK, ⟨f, hM, hf⟩, lo, hi, h13, h14, hsp⟩ hlen hbW hbx
   have HNX := Lib.hid (fun c => sumPd_next (fun _ _ => true) c pre ⟨(t, ⟨la, lm, lp⟩), hx⟩)
   have hsb := sumPd_abs (fun _ _ => true) la pre
   rw [← hf la] at hsb
   obtain ⟨s, hs⟩ : ∃ s, (f la).getD 0 = s := ⟨_, rfl⟩
   have HSV := Lib.hid hs
   rw [hs] at hsb
   have hxb : lm.natAbs ≤ 1125899906842624 := hx.1
   have hsb2 : s.natAbs ≤ 4000 * 1125899906842624 := Nat.le_trans hsb (Nat.mul_le_mul_right _ (by omega))
   have HBD := Lib.hid (show intBd la ∧ intBd (s + lm) from by have := hx.2; unfold intBd; simp only at this; omega)
   have hr1 : -9223372036854775808 ≤ s + lm := by omega
   have hr2 : s + lm ≤ 9223372036854775807 := by omega
   have x0 := blk_cell hbx 0
   have x1 := blk_cell hbx 1
   have m0 := blk_cell (hK.cells (by omega) F1.out) 0
   have HKW := Lib.hid hK
   have HM := Lib.hid hM
   have HF := Lib.hid hf
   have H13 := Lib.hid h13
   have H14 := Lib.hid h14
   have HSP := Lib.hid hsp
   have HBX := Lib.hid hbx
   have HLEN := Lib.hid (show pre.length < maxLen by unfold maxLen; omega)
   clear hsb hsb2 hxb hs hK hM hf h13 h14 hsp hbx
   simp only [lineL]
   gi_upto_region 10 with (first | (show wpListIn _ _ _ _ _ (Oper.mk (some 39) _ _ _ _ _ :: _) _ _; refine wpListIn_look1 rfl (.tmp 36) (.tmp 38) rfl w5.heap.size pre.length f rfl HM.out la rfl HBD.out.1 ?_; rw [HSV.out]) | (show wpListIn _ _ _ _ _ (Oper.mk none (Op.mapUpdate _ _ _ _) _ _ _ _ :: _) _ _; refine wpListIn_upd rfl (.tmp 36) (.tmp 38) (.tmp 42) rfl w5.heap.size pre.length f rfl HM.out HLEN.out la rfl HBD.out.1 (s + lm) rfl HBD.out.2 ?_; intro w3 hM3 hf3))
   have HM3 := Lib.hid hM3
   have HF3 := Lib.hid hf3
   have G13 := Lib.hid ((hf3.block _ (show w5.heap.size + 2 ≠ w5.heap.size by omega)).trans H13.out)
   have G14 := Lib.hid ((hf3.block _ (show w5.heap.size + 3 ≠ w5.heap.size by omega)).trans H14.out)
   have GBX := Lib.hid ((hf3.block b (show b ≠ w5.heap.size by have := HS12.out; omega)).trans HBX.out)
   clear hM3 hf3 x0 x1 m0
   have q13 := blk_cell G13.out 0
   have q14 := blk_cell G14.out 0
   have qx := blk_cell GBX.out 0
   have hmo : Tryz.prog.follows .mixedOrders = true := by kernel_rfl
   have f13 := blk_frozen G13.out 0
   have f14 := blk_frozen G14.out 0
   have hbb : w5.heap.size + 3 < b := by have := HS12.out; omega
   gi_upto_if 45 with fail
   gi_cut [45] from 45 (fun v wx => ∃ lo' hi' : Int, wx.heap[w5.heap.size + 2]? = some (.cells #[.int .i64 lo'] 3 (0, 0)) ∧ wx.heap[w5.heap.size + 3]? = some (.cells #[.int .i64 hi'] 3 (0, 0)) ∧ (1 ≤ lo' ∧ lo' ≤ hi' ∧ hi' ≤ 99999 ∧ ∀ z ∈ pre, lo' ≤ z.1.2.account ∧ z.1.2.account ≤ hi') ∧ Fr (fun q => q ≠ w5.heap.size + 2 ∧ q ≠ w5.heap.size + 3) w3 wx)
   case first =>
    rcases HSP.out with ⟨hp0, hlo, hhi⟩ | hsp
    · have HPE := Lib.hid hp0
      subst hlo hhi
      have HLA := Lib.hid (show 1 ≤ la ∧ la ≤ 99999 from hx.2)
      have HFIN := Lib.hid (show ∀ wx : World, wx = ((w3.setCell ⟨w5.heap.size + 1 + 1, 0, none⟩ (.int .i64 la)).setCell ⟨w5.heap.size + 1 + 1 + 1, 0, none⟩ (.int .i64 la)).drew → ∃ lo' hi' : Int, wx.heap[w5.heap.size + 2]? = some (.cells #[.int .i64 lo'] 3 (0, 0)) ∧ wx.heap[w5.heap.size + 3]? = some (.cells #[.int .i64 hi'] 3 (0, 0)) ∧ (1 ≤ lo' ∧ lo' ≤ hi' ∧ hi' ≤ 99999 ∧ ∀ z ∈ pre, lo' ≤ z.1.2.account ∧ z.1.2.account ≤ hi') ∧ Fr (fun q => q ≠ w5.heap.size + 2 ∧ q ≠ w5.heap.size + 3) w3 wx from fun wx e => by
       subst e
       obtain ⟨h1, h2, h3⟩ := two_sets G13.out G14.out la la
       exact ⟨la, la, h1, h2, ⟨HLA.out.1, Int.le_refl _, HLA.out.2, fun z hz => by rw [HPE.out] at hz; cases hz⟩, h3.drew⟩)
      clear hp0
      gi_upto_region 11 with fail
      gi_region_with_o (fail)
      all_goals
       gi_wp2_with fail
       gi_meet
       exact HFIN.out _ rfl
    · have hlp : ¬ hi < lo := by omega
      have hlh : decide (hi < lo) = false := decide_eq_false hlp
      have HSQ2 := Lib.hid hsp
      clear hsp
      gi_wp2_with fail
      gi_meet
      exact ⟨lo, hi, G13.out, G14.out, HSQ2.out, Fr.refl _ _⟩
   case rest =>
    obtain ⟨lo', hi', h13, h14, hsp, hfr⟩ := hcut
    have HR13 := Lib.hid h13
    have HR14 := Lib.hid h14
    have HSP2 := Lib.hid hsp
    have HFR := Lib.hid hfr
    have HBX2 := Lib.hid ((hfr.block b ⟨by omega, by omega⟩).trans GBX.out)
    clear h13 h14 hsp hfr q13 q14 qx f13 f14
    gi_upto_region 12 with fail
    refine wpIn_region_invL (Ks wc [.val (.int .i64 lo'), .val (.pointer (some ⟨b, 0, none⟩)), .val (.int .i64 la), .val (.int .i64 (min lo' la)), .val (.int .i64 hi'), .val (.pointer (some ⟨b, 0, none⟩)), .val (.int .i64 la), .val (.int .i64 (max hi' la)), .val undef, .val undef]) (SpanS w5.heap.size lo' hi' la wc) (by kernel_rfl) (by kernel_rfl) (by kernel_rfl) (by kernel_rfl) (fun ⟨_, _, hlo⟩ => (show False from hlo)) ⟨(Fr.refl _ _).drew, HR13.out, HR14.out⟩ ?_ ?_
    · refine ⟨?_, ?_, ?_, ?_, ?_, ?_, ?_, ?_, ?_, ?_, trivial⟩
      · intro _ A0 w2 hI hd hnd K hK; have e0 := hI.q hnd 13; have hS := hI.world
        have hcc := SpanS.load13 hS (hI.waits hnd 8 rfl (by kernel_rfl))
        refine wanted_go rfl ?_; clear hI hd hnd; go_simp
        exact hK.out _ _ (hS.other 0 (by decide) (by decide)) (Ks.of rfl rfl) (fun _ _ h => h)
      · intro _ A0 w2 hI hd hnd K hK; have e0 := hI.q hnd 16; have hS := hI.world; refine wanted_go rfl ?_; clear hI hd hnd; go_simp
        exact hK.out _ _ (hS.other 1 (by decide) (by decide)) (Ks.of rfl rfl) (fun _ _ h => h)
      · intro _ A0 w2 hI hd hnd K hK; have e0 := hI.p hd 1 51; have hS := hI.world; have hcc : w2.cell? ⟨b, 0, none⟩ = some (.int .i64 la) := blk_cell ((hS.1.block b ⟨by omega, by omega⟩).trans HBX2.out) 0
        refine wanted_go rfl ?_; clear hI hd hnd; go_simp
        exact hK.out _ _ (hS.other 2 (by decide) (by decide)) (Ks.of rfl rfl) (fun _ _ h => h)
      · intro _ A0 w2 hI hd hnd K hK; have e0 := hI.p hd 0 50; have e1 := hI.p hd 2 52; have hS := hI.world; refine wanted_go rfl ?_; clear hI hd hnd; go_simp
        exact hK.out _ _ (hS.other 3 (by decide) (by decide)) (Ks.of rfl rfl) (fun _ _ h => h)
      · intro _ A0 w2 hI hd hnd K hK; have e0 := hI.q hnd 14; have hS := hI.world
        have hcc := SpanS.load14 hS (hI.waits hnd 9 rfl (by kernel_rfl))
        refine wanted_go rfl ?_; clear hI hd hnd; go_simp
        exact hK.out _ _ (hS.other 4 (by decide) (by decide)) (Ks.of rfl rfl) (fun _ _ h => h)
      · intro _ A0 w2 hI hd hnd K hK; have e0 := hI.q hnd 16; have hS := hI.world; refine wanted_go rfl ?_; clear hI hd hnd; go_simp
        exact hK.out _ _ (hS.other 5 (by decide) (by decide)) (Ks.of rfl rfl) (fun _ _ h => h)
      · intro _ A0 w2 hI hd hnd K hK; have e0 := hI.p hd 5 55; have hS := hI.world; have hcc : w2.cell? ⟨b, 0, none⟩ = some (.int .i64 la) := blk_cell ((hS.1.block b ⟨by omega, by omega⟩).trans HBX2.out) 0
        refine wanted_go rfl ?_; clear hI hd hnd; go_simp
        exact hK.out _ _ (hS.other 6 (by decide) (by decide)) (Ks.of rfl rfl) (fun _ _ h => h)
      · intro _ A0 w2 hI hd hnd K hK; have e0 := hI.p hd 4 54; have e1 := hI.p hd 6 56; have hS := hI.world; refine wanted_go rfl ?_; clear hI hd hnd; go_simp
        exact hK.out _ _ (hS.other 7 (by decide) (by decide)) (Ks.of rfl rfl) (fun _ _ h => h)
      · intro _ A0 w2 hI hd hnd K hK; have e0 := hI.q hnd 13; have e1 := hI.p hd 3 53; have hS := hI.world
        have hsz := hI.lsize
        have hcc := SpanS.c13 hS
        have hcf := SpanS.f13 hS
        refine wanted_go rfl ?_; clear hI hd hnd; go_simp
        exact hK.out undef _ (hS.set13 (by rw [hsz]; decide)) (Ks.of rfl rfl) (fun _ _ h => Ks.vals (by simp) h)
      · intro _ A0 w2 hI hd hnd K hK; have e0 := hI.q hnd 14; have e1 := hI.p hd 7 57; have hS := hI.world
        have hsz := hI.lsize
        have hcc := SpanS.c14 hS
        have hcf := SpanS.f14 hS
        refine wanted_go rfl ?_; clear hI hd hnd; go_simp
        exact hK.out undef _ (hS.set14 (by rw [hsz]; decide)) (Ks.of rfl rfl) (fun _ _ h => Ks.vals (by simp) h)
    · intro _ A0 w2 hI hall
      obtain ⟨hf2, h13, h14⟩ := hI.world.fin (hall 8 (by decide)) (hall 9 (by decide))
      clear hI hall
      have hW2 : Fr (fun q => q ≠ w5.heap.size ∧ q ≠ w5.heap.size + 2 ∧ q ≠ w5.heap.size + 3) W w2 := ((HF3.out.mono (fun q hq => hq.1)).trans (HFR.out.mono (fun q hq => ⟨hq.2.1, hq.2.2⟩))).trans (hf2.mono (fun q hq => ⟨hq.2.1, hq.2.2⟩))
      have hs12 := HS12.out
      have hs5 := HS5.out
      have hnm : ∀ (k : Nat) (o : Obj), W.heap[k]? = some o → o.isCells = true → k ≠ w5.heap.size := fun k o ho hc e => by
       obtain ⟨D, ⟨es, clock, hb, _⟩, _⟩ := HM.out
       rw [e, hb] at ho
       cases ho
       cases hc
      have hKN : KeepN w.heap.size (fun q => q = w5.heap.size + 2 ∨ q = w5.heap.size + 3) W w2 := ⟨(hW2.mono (fun q (hq : q < w.heap.size) => ⟨by omega, by omega, by omega⟩)).below, fun k o hk ho hc => (hW2.block k ⟨hnm k o ho hc, fun e => hk (.inl e), fun e => hk (.inr e)⟩).trans ho⟩
      refine (show KeepsFrom W12.heap.size W w2 ∧ KeepN w.heap.size (fun q => q = w5.heap.size + 2 ∨ q = w5.heap.size + 3) W w2 ∧ TriI w.heap.size w5.heap.size W12 (pre ++ [⟨(t, ⟨la, lm, lp⟩), hx⟩]) w2 from ⟨⟨hW2.size, fun k o hk ho _ => (hW2.block k ⟨by omega, by omega, by omega⟩).trans ho⟩, hKN, HKW.out.trans hKN, ⟨fun d => if d = la then some (s + lm) else f d, ?_, fun c => ?_⟩, _, _, h13, h14, Span.next HSP2.out ⟨(t, ⟨la, lm, lp⟩), hx⟩⟩)
      · rw [List.length_append, List.length_singleton]
        exact HM3.out.same ((hf2.block _ ⟨by omega, by omega⟩).trans (HFR.out.block _ ⟨by omega, by omega⟩))
      · rw [HNX.out c]
        show (if c = la then some (s + lm) else f c).getD 0 = sumPd (fun _ _ => true) c (pre.map (·.1)) + (if la = c ∧ true = true then lm else 0)
        by_cases hc : c = la
        · subst hc
          rw [if_pos rfl, if_pos ⟨rfl, rfl⟩, ← HF.out, HSV.out]; rfl
        · rw [if_neg hc, if_neg (fun h => hc h.1.symm), HF.out]; omega
  case done =>
   rintro D ys W0 hD hys ⟨hK, ⟨f, hM, hf⟩, lo, hi, h13, h14, hsp⟩ hD2
   have HF := Lib.hid (show ∀ c, (f c).getD 0 = sumE (qB d) l ent c from fun c => by rw [hf c, hys]; exact sum_bal l ent c d)
   have m0 := blk_cell (hK.cells (by omega) F1.out) 0
   have n13 := blk_cell h13 0
   have n14 := blk_cell h14 0
   have HKW := Lib.hid hK
   have HM := Lib.hid hM
   have HHD := Lib.hid hD2
   have HDS := Lib.hid hD
   have HSPN := Lib.hid hsp
   have HYS := Lib.hid hys
   clear hK hf hM hD2 hsp hys hD
   obtain ⟨FF, hFF⟩ : ∃ FF : Int → Int, (fun c => sumE (qB d) l ent c) = FF := ⟨_, rfl⟩
   have HFF := Lib.hid hFF
   have HF := Lib.hid (show ∀ c, (f c).getD 0 = FF c from fun c => by rw [← hFF]; exact HF.out c)
   have HFB := Lib.hid (show ∀ c, intBd (FF c) from fun c => by
    have := sumE_lt (qB d) (qB_bd _) HV.out (by have := HLE.out; omega) ent c
    rw [← hFF]
    unfold intBd
    simp only
    omega)
   have HOUT := Lib.hid (show ∀ c, FF c ≠ 0 → lo ≤ c ∧ c ≤ hi from fun c hc => Decidable.byContradiction fun hn => hc (by
    rw [← hFF]
    show sumE (qB d) l ent c = 0
    rw [← sum_bal, ← HYS.out]
    exact span_out HSPN.out hn))
   have HLH := Lib.hid (show (lo = 0 ∧ hi = -1) ∨ (1 ≤ lo ∧ lo ≤ hi ∧ hi ≤ 99999) from by
    rcases HSPN.out with ⟨_, h1, h2⟩ | ⟨h1, h2, h3, _⟩
    · exact .inl ⟨h1, h2⟩
    · exact .inr ⟨h1, h2, h3⟩)
   obtain ⟨ia, hia, hzia, hsia, hbia⟩ := info_parts info_balA
   have G1 := Lib.hid ((HKW.out.cells (show ¬ (w5.heap.size + 1 = w5.heap.size + 2 ∨ w5.heap.size + 1 = w5.heap.size + 3) by omega) F1.out))
   have G14 := Lib.hid h14
   clear hFF h13 h14 n14 m0
   go_upto_block 2 with fail
   clear n13
   go_wp2_with fail
   go_loopw [17, 18] (fun v cd wr => ∃ (k : Nat) (q : Int), q = lo + k ∧ q ≤ hi + 1 ∧ cd = .int .i64 q ∧ wr.ownsRow W0.heap.size 40 2 v (triL FF lo k).length ((triL FF lo k).flatMap balL) ∧ Below W0.heap.size W0 wr) (fun _ cd _ => (hi + 1 - intOf cd).toNat)
   case atStart => exact ⟨0, lo, by omega, by have := HLH.out; omega, rfl, World.ownsRow_nil _ _ _ _, Below.refl _ _⟩
   case round =>
    obtain ⟨k, q, hq, hqh, rfl, hown, hb⟩ := hrel
    generalize wr = w8 at *
    have HOW := Lib.hid hown
    have HB8 := Lib.hid hb
    have HQ := Lib.hid hq
    have m0 := blk_cell ((hb.block _ (blk_lt G1.out)).trans G1.out) 0
    have n14 := blk_cell ((hb.block _ (blk_lt G14.out)).trans G14.out) 0
    have HM8 := Lib.hid (HM.out.below hb)
    have hlh := HLH.out
    clear hown hb hq
    by_cases hlt : q ≤ hi
    case pos =>
     have hqb : 0 ≤ q ∧ q ≤ 99999 := by have := HQ.out; omega
     obtain ⟨hq0, hq1⟩ := hqb
     have HQI := Lib.hid (show intBd q by unfold intBd; omega)
     obtain ⟨v, hv⟩ : ∃ v, FF q = v := ⟨_, rfl⟩
     have HVE := Lib.hid hv
     have HVF := Lib.hid (show (f q).getD 0 = v by rw [HF.out, hv])
     have HVB := Lib.hid (show intBd v by rw [← hv]; exact HFB.out q)
     have hvb : -9223372036854775808 ≤ v ∧ v ≤ 9223372036854775807 := HVB.out
     obtain ⟨hv0, hv1⟩ := hvb
     clear hv hlh
     by_cases hvz : v = 0
     case pos =>
      have HST := Lib.hid (show triL FF lo (k + 1) = triL FF lo k by
       rw [triL, ← HQ.out, if_neg (fun h => h (by rw [HVE.out]; exact hvz)), List.append_nil])
      subst hvz
      go_wp2_with (show wpList _ _ _ (Oper.mk (some 66) _ _ _ _ _ :: _) _ _; refine wpList_look1 rfl (.tmp 64) (.tmp 65) rfl w5.heap.size _ f rfl HM8.out q rfl HQI.out ?_; rw [HVF.out])
      go_roundw
      case rel => exact ⟨k + 1, q + 1, by have := HQ.out; omega, by omega, rfl, by rw [HST.out]; exact HOW.out, HB8.out⟩
      case measure => simp only [intOf]; omega
     case neg =>
      have hvn : (v != 0) = true := by simpa using hvz
      have HST := Lib.hid (show triL FF lo (k + 1) = triL FF lo k ++ [⟨q, v⟩] by
       rw [triL, ← HQ.out, if_pos (fun h => hvz (by rw [← HVE.out]; exact h)), HVE.out])
      obtain ⟨nt, hnt⟩ : ∃ n, (triL FF lo k).length = n := ⟨_, rfl⟩
      have hnl : nt ≤ 100000 := by have h1 := triL_len FF lo k; have h2 := HQ.out; have h3 := HLH.out; omega
      have HNT := Lib.hid hnt
      rw [hnt] at HOW
      clear hvz hnt
      have hsx := HB8.out.size
      go_wp2_with (first | (show wpList _ _ _ (Oper.mk (some 66) _ _ _ _ _ :: _) _ _; refine wpList_look1 rfl (.tmp 64) (.tmp 65) rfl w5.heap.size _ f rfl HM8.out q rfl HQI.out ?_; rw [HVF.out]) | (at_builtin; go_loud (refine wpList_app _ rfl (.tmp 69) (.tmp 73) 35 rfl W0.heap.size 40 ia _ 2 16 bals_uty hia hzia hsia hbia rfl (by decide) u17 nt ((triL FF lo k).flatMap balL) rfl (HOW.out.alloc _) (fun _ => True) (some ⟨w8.heap.size, 0, none⟩) 1 1 [.int .i64 q, .int .i64 v] rfl (rd_new (heap_alloc_new _ _) rfl) (by simp [Value.oneCell']) (by simp only [maxLen]; omega) (by omega) (by simp; omega) ?_); intro v9 w9 hown9 hg9 _))
      go_roundw
      case rel =>
       refine ⟨k + 1, q + 1, by have := HQ.out; omega, by omega, rfl, ?_, below_grown (HB8.out.alloc hsx _) hg9 (fun q hq => (HOW.out.lt _ hq).1) (Nat.le_refl _)⟩
       rw [HST.out, List.flatMap_append, List.length_append, HNT.out]
       exact hown9
      case measure => simp only [intOf]; omega
    case neg =>
     have HTS := Lib.hid (show IsTri FF (triL FF lo k) from triL_is (fun c hc => by have h1 := HOUT.out c hc; have h2 := HQ.out; omega))
     have hTL := triL_len FF lo k
     have HTL := Lib.hid (show (triL FF lo k).length ≤ 100000 by have h2 := HQ.out; have h3 := HLH.out; omega)
     have HMB := Lib.hid (fun (x : XBalance) (hx : x ∈ triL FF lo k) => show intBd x.account ∧ intBd x.amount by
      obtain ⟨h1, h2, h3⟩ := (triL_mem FF lo k x).1 hx
      refine ⟨by unfold intBd; have h4 := HQ.out; have h5 := HLH.out; omega, ?_⟩
      rw [h3]
      exact HFB.out _)
     obtain ⟨ts, hts⟩ : ∃ ts, triL FF lo k = ts := ⟨_, rfl⟩
     rw [hts] at HTS HTL HMB HOW
     have HHD8 := Lib.hid ((HB8.out.block D (Array.getElem?_eq_some_iff.1 HHD.out).1).trans HHD.out)
     have hlc := own_listF (El := BalanceC) (f := balL) (fun _ => rfl) HOW.out (Q := fun q => W0.heap.size ≤ q ∧ q < w8.heap.size) (fun x hx => ⟨[_], [_], rfl, ⟨rfl, (HMB.out x hx).1⟩, ⟨rfl, (HMB.out x hx).2⟩⟩) (fun q hq => HOW.out.lt _ hq)
     obtain ⟨Ao, no, co, rfl⟩ := own_shape HOW.out
     obtain rfl : no = ts.length := own_val HOW.out
     have HLC := Lib.hid hlc
     obtain ⟨no, hno⟩ : ∃ x, ts.length = x := ⟨_, rfl⟩
     rw [hno]
     have HNO := Lib.hid hno
     clear hTL hts hlc hno HOW hlh
     go_wp2_with fail
     refine ⟨by simp, .inl ⟨_, _, rfl, run_takeDeferred HHD8.out, ?_⟩⟩
     have hDl : D < W0.heap.size := (Array.getElem?_eq_some_iff.1 HHD.out).1
     have hfd : Fr (fun q => q ≠ D) w8 (w8.putObj D (.deferred none)) := ⟨rfl, rfl, rfl, by simp, fun q hq => World.putObj_heap_other hq⟩
     have hb1 : Below w.heap.size w W0 := HB12.out.trans (HKW.out.1.mono (Nat.le_refl _))
     have hb2 : Below w.heap.size w w8 := hb1.trans (HB8.out.mono hb1.size)
     refine ⟨_, results_tmp2 rfl _ _ _, 0, Ao, co, ts, by rw [HNO.out]; rfl, HR.out, fun _ => HTS.out.eqv (fun c => by rw [← HFF.out]), fun h => absurd rfl h, HTL.out, ?_, ((Fr.ofBelow hb2).trans (hfd.mono (fun q (hq : q < w.heap.size) => by have := HDS.out; have := HS12.out; have := HS5.out; omega))).below⟩
     exact (ListC.fr (HLC.out) (fun h => BalanceC.fr h (hfd.mono (fun q hq => by omega))) (hfd.mono (fun q hq => by omega))).mono (fun h => BalanceC.mono h (fun q hq => by simpa using hq.2)) (fun q hq => by simpa using hq.2)
end Go.Proofs.YtekelchdbkjjjaaGreat
namespace Go.Proofs.YtekelchdbkjjjaaGreat
open Go Go.RowKit
theorem info_bal : (Tryz.prog.info? 40).map (·.size) = some 2 := by kernel_rfl
theorem BalanceC.lit {w : World} {Q : Nat → Prop} {cs : List Value} {x : XBalance} (h : BalanceC w Q cs x) : cs = balL x ∧ intBd x.account ∧ intBd x.amount := by
 obtain ⟨c0, c1, rfl, ⟨rfl, h0⟩, ⟨rfl, h1⟩⟩ := h
 exact ⟨rfl, h0, h1⟩
set_option maxHeartbeats 2000000 in
theorem same08_c (ks : List XBalance) (A1 A2 : Option Addr) (c1 c2 : Nat) (w : World) (h1 : ListC BalanceC 2 w (· < w.heap.size) [.slice A1 ks.length c1] ks) (h2 : ListC BalanceC 2 w (· < w.heap.size) [.slice A2 ks.length c2] ks) : Calls Tryz.prog 9 #[.slice A1 ks.length c1, .slice A2 ks.length c2] w (Quiet w (.bool true)) := by
 have HL1 := Lib.hid h1
 have HL2 := Lib.hid h2
 have hcap1 := h1.cap
 have hcap2 := h2.cap
 unfold maxLen at hcap1 hcap2
 obtain ⟨n, hnl⟩ : ∃ n, ks.length = n := ⟨_, rfl⟩
 have HN := Lib.hid hnl
 rw [hnl] at hcap1 hcap2 ⊢
 clear h1 h2 hnl
 go_enter Tryz.func9, Tryz.ntmps9
 go_wp2_with fail
 go_loopw [5] (fun i wr => ∃ k : Nat, k ≤ n ∧ i = .int .i64 (k : Int) ∧ Below w.heap.size w wr) (fun i _ => n - (intOf i).toNat)
 case atStart => exact ⟨0, by omega, rfl, Below.refl _ _⟩
 case round =>
  obtain ⟨k, hk, rfl, hb⟩ := hrel
  by_cases hlt : k < n
  case pos =>
   have hltI : (k : Int) < (n : Int) := by omega
   have hltI2 : 0 < n := by omega
   have hkl : k < ks.length := by rw [HN.out]; exact hlt
   obtain ⟨b1, o1, cs1, hAe1, hbw1, hes1, hat1⟩ := ListC.get HL1.out k hkl
   obtain ⟨b2, o2, cs2, hAe2, hbw2, hes2, hat2⟩ := ListC.get HL2.out k hkl
   subst hAe1 hAe2
   have hcs1 : cs1 = balL ks[k] := hes1.lit.1
   have hcs2 : cs2 = balL ks[k] := hes2.lit.1
   subst hcs1 hcs2
   obtain ⟨x, hx⟩ : ∃ x, ks[k] = x := ⟨_, rfl⟩
   rw [hx] at hat1 hat2
   obtain ⟨xa, xb⟩ := x
   have hf1 := hat1.fr (Fr.ofBelow hb)
   have hf2 := hat2.fr (Fr.ofBelow hb)
   have HA1 := Lib.hid (show At wr (· < wr.heap.size) ⟨b1, o1 + k * 2, none⟩ [.int .i64 xa, .int .i64 xb] from hf1.mono (fun q hq => Nat.lt_of_lt_of_le hq hb.size))
   have HA2 := Lib.hid (show At wr (· < wr.heap.size) ⟨b2, o2 + k * 2, none⟩ [.int .i64 xa, .int .i64 xb] from hf2.mono (fun q hq => Nat.lt_of_lt_of_le hq hb.size))
   have HB8 := Lib.hid hb
   clear hes1 hes2 hat1 hat2 hx hbw1 hbw2 hf1 hf2 hb
   go_upto_region 6 with fail
   refine wp_region_inv (Ks wr [.val (.slice (some ⟨b1, o1, none⟩) n c1), .val (.int .i64 (k : Int)), .val (.pointer (some ⟨b1, o1 + k * 2, none⟩)), .val (.agg #[.int .i64 xa, .int .i64 xb]), .val (.slice (some ⟨b2, o2, none⟩) n c2), .val (.int .i64 (k : Int)), .val (.pointer (some ⟨b2, o2 + k * 2, none⟩)), .val (.agg #[.int .i64 xa, .int .i64 xb]), .val (.bool false)])
    (fun w' => Below wr.heap.size wr w') (by kernel_rfl) (by kernel_rfl) (by kernel_rfl) (Below.refl _ _).drew ?_ ?_
   · refine ⟨?_, ?_, ?_, ?_, ?_, ?_, ?_, ?_, ?_, trivial⟩
     · intro _ A0 w2 hI hd hnd K hK; have e0 := hI.q hnd 0; exact hI.z hK
     · intro _ A0 w2 hI hd hnd K hK; have e0 := hI.q hnd 5; exact hI.z hK
     · intro _ A0 w2 hI hd hnd K hK; have e0 := hI.p hd 0 17; have e1 := hI.p hd 1 18; exact hI.z hK
     · intro _ A0 w2 hI hd hnd K hK; have e0 := hI.p hd 2 19; have hS := hI.world; have hrange : w2.rangeAt b1 (o1 + k * 2) [.int .i64 xa, .int .i64 xb] := (HA1.out.fr (Fr.ofBelow hS)).range; have hisize := info_bal; refine wanted_go rfl ?_; clear hI hd hnd
       refine wp_load_mid 40 (.tmp 19) rfl _ _ (by simpa [Act.eval, Array.getD_eq_getD_getElem?] using e0) _ _ hrange Tryz.underlying40 rfl hisize ?_
       exact kq hK hS rfl
     · intro _ A0 w2 hI hd hnd K hK; have e0 := hI.q hnd 1; exact hI.z hK
     · intro _ A0 w2 hI hd hnd K hK; have e0 := hI.q hnd 5; exact hI.z hK
     · intro _ A0 w2 hI hd hnd K hK; have e0 := hI.p hd 4 21; have e1 := hI.p hd 5 22; exact hI.z hK
     · intro _ A0 w2 hI hd hnd K hK; have e0 := hI.p hd 6 23; have hS := hI.world; have hrange : w2.rangeAt b2 (o2 + k * 2) [.int .i64 xa, .int .i64 xb] := (HA2.out.fr (Fr.ofBelow hS)).range; have hisize := info_bal; refine wanted_go rfl ?_; clear hI hd hnd
       refine wp_load_mid 40 (.tmp 23) rfl _ _ (by simpa [Act.eval, Array.getD_eq_getD_getElem?] using e0) _ _ hrange Tryz.underlying40 rfl hisize ?_
       exact kq hK hS rfl
     · intro _ A0 w2 hI hd hnd K hK; have e0 := hI.p hd 3 20; have e1 := hI.p hd 7 24; exact hI.z hK
   · intro _ A0 w2 hI hall; have hS := hI.world; have c9 := hI.ch hall [17, 18, 19, 20, 21, 22, 23, 24, 25]; obtain ⟨x0, x1, x2, x3, x4, x5, x6, x7, x8, hA, hV⟩ := c9
     obtain rfl : x8 = .bool false := hV 8 _ _ rfl _ rfl
     clear hV hI hall
     simp only [setAll, List.foldl, List.setIfInBounds_toArray, List.set_cons_zero, List.set_cons_succ] at hA
     rw [hA]
     clear hA
     have HB9 := Lib.hid (HB8.out.trans (hS.mono HB8.out.size))
     clear hS
     go_wp2_with fail
     go_roundw
     case rel => exact ⟨k + 1, by omega, by go_num, HB9.out⟩
     case measure => first | exact meas_v hlt | (simp only [intOf]; omega)
  case neg =>
   have hltI : ¬ (k : Int) < (n : Int) := by omega
   go_wp2_with fail
   go_ret
   exact ⟨rfl, hb⟩
theorem sum_out {g : XGroup} {l : List XEntry} (h : validJ g l) {ent c : Int} (hc : (findA (chartE g ent) c).isSome = false) (q : Int → Int → Int) : sumE q l ent c = 0 := by
 have h1 : ∀ m : List XEntry, (∀ x ∈ m, x ∈ l) → sumE q m ent c = 0 := fun m => by
  induction m with
  | nil => intro _; rfl
  | cons x m ih =>
   intro hm
   rw [sumE_cons, ih (fun y hy => hm y (List.mem_cons_of_mem _ hy))]
   by_cases he : x.entity = ent
   · rw [if_pos he]
     have h2 : ∀ k : List XLine, (∀ y ∈ k, y ∈ x.lines) → sumQ q c x.date k = 0 := fun k => by
      induction k with
      | nil => intro _; rfl
      | cons y k ih2 =>
       intro hk
       rw [sumQ_cons, ih2 (fun z hz => hk z (List.mem_cons_of_mem _ hz)), if_neg (fun e => by
        have h3 := (valid_line h (hm x (List.mem_cons_self ..)) (hk y (List.mem_cons_self ..))).2
        rw [he, e, hc] at h3
        cases h3)]
       rfl
     rw [h2 x.lines (fun y hy => hy)]
     rfl
   · rw [if_neg he]; rfl
 exact h1 l (fun x hx => hx)
set_option maxHeartbeats 4000000 in
theorem rtrial_c (g : XGroup) (l : List XEntry) (gl : List Value) (A : Option Addr) (c : Nat) (ent d : Int) (w : World) (hg : GroupC w (· < w.heap.size) gl g) (hl : ListC EntryC 7 w (· < w.heap.size) [.slice A l.length c] l) (hsm : smallG g) (hmo : modest l) (hle : l.length ≤ 100) :
 Calls Tryz.prog 8 #[.agg gl.toArray, .slice A l.length c, .int .i64 ent, .int .i64 d] w (TriPost g l ent d w) := by
 have HCK := Lib.hid (fun (w2 : World) (hb : Below w.heap.size w w2) => rchk14_c g l gl A c ent 0 w2 (hg.keep hb) (entries_keep hl hb) hsm hmo)
 have HBA := Lib.hid (fun (cd : Int) (hcd : intBd cd) (w2 : World) (hb : Below w.heap.size w w2) => rbal_c g l gl A c ent cd d w2 (hg.keep hb) (entries_keep hl hb) hsm hmo hle hcd)
 have HGS := Lib.hid (show gl.toArray.size = 21 by have := hg.len; simpa using this)
 have HLE := Lib.hid hle
 obtain ⟨Ac, cc, Ae, ce, hl21, h20, _, _, _, _, _, hen⟩ := hg.view
 have HEN := Lib.hid hen
 have HSM := Lib.hid hsm
 obtain ⟨n, hn⟩ : ∃ n, l.length = n := ⟨_, rfl⟩
 rw [hn] at HCK HBA ⊢
 obtain ⟨ne, hne⟩ : ∃ n, g.entities.length = n := ⟨_, rfl⟩
 have HNE := Lib.hid hne
 rw [hne] at h20
 have K20 := Lib.hid h20
 have hne1 : ne ≤ 1000 := by rw [← hne]; exact hsm.2.1
 clear hg hl hsm hmo hle h20 hn hne hl21 hen
 go_enter Tryz.func8, Tryz.ntmps8
 go_upto_region 1 with fail
 have H1 := heap_alloc_new w (.cells gl.toArray 29)
 have HB1 := below1 w (.cells gl.toArray 29)
 have HS1 := blk_lt H1
 generalize hW1 : w.alloc (Obj.cells gl.toArray 29) = W at *
 clear hW1
 have HK := Lib.hid H1
 have HB1h := Lib.hid HB1
 clear H1
 go_wp2_with (show wpList _ _ _ (Oper.mk (some 17) _ _ _ _ _ :: _) _ _; refine wpList_load_row_g rfl 29 (.tmp 4) rfl (w.heap.size) rfl _ _ _ _ HK.out Tryz.underlying29 rfl (by rw [info_group]; exact congrArg some HGS.out.symm) ?_)
 refine (HCK.out W HB1).mono ?_
 rintro e w2 ⟨r, rfl, hr, hb2⟩
 have HB02 := Lib.hid (HB1h.out.trans (hb2.mono HB1h.out.size))
 have HK2 := Lib.hid ((hb2.block _ HS1).trans HK.out)
 have HR := Lib.hid hr
 clear hb2 hr
 by_cases hr0 : r = 0
 case neg =>
  have hrb : (r != 0) = true := by simpa using hr0
  have HP := Lib.hid hr0
  clear hr0
  go_wp2_with fail
  go_ret2
  exact ⟨r, none, 0, [], rfl, HR.out, fun h => absurd h HP.out, fun _ => rfl, by decide, ⟨_, _, rfl, by decide, by decide, fun h => by cases h⟩, HB02.out⟩
 case pos =>
 subst hr0
 have HVA := Lib.hid (chkR_zero HR.out).1
 have hin := (chkR_zero HR.out).2
 have HIN := Lib.hid hin
 rw [HNE.out] at hin
 obtain ⟨q0, rfl⟩ : ∃ q : Nat, ent = (q : Int) := ⟨ent.toNat, by omega⟩
 have hq : q0 < ne := by omega
 clear hin
 have hqe : q0 < g.entities.length := by rw [HNE.out]; exact hq
 obtain ⟨be, oe, es, hAe, hbe, hes, hat⟩ := ListC.get HEN.out q0 hqe
 subst hAe
 obtain ⟨Ec, c2, Al2, cl2, hes1, hch, hlk⟩ := EntityC.lit hes
 have hn2 := (HSM.out.2.2.2 _ (List.getElem_mem hqe)).1
 have hce := chartE_at hqe
 obtain ⟨ec, hec⟩ : ∃ ec, g.entities[q0].chart = ec := ⟨_, rfl⟩
 rw [hec] at hes1 hch hn2 hce
 obtain ⟨n2, hn2'⟩ : ∃ n, ec.length = n := ⟨_, rfl⟩
 rw [hn2'] at hes1
 subst hes1
 have HN2 := Lib.hid hn2'
 have HN3 := Lib.hid hn2
 have HCH := Lib.hid hch
 have HCE := Lib.hid hce
 have HDE := Lib.hid (hat.c (j := 2) rfl)
 have HBE := Lib.hid hbe
 have hqI : (q0 : Int) < (ne : Int) := by omega
 obtain ⟨FF, hFF⟩ : ∃ FF : Int → Int, (fun cd => sumE (qB d) l (q0 : Int) cd) = FF := ⟨_, rfl⟩
 have HFF := Lib.hid hFF
 have HFB := Lib.hid (show ∀ cd, intBd (FF cd) from fun cd => by
  have := sumE_lt (qB d) (qB_bd _) HVA.out HLE.out (q0 : Int) cd
  rw [← hFF]
  unfold intBd
  simp only
  omega)
 obtain ⟨ia, hia, hzia, hsia, hbia⟩ := info_parts info_balA
 clear hn2' hn2 hch hat hbe hes hlk hec hce hqe hFF
 go_wp2_with fail
 go_loopw [11, 12] (fun v cd wr => ∃ k : Nat, k ≤ 99999 ∧ cd = .int .i64 (1 + (k : Int)) ∧ wr.ownsRow w2.heap.size 40 2 v (triL FF 1 k).length ((triL FF 1 k).flatMap balL) ∧ Below w2.heap.size w2 wr) (fun _ cd _ => (100000 - intOf cd).toNat)
 case atStart => exact ⟨0, by omega, rfl, World.ownsRow_nil _ _ _ _, Below.refl _ _⟩
 case round =>
  obtain ⟨k, hk, rfl, hown, hb⟩ := hrel
  generalize wr = w8 at *
  have HOW := Lib.hid hown
  have HB8 := Lib.hid hb
  have HB08 := Lib.hid (HB02.out.trans (hb.mono HB02.out.size))
  have HK8 := Lib.hid ((hb.block _ (blk_lt HK2.out)).trans HK2.out)
  obtain ⟨q, hq9⟩ : ∃ q : Int, 1 + (k : Int) = q := ⟨_, rfl⟩
  have HQ := Lib.hid hq9.symm
  rw [hq9]
  clear hown hb hq9
  by_cases hlt : q ≤ 99999
  case pos =>
   have hq1 : 1 ≤ q := by have := HQ.out; omega
   have HQI := Lib.hid (show intBd q by unfold intBd; omega)
   have c20 := (blk_cell HK8.out 20).trans (show gl.toArray[20]? = some (.slice (some ⟨be, oe, none⟩) ne ce) by rw [List.getElem?_toArray]; exact K20.out)
   have hde := (HB08.out.cell (p := ⟨be, oe + q0 * 5 + 2, none⟩) HBE.out).trans HDE.out
   obtain ⟨ao, hao⟩ : ∃ a, accO (findA ec q) = a := ⟨_, rfl⟩
   obtain ⟨a1, a2, a3, a4⟩ := ao
   obtain ⟨fs, hfs⟩ : ∃ s, (findA ec q).isSome = s := ⟨_, rfl⟩
   have HFN := Lib.hid (rfind_n (w := w8) HN2.out (chart_keep HCH.out HB08.out) HN3.out q HQI.out hao hfs)
   have HFE := Lib.hid (show (findA (chartE g (q0 : Int)) q).isSome = fs by rw [HCE.out]; exact hfs)
   clear hao hfs
   go_upto_region 9 with (first | (go_at_call 32; refine HFN.out.mono ?_; rintro e w5 ⟨rfl, h5⟩; have H5 := Lib.hid h5; clear h5) | (show wpList _ _ _ (Oper.mk none (Op.store _ (Operand.tmp 13) _) _ _ _ _ :: _) _ _; refine wpList_store_fresh3 rfl 87 (.tmp 13) (.tmp 37) rfl rfl w5 #[.int .i64 0, .int .i64 0, .int .i64 0, .int .i64 0] 87 #[.int .i64 a1, .int .i64 a2, .int .i64 a3, .int .i64 a4] rfl rfl rfl (info_accS ⟨a1, a2, a3, a4⟩) rfl (by simp [Value.oneCell']) ?_; intro w6 H6 HB6 HS6))
   have hb86 := H5.out.trans (HB6.mono H5.out.size)
   have HB86 := Lib.hid hb86
   have HB26 := Lib.hid (HB8.out.trans (hb86.mono HB8.out.size))
   have HB06 := Lib.hid (HB08.out.trans (hb86.mono HB08.out.size))
   have HK6 := Lib.hid ((hb86.block _ (blk_lt HK8.out)).trans HK8.out)
   have HO6 := Lib.hid (own_below HOW.out hb86)
   clear H6 HB6 HS6 hb86 c20 hde
   cases fs with
   | false =>
    have HST := Lib.hid (show triL FF 1 (k + 1) = triL FF 1 k by
     have h0 : FF (1 + (k : Int)) = 0 := by rw [← HFF.out, ← HQ.out]; exact sum_out HVA.out HFE.out _
     rw [triL, if_neg (fun h => h h0), List.append_nil])
    go_wp2_with fail
    go_roundw
    case rel => exact ⟨k + 1, by have := HQ.out; omega, congrArg (Value.int .i64) (by have := HQ.out; omega), by rw [HST.out]; exact HO6.out, HB26.out⟩
    case measure => simp only [intOf]; omega
   | true =>
    have HBC := Lib.hid (HBA.out q HQI.out w6 HB06.out)
    go_wp2_with (show wpList _ _ _ (Oper.mk (some 42) _ _ _ _ _ :: _) _ _; refine wpList_load_row_g rfl 29 (.tmp 4) rfl (w.heap.size) rfl _ _ _ _ HK6.out Tryz.underlying29 rfl (by rw [info_group]; exact congrArg some HGS.out.symm) ?_)
    refine HBC.out.mono ?_
    rintro e w9 ⟨r9, rfl, hr9, hb9⟩
    obtain rfl : r9 = 0 := hr9.uniq (chk_ok HVA.out HIN.out (fun h => h.1 rfl) (fun h => by rw [HFE.out] at h; cases h.2))
    rw [if_pos rfl]
    obtain ⟨v, hv⟩ : ∃ v, FF q = v := ⟨_, rfl⟩
    have hvs : sumE (qB d) l (q0 : Int) q = v := by rw [← hv, ← HFF.out]
    rw [hvs]
    have HVE := Lib.hid hv
    have hvb : -9223372036854775808 ≤ v ∧ v ≤ 9223372036854775807 := by rw [← hv]; exact HFB.out q
    obtain ⟨hv0, hv1⟩ := hvb
    have HB29 := Lib.hid (HB26.out.trans (hb9.mono HB26.out.size))
    have HO9 := Lib.hid (own_below HO6.out hb9)
    clear hv hvs hr9 hb9
    by_cases hvz : v = 0
    case pos =>
     have HST := Lib.hid (show triL FF 1 (k + 1) = triL FF 1 k by
      rw [triL, ← HQ.out, if_neg (fun h => h (by rw [HVE.out]; exact hvz)), List.append_nil])
     subst hvz
     go_wp2_with fail
     go_roundw
     case rel => exact ⟨k + 1, by have := HQ.out; omega, congrArg (Value.int .i64) (by have := HQ.out; omega), by rw [HST.out]; exact HO9.out, HB29.out⟩
     case measure => simp only [intOf]; omega
    case neg =>
     have hvn : (v != 0) = true := by simpa using hvz
     have HST := Lib.hid (show triL FF 1 (k + 1) = triL FF 1 k ++ [⟨q, v⟩] by
      rw [triL, ← HQ.out, if_pos (fun h => hvz (by rw [← HVE.out]; exact h)), HVE.out])
     obtain ⟨nt, hnt⟩ : ∃ n, (triL FF 1 k).length = n := ⟨_, rfl⟩
     have hnl : nt ≤ 100000 := by have h1 := triL_len FF 1 k; omega
     have HNT := Lib.hid hnt
     rw [hnt] at HO9
     clear hvz hnt
     have hsx := HB29.out.size
     go_wp2_with (at_builtin; go_loud (refine wpList_app _ rfl (.tmp 52) (.tmp 56) 35 rfl w2.heap.size 40 ia _ 2 16 bals_uty hia hzia hsia hbia rfl (by decide) u11 nt ((triL FF 1 k).flatMap balL) rfl (HO9.out.alloc _) (fun _ => True) (some ⟨w9.heap.size, 0, none⟩) 1 1 [.int .i64 q, .int .i64 v] rfl (rd_new (heap_alloc_new _ _) rfl) (by simp [Value.oneCell']) (by simp only [maxLen]; omega) (by omega) (by simp; omega) ?_); intro v9 w10 hown9 hg9 _)
     go_roundw
     case rel =>
      refine ⟨k + 1, by have := HQ.out; omega, congrArg (Value.int .i64) (by have := HQ.out; omega), ?_, below_grown (HB29.out.alloc hsx _) hg9 (fun q hq => (HO9.out.lt _ hq).1) (Nat.le_refl _)⟩
      rw [HST.out, List.flatMap_append, List.length_append, HNT.out]
      exact hown9
     case measure => simp only [intOf]; omega
  case neg =>
   have HKE := Lib.hid (show k = 99999 by have := HQ.out; omega)
   have HTS := Lib.hid (show IsTri FF (triL FF 1 k) from triL_is (fun cd hc => by
    have h1 : (findA (chartE g (q0 : Int)) cd).isSome = true := by
     cases h : (findA (chartE g (q0 : Int)) cd).isSome with
     | true => rfl
     | false => exact absurd (by rw [← HFF.out]; exact sum_out HVA.out h _) hc
    have hqe : q0 < g.entities.length := by have := HIN.out; omega
    rw [chartE_at hqe] at h1
    have h2 := find_code (group_chart HVA.out.1 hqe) h1
    have h3 := HKE.out
    omega))
   have HTL := Lib.hid (show (triL FF 1 k).length ≤ 100000 by have h1 := triL_len FF 1 k; omega)
   have HMB := Lib.hid (fun (x : XBalance) (hx : x ∈ triL FF 1 k) => show intBd x.account ∧ intBd x.amount by
    obtain ⟨h1, h2, h3⟩ := (triL_mem FF 1 k x).1 hx
    refine ⟨by unfold intBd; have h4 := HKE.out; omega, ?_⟩
    rw [h3]
    exact HFB.out _)
   obtain ⟨ts, hts⟩ : ∃ ts, triL FF 1 k = ts := ⟨_, rfl⟩
   rw [hts] at HTS HTL HMB HOW
   have hlc := own_listF (El := BalanceC) (f := balL) (fun _ => rfl) HOW.out (Q := fun q => q < w8.heap.size) (fun x hx => ⟨[_], [_], rfl, ⟨rfl, (HMB.out x hx).1⟩, ⟨rfl, (HMB.out x hx).2⟩⟩) (fun q hq => (HOW.out.lt _ hq).2)
   obtain ⟨Ao, no, co, rfl⟩ := own_shape HOW.out
   obtain rfl : no = ts.length := own_val HOW.out
   have HLC := Lib.hid hlc
   obtain ⟨no, hno⟩ : ∃ x, ts.length = x := ⟨_, rfl⟩
   rw [hno]
   have HNO := Lib.hid hno
   clear hts hlc hno HOW
   go_wp2_with fail
   go_ret2
   exact ⟨0, Ao, co, ts, by rw [HNO.out]; rfl, HR.out, fun _ => HTS.out.eqv (fun cd => by rw [← HFF.out]), fun h => absurd rfl h, HTL.out, HLC.out, HB08.out⟩
end Go.Proofs.YtekelchdbkjjjaaGreat
