/- The law EntryLines. Written by gen_q3.py. -/
import Derived.Test.YtebdajkknkapcaaG6xB0B10
import Derived.Test.YtebdajkknkapcaaG6xB14E6
import Derived.Test.YtebdajkknkapcaaG6xE8F6
import Derived.Test.YtebdajkknkapcaaG6xF4I13
import Derived.Test.YtebdajkknkapcaaG6xI14Q1
import Derived.Test.YtebdajkknkapcaaG6xQ2
import Derived.Test.YtebdajkknkapcaaProg
set_option linter.unusedVariables false
set_option linter.unusedSimpArgs false
set_option maxRecDepth 4000
attribute [local go_sem ↓] Go.wp_at_zero Go.wp_at_succ
namespace Go.Proofs.Ytebdajkknkapcaa
open Go Go.RowKit
theorem insL_sumL (all : List XLine) (x : XLine) : sumL (insL all x) = sumL all + x.amount := by
 induction all with
 | nil =>
  show sumL [x] = _
  rw [sumL_cons]
  simp [sumL]
 | cons y ys ih =>
  show sumL (if lessB y x then y :: insL ys x else if lessB x y then x :: y :: ys else mrgL y x :: ys) = _
  split
  · rw [sumL_cons, ih, sumL_cons]; omega
  · split
    · rw [sumL_cons, sumL_cons]; omega
    · rw [sumL_cons, sumL_cons]
      show y.amount + x.amount + _ = _
      omega
theorem insL_absL (all : List XLine) (x : XLine) : absL (insL all x) ≤ absL all + (x.amount.natAbs : Int) := by
 induction all with
 | nil =>
  show absL [x] ≤ _
  rw [absL_cons]
  have := absL_nonneg []
  omega
 | cons y ys ih =>
  show absL (if lessB y x then y :: insL ys x else if lessB x y then x :: y :: ys else mrgL y x :: ys) ≤ _
  split
  · rw [absL_cons, absL_cons]; omega
  · split
    · rw [absL_cons, absL_cons]; omega
    · rw [absL_cons, absL_cons]
      show ((y.amount + x.amount).natAbs : Int) + _ ≤ _
      omega
theorem foldl_sumabs (l : List XLine) : ∀ acc : List XLine, sumL (l.foldl insL acc) = sumL acc + sumL l ∧ absL (l.foldl insL acc) ≤ absL acc + absL l := by
 induction l with
 | nil => intro acc; exact ⟨by show sumL acc = _; simp [sumL], by show absL acc ≤ _; have := absL_nonneg []; omega⟩
 | cons x l ih =>
  intro acc
  obtain ⟨h1, h2⟩ := ih (insL acc x)
  have h3 := insL_sumL acc x
  have h4 := insL_absL acc x
  rw [sumL_cons, absL_cons]
  exact ⟨by show sumL (l.foldl insL (insL acc x)) = _; omega, by show absL (l.foldl insL (insL acc x)) ≤ _; omega⟩
theorem nz_all (m : List XLine) : sumL (m.filter (fun x => decide (x.amount ≠ 0))) = sumL m ∧ absL (m.filter (fun x => decide (x.amount ≠ 0))) ≤ absL m ∧ ∀ a p, sumAt (m.filter (fun x => decide (x.amount ≠ 0))) a p = sumAt m a p := by
 induction m with
 | nil => exact ⟨rfl, Int.le_refl _, fun _ _ => rfl⟩
 | cons y m ih =>
  obtain ⟨h1, h2, h3⟩ := ih
  by_cases h : y.amount = 0
  · rw [List.filter_cons_of_neg (by simpa using h)]
    refine ⟨by rw [h1, sumL_cons]; omega, by rw [absL_cons]; omega, fun a p => ?_⟩
    rw [h3, sumAt_cons, h]
    split <;> omega
  · rw [List.filter_cons_of_pos (by simpa using h)]
    refine ⟨by rw [sumL_cons, h1, sumL_cons], by rw [absL_cons, absL_cons]; omega, fun a p => ?_⟩
    rw [sumAt_cons, h3, sumAt_cons]
theorem IsNorm.sums {l out : List XLine} (h : IsNorm l out) : sumL out = sumL l ∧ absL out ≤ absL l ∧ IsNorm out out := by
 obtain rfl := h.uniq (nrmL_norm l)
 obtain ⟨h1, h2, h3⟩ := nz_all (allL l)
 obtain ⟨h4, h5⟩ := foldl_sumabs l []
 have e0 : sumL [] = 0 := rfl
 have e1 : absL [] = 0 := rfl
 have e4 : sumL (allL l) = sumL l := by unfold allL; omega
 have e5 : absL (allL l) ≤ absL l := by unfold allL; omega
 exact ⟨h1.trans e4, Int.le_trans h2 e5, h.of_sums (fun a p => ((h3 a p).trans (allL_sum l a p)).symm)⟩
theorem sumL_absL (l : List XLine) : -absL l ≤ sumL l ∧ sumL l ≤ absL l := by
 induction l with
 | nil => exact ⟨by decide, by decide⟩
 | cons x l ih => rw [sumL_cons, absL_cons]; omega
theorem preL_abs {l : List XLine} (h : absL l ≤ 4611686018427387904) : preL l := fun k => by
 have h1 := sumL_absL (l.take k)
 have h2 := absL_take l k
 omega
set_option maxHeartbeats 4000000 in
theorem law_lines (a b : List XLine) (A B : Option Addr) (ca cb : Nat) (w : World) (ha : ListC LineC 3 w (· < w.heap.size) [.slice A a.length ca] a) (hb' : ListC LineC 3 w (· < w.heap.size) [.slice B b.length cb] b) : Calls Try.prog 5 #[.slice A a.length ca, .slice B b.length cb] w (Quiet w (.bool true)) := by
 have HA := Lib.hid ha
 have HB := Lib.hid hb'
 obtain ⟨ia, hia, hzia, hsia, hbia⟩ := info_parts info_lineA
 obtain ⟨sa, hsa⟩ : ∃ p : Prop, smallL a = p := ⟨_, rfl⟩
 obtain ⟨sb, hsb⟩ : ∃ p : Prop, smallL b = p := ⟨_, rfl⟩
 have HSA := Lib.hid (fun (w2 : World) (hb : Below w.heap.size w w2) => hsa ▸ small11_c a A ca w2 (lines_keep ha hb))
 have HSB := Lib.hid (fun (w2 : World) (hb : Below w.heap.size w w2) => hsb ▸ small11_c b B cb w2 (lines_keep hb' hb))
 have HPA := Lib.hid (show sa → smallL a from fun h => hsa ▸ h)
 have HPB := Lib.hid (show sb → smallL b from fun h => hsb ▸ h)
 obtain ⟨n, hnl⟩ : ∃ n, a.length = n := ⟨_, rfl⟩
 obtain ⟨m, hml⟩ : ∃ m, b.length = m := ⟨_, rfl⟩
 have HN := Lib.hid hnl
 have HM := Lib.hid hml
 rw [hnl] at HSA ⊢
 rw [hml] at HSB ⊢
 clear ha hb' hsa hsb hnl hml
 go_enter Try.func5, Try.ntmps5
 go_wp2_with fail
 refine (awake11_c w).mono ?_
 rintro e w1 ⟨rfl, hb1⟩
 go_wp2_with fail
 refine (HSA.out w1 hb1).mono ?_
 rintro e w2 ⟨bs, rfl, hs, hb2⟩
 replace hb2 := hb1.trans (hb2.mono hb1.size)
 cases bs with
 | false =>
  clear hs
  go_wp2_with fail
  go_ret
  exact ⟨rfl, hb2⟩
 | true =>
 have HSMA := Lib.hid (HPA.out (hs rfl))
 clear hs
 go_wp2_with fail
 refine (HSB.out w2 hb2).mono ?_
 rintro e w3 ⟨bs, rfl, hs, hb3⟩
 replace hb3 := hb2.trans (hb3.mono hb2.size)
 cases bs with
 | false =>
  clear hs
  go_wp2_with fail
  go_ret
  exact ⟨rfl, hb3⟩
 | true =>
 have HSMB := Lib.hid (HPB.out (hs rfl))
 clear hs
 have hn100 : n ≤ 100 := by rw [← HN.out]; exact HSMA.out.2
 have HABS := Lib.hid (show absL a ≤ 4611686018427387904 from Int.le_trans HSMA.out.abs (by decide))
 have HMIDB := Lib.hid (show ∀ x ∈ b, midL x from fun x hx => by have := HSMB.out.1 x hx; unfold midL; omega)
 have hrd := rd_lines (lines_keep HA.out hb3) a.length (Nat.le_refl _)
 rw [List.take_length] at hrd
 rw [HN.out] at hrd
 have HRD := Lib.hid hrd
 have HB3 := Lib.hid hb3
 clear hrd hb1 hb2
 go_wp2_with (at_builtin; go_loud (refine wpList_app _ rfl (.tmp 16) (.tmp 17) 40 rfl w3.heap.size 64 ia _ 3 24 lines_uty hia hzia hsia hbia rfl (by decide) (.slice (some ⟨w3.heap.size, 0, none⟩) 0 0) 0 [] rfl (own_empty (Nat.le_refl _) (heap_alloc_new _ _)) (· < w3.heap.size) A n ca (a.flatMap lineL) rfl (HRD.out.fr (Fr.ofBelow (below1 w3 _))) (flat_one _) (by simp only [maxLen]; omega) (by omega) (by simp) ?_); intro v9 w4 hown9 hg9 _)
 rw [Nat.zero_add, List.nil_append] at hown9
 have HB34 := Lib.hid (show Below w3.heap.size w3 w4 from below_grown (below1 w3 _) hg9 (fun q hq => by simp [Value.ownBlock] at hq; omega) (Nat.le_refl _))
 have HB4 := Lib.hid (HB3.out.trans (HB34.out.mono HB3.out.size))
 obtain ⟨A4, n', c4, rfl⟩ := own_shape hown9
 obtain rfl : n = n' := (own_val hown9).symm
 have HL4 := Lib.hid (show ListC LineC 3 w4 (· < w4.heap.size) [.slice A4 a.length c4] a from by
  have h := hown9
  rw [← HN.out] at h
  exact own_listC (El := LineC) (f := lineL) (fun _ => rfl) h (Q := (· < w4.heap.size)) (fun x hx => ⟨[_], [_], [_], rfl, ⟨rfl, (lines_bd HA.out x hx).1⟩, ⟨rfl, (lines_bd HA.out x hx).2.1⟩, ⟨rfl, (lines_bd HA.out x hx).2.2⟩⟩) (fun g hg => (h.lt _ hg).2) (by rw [HN.out]; omega))
 have HNM4 := Lib.hid (show Calls Try.prog 27 #[.slice A4 n c4] w4 (NormPost a w4) from normal_n HN.out (by have h := HL4.out; exact h) HABS.out (by rw [HN.out]; omega))
 clear hown9 hg9
 go_wp2_with fail
 refine HNM4.out.mono ?_
 rintro e w5 ⟨A5, N, c5, rfl, hnm5, hlen5, hl5, hb5⟩
 have HNM5 := Lib.hid hnm5
 obtain ⟨hs5, ha5, hn5⟩ := hnm5.sums
 have HS5 := Lib.hid hs5
 have HA5 := Lib.hid (Int.le_trans ha5 HABS.out)
 have HN5 := Lib.hid hn5
 have HL5 := Lib.hid (hl5.mono (fun h => LineC.mono h (fun q hq => hq.2)) (Q' := (· < w5.heap.size)) (fun q hq => hq.2))
 have HNL5 := Lib.hid (show N.length ≤ 100 by have := HN.out; omega)
 have HB5 := Lib.hid (HB4.out.trans (hb5.mono HB4.out.size))
 have HRN := Lib.hid (show Calls Try.prog 29 #[.slice A n ca] w5 (NormPost a w5) from HN.out ▸ rnormal_c a A ca w5 (lines_keep HA.out HB5.out) HABS.out (by rw [HN.out]; omega))
 clear hnm5 hs5 ha5 hn5 hl5 hlen5 hb5 hb3
 go_wp2_with fail
 refine HRN.out.mono ?_
 rintro e w6 ⟨A6, N', c6, rfl, hnm6, hlen6, hl6, hb6⟩
 obtain rfl : N = N' := HNM5.out.uniq hnm6
 have HL6 := Lib.hid (hl6.mono (fun h => LineC.mono h (fun q hq => hq.2)) (Q' := (· < w6.heap.size)) (fun q hq => hq.2))
 have HL56 := Lib.hid (lines_keep HL5.out hb6)
 have HB6 := Lib.hid (HB5.out.trans (hb6.mono HB5.out.size))
 have HSM6 := Lib.hid (show Calls Try.prog 28 #[.slice A5 N.length c5, .slice A6 N.length c6] w6 (Quiet w6 (.bool true)) by
  have h := same_c N N A5 A6 c5 c6 w6 HL56.out HL6.out
  rw [decide_eq_true rfl] at h
  exact h)
 clear hnm6 hlen6 hl6 hb6
 obtain ⟨S, hS⟩ : ∃ S, sumL a = S := ⟨_, rfl⟩
 have HSS := Lib.hid hS
 have HSUM := Lib.hid (fun (wx : World) (hb : Below w.heap.size w wx) => show Calls Try.prog 30 #[.slice A n ca] wx (Quiet wx (.int .i64 S)) from HN.out ▸ hS ▸ sumL_c a A ca wx (lines_keep HA.out hb) (preL_abs HABS.out))
 have HRSUM := Lib.hid (fun (wx : World) (hb : Below w.heap.size w wx) => show Calls Try.prog 31 #[.slice A n ca] wx (Quiet wx (.int .i64 S)) from HN.out ▸ hS ▸ rsumL_c a A ca wx (lines_keep HA.out hb) (preL_abs HABS.out))
 clear hS
 go_wp2_with fail
 refine HSM6.out.mono ?_
 rintro e w7 ⟨rfl, hb7⟩
 have HL7 := Lib.hid (lines_keep HL56.out hb7)
 have HB7 := Lib.hid (HB6.out.trans (hb7.mono HB6.out.size))
 clear hb7
 go_wp2_with fail
 refine (HSUM.out w7 HB7.out).mono ?_
 rintro e w8 ⟨rfl, hb8⟩
 have HL8 := Lib.hid (lines_keep HL7.out hb8)
 have HB8 := Lib.hid (HB7.out.trans (hb8.mono HB7.out.size))
 clear hb8
 go_wp2_with fail
 refine (HRSUM.out w8 HB8.out).mono ?_
 rintro e w9 ⟨rfl, hb9⟩
 have HL9 := Lib.hid (lines_keep HL8.out hb9)
 have HB9 := Lib.hid (HB8.out.trans (hb9.mono HB8.out.size))
 clear hb9
 have HSN := Lib.hid (show Calls Try.prog 30 #[.slice A5 N.length c5] w9 (Quiet w9 (.int .i64 S)) from HSS.out ▸ HS5.out ▸ sumL_c N A5 c5 w9 HL9.out (preL_abs HA5.out))
 go_wp2_with fail
 refine HSN.out.mono ?_
 rintro e w10 ⟨rfl, hb10⟩
 have HL10 := Lib.hid (lines_keep HL9.out hb10)
 have HB10 := Lib.hid (HB9.out.trans (hb10.mono HB9.out.size))
 clear hb10
 go_wp2_with fail
 refine (HRSUM.out w10 HB10.out).mono ?_
 rintro e w11 ⟨rfl, hb11⟩
 have HL11 := Lib.hid (lines_keep HL10.out hb11)
 have HB11 := Lib.hid (HB10.out.trans (hb11.mono HB10.out.size))
 clear hb11
 go_wp2_with fail
 refine (normal_c N A5 c5 w11 HL11.out HA5.out (by have := HNL5.out; omega)).mono ?_
 rintro e w12 ⟨A12, N', c12, rfl, hnm12, hlen12, hl12, hb12⟩
 obtain rfl : N = N' := HN5.out.uniq hnm12
 have HL12 := Lib.hid (hl12.mono (fun h => LineC.mono h (fun q hq => hq.2)) (Q' := (· < w12.heap.size)) (fun q hq => hq.2))
 have HL512 := Lib.hid (lines_keep HL11.out hb12)
 have HB12 := Lib.hid (HB11.out.trans (hb12.mono HB11.out.size))
 have HSM12 := Lib.hid (show Calls Try.prog 28 #[.slice A12 N.length c12, .slice A5 N.length c5] w12 (Quiet w12 (.bool true)) by
  have h := same_c N N A12 A5 c12 c5 w12 HL12.out HL512.out
  rw [decide_eq_true rfl] at h
  exact h)
 clear hnm12 hlen12 hl12 hb12
 go_wp2_with fail
 refine HSM12.out.mono ?_
 rintro e w13 ⟨rfl, hb13⟩
 have HB13 := Lib.hid (HB12.out.trans (hb13.mono HB12.out.size))
 clear hb13
 obtain ⟨op, hop⟩ : ∃ op, oppB a b = op := ⟨_, rfl⟩
 have HOP := Lib.hid (show Calls Try.prog 32 #[.slice A n ca, .slice B m cb] w13 (Quiet w13 (.bool op)) from HN.out ▸ HM.out ▸ hop ▸ opp_c a b A B ca cb w13 (lines_keep HA.out HB13.out) (lines_keep HB.out HB13.out) HMIDB.out)
 have HOPE := Lib.hid hop
 clear hop
 go_wp2_with fail
 refine HOP.out.mono ?_
 rintro e w14 ⟨rfl, hb14⟩
 have HB14 := Lib.hid (HB13.out.trans (hb14.mono HB13.out.size))
 have HRO := Lib.hid (show Calls Try.prog 33 #[.slice A n ca, .slice B m cb] w14 (Quiet w14 (.bool op)) from HN.out ▸ HM.out ▸ HOPE.out ▸ ropp_c a b A B ca cb w14 (lines_keep HA.out HB14.out) (lines_keep HB.out HB14.out) HMIDB.out (by have := HSMB.out.2; omega))
 clear hb14
 go_wp2_with fail
 refine HRO.out.mono ?_
 rintro e w15 ⟨rfl, hb15⟩
 have HB15 := Lib.hid (HB14.out.trans (hb15.mono HB14.out.size))
 have hopop : (op == op) = true := by simp
 clear hb15
 go_wp2_with fail
 go_ret
 exact ⟨rfl, HB15.out⟩
end Go.Proofs.Ytebdajkknkapcaa
