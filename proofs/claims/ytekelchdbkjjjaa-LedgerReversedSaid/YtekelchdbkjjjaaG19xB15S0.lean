/- Charts: Valid. Written by gen_b15.py. -/
import Derived.Test.YtekelchdbkjjjaaG19xB0B3
import Derived.Test.YtekelchdbkjjjaaG19xB4B12
import Derived.Test.YtekelchdbkjjjaaG19xB13B14
import Derived.Test.YtekelchdbkjjjaaProg
set_option linter.unusedVariables false
set_option linter.unusedSimpArgs false
set_option maxRecDepth 4000
attribute [local go_sem ↓] Go.wp_at_zero Go.wp_at_succ
namespace Go.Proofs.Ytekelchdbkjjjaa
open Go Go.RowKit
section
variable (l : List XAccount) (A : Option Addr) (c n : Nat) (w : World) (hN : l.length = n) (hl : ListC AccountC 4 w (· < w.heap.size) [.slice A l.length c] l) (hn : l.length ≤ 1000)
include hN hl hn in
theorem proper_n (a : XAccount) (g : Bool) (hab : accB a) (hin : (findA l a.code).isSome = true) : Calls Try.prog 76 #[.slice A n c, .agg (accL a).toArray, .bool g] w (Quiet w (.bool (properP l g a))) := by
 subst hN; exact proper_c l A c a g w hl hab hn hin
include hN hl hn in
end
theorem rowP_at {l : List XAccount} {g : Bool} {i : Nat} {a : XAccount} (h : l[i]? = some a) : rowP l g i = (!(decide (0 < i) && decide ((l.getD (i - 1) {}).code ≥ a.code)) && properP l g a) := by unfold rowP; rw [h]
theorem rowP_order {l : List XAccount} {g : Bool} {j : Nat} {a b : XAccount} (h : l[j + 1]? = some a) (hb : l[j]? = some b) (ho : a.code ≤ b.code) : rowP l g (j + 1) = false := by
 rw [rowP_at h, Nat.add_sub_cancel, List.getD_eq_getElem?_getD, hb, Option.getD_some, decide_eq_true ho, decide_eq_true (Nat.succ_pos j)]; rfl
theorem rowP_rest {l : List XAccount} {g : Bool} {j : Nat} {a b : XAccount} (h : l[j + 1]? = some a) (hb : l[j]? = some b) (ho : ¬ a.code ≤ b.code) : rowP l g (j + 1) = properP l g a := by
 rw [rowP_at h, Nat.add_sub_cancel, List.getD_eq_getElem?_getD, hb, Option.getD_some, decide_eq_false (show ¬ b.code ≥ a.code by omega)]; simp
theorem rowP_first {l : List XAccount} {g : Bool} {a : XAccount} (h : l[0]? = some a) : rowP l g 0 = properP l g a := by
 rw [rowP_at h]; simp
theorem wrap_j {j : Nat} (h : j ≤ 1000) : IntKind.i64.wrap (j : Int) = (j : Int) := by
 rw [IntKind.wrap_i64]; omega
set_option maxHeartbeats 4000000 in
theorem chartValid_c (l : List XAccount) (A : Option Addr) (c : Nat) (g : Bool) (w : World) (hl : ListC AccountC 4 w (· < w.heap.size) [.slice A l.length c] l) (hn : l.length ≤ 1000) : Calls Try.prog 60 #[.slice A l.length c, .bool g] w (Quiet w (.bool (chartB l g))) := by
 obtain ⟨r, hr⟩ : ∃ r, chartB l g = r := ⟨_, rfl⟩
 rw [hr]
 have HR := Lib.hid hr
 clear hr
 obtain ⟨n, hnl⟩ : ∃ n, l.length = n := ⟨_, rfl⟩
 have HNN := Lib.hid hn
 rw [hnl] at hn
 have HL := Lib.hid hl
 have HN := Lib.hid hnl
 rw [hnl]
 clear hl hnl
 go_enter Try.func60, Try.ntmps60
 go_wp2_with fail
 go_loopw [9] (fun i wr => ∃ k : Nat, k ≤ n ∧ i = .int .i64 (k : Int) ∧ Below w.heap.size w wr ∧ ∀ j, j < k → rowP l g j = true) (fun i _ => n - (intOf i).toNat)
 case atStart => exact ⟨0, by omega, rfl, Below.refl _ _, fun j hj => by omega⟩
 case round =>
  obtain ⟨k, hk, rfl, hb, hall⟩ := hrel
  have HA := Lib.hid hall
  clear hall
  have hsz := hb.size
  by_cases hlt : k < n
  case pos =>
   have hltI : (k : Int) < (n : Int) := by omega
   have hkl : k < l.length := by rw [HN.out]; exact hlt
   obtain ⟨b, o, hAe, hbw, hall⟩ := ListC.base HL.out (by omega)
   subst hAe
   obtain ⟨es, hes, hat⟩ := hall k hkl
   obtain ⟨hes1, hab⟩ := AccountC.lit hes
   rw [hes1] at hat
   have HALL := Lib.hid hall
   clear hall
   obtain ⟨ac, hac⟩ : ∃ ac, l[k] = ac := ⟨_, rfl⟩
   rw [hac] at hat hab
   have HIN := Lib.hid (show (findA l ac.code).isSome = true by rw [← hac]; exact findA_of_mem (List.getElem_mem hkl))
   have HAC := Lib.hid (show l[k]? = some ac by rw [List.getElem?_eq_getElem hkl, hac])
   have HAR := Lib.hid ((hat.fr (Fr.ofBelow hb)).range)
   have HAB := Lib.hid hab
   clear hes hes1 hat hac hab
   obtain ⟨c1, c2, c3, c4⟩ := ac
   obtain ⟨V, hV⟩ : ∃ V, wr.alloc (.cells #[.int .i64 c1, .int .i64 c2, .int .i64 c3, .int .i64 c4] 72) = V := ⟨_, rfl⟩
   have h6 := heap_alloc_new wr (.cells #[.int .i64 c1, .int .i64 c2, .int .i64 c3, .int .i64 c4] 72)
   rw [hV] at h6
   have hwV : Below w.heap.size w V := by rw [← hV]; exact hb.alloc hsz _
   have hrV : Below wr.heap.size wr V := by rw [← hV]; exact below1 _ _
   have HV6 := Lib.hid (blk_lt h6)
   have K6 := Lib.hid (blk_cell h6 0)
   have H6 := Lib.hid h6
   have HLV := Lib.hid (chart_keep HL.out hwV)
   have HBV := Lib.hid (show b < V.heap.size by have := hwV.size; omega)
   have HVV := Lib.hid hV
   clear h6 hV
   rcases Nat.eq_zero_or_pos k with hk0 | hk0
   · subst hk0
     cases hp : properP l g ⟨c1, c2, c3, c4⟩ with
     | true =>
      have HP := Lib.hid hp
      have HROW := Lib.hid (show rowP l g 0 = true by rw [rowP_first HAC.out]; exact hp)
      clear hp
      go_upto_region 4 with (show wpList _ _ _ (Oper.mk (some 13) _ _ _ _ _ :: _) _ _; refine wpList_load_mid rfl 72 (.tmp 12) rfl b (o + 0 * 4) rfl (accL ⟨c1, c2, c3, c4⟩) _ HAR.out Try.underlying72 rfl (info_accL _) ?_)
      rw [HVV.out]
      refine wp_region_inv (Ks V [.val (.int .i64 0), .val (.bool false), .val (.bool false), .val (undef), .val (undef), .val (undef), .val (undef), .val (undef), .val (undef), .val (undef), .val (undef), .val (undef), .val (.bool false), .val (.bool false), .val (.slice (some ⟨b, o, none⟩) n c), .val (.agg (accL ⟨c1, c2, c3, c4⟩).toArray), .val (.bool g), .val (.bool true), .val (.bool false), .val (.bool false)])
       (fun w' => Below V.heap.size V w') (by kernel_rfl) (by kernel_rfl) (by kernel_rfl) (Below.refl _ _).drew ?_ ?_
      · refine ⟨?_, ?_, ?_, ?_, ?_, ?_, ?_, ?_, ?_, ?_, ?_, ?_, ?_, ?_, ?_, ?_, ?_, ?_, ?_, ?_, trivial⟩
        · intro _ A0 w2 hI hd hnd K hK; have e0 := hI.q hnd 5; exact hI.z hK
        · intro _ A0 w2 hI hd hnd K hK; have e0 := hI.p hd 0 14; exact hI.z hK
        · intro _ A0 w2 hI hd hnd K hK; have e0 := hI.p hd 1 15; exact hI.z hK
        iterate 9 (· intro _ A0 w2 hI hd hnd K hK; exact hI.z2 hK (hI.r hd 2 16 false))
        · intro _ A0 w2 hI hd hnd K hK; have e0 := hI.p hd 2 16; have e1 := hI.p hd 11 25; exact hI.z hK
        · intro _ A0 w2 hI hd hnd K hK; have e0 := hI.p hd 12 26; exact hI.z hK
        · intro _ A0 w2 hI hd hnd K hK; have e0 := hI.q hnd 0; exact hI.z1 hK (hI.r hd 13 27 false)
        · intro _ A0 w2 hI hd hnd K hK; have e0 := hI.q hnd 6; have hS := hI.world
          have hrange := ((box_at (cs := accL ⟨c1, c2, c3, c4⟩) H6.out).fr (Fr.ofBelow hS)).range
          have hisize := info_accL ⟨c1, c2, c3, c4⟩
          refine wanted_yes rfl (hI.r hd 13 27 false) ?_; clear hI hd hnd
          refine wp_load_mid 72 (.tmp 6) rfl _ _ (by simpa [Act.eval, Array.getD_eq_getD_getElem?] using e0) _ _ hrange Try.underlying72 rfl hisize ?_
          exact kq hK hS rfl
        · intro _ A0 w2 hI hd hnd K hK; have e0 := hI.q hnd 1; exact hI.z1 hK (hI.r hd 13 27 false)
        · intro _ A0 w2 hI hd hnd K hK; have e0 := hI.p hd 14 28; have e1 := hI.p hd 15 29; have e2 := hI.p hd 16 30; have hS := hI.world; refine wanted_yes rfl (hI.r hd 13 27 false) ?_; clear hI hd hnd; go_simp
          go_at_call 76
          refine (proper_n l _ c n w2 HN.out (chart_keep HLV.out hS) HNN.out ⟨c1, c2, c3, c4⟩ g HAB.out HIN.out).mono ?_
          rintro e w3 ⟨rfl, h3⟩
          exact hK.out _ _ (hS.trans (h3.mono hS.size)) (Ks.of rfl (congrArg Value.bool HP.out)) (Ks.keep h3)
        · intro _ A0 w2 hI hd hnd K hK; have e0 := hI.p hd 17 31; exact hI.z1 hK (hI.r hd 13 27 false)
        · intro _ A0 w2 hI hd hnd K hK; have e0 := hI.p hd 13 27; have e1 := hI.p hd 18 32; exact hI.z hK
      · intro _ A0 w2 hI hall; have hS := hI.world; have c9 := hI.ch hall [14, 15, 16, 17, 18, 19, 20, 21, 22, 23, 24, 25, 26, 27, 28, 29, 30, 31, 32, 33]; obtain ⟨x0, x1, x2, x3, x4, x5, x6, x7, x8, x9, x10, x11, x12, x13, x14, x15, x16, x17, x18, x19, hA, hV⟩ := c9
        obtain rfl : x19 = .bool false := hV 19 _ _ rfl _ rfl
        clear hV hI hall
        simp only [setAll, List.foldl, List.setIfInBounds_toArray, List.set_cons_zero, List.set_cons_succ] at hA
        rw [hA]
        clear hA
        go_wp2_with fail
        go_roundw
        case rel => exact ⟨0 + 1, by omega, by go_num, hwV.trans (hS.mono hwV.size), fun i hi => by
         rcases Nat.lt_or_ge i (0) with h | h
         · exact HA.out i h
         · have : i = 0 := by omega
           subst this
           exact HROW.out⟩
        case measure =>
         have e : wrap64 ((0 : Int) + 1) = ((0 + 1 : Nat) : Int) := by unfold wrap64; omega
         simp only [intOf, e]
         omega
     | false =>
      have HP := Lib.hid hp
      have hf := Lib.hid (show r = false by rw [← HR.out]; unfold chartB; rw [all_range_false hkl (by rw [rowP_first HAC.out]; exact hp)]; rfl)
      clear hp
      go_upto_region 4 with (show wpList _ _ _ (Oper.mk (some 13) _ _ _ _ _ :: _) _ _; refine wpList_load_mid rfl 72 (.tmp 12) rfl b (o + 0 * 4) rfl (accL ⟨c1, c2, c3, c4⟩) _ HAR.out Try.underlying72 rfl (info_accL _) ?_)
      rw [HVV.out]
      refine wp_region_inv (Ks V [.val (.int .i64 0), .val (.bool false), .val (.bool false), .val (undef), .val (undef), .val (undef), .val (undef), .val (undef), .val (undef), .val (undef), .val (undef), .val (undef), .val (.bool false), .val (.bool false), .val (.slice (some ⟨b, o, none⟩) n c), .val (.agg (accL ⟨c1, c2, c3, c4⟩).toArray), .val (.bool g), .val (.bool false), .val (.bool true), .val (.bool true)])
       (fun w' => Below V.heap.size V w') (by kernel_rfl) (by kernel_rfl) (by kernel_rfl) (Below.refl _ _).drew ?_ ?_
      · refine ⟨?_, ?_, ?_, ?_, ?_, ?_, ?_, ?_, ?_, ?_, ?_, ?_, ?_, ?_, ?_, ?_, ?_, ?_, ?_, ?_, trivial⟩
        · intro _ A0 w2 hI hd hnd K hK; have e0 := hI.q hnd 5; exact hI.z hK
        · intro _ A0 w2 hI hd hnd K hK; have e0 := hI.p hd 0 14; exact hI.z hK
        · intro _ A0 w2 hI hd hnd K hK; have e0 := hI.p hd 1 15; exact hI.z hK
        iterate 9 (· intro _ A0 w2 hI hd hnd K hK; exact hI.z2 hK (hI.r hd 2 16 false))
        · intro _ A0 w2 hI hd hnd K hK; have e0 := hI.p hd 2 16; have e1 := hI.p hd 11 25; exact hI.z hK
        · intro _ A0 w2 hI hd hnd K hK; have e0 := hI.p hd 12 26; exact hI.z hK
        · intro _ A0 w2 hI hd hnd K hK; have e0 := hI.q hnd 0; exact hI.z1 hK (hI.r hd 13 27 false)
        · intro _ A0 w2 hI hd hnd K hK; have e0 := hI.q hnd 6; have hS := hI.world
          have hrange := ((box_at (cs := accL ⟨c1, c2, c3, c4⟩) H6.out).fr (Fr.ofBelow hS)).range
          have hisize := info_accL ⟨c1, c2, c3, c4⟩
          refine wanted_yes rfl (hI.r hd 13 27 false) ?_; clear hI hd hnd
          refine wp_load_mid 72 (.tmp 6) rfl _ _ (by simpa [Act.eval, Array.getD_eq_getD_getElem?] using e0) _ _ hrange Try.underlying72 rfl hisize ?_
          exact kq hK hS rfl
        · intro _ A0 w2 hI hd hnd K hK; have e0 := hI.q hnd 1; exact hI.z1 hK (hI.r hd 13 27 false)
        · intro _ A0 w2 hI hd hnd K hK; have e0 := hI.p hd 14 28; have e1 := hI.p hd 15 29; have e2 := hI.p hd 16 30; have hS := hI.world; refine wanted_yes rfl (hI.r hd 13 27 false) ?_; clear hI hd hnd; go_simp
          go_at_call 76
          refine (proper_n l _ c n w2 HN.out (chart_keep HLV.out hS) HNN.out ⟨c1, c2, c3, c4⟩ g HAB.out HIN.out).mono ?_
          rintro e w3 ⟨rfl, h3⟩
          exact hK.out _ _ (hS.trans (h3.mono hS.size)) (Ks.of rfl (congrArg Value.bool HP.out)) (Ks.keep h3)
        · intro _ A0 w2 hI hd hnd K hK; have e0 := hI.p hd 17 31; exact hI.z1 hK (hI.r hd 13 27 false)
        · intro _ A0 w2 hI hd hnd K hK; have e0 := hI.p hd 13 27; have e1 := hI.p hd 18 32; exact hI.z hK
      · intro _ A0 w2 hI hall; have hS := hI.world; have c9 := hI.ch hall [14, 15, 16, 17, 18, 19, 20, 21, 22, 23, 24, 25, 26, 27, 28, 29, 30, 31, 32, 33]; obtain ⟨x0, x1, x2, x3, x4, x5, x6, x7, x8, x9, x10, x11, x12, x13, x14, x15, x16, x17, x18, x19, hA, hV⟩ := c9
        obtain rfl : x19 = .bool true := hV 19 _ _ rfl _ rfl
        clear hV hI hall
        simp only [setAll, List.foldl, List.setIfInBounds_toArray, List.set_cons_zero, List.set_cons_succ] at hA
        rw [hA]
        clear hA
        go_wp2_with fail
        go_ret
        exact ⟨by rw [hf.out]; first | done | rfl, hwV.trans (hS.mono hwV.size)⟩
   · obtain ⟨j, rfl⟩ : ∃ j, k = j + 1 := ⟨k - 1, by omega⟩
     have hjn : j < n := by omega
     have HJW := Lib.hid (wrap_j (j := j) (by omega))
     obtain ⟨es2, hes2, hat2⟩ := HALL.out j (by omega)
     obtain ⟨hes3, _⟩ := AccountC.lit hes2
     rw [hes3] at hat2
     obtain ⟨pr, hpr⟩ : ∃ pr, l[j]'(by omega) = pr := ⟨_, rfl⟩
     rw [hpr] at hat2
     have HPR := Lib.hid (show l[j]? = some pr by rw [List.getElem?_eq_getElem (by omega), hpr])
     have KP := Lib.hid (((hat2.fr (Fr.ofBelow hwV)).c (j := 0) rfl : _))
     clear hes2 hes3 hat2 hpr
     obtain ⟨p1, p2, p3, p4⟩ := pr
     by_cases ho : c1 ≤ p1
     · have hf := Lib.hid (show r = false by rw [← HR.out]; unfold chartB; rw [all_range_false hkl (rowP_order HAC.out HPR.out ho)]; rfl)
       go_upto_region 4 with (show wpList _ _ _ (Oper.mk (some 13) _ _ _ _ _ :: _) _ _; refine wpList_load_mid rfl 72 (.tmp 12) rfl b (o + (j + 1) * 4) rfl (accL ⟨c1, c2, c3, c4⟩) _ HAR.out Try.underlying72 rfl (info_accL _) ?_)
       rw [HVV.out]
       refine wp_region_inv (Ks V [.val (.int .i64 ((j + 1 : Nat) : Int)), .val (.bool true), .val (.bool true), .val (.slice (some ⟨b, o, none⟩) n c), .val (.int .i64 ((j + 1 : Nat) : Int)), .val (.int .i64 (j : Int)), .val (.pointer (some ⟨b, o + j * 4, none⟩)), .val (.pointer (some ⟨b, o + j * 4, none⟩)), .val (.int .i64 p1), .val (.pointer (some ⟨wr.heap.size, 0, none⟩)), .val (.int .i64 c1), .val (.bool true), .val (.bool true), .val (.bool true), .val (undef), .val (undef), .val (undef), .val (undef), .val (undef), .val (.bool true)])
        (fun w' => Below V.heap.size V w') (by kernel_rfl) (by kernel_rfl) (by kernel_rfl) (Below.refl _ _).drew ?_ ?_
       · refine ⟨?_, ?_, ?_, ?_, ?_, ?_, ?_, ?_, ?_, ?_, ?_, ?_, ?_, ?_, ?_, ?_, ?_, ?_, ?_, ?_, trivial⟩
         · intro _ A0 w2 hI hd hnd K hK; have e0 := hI.q hnd 5; exact hI.z hK
         · intro _ A0 w2 hI hd hnd K hK; have e0 := hI.p hd 0 14; exact hI.z hK
         · intro _ A0 w2 hI hd hnd K hK; have e0 := hI.p hd 1 15; exact hI.z hK
         · intro _ A0 w2 hI hd hnd K hK; have e0 := hI.q hnd 0; exact hI.z1 hK (hI.r hd 2 16 true)
         · intro _ A0 w2 hI hd hnd K hK; have e0 := hI.q hnd 5; exact hI.z1 hK (hI.r hd 2 16 true)
         · intro _ A0 w2 hI hd hnd K hK; have e0 := hI.p hd 4 18; have hS := hI.world; refine wanted_yes rfl (hI.r hd 2 16 true) ?_; clear hI hd hnd; go_simp
           exact hK.out _ _ hS (Ks.of rfl (congrArg (Value.int .i64) HJW.out)) (fun _ _ h => h)
         · intro _ A0 w2 hI hd hnd K hK; have e0 := hI.p hd 3 17; have e1 := hI.p hd 5 19; exact hI.z1 hK (hI.r hd 2 16 true)
         · intro _ A0 w2 hI hd hnd K hK; have e0 := hI.p hd 6 20; exact hI.z1 hK (hI.r hd 2 16 true)
         · intro _ A0 w2 hI hd hnd K hK; have e0 := hI.p hd 7 21; have hS := hI.world; have hcc : w2.cell? ⟨b, o + j * 4, none⟩ = _ := (hS.cell (p := ⟨b, o + j * 4, none⟩) HBV.out).trans KP.out; exact hI.z1 hK (hI.r hd 2 16 true)
         · intro _ A0 w2 hI hd hnd K hK; have e0 := hI.q hnd 6; exact hI.z1 hK (hI.r hd 2 16 true)
         · intro _ A0 w2 hI hd hnd K hK; have e0 := hI.p hd 9 23; have hS := hI.world; have hcc : w2.cell? ⟨wr.heap.size, 0, none⟩ = _ := (hS.cell (p := ⟨wr.heap.size, 0, none⟩) HV6.out).trans K6.out; exact hI.z1 hK (hI.r hd 2 16 true)
         · intro _ A0 w2 hI hd hnd K hK; have e0 := hI.p hd 8 22; have e1 := hI.p hd 10 24; exact hI.z1 hK (hI.r hd 2 16 true)
         · intro _ A0 w2 hI hd hnd K hK; have e0 := hI.p hd 2 16; have e1 := hI.p hd 11 25; exact hI.z hK
         · intro _ A0 w2 hI hd hnd K hK; have e0 := hI.p hd 12 26; exact hI.z hK
         iterate 5 (· intro _ A0 w2 hI hd hnd K hK; exact hI.z2 hK (hI.r hd 13 27 true))
         · intro _ A0 w2 hI hd hnd K hK; have e0 := hI.p hd 13 27; have e1 := hI.p hd 18 32; exact hI.z hK
       · intro _ A0 w2 hI hall; have hS := hI.world; have c9 := hI.ch hall [14, 15, 16, 17, 18, 19, 20, 21, 22, 23, 24, 25, 26, 27, 28, 29, 30, 31, 32, 33]; obtain ⟨x0, x1, x2, x3, x4, x5, x6, x7, x8, x9, x10, x11, x12, x13, x14, x15, x16, x17, x18, x19, hA, hV⟩ := c9
         obtain rfl : x19 = .bool true := hV 19 _ _ rfl _ rfl
         clear hV hI hall
         simp only [setAll, List.foldl, List.setIfInBounds_toArray, List.set_cons_zero, List.set_cons_succ] at hA
         rw [hA]
         clear hA
         go_wp2_with fail
         go_ret
         exact ⟨by rw [hf.out]; first | done | rfl, hwV.trans (hS.mono hwV.size)⟩
     · cases hp : properP l g ⟨c1, c2, c3, c4⟩ with
       | true =>
        have HP := Lib.hid hp
        have HROW := Lib.hid (show rowP l g (j + 1) = true by rw [rowP_rest HAC.out HPR.out ho]; exact hp)
        clear hp
        go_upto_region 4 with (show wpList _ _ _ (Oper.mk (some 13) _ _ _ _ _ :: _) _ _; refine wpList_load_mid rfl 72 (.tmp 12) rfl b (o + (j + 1) * 4) rfl (accL ⟨c1, c2, c3, c4⟩) _ HAR.out Try.underlying72 rfl (info_accL _) ?_)
        rw [HVV.out]
        refine wp_region_inv (Ks V [.val (.int .i64 ((j + 1 : Nat) : Int)), .val (.bool true), .val (.bool true), .val (.slice (some ⟨b, o, none⟩) n c), .val (.int .i64 ((j + 1 : Nat) : Int)), .val (.int .i64 (j : Int)), .val (.pointer (some ⟨b, o + j * 4, none⟩)), .val (.pointer (some ⟨b, o + j * 4, none⟩)), .val (.int .i64 p1), .val (.pointer (some ⟨wr.heap.size, 0, none⟩)), .val (.int .i64 c1), .val (.bool false), .val (.bool false), .val (.bool false), .val (.slice (some ⟨b, o, none⟩) n c), .val (.agg (accL ⟨c1, c2, c3, c4⟩).toArray), .val (.bool g), .val (.bool true), .val (.bool false), .val (.bool false)])
         (fun w' => Below V.heap.size V w') (by kernel_rfl) (by kernel_rfl) (by kernel_rfl) (Below.refl _ _).drew ?_ ?_
        · refine ⟨?_, ?_, ?_, ?_, ?_, ?_, ?_, ?_, ?_, ?_, ?_, ?_, ?_, ?_, ?_, ?_, ?_, ?_, ?_, ?_, trivial⟩
          · intro _ A0 w2 hI hd hnd K hK; have e0 := hI.q hnd 5; exact hI.z hK
          · intro _ A0 w2 hI hd hnd K hK; have e0 := hI.p hd 0 14; exact hI.z hK
          · intro _ A0 w2 hI hd hnd K hK; have e0 := hI.p hd 1 15; exact hI.z hK
          · intro _ A0 w2 hI hd hnd K hK; have e0 := hI.q hnd 0; exact hI.z1 hK (hI.r hd 2 16 true)
          · intro _ A0 w2 hI hd hnd K hK; have e0 := hI.q hnd 5; exact hI.z1 hK (hI.r hd 2 16 true)
          · intro _ A0 w2 hI hd hnd K hK; have e0 := hI.p hd 4 18; have hS := hI.world; refine wanted_yes rfl (hI.r hd 2 16 true) ?_; clear hI hd hnd; go_simp
            exact hK.out _ _ hS (Ks.of rfl (congrArg (Value.int .i64) HJW.out)) (fun _ _ h => h)
          · intro _ A0 w2 hI hd hnd K hK; have e0 := hI.p hd 3 17; have e1 := hI.p hd 5 19; exact hI.z1 hK (hI.r hd 2 16 true)
          · intro _ A0 w2 hI hd hnd K hK; have e0 := hI.p hd 6 20; exact hI.z1 hK (hI.r hd 2 16 true)
          · intro _ A0 w2 hI hd hnd K hK; have e0 := hI.p hd 7 21; have hS := hI.world; have hcc : w2.cell? ⟨b, o + j * 4, none⟩ = _ := (hS.cell (p := ⟨b, o + j * 4, none⟩) HBV.out).trans KP.out; exact hI.z1 hK (hI.r hd 2 16 true)
          · intro _ A0 w2 hI hd hnd K hK; have e0 := hI.q hnd 6; exact hI.z1 hK (hI.r hd 2 16 true)
          · intro _ A0 w2 hI hd hnd K hK; have e0 := hI.p hd 9 23; have hS := hI.world; have hcc : w2.cell? ⟨wr.heap.size, 0, none⟩ = _ := (hS.cell (p := ⟨wr.heap.size, 0, none⟩) HV6.out).trans K6.out; exact hI.z1 hK (hI.r hd 2 16 true)
          · intro _ A0 w2 hI hd hnd K hK; have e0 := hI.p hd 8 22; have e1 := hI.p hd 10 24; exact hI.z1 hK (hI.r hd 2 16 true)
          · intro _ A0 w2 hI hd hnd K hK; have e0 := hI.p hd 2 16; have e1 := hI.p hd 11 25; exact hI.z hK
          · intro _ A0 w2 hI hd hnd K hK; have e0 := hI.p hd 12 26; exact hI.z hK
          · intro _ A0 w2 hI hd hnd K hK; have e0 := hI.q hnd 0; exact hI.z1 hK (hI.r hd 13 27 false)
          · intro _ A0 w2 hI hd hnd K hK; have e0 := hI.q hnd 6; have hS := hI.world
            have hrange := ((box_at (cs := accL ⟨c1, c2, c3, c4⟩) H6.out).fr (Fr.ofBelow hS)).range
            have hisize := info_accL ⟨c1, c2, c3, c4⟩
            refine wanted_yes rfl (hI.r hd 13 27 false) ?_; clear hI hd hnd
            refine wp_load_mid 72 (.tmp 6) rfl _ _ (by simpa [Act.eval, Array.getD_eq_getD_getElem?] using e0) _ _ hrange Try.underlying72 rfl hisize ?_
            exact kq hK hS rfl
          · intro _ A0 w2 hI hd hnd K hK; have e0 := hI.q hnd 1; exact hI.z1 hK (hI.r hd 13 27 false)
          · intro _ A0 w2 hI hd hnd K hK; have e0 := hI.p hd 14 28; have e1 := hI.p hd 15 29; have e2 := hI.p hd 16 30; have hS := hI.world; refine wanted_yes rfl (hI.r hd 13 27 false) ?_; clear hI hd hnd; go_simp
            go_at_call 76
            refine (proper_n l _ c n w2 HN.out (chart_keep HLV.out hS) HNN.out ⟨c1, c2, c3, c4⟩ g HAB.out HIN.out).mono ?_
            rintro e w3 ⟨rfl, h3⟩
            exact hK.out _ _ (hS.trans (h3.mono hS.size)) (Ks.of rfl (congrArg Value.bool HP.out)) (Ks.keep h3)
          · intro _ A0 w2 hI hd hnd K hK; have e0 := hI.p hd 17 31; exact hI.z1 hK (hI.r hd 13 27 false)
          · intro _ A0 w2 hI hd hnd K hK; have e0 := hI.p hd 13 27; have e1 := hI.p hd 18 32; exact hI.z hK
        · intro _ A0 w2 hI hall; have hS := hI.world; have c9 := hI.ch hall [14, 15, 16, 17, 18, 19, 20, 21, 22, 23, 24, 25, 26, 27, 28, 29, 30, 31, 32, 33]; obtain ⟨x0, x1, x2, x3, x4, x5, x6, x7, x8, x9, x10, x11, x12, x13, x14, x15, x16, x17, x18, x19, hA, hV⟩ := c9
          obtain rfl : x19 = .bool false := hV 19 _ _ rfl _ rfl
          clear hV hI hall
          simp only [setAll, List.foldl, List.setIfInBounds_toArray, List.set_cons_zero, List.set_cons_succ] at hA
          rw [hA]
          clear hA
          go_wp2_with fail
          go_roundw
          case rel => exact ⟨j + 1 + 1, by omega, by go_num, hwV.trans (hS.mono hwV.size), fun i hi => by
           rcases Nat.lt_or_ge i (j + 1) with h | h
           · exact HA.out i h
           · have : i = j + 1 := by omega
             subst this
             exact HROW.out⟩
          case measure =>
           have e : wrap64 ((((j + 1 : Nat) : Int) : Int) + 1) = ((j + 1 + 1 : Nat) : Int) := by unfold wrap64; omega
           simp only [intOf, e]
           omega
       | false =>
        have HP := Lib.hid hp
        have hf := Lib.hid (show r = false by rw [← HR.out]; unfold chartB; rw [all_range_false hkl (by rw [rowP_rest HAC.out HPR.out ho]; exact hp)]; rfl)
        clear hp
        go_upto_region 4 with (show wpList _ _ _ (Oper.mk (some 13) _ _ _ _ _ :: _) _ _; refine wpList_load_mid rfl 72 (.tmp 12) rfl b (o + (j + 1) * 4) rfl (accL ⟨c1, c2, c3, c4⟩) _ HAR.out Try.underlying72 rfl (info_accL _) ?_)
        rw [HVV.out]
        refine wp_region_inv (Ks V [.val (.int .i64 ((j + 1 : Nat) : Int)), .val (.bool true), .val (.bool true), .val (.slice (some ⟨b, o, none⟩) n c), .val (.int .i64 ((j + 1 : Nat) : Int)), .val (.int .i64 (j : Int)), .val (.pointer (some ⟨b, o + j * 4, none⟩)), .val (.pointer (some ⟨b, o + j * 4, none⟩)), .val (.int .i64 p1), .val (.pointer (some ⟨wr.heap.size, 0, none⟩)), .val (.int .i64 c1), .val (.bool false), .val (.bool false), .val (.bool false), .val (.slice (some ⟨b, o, none⟩) n c), .val (.agg (accL ⟨c1, c2, c3, c4⟩).toArray), .val (.bool g), .val (.bool false), .val (.bool true), .val (.bool true)])
         (fun w' => Below V.heap.size V w') (by kernel_rfl) (by kernel_rfl) (by kernel_rfl) (Below.refl _ _).drew ?_ ?_
        · refine ⟨?_, ?_, ?_, ?_, ?_, ?_, ?_, ?_, ?_, ?_, ?_, ?_, ?_, ?_, ?_, ?_, ?_, ?_, ?_, ?_, trivial⟩
          · intro _ A0 w2 hI hd hnd K hK; have e0 := hI.q hnd 5; exact hI.z hK
          · intro _ A0 w2 hI hd hnd K hK; have e0 := hI.p hd 0 14; exact hI.z hK
          · intro _ A0 w2 hI hd hnd K hK; have e0 := hI.p hd 1 15; exact hI.z hK
          · intro _ A0 w2 hI hd hnd K hK; have e0 := hI.q hnd 0; exact hI.z1 hK (hI.r hd 2 16 true)
          · intro _ A0 w2 hI hd hnd K hK; have e0 := hI.q hnd 5; exact hI.z1 hK (hI.r hd 2 16 true)
          · intro _ A0 w2 hI hd hnd K hK; have e0 := hI.p hd 4 18; have hS := hI.world; refine wanted_yes rfl (hI.r hd 2 16 true) ?_; clear hI hd hnd; go_simp
            exact hK.out _ _ hS (Ks.of rfl (congrArg (Value.int .i64) HJW.out)) (fun _ _ h => h)
          · intro _ A0 w2 hI hd hnd K hK; have e0 := hI.p hd 3 17; have e1 := hI.p hd 5 19; exact hI.z1 hK (hI.r hd 2 16 true)
          · intro _ A0 w2 hI hd hnd K hK; have e0 := hI.p hd 6 20; exact hI.z1 hK (hI.r hd 2 16 true)
          · intro _ A0 w2 hI hd hnd K hK; have e0 := hI.p hd 7 21; have hS := hI.world; have hcc : w2.cell? ⟨b, o + j * 4, none⟩ = _ := (hS.cell (p := ⟨b, o + j * 4, none⟩) HBV.out).trans KP.out; exact hI.z1 hK (hI.r hd 2 16 true)
          · intro _ A0 w2 hI hd hnd K hK; have e0 := hI.q hnd 6; exact hI.z1 hK (hI.r hd 2 16 true)
          · intro _ A0 w2 hI hd hnd K hK; have e0 := hI.p hd 9 23; have hS := hI.world; have hcc : w2.cell? ⟨wr.heap.size, 0, none⟩ = _ := (hS.cell (p := ⟨wr.heap.size, 0, none⟩) HV6.out).trans K6.out; exact hI.z1 hK (hI.r hd 2 16 true)
          · intro _ A0 w2 hI hd hnd K hK; have e0 := hI.p hd 8 22; have e1 := hI.p hd 10 24; exact hI.z1 hK (hI.r hd 2 16 true)
          · intro _ A0 w2 hI hd hnd K hK; have e0 := hI.p hd 2 16; have e1 := hI.p hd 11 25; exact hI.z hK
          · intro _ A0 w2 hI hd hnd K hK; have e0 := hI.p hd 12 26; exact hI.z hK
          · intro _ A0 w2 hI hd hnd K hK; have e0 := hI.q hnd 0; exact hI.z1 hK (hI.r hd 13 27 false)
          · intro _ A0 w2 hI hd hnd K hK; have e0 := hI.q hnd 6; have hS := hI.world
            have hrange := ((box_at (cs := accL ⟨c1, c2, c3, c4⟩) H6.out).fr (Fr.ofBelow hS)).range
            have hisize := info_accL ⟨c1, c2, c3, c4⟩
            refine wanted_yes rfl (hI.r hd 13 27 false) ?_; clear hI hd hnd
            refine wp_load_mid 72 (.tmp 6) rfl _ _ (by simpa [Act.eval, Array.getD_eq_getD_getElem?] using e0) _ _ hrange Try.underlying72 rfl hisize ?_
            exact kq hK hS rfl
          · intro _ A0 w2 hI hd hnd K hK; have e0 := hI.q hnd 1; exact hI.z1 hK (hI.r hd 13 27 false)
          · intro _ A0 w2 hI hd hnd K hK; have e0 := hI.p hd 14 28; have e1 := hI.p hd 15 29; have e2 := hI.p hd 16 30; have hS := hI.world; refine wanted_yes rfl (hI.r hd 13 27 false) ?_; clear hI hd hnd; go_simp
            go_at_call 76
            refine (proper_n l _ c n w2 HN.out (chart_keep HLV.out hS) HNN.out ⟨c1, c2, c3, c4⟩ g HAB.out HIN.out).mono ?_
            rintro e w3 ⟨rfl, h3⟩
            exact hK.out _ _ (hS.trans (h3.mono hS.size)) (Ks.of rfl (congrArg Value.bool HP.out)) (Ks.keep h3)
          · intro _ A0 w2 hI hd hnd K hK; have e0 := hI.p hd 17 31; exact hI.z1 hK (hI.r hd 13 27 false)
          · intro _ A0 w2 hI hd hnd K hK; have e0 := hI.p hd 13 27; have e1 := hI.p hd 18 32; exact hI.z hK
        · intro _ A0 w2 hI hall; have hS := hI.world; have c9 := hI.ch hall [14, 15, 16, 17, 18, 19, 20, 21, 22, 23, 24, 25, 26, 27, 28, 29, 30, 31, 32, 33]; obtain ⟨x0, x1, x2, x3, x4, x5, x6, x7, x8, x9, x10, x11, x12, x13, x14, x15, x16, x17, x18, x19, hA, hV⟩ := c9
          obtain rfl : x19 = .bool true := hV 19 _ _ rfl _ rfl
          clear hV hI hall
          simp only [setAll, List.foldl, List.setIfInBounds_toArray, List.set_cons_zero, List.set_cons_succ] at hA
          rw [hA]
          clear hA
          go_wp2_with fail
          go_ret
          exact ⟨by rw [hf.out]; first | done | rfl, hwV.trans (hS.mono hwV.size)⟩
  case neg =>
   have hltI : ¬ (k : Int) < (n : Int) := by omega
   have hall : (List.range l.length).all (rowP l g) = true := all_range_true (fun j hj => HA.out j (by have := HN.out; omega))
   have HF := Lib.hid (show r = decide (n ≤ 200) by rw [← HR.out]; unfold chartB; rw [hall, HN.out]; rfl)
   clear hall
   by_cases h2 : n ≤ 200
   · have h2I : (n : Int) ≤ 200 := by omega
     have hf := Lib.hid (show r = true by rw [HF.out]; exact decide_eq_true h2)
     go_wp2_with fail
     go_ret
     exact ⟨by rw [hf.out]; first | done | rfl, hb⟩
   · have h2I : ¬ (n : Int) ≤ 200 := by omega
     have hf := Lib.hid (show r = false by rw [HF.out]; exact decide_eq_false h2)
     go_wp2_with fail
     go_ret
     exact ⟨by rw [hf.out]; first | done | rfl, hb⟩
def IsLen (m : Nat) (v : Value) (_ : World) : Prop := ∃ A c, v = .slice A m c
theorem IsLen.keep (m : Nat) : ∀ v w w', Below w.heap.size w w' → IsLen m v w → IsLen m v w' := fun _ _ _ _ h => h
section
variable (l : List XAccount) (A : Option Addr) (c n m : Nat) (w : World) (hN : l.length = n) (hl : ListC AccountC 4 w (· < w.heap.size) [.slice A l.length c] l) (hn : l.length ≤ 1000)
include hN hl hn in
end
section
variable {l : List XAccount} {g : Bool} {i j : Nat} {a b : XAccount}
end
def basedB (a : XAccount) : Bool := if a.kind = 1 ∨ a.kind = 2 then decide (a.basis = 1 ∨ a.basis = 3) else if a.kind = 3 then decide (a.basis = 3) else decide (a.basis = 2)
set_option maxHeartbeats 1000000 in
theorem based_c (a : XAccount) (w : World) : Calls Try.prog 63 #[.agg (accL a).toArray] w (Quiet w (.bool (basedB a))) := by
 obtain ⟨r, hr⟩ : ∃ r, basedB a = r := ⟨_, rfl⟩
 rw [hr]
 have HR := Lib.hid hr
 clear hr
 obtain ⟨c1, c2, c3, c4⟩ := a
 go_enter Try.func63, Try.ntmps63
 go_upto_region 1 with fail
 have H0 := heap_alloc_new w (.cells #[.int .i64 c1, .int .i64 c2, .int .i64 c3, .int .i64 c4] 72)
 have HB := below1 w (.cells #[.int .i64 c1, .int .i64 c2, .int .i64 c3, .int .i64 c4] 72)
 generalize hW : w.alloc (Obj.cells #[.int .i64 c1, .int .i64 c2, .int .i64 c3, .int .i64 c4] 72) = W at *
 have d1 := blk_cell H0 1
 have d2 := blk_cell H0 2
 clear hW H0
 by_cases k1 : c2 = 1
 · subst k1
   by_cases b1 : c3 = 1
   · subst b1
     have hf := Lib.hid (show r = true by rw [← HR.out]; unfold basedB; simp)
     go_wp2_with fail
     go_ret
     exact ⟨by rw [hf.out]; first | done | rfl, HB⟩
   · have b1' : (c3 == 1) = false := by simpa using b1
     by_cases b3 : c3 = 3
     · subst b3
       have hf := Lib.hid (show r = true by rw [← HR.out]; unfold basedB; simp)
       go_wp2_with fail
       go_ret
       exact ⟨by rw [hf.out]; first | done | rfl, HB⟩
     · have b3' : (c3 == 3) = false := by simpa using b3
       have hf := Lib.hid (show r = false by rw [← HR.out]; unfold basedB; simp [b1, b3])
       go_wp2_with fail
       go_ret
       exact ⟨by rw [hf.out]; first | done | rfl, HB⟩
 · have k1' : (c2 == 1) = false := by simpa using k1
   by_cases k2 : c2 = 2
   · subst k2
     by_cases b1 : c3 = 1
     · subst b1
       have hf := Lib.hid (show r = true by rw [← HR.out]; unfold basedB; simp)
       go_wp2_with fail
       go_ret
       exact ⟨by rw [hf.out]; first | done | rfl, HB⟩
     · have b1' : (c3 == 1) = false := by simpa using b1
       by_cases b3 : c3 = 3
       · subst b3
         have hf := Lib.hid (show r = true by rw [← HR.out]; unfold basedB; simp)
         go_wp2_with fail
         go_ret
         exact ⟨by rw [hf.out]; first | done | rfl, HB⟩
       · have b3' : (c3 == 3) = false := by simpa using b3
         have hf := Lib.hid (show r = false by rw [← HR.out]; unfold basedB; simp [b1, b3])
         go_wp2_with fail
         go_ret
         exact ⟨by rw [hf.out]; first | done | rfl, HB⟩
   · have k2' : (c2 == 2) = false := by simpa using k2
     by_cases k3 : c2 = 3
     · subst k3
       by_cases b3 : c3 = 3
       · subst b3
         have hf := Lib.hid (show r = true by rw [← HR.out]; unfold basedB; simp)
         go_wp2_with fail
         go_ret
         exact ⟨by rw [hf.out]; first | done | rfl, HB⟩
       · have b3' : (c3 == 3) = false := by simpa using b3
         have hf := Lib.hid (show r = false by rw [← HR.out]; unfold basedB; simp [b3])
         go_wp2_with fail
         go_ret
         exact ⟨by rw [hf.out]; first | done | rfl, HB⟩
     · have k3' : (c2 == 3) = false := by simpa using k3
       by_cases b2 : c3 = 2
       · subst b2
         have hf := Lib.hid (show r = true by rw [← HR.out]; unfold basedB; simp [k1, k2, k3])
         go_wp2_with fail
         go_ret
         exact ⟨by rw [hf.out]; first | done | rfl, HB⟩
       · have b2' : (c3 == 2) = false := by simpa using b2
         have hf := Lib.hid (show r = false by rw [← HR.out]; unfold basedB; simp [k1, k2, k3, b2])
         go_wp2_with fail
         go_ret
         exact ⟨by rw [hf.out]; first | done | rfl, HB⟩
structure XRole where
 name : ByteArray := ByteArray.empty
 code : Int := 0
 kind : Int := 0
 basis : Int := 0
 mapped : Bool := false
def roleL (q : XRole) : List Value := [.string q.name, .int .i64 q.code, .int .i64 q.kind, .int .i64 q.basis, .bool q.mapped]
def RoleC (_ : World) (_ : Nat → Prop) (cs : List Value) (q : XRole) : Prop := cs = roleL q
def rolesL (r0 r1 r2 r3 r4 r5 r6 r7 r8 r9 r10 r11 r12 r13 r14 : Int) : List XRole := [{ name := ⟨#[105, 110, 118, 101, 115, 116, 109, 101, 110, 116]⟩, code := r0, kind := 1, basis := 3, mapped := true }, { name := ⟨#[103, 111, 111, 100, 119, 105, 108, 108]⟩, code := r1, kind := 1, basis := 3, mapped := false }, { name := ⟨#[97, 115, 115, 111, 99, 105, 97, 116, 101, 115]⟩, code := r2, kind := 1, basis := 3, mapped := false }, { name := ⟨#[105, 110, 118, 101, 110, 116, 111, 114, 121]⟩, code := r3, kind := 1, basis := 1, mapped := true }, { name := ⟨#[114, 101, 115, 101, 114, 118, 101]⟩, code := r4, kind := 3, basis := 3, mapped := false }, { name := ⟨#[109, 105, 110, 111, 114, 105, 116, 121]⟩, code := r5, kind := 3, basis := 3, mapped := false }, { name := ⟨#[114, 101, 116, 97, 105, 110, 101, 100]⟩, code := r6, kind := 3, basis := 3, mapped := true }, { name := ⟨#[97, 99, 113, 117, 105, 114, 101, 100]⟩, code := r7, kind := 3, basis := 3, mapped := false }, { name := ⟨#[111, 119, 110, 101, 114, 115]⟩, code := r8, kind := 3, basis := 3, mapped := false }, { name := ⟨#[100, 105, 115, 112, 111, 115, 97, 108]⟩, code := r9, kind := 4, basis := 2, mapped := false }, { name := ⟨#[97, 115, 115, 111, 99, 105, 97, 116, 101, 80, 114, 111, 102, 105, 116]⟩, code := r10, kind := 4, basis := 2, mapped := false }, { name := ⟨#[100, 105, 118, 105, 100, 101, 110, 100, 115]⟩, code := r11, kind := 4, basis := 2, mapped := true }, { name := ⟨#[109, 105, 110, 111, 114, 105, 116, 121, 80, 114, 111, 102, 105, 116]⟩, code := r12, kind := 5, basis := 2, mapped := false }, { name := ⟨#[100, 105, 102, 102, 101, 114, 101, 110, 99, 101]⟩, code := r13, kind := 5, basis := 2, mapped := false }, { name := ⟨#[109, 97, 114, 103, 105, 110]⟩, code := r14, kind := 5, basis := 2, mapped := false }]
theorem flat_at {β : Type} {w : World} {Q : Nat → Prop} {b sz : Nat} (f : β → List Value) (hf : ∀ x, (f x).length = sz) : ∀ (xs : List β) (o : Nat), At w Q ⟨b, o, none⟩ (xs.flatMap f) → ∀ i x, xs[i]? = some x → At w Q ⟨b, o + i * sz, none⟩ (f x)
 | [], _, _, i, x, h => by simp at h
 | y :: xs, o, ha, i, x, h => by
  rw [List.flatMap_cons] at ha
  obtain ⟨h1, h2⟩ := ha.split
  cases i with
  | zero =>
   simp only [List.getElem?_cons_zero, Option.some.injEq] at h
   subst h
   simpa using h1
  | succ i =>
   simp only [List.getElem?_cons_succ] at h
   rw [hf y] at h2
   have := flat_at f hf xs (o + sz) h2 i x h
   rwa [show o + (i + 1) * sz = o + sz + i * sz from by rw [Nat.succ_mul]; omega]
theorem roles_made {w : World} {Q : Nat → Prop} {g : Nat} {t : TypeId} {xs : List XRole} {arr : Array Value} {n : Nat} (h : w.heap[g]? = some (.cells arr t (0, 0))) (hQ : Q g) (ha : arr = (xs.flatMap roleL).toArray) (hn : xs.length = n) (hm : n ≤ 1000) : ListC RoleC 5 w Q [.slice (some ⟨g, 0, none⟩) n n] xs := by
 subst hn ha
 have hat : At w Q ⟨g, 0, none⟩ (xs.flatMap roleL) := by
  have h2 := box_at (cs := xs.flatMap roleL) h
  exact ⟨hQ, h2.2⟩
 exact ⟨_, _, rfl, Nat.le_refl _, by unfold maxLen; omega, fun _ => ⟨g, 0, rfl, hQ, fun i x hx => ⟨roleL x, rfl, flat_at roleL (fun _ => rfl) xs 0 hat i x hx⟩⟩⟩
set_option maxHeartbeats 1000000 in
theorem roles_c (r0 r1 r2 r3 r4 r5 r6 r7 r8 r9 r10 r11 r12 r13 r14 : Int) (w : World) : Calls Try.prog 64 #[.agg #[.int .i64 r0, .int .i64 r1, .int .i64 r2, .int .i64 r3, .int .i64 r4, .int .i64 r5, .int .i64 r6, .int .i64 r7, .int .i64 r8, .int .i64 r9, .int .i64 r10, .int .i64 r11, .int .i64 r12, .int .i64 r13, .int .i64 r14]] w (fun e w' => ∃ v, e = .returned v ∧ (∃ A c, v = .slice A 15 c) ∧ ListC RoleC 5 w' (fun k => w.heap.size ≤ k ∧ k < w'.heap.size) [v] (rolesL r0 r1 r2 r3 r4 r5 r6 r7 r8 r9 r10 r11 r12 r13 r14) ∧ Below w.heap.size w w') := by
 go_enter Try.func64, Try.ntmps64
 go_upto_region 1 with fail
 have H0 := heap_alloc_new w (.cells #[.int .i64 r0, .int .i64 r1, .int .i64 r2, .int .i64 r3, .int .i64 r4, .int .i64 r5, .int .i64 r6, .int .i64 r7, .int .i64 r8, .int .i64 r9, .int .i64 r10, .int .i64 r11, .int .i64 r12, .int .i64 r13, .int .i64 r14] 26)
 have HB := below1 w (.cells #[.int .i64 r0, .int .i64 r1, .int .i64 r2, .int .i64 r3, .int .i64 r4, .int .i64 r5, .int .i64 r6, .int .i64 r7, .int .i64 r8, .int .i64 r9, .int .i64 r10, .int .i64 r11, .int .i64 r12, .int .i64 r13, .int .i64 r14] 26)
 generalize hW : w.alloc (Obj.cells #[.int .i64 r0, .int .i64 r1, .int .i64 r2, .int .i64 r3, .int .i64 r4, .int .i64 r5, .int .i64 r6, .int .i64 r7, .int .i64 r8, .int .i64 r9, .int .i64 r10, .int .i64 r11, .int .i64 r12, .int .i64 r13, .int .i64 r14] 26) = W at *
 have d0 := blk_cell H0 0
 have d1 := blk_cell H0 1
 have d2 := blk_cell H0 2
 have d3 := blk_cell H0 3
 have d4 := blk_cell H0 4
 have d5 := blk_cell H0 5
 have d6 := blk_cell H0 6
 have d7 := blk_cell H0 7
 have d8 := blk_cell H0 8
 have d9 := blk_cell H0 9
 have d10 := blk_cell H0 10
 have d11 := blk_cell H0 11
 have d12 := blk_cell H0 12
 have d13 := blk_cell H0 13
 have d14 := blk_cell H0 14
 clear hW H0
 go_wp2_with fail
 go_ret
 exact ⟨_, rfl, ⟨_, _, rfl⟩, roles_made (heap_alloc_new W _) ⟨HB.size, by simp⟩ rfl rfl (by omega), HB.alloc HB.size _⟩
set_option maxHeartbeats 1000000 in
theorem notBased_c (a : XAccount) (w : World) : Calls Try.prog 62 #[.agg (accL a).toArray] w (Quiet w (.bool (!basedB a))) := by
 obtain ⟨c1, c2, c3, c4⟩ := a
 go_enter Try.func62, Try.ntmps62
 go_upto_region 1 with fail
 have H0 := heap_alloc_new w (.cells #[.int .i64 c1, .int .i64 c2, .int .i64 c3, .int .i64 c4] 72)
 have HB := below1 w (.cells #[.int .i64 c1, .int .i64 c2, .int .i64 c3, .int .i64 c4] 72)
 generalize hW : w.alloc (Obj.cells #[.int .i64 c1, .int .i64 c2, .int .i64 c3, .int .i64 c4] 72) = W at *
 have d0 := blk_cell H0 0
 have d1 := blk_cell H0 1
 have d2 := blk_cell H0 2
 have d3 := blk_cell H0 3
 clear hW H0
 go_wp2_with fail
 refine (based_c ⟨c1, c2, c3, c4⟩ W).mono ?_
 rintro e w2 ⟨rfl, hb2⟩
 go_wp2_with fail
 go_ret
 exact ⟨rfl, HB.trans (hb2.mono HB.size)⟩
def roleRow (ch : List XAccount) (L : List XRole) (i : Nat) : Bool := match L[i]? with
 | none => false
 | some q => match findA ch q.code with
  | none => false
  | some a => a.kind == q.kind && a.basis == q.basis && !((L.take i).any fun p => p.code == q.code)
def rolesB (ch : List XAccount) (L : List XRole) : Bool := (List.range L.length).all (roleRow ch L)
def rolesOf (r : XRoles) : List XRole := rolesL r.investment r.goodwill r.associates r.inventory r.reserve r.minority r.retained r.acquired r.owners r.disposal r.associateProfit r.dividends r.minorityProfit r.difference r.margin
def accountsB (ch : List XAccount) (r : XRoles) : Bool := chartB ch true && ch.all basedB && rolesB ch (rolesOf r)
def linkB (ec ch : List XAccount) (l : XLink) : Bool := match findA ec l.from_ with
 | none => false
 | some a => match findA ch l.to_ with
  | none => false
  | some b => a.kind == b.kind && decide (inD l.since)
def linkRow (ec ch : List XAccount) (ls : List XLink) (i : Nat) : Bool := match ls[i]? with
 | none => false
 | some l => linkB ec ch l && !((ls.take i).any fun k => k.from_ == l.from_ && k.since == l.since)
def linksB (ec ch : List XAccount) (ls : List XLink) : Bool := (List.range ls.length).all (linkRow ec ch ls)
def mappingB (e : XEntity) (ch : List XAccount) : Bool := chartB ch true && chartB e.chart false && decide (e.links.length ≤ 400) && linksB e.chart ch e.links
def closedB (L : List XRole) (c : Int) : Bool := L.any fun q => q.code == c && !q.mapped
def closedP (L : List XRole) (c : Int) : Bool := L.foldl (fun b q => if c = q.code then !q.mapped else b) false
def entityB (ch : List XAccount) (L : List XRole) (e : XEntity) : Bool := nameB e.name && curB e.currency && mappingB e ch && e.links.all fun l => !closedB L l.to_
def entRow (ch : List XAccount) (L : List XRole) (es : List XEntity) (i : Nat) : Bool := match es[i]? with
 | none => false
 | some e => !((es.take i).any fun x => decide (x.name = e.name)) && entityB ch L e
def entsB (ch : List XAccount) (L : List XRole) (es : List XEntity) : Bool := (List.range es.length).all (entRow ch L es)
def groupB (g : XGroup) : Bool := curB g.currency && calB g.calendar.year g.calendar.month g.calendar.periods && accountsB g.chart g.roles && decide (1 ≤ g.entities.length ∧ g.entities.length ≤ 12) && !(g.entities.getD 0 {}).joint && entsB g.chart (rolesOf g.roles) g.entities
theorem roles_apart {ch : List XAccount} {L : List XRole} (h : rolesB ch L = true) {i j : Nat} (hij : i < j) (hj : j < L.length) : (L[i]'(by omega)).code ≠ L[j].code := by
 unfold rolesB at h
 rw [List.all_eq_true] at h
 have h1 := h j (List.mem_range.2 hj)
 unfold roleRow at h1
 rw [List.getElem?_eq_getElem hj] at h1
 simp only at h1
 cases hf : findA ch L[j].code with
 | none => rw [hf] at h1; cases h1
 | some a =>
  rw [hf] at h1
  simp only [Bool.and_eq_true, Bool.not_eq_true', List.any_eq_false, beq_iff_eq] at h1
  refine h1.2 _ ?_
  rw [List.mem_take_iff_getElem]
  exact ⟨i, by omega, rfl⟩
theorem closed_take {L : List XRole} {c : Int} {k : Nat} (hk : k < L.length) : closedP (L.take (k + 1)) c = (if c = L[k].code then !L[k].mapped else closedP (L.take k) c) := by
 unfold closedP
 rw [List.take_add_one, List.getElem?_eq_getElem hk, List.foldl_append]; rfl
theorem closed_both {L : List XRole} (hd : ∀ i j (hij : i < j) (hj : j < L.length), (L[i]'(by omega)).code ≠ L[j].code) (c : Int) : ∀ k, k ≤ L.length → closedP (L.take k) c = closedB (L.take k) c
 | 0, _ => rfl
 | k + 1, hk => by
  have hkl : k < L.length := hk
  rw [closed_take hkl, closed_both hd c k (by omega)]
  unfold closedB
  rw [List.take_add_one, List.getElem?_eq_getElem hkl, List.any_append]
  simp only [Option.toList_some, List.any_cons, List.any_nil, Bool.or_false]
  by_cases h : c = L[k].code
  · rw [if_pos h]
    have h0 : (L.take k).any (fun q => q.code == c && !q.mapped) = false := by
     rw [List.any_eq_false]
     intro q hq
     rw [List.mem_take_iff_getElem] at hq
     obtain ⟨i, hi, rfl⟩ := hq
     have := hd i k (by omega) hkl
     rw [h]
     simp [this]
    rw [h0, h]; simp
  · rw [if_neg h]
    have : (L[k].code == c) = false := by simpa using fun e => h e.symm
    rw [this]; simp
theorem closed_eq {ch : List XAccount} {L : List XRole} (h : rolesB ch L = true) (c : Int) : closedP L c = closedB L c := by
 have := closed_both (fun i j hij hj => roles_apart h hij hj) c L.length (Nat.le_refl _)
 rwa [List.take_length] at this
theorem take_any_succ {α : Type} {L : List α} {k : Nat} (hk : k < L.length) (p : α → Bool) : (L.take (k + 1)).any p = ((L.take k).any p || p L[k]) := by
 rw [List.take_add_one, List.getElem?_eq_getElem hk, List.any_append]; simp
def accOf (k b c : Int) : XAccount := ⟨c, k, b, if c = 1010 ∨ c = 1100 ∨ c = 1200 then 1000 else if c = 2100 ∨ c = 4100 then c - 100 else 0⟩
def rowsS : List (Int × Int × List Int) := [(1, 1, [1000, 1010, 1100, 1200]), (1, 3, [1300, 1500, 1600, 1700]), (2, 1, [2000, 2100]), (3, 3, [3000, 3100, 3200, 3300, 3400, 3500]), (4, 2, [4000, 4100, 4500, 4600, 4700]), (5, 2, [5000, 5100, 5500, 5600, 5700])]
def chartS : List XAccount := [⟨1000, 1, 1, 0⟩, ⟨1010, 1, 1, 1000⟩, ⟨1100, 1, 1, 1000⟩, ⟨1200, 1, 1, 1000⟩, ⟨1300, 1, 3, 0⟩, ⟨1500, 1, 3, 0⟩, ⟨1600, 1, 3, 0⟩, ⟨1700, 1, 3, 0⟩, ⟨2000, 2, 1, 0⟩, ⟨2100, 2, 1, 2000⟩, ⟨3000, 3, 3, 0⟩, ⟨3100, 3, 3, 0⟩, ⟨3200, 3, 3, 0⟩, ⟨3300, 3, 3, 0⟩, ⟨3400, 3, 3, 0⟩, ⟨3500, 3, 3, 0⟩, ⟨4000, 4, 2, 0⟩, ⟨4100, 4, 2, 4000⟩, ⟨4500, 4, 2, 0⟩, ⟨4600, 4, 2, 0⟩, ⟨4700, 4, 2, 0⟩, ⟨5000, 5, 2, 0⟩, ⟨5100, 5, 2, 0⟩, ⟨5500, 5, 2, 0⟩, ⟨5600, 5, 2, 0⟩, ⟨5700, 5, 2, 0⟩]
def kindsS : List Int := [1, 1, 1, 1, 1, 2, 2, 3, 3, 4, 4, 4, 5, 5]
def tosS : List Int := [1010, 1100, 1200, 1300, 1500, 2000, 2100, 3000, 3300, 4000, 4100, 4700, 5000, 5100]
def echartS : List XAccount := [⟨10, 1, 0, 0⟩, ⟨20, 1, 0, 0⟩, ⟨30, 1, 0, 0⟩, ⟨40, 1, 0, 0⟩, ⟨50, 1, 0, 0⟩, ⟨60, 2, 0, 0⟩, ⟨70, 2, 0, 0⟩, ⟨80, 3, 0, 0⟩, ⟨90, 3, 0, 0⟩, ⟨100, 4, 0, 0⟩, ⟨110, 4, 0, 0⟩, ⟨120, 4, 0, 0⟩, ⟨130, 5, 0, 0⟩, ⟨140, 5, 0, 0⟩]
def elinksS : List XLink := [⟨10, 1010, -25567⟩, ⟨20, 1100, -25567⟩, ⟨30, 1200, -25567⟩, ⟨40, 1300, -25567⟩, ⟨50, 1500, -25567⟩, ⟨60, 2000, -25567⟩, ⟨70, 2100, -25567⟩, ⟨80, 3000, -25567⟩, ⟨90, 3300, -25567⟩, ⟨100, 4000, -25567⟩, ⟨110, 4100, -25567⟩, ⟨120, 4700, -25567⟩, ⟨130, 5000, -25567⟩, ⟨140, 5100, -25567⟩]
def entS (n c : ByteArray) (j : Bool) : XEntity := { name := n, currency := c, chart := echartS, links := elinksS, joint := j }
def rolesS : XRoles := { investment := 1500, goodwill := 1600, associates := 1700, inventory := 1200, reserve := 3100, minority := 3200, retained := 3300, acquired := 3400, owners := 3500, disposal := 4500, associateProfit := 4600, dividends := 4700, minorityProfit := 5500, difference := 5600, margin := 5700 }
def sampleG : XGroup := { currency := ⟨#[69, 85, 82]⟩, calendar := ⟨2026, 1, 36⟩, chart := chartS, roles := rolesS, entities := [entS ⟨#[112, 97, 114, 101, 110, 116]⟩ ⟨#[69, 85, 82]⟩ false, entS ⟨#[110, 111, 114, 116, 104]⟩ ⟨#[69, 85, 82]⟩ false, entS ⟨#[119, 101, 115, 116]⟩ ⟨#[85, 83, 68]⟩ false, entS ⟨#[106, 111, 105, 110, 116]⟩ ⟨#[85, 83, 68]⟩ true] }
set_option maxRecDepth 100000 in
theorem sample_valid : groupB sampleG = true := by decide +kernel
end Go.Proofs.Ytekelchdbkjjjaa
