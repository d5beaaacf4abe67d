/- Charts: Valid. Written by gen_b15.py. -/
import Derived.Test.YtekelchdbkjjjaaGreatG20xB0B2
import Derived.Test.YtekelchdbkjjjaaGreatG20xB3B8
import Derived.Test.YtekelchdbkjjjaaGreatG20xB9B13
import Derived.Test.YtekelchdbkjjjaaGreatG20xB14
import Derived.Test.YtekelchdbkjjjaaGreatProg
set_option linter.unusedVariables false
set_option linter.unusedSimpArgs false
set_option maxRecDepth 4000
attribute [local go_sem ↓] Go.wp_at_zero Go.wp_at_succ
namespace Go.Proofs.YtekelchdbkjjjaaGreat
open Go Go.RowKit
section
variable (l : List XAccount) (A : Option Addr) (c n : Nat) (w : World) (hN : l.length = n) (hl : ListC AccountC 4 w (· < w.heap.size) [.slice A l.length c] l) (hn : l.length ≤ 1000)
include hN hl hn in
theorem proper_n (a : XAccount) (g : Bool) (hab : accB a) (hin : (findA l a.code).isSome = true) : Calls Tryz.prog 117 #[.slice A n c, .agg (accL a).toArray, .bool g] w (Quiet w (.bool (properP l g a))) := by
 subst hN; exact proper_c l A c a g w hl hab hn hin
include hN hl hn in
theorem rproper_n (a : XAccount) (g : Bool) (hab : accB a) : Calls Tryz.prog 122 #[.slice A n c, .agg (accL a).toArray, .bool g] w (Quiet w (.bool (properR l g a))) := by
 subst hN; exact rproper_c l A c a g w hl hab hn
end
theorem rowP_at {l : List XAccount} {g : Bool} {i : Nat} {a : XAccount} (h : l[i]? = some a) : rowP l g i = (!(decide (0 < i) && decide ((l.getD (i - 1) {}).code ≥ a.code)) && properP l g a) := by unfold rowP; rw [h]
theorem rowR_at {l : List XAccount} {g : Bool} {i : Nat} {a : XAccount} (h : l[i]? = some a) : rowR l g i = (properR l g a && !(decide (0 < i) && decide (a.code ≤ (l.getD (i - 1) {}).code)) && decide ((upR l (l.length + 1) [] a.code).length ≤ l.length)) := by unfold rowR; rw [h]
theorem rowP_order {l : List XAccount} {g : Bool} {j : Nat} {a b : XAccount} (h : l[j + 1]? = some a) (hb : l[j]? = some b) (ho : a.code ≤ b.code) : rowP l g (j + 1) = false := by
 rw [rowP_at h, Nat.add_sub_cancel, List.getD_eq_getElem?_getD, hb, Option.getD_some, decide_eq_true ho, decide_eq_true (Nat.succ_pos j)]; rfl
theorem rowP_rest {l : List XAccount} {g : Bool} {j : Nat} {a b : XAccount} (h : l[j + 1]? = some a) (hb : l[j]? = some b) (ho : ¬ a.code ≤ b.code) : rowP l g (j + 1) = properP l g a := by
 rw [rowP_at h, Nat.add_sub_cancel, List.getD_eq_getElem?_getD, hb, Option.getD_some, decide_eq_false (show ¬ b.code ≥ a.code by omega)]; simp
theorem rowP_first {l : List XAccount} {g : Bool} {a : XAccount} (h : l[0]? = some a) : rowP l g 0 = properP l g a := by
 rw [rowP_at h]; simp
theorem wrap_j {j : Nat} (h : j ≤ 1000) : IntKind.i64.wrap (j : Int) = (j : Int) := by
 rw [IntKind.wrap_i64]; omega
set_option maxHeartbeats 4000000 in
theorem chartValid_c (l : List XAccount) (A : Option Addr) (c : Nat) (g : Bool) (w : World) (hl : ListC AccountC 4 w (· < w.heap.size) [.slice A l.length c] l) (hn : l.length ≤ 1000) : Calls Tryz.prog 87 #[.slice A l.length c, .bool g] w (Quiet w (.bool (chartB l g))) := by
 obtain ⟨r, hr⟩ : ∃ r, chartB l g = r := ⟨_, rfl⟩
 rw [hr]
 have HR := Lib.hid hr
 clear hr
 obtain ⟨n, hnl⟩ : ∃ n, l.length = n := ⟨_, rfl⟩
 have HNN := Lib.hid hn
 rw [hnl] at hn
 have HL := Lib.hid hl
 have HN := Lib.hid hnl
 rw [hnl]
 clear hl hnl
 go_enter Tryz.func87, Tryz.ntmps87
 go_wp2_with fail
 go_loopw [9] (fun i wr => ∃ k : Nat, k ≤ n ∧ i = .int .i64 (k : Int) ∧ Below w.heap.size w wr ∧ ∀ j, j < k → rowP l g j = true) (fun i _ => n - (intOf i).toNat)
 case atStart => exact ⟨0, by omega, rfl, Below.refl _ _, fun j hj => by omega⟩
 case round =>
  obtain ⟨k, hk, rfl, hb, hall⟩ := hrel
  have HA := Lib.hid hall
  clear hall
  have hsz := hb.size
  by_cases hlt : k < n
  case pos =>
   have hltI : (k : Int) < (n : Int) := by omega
   have hkl : k < l.length := by rw [HN.out]; exact hlt
   obtain ⟨b, o, hAe, hbw, hall⟩ := ListC.base HL.out (by omega)
   subst hAe
   obtain ⟨es, hes, hat⟩ := hall k hkl
   obtain ⟨hes1, hab⟩ := AccountC.lit hes
   rw [hes1] at hat
   have HALL := Lib.hid hall
   clear hall
   obtain ⟨ac, hac⟩ : ∃ ac, l[k] = ac := ⟨_, rfl⟩
   rw [hac] at hat hab
   have HIN := Lib.hid (show (findA l ac.code).isSome = true by rw [← hac]; exact findA_of_mem (List.getElem_mem hkl))
   have HAC := Lib.hid (show l[k]? = some ac by rw [List.getElem?_eq_getElem hkl, hac])
   have HAR := Lib.hid ((hat.fr (Fr.ofBelow hb)).range)
   have HAB := Lib.hid hab
   clear hes hes1 hat hac hab
   obtain ⟨c1, c2, c3, c4⟩ := ac
   obtain ⟨V, hV⟩ : ∃ V, wr.alloc (.cells #[.int .i64 c1, .int .i64 c2, .int .i64 c3, .int .i64 c4] 87) = V := ⟨_, rfl⟩
   have h6 := heap_alloc_new wr (.cells #[.int .i64 c1, .int .i64 c2, .int .i64 c3, .int .i64 c4] 87)
   rw [hV] at h6
   have hwV : Below w.heap.size w V := by rw [← hV]; exact hb.alloc hsz _
   have hrV : Below wr.heap.size wr V := by rw [← hV]; exact below1 _ _
   have HV6 := Lib.hid (blk_lt h6)
   have K6 := Lib.hid (blk_cell h6 0)
   have H6 := Lib.hid h6
   have HLV := Lib.hid (chart_keep HL.out hwV)
   have HBV := Lib.hid (show b < V.heap.size by have := hwV.size; omega)
   have HVV := Lib.hid hV
   clear h6 hV
   rcases Nat.eq_zero_or_pos k with hk0 | hk0
   · subst hk0
     cases hp : properP l g ⟨c1, c2, c3, c4⟩ with
     | true =>
      have HP := Lib.hid hp
      have HROW := Lib.hid (show rowP l g 0 = true by rw [rowP_first HAC.out]; exact hp)
      clear hp
      go_upto_region 4 with (show wpList _ _ _ (Oper.mk (some 13) _ _ _ _ _ :: _) _ _; refine wpList_load_mid rfl 87 (.tmp 12) rfl b (o + 0 * 4) rfl (accL ⟨c1, c2, c3, c4⟩) _ HAR.out Tryz.underlying87 rfl (info_accL _) ?_)
      rw [HVV.out]
      refine wp_region_inv (Ks V [.val (.int .i64 0), .val (.bool false), .val (.bool false), .val (undef), .val (undef), .val (undef), .val (undef), .val (undef), .val (undef), .val (undef), .val (undef), .val (undef), .val (.bool false), .val (.bool false), .val (.slice (some ⟨b, o, none⟩) n c), .val (.agg (accL ⟨c1, c2, c3, c4⟩).toArray), .val (.bool g), .val (.bool true), .val (.bool false), .val (.bool false)])
       (fun w' => Below V.heap.size V w') (by kernel_rfl) (by kernel_rfl) (by kernel_rfl) (Below.refl _ _).drew ?_ ?_
      · refine ⟨?_, ?_, ?_, ?_, ?_, ?_, ?_, ?_, ?_, ?_, ?_, ?_, ?_, ?_, ?_, ?_, ?_, ?_, ?_, ?_, trivial⟩
        · intro _ A0 w2 hI hd hnd K hK; have e0 := hI.q hnd 5; exact hI.z hK
        · intro _ A0 w2 hI hd hnd K hK; have e0 := hI.p hd 0 14; exact hI.z hK
        · intro _ A0 w2 hI hd hnd K hK; have e0 := hI.p hd 1 15; exact hI.z hK
        iterate 9 (· intro _ A0 w2 hI hd hnd K hK; exact hI.z2 hK (hI.r hd 2 16 false))
        · intro _ A0 w2 hI hd hnd K hK; have e0 := hI.p hd 2 16; have e1 := hI.p hd 11 25; exact hI.z hK
        · intro _ A0 w2 hI hd hnd K hK; have e0 := hI.p hd 12 26; exact hI.z hK
        · intro _ A0 w2 hI hd hnd K hK; have e0 := hI.q hnd 0; exact hI.z1 hK (hI.r hd 13 27 false)
        · intro _ A0 w2 hI hd hnd K hK; have e0 := hI.q hnd 6; have hS := hI.world
          have hrange := ((box_at (cs := accL ⟨c1, c2, c3, c4⟩) H6.out).fr (Fr.ofBelow hS)).range
          have hisize := info_accL ⟨c1, c2, c3, c4⟩
          refine wanted_yes rfl (hI.r hd 13 27 false) ?_; clear hI hd hnd
          refine wp_load_mid 87 (.tmp 6) rfl _ _ (by simpa [Act.eval, Array.getD_eq_getD_getElem?] using e0) _ _ hrange Tryz.underlying87 rfl hisize ?_
          exact kq hK hS rfl
        · intro _ A0 w2 hI hd hnd K hK; have e0 := hI.q hnd 1; exact hI.z1 hK (hI.r hd 13 27 false)
        · intro _ A0 w2 hI hd hnd K hK; have e0 := hI.p hd 14 28; have e1 := hI.p hd 15 29; have e2 := hI.p hd 16 30; have hS := hI.world; refine wanted_yes rfl (hI.r hd 13 27 false) ?_; clear hI hd hnd; go_simp
          go_at_call 117
          refine (proper_n l _ c n w2 HN.out (chart_keep HLV.out hS) HNN.out ⟨c1, c2, c3, c4⟩ g HAB.out HIN.out).mono ?_
          rintro e w3 ⟨rfl, h3⟩
          exact hK.out _ _ (hS.trans (h3.mono hS.size)) (Ks.of rfl (congrArg Value.bool HP.out)) (Ks.keep h3)
        · intro _ A0 w2 hI hd hnd K hK; have e0 := hI.p hd 17 31; exact hI.z1 hK (hI.r hd 13 27 false)
        · intro _ A0 w2 hI hd hnd K hK; have e0 := hI.p hd 13 27; have e1 := hI.p hd 18 32; exact hI.z hK
      · intro _ A0 w2 hI hall; have hS := hI.world; have c9 := hI.ch hall [14, 15, 16, 17, 18, 19, 20, 21, 22, 23, 24, 25, 26, 27, 28, 29, 30, 31, 32, 33]; obtain ⟨x0, x1, x2, x3, x4, x5, x6, x7, x8, x9, x10, x11, x12, x13, x14, x15, x16, x17, x18, x19, hA, hV⟩ := c9
        obtain rfl : x19 = .bool false := hV 19 _ _ rfl _ rfl
        clear hV hI hall
        simp only [setAll, List.foldl, List.setIfInBounds_toArray, List.set_cons_zero, List.set_cons_succ] at hA
        rw [hA]
        clear hA
        go_wp2_with fail
        go_roundw
        case rel => exact ⟨0 + 1, by omega, by go_num, hwV.trans (hS.mono hwV.size), fun i hi => by
         rcases Nat.lt_or_ge i (0) with h | h
         · exact HA.out i h
         · have : i = 0 := by omega
           subst this
           exact HROW.out⟩
        case measure =>
         have e : wrap64 ((0 : Int) + 1) = ((0 + 1 : Nat) : Int) := by unfold wrap64; omega
         simp only [intOf, e]
         omega
     | false =>
      have HP := Lib.hid hp
      have hf := Lib.hid (show r = false by rw [← HR.out]; unfold chartB; rw [all_range_false hkl (by rw [rowP_first HAC.out]; exact hp)]; rfl)
      clear hp
      go_upto_region 4 with (show wpList _ _ _ (Oper.mk (some 13) _ _ _ _ _ :: _) _ _; refine wpList_load_mid rfl 87 (.tmp 12) rfl b (o + 0 * 4) rfl (accL ⟨c1, c2, c3, c4⟩) _ HAR.out Tryz.underlying87 rfl (info_accL _) ?_)
      rw [HVV.out]
      refine wp_region_inv (Ks V [.val (.int .i64 0), .val (.bool false), .val (.bool false), .val (undef), .val (undef), .val (undef), .val (undef), .val (undef), .val (undef), .val (undef), .val (undef), .val (undef), .val (.bool false), .val (.bool false), .val (.slice (some ⟨b, o, none⟩) n c), .val (.agg (accL ⟨c1, c2, c3, c4⟩).toArray), .val (.bool g), .val (.bool false), .val (.bool true), .val (.bool true)])
       (fun w' => Below V.heap.size V w') (by kernel_rfl) (by kernel_rfl) (by kernel_rfl) (Below.refl _ _).drew ?_ ?_
      · refine ⟨?_, ?_, ?_, ?_, ?_, ?_, ?_, ?_, ?_, ?_, ?_, ?_, ?_, ?_, ?_, ?_, ?_, ?_, ?_, ?_, trivial⟩
        · intro _ A0 w2 hI hd hnd K hK; have e0 := hI.q hnd 5; exact hI.z hK
        · intro _ A0 w2 hI hd hnd K hK; have e0 := hI.p hd 0 14; exact hI.z hK
        · intro _ A0 w2 hI hd hnd K hK; have e0 := hI.p hd 1 15; exact hI.z hK
        iterate 9 (· intro _ A0 w2 hI hd hnd K hK; exact hI.z2 hK (hI.r hd 2 16 false))
        · intro _ A0 w2 hI hd hnd K hK; have e0 := hI.p hd 2 16; have e1 := hI.p hd 11 25; exact hI.z hK
        · intro _ A0 w2 hI hd hnd K hK; have e0 := hI.p hd 12 26; exact hI.z hK
        · intro _ A0 w2 hI hd hnd K hK; have e0 := hI.q hnd 0; exact hI.z1 hK (hI.r hd 13 27 false)
        · intro _ A0 w2 hI hd hnd K hK; have e0 := hI.q hnd 6; have hS := hI.world
          have hrange := ((box_at (cs := accL ⟨c1, c2, c3, c4⟩) H6.out).fr (Fr.ofBelow hS)).range
          have hisize := info_accL ⟨c1, c2, c3, c4⟩
          refine wanted_yes rfl (hI.r hd 13 27 false) ?_; clear hI hd hnd
          refine wp_load_mid 87 (.tmp 6) rfl _ _ (by simpa [Act.eval, Array.getD_eq_getD_getElem?] using e0) _ _ hrange Tryz.underlying87 rfl hisize ?_
          exact kq hK hS rfl
        · intro _ A0 w2 hI hd hnd K hK; have e0 := hI.q hnd 1; exact hI.z1 hK (hI.r hd 13 27 false)
        · intro _ A0 w2 hI hd hnd K hK; have e0 := hI.p hd 14 28; have e1 := hI.p hd 15 29; have e2 := hI.p hd 16 30; have hS := hI.world; refine wanted_yes rfl (hI.r hd 13 27 false) ?_; clear hI hd hnd; go_simp
          go_at_call 117
          refine (proper_n l _ c n w2 HN.out (chart_keep HLV.out hS) HNN.out ⟨c1, c2, c3, c4⟩ g HAB.out HIN.out).mono ?_
          rintro e w3 ⟨rfl, h3⟩
          exact hK.out _ _ (hS.trans (h3.mono hS.size)) (Ks.of rfl (congrArg Value.bool HP.out)) (Ks.keep h3)
        · intro _ A0 w2 hI hd hnd K hK; have e0 := hI.p hd 17 31; exact hI.z1 hK (hI.r hd 13 27 false)
        · intro _ A0 w2 hI hd hnd K hK; have e0 := hI.p hd 13 27; have e1 := hI.p hd 18 32; exact hI.z hK
      · intro _ A0 w2 hI hall; have hS := hI.world; have c9 := hI.ch hall [14, 15, 16, 17, 18, 19, 20, 21, 22, 23, 24, 25, 26, 27, 28, 29, 30, 31, 32, 33]; obtain ⟨x0, x1, x2, x3, x4, x5, x6, x7, x8, x9, x10, x11, x12, x13, x14, x15, x16, x17, x18, x19, hA, hV⟩ := c9
        obtain rfl : x19 = .bool true := hV 19 _ _ rfl _ rfl
        clear hV hI hall
        simp only [setAll, List.foldl, List.setIfInBounds_toArray, List.set_cons_zero, List.set_cons_succ] at hA
        rw [hA]
        clear hA
        go_wp2_with fail
        go_ret
        exact ⟨by rw [hf.out]; first | done | rfl, hwV.trans (hS.mono hwV.size)⟩
   · obtain ⟨j, rfl⟩ : ∃ j, k = j + 1 := ⟨k - 1, by omega⟩
     have hjn : j < n := by omega
     have HJW := Lib.hid (wrap_j (j := j) (by omega))
     obtain ⟨es2, hes2, hat2⟩ := HALL.out j (by omega)
     obtain ⟨hes3, _⟩ := AccountC.lit hes2
     rw [hes3] at hat2
     obtain ⟨pr, hpr⟩ : ∃ pr, l[j]'(by omega) = pr := ⟨_, rfl⟩
     rw [hpr] at hat2
     have HPR := Lib.hid (show l[j]? = some pr by rw [List.getElem?_eq_getElem (by omega), hpr])
     have KP := Lib.hid (((hat2.fr (Fr.ofBelow hwV)).c (j := 0) rfl : _))
     clear hes2 hes3 hat2 hpr
     obtain ⟨p1, p2, p3, p4⟩ := pr
     by_cases ho : c1 ≤ p1
     · have hf := Lib.hid (show r = false by rw [← HR.out]; unfold chartB; rw [all_range_false hkl (rowP_order HAC.out HPR.out ho)]; rfl)
       go_upto_region 4 with (show wpList _ _ _ (Oper.mk (some 13) _ _ _ _ _ :: _) _ _; refine wpList_load_mid rfl 87 (.tmp 12) rfl b (o + (j + 1) * 4) rfl (accL ⟨c1, c2, c3, c4⟩) _ HAR.out Tryz.underlying87 rfl (info_accL _) ?_)
       rw [HVV.out]
       refine wp_region_inv (Ks V [.val (.int .i64 ((j + 1 : Nat) : Int)), .val (.bool true), .val (.bool true), .val (.slice (some ⟨b, o, none⟩) n c), .val (.int .i64 ((j + 1 : Nat) : Int)), .val (.int .i64 (j : Int)), .val (.pointer (some ⟨b, o + j * 4, none⟩)), .val (.pointer (some ⟨b, o + j * 4, none⟩)), .val (.int .i64 p1), .val (.pointer (some ⟨wr.heap.size, 0, none⟩)), .val (.int .i64 c1), .val (.bool true), .val (.bool true), .val (.bool true), .val (undef), .val (undef), .val (undef), .val (undef), .val (undef), .val (.bool true)])
        (fun w' => Below V.heap.size V w') (by kernel_rfl) (by kernel_rfl) (by kernel_rfl) (Below.refl _ _).drew ?_ ?_
       · refine ⟨?_, ?_, ?_, ?_, ?_, ?_, ?_, ?_, ?_, ?_, ?_, ?_, ?_, ?_, ?_, ?_, ?_, ?_, ?_, ?_, trivial⟩
         · intro _ A0 w2 hI hd hnd K hK; have e0 := hI.q hnd 5; exact hI.z hK
         · intro _ A0 w2 hI hd hnd K hK; have e0 := hI.p hd 0 14; exact hI.z hK
         · intro _ A0 w2 hI hd hnd K hK; have e0 := hI.p hd 1 15; exact hI.z hK
         · intro _ A0 w2 hI hd hnd K hK; have e0 := hI.q hnd 0; exact hI.z1 hK (hI.r hd 2 16 true)
         · intro _ A0 w2 hI hd hnd K hK; have e0 := hI.q hnd 5; exact hI.z1 hK (hI.r hd 2 16 true)
         · intro _ A0 w2 hI hd hnd K hK; have e0 := hI.p hd 4 18; have hS := hI.world; refine wanted_yes rfl (hI.r hd 2 16 true) ?_; clear hI hd hnd; go_simp
           exact hK.out _ _ hS (Ks.of rfl (congrArg (Value.int .i64) HJW.out)) (fun _ _ h => h)
         · intro _ A0 w2 hI hd hnd K hK; have e0 := hI.p hd 3 17; have e1 := hI.p hd 5 19; exact hI.z1 hK (hI.r hd 2 16 true)
         · intro _ A0 w2 hI hd hnd K hK; have e0 := hI.p hd 6 20; exact hI.z1 hK (hI.r hd 2 16 true)
         · intro _ A0 w2 hI hd hnd K hK; have e0 := hI.p hd 7 21; have hS := hI.world; have hcc : w2.cell? ⟨b, o + j * 4, none⟩ = _ := (hS.cell (p := ⟨b, o + j * 4, none⟩) HBV.out).trans KP.out; exact hI.z1 hK (hI.r hd 2 16 true)
         · intro _ A0 w2 hI hd hnd K hK; have e0 := hI.q hnd 6; exact hI.z1 hK (hI.r hd 2 16 true)
         · intro _ A0 w2 hI hd hnd K hK; have e0 := hI.p hd 9 23; have hS := hI.world; have hcc : w2.cell? ⟨wr.heap.size, 0, none⟩ = _ := (hS.cell (p := ⟨wr.heap.size, 0, none⟩) HV6.out).trans K6.out; exact hI.z1 hK (hI.r hd 2 16 true)
         · intro _ A0 w2 hI hd hnd K hK; have e0 := hI.p hd 8 22; have e1 := hI.p hd 10 24; exact hI.z1 hK (hI.r hd 2 16 true)
         · intro _ A0 w2 hI hd hnd K hK; have e0 := hI.p hd 2 16; have e1 := hI.p hd 11 25; exact hI.z hK
         · intro _ A0 w2 hI hd hnd K hK; have e0 := hI.p hd 12 26; exact hI.z hK
         iterate 5 (· intro _ A0 w2 hI hd hnd K hK; exact hI.z2 hK (hI.r hd 13 27 true))
         · intro _ A0 w2 hI hd hnd K hK; have e0 := hI.p hd 13 27; have e1 := hI.p hd 18 32; exact hI.z hK
       · intro _ A0 w2 hI hall; have hS := hI.world; have c9 := hI.ch hall [14, 15, 16, 17, 18, 19, 20, 21, 22, 23, 24, 25, 26, 27, 28, 29, 30, 31, 32, 33]; obtain ⟨x0, x1, x2, x3, x4, x5, x6, x7, x8, x9, x10, x11, x12, x13, x14, x15, x16, x17, x18, x19, hA, hV⟩ := c9
         obtain rfl : x19 = .bool true := hV 19 _ _ rfl _ rfl
         clear hV hI hall
         simp only [setAll, List.foldl, List.setIfInBounds_toArray, List.set_cons_zero, List.set_cons_succ] at hA
         rw [hA]
         clear hA
         go_wp2_with fail
         go_ret
         exact ⟨by rw [hf.out]; first | done | rfl, hwV.trans (hS.mono hwV.size)⟩
     · cases hp : properP l g ⟨c1, c2, c3, c4⟩ with
       | true =>
        have HP := Lib.hid hp
        have HROW := Lib.hid (show rowP l g (j + 1) = true by rw [rowP_rest HAC.out HPR.out ho]; exact hp)
        clear hp
        go_upto_region 4 with (show wpList _ _ _ (Oper.mk (some 13) _ _ _ _ _ :: _) _ _; refine wpList_load_mid rfl 87 (.tmp 12) rfl b (o + (j + 1) * 4) rfl (accL ⟨c1, c2, c3, c4⟩) _ HAR.out Tryz.underlying87 rfl (info_accL _) ?_)
        rw [HVV.out]
        refine wp_region_inv (Ks V [.val (.int .i64 ((j + 1 : Nat) : Int)), .val (.bool true), .val (.bool true), .val (.slice (some ⟨b, o, none⟩) n c), .val (.int .i64 ((j + 1 : Nat) : Int)), .val (.int .i64 (j : Int)), .val (.pointer (some ⟨b, o + j * 4, none⟩)), .val (.pointer (some ⟨b, o + j * 4, none⟩)), .val (.int .i64 p1), .val (.pointer (some ⟨wr.heap.size, 0, none⟩)), .val (.int .i64 c1), .val (.bool false), .val (.bool false), .val (.bool false), .val (.slice (some ⟨b, o, none⟩) n c), .val (.agg (accL ⟨c1, c2, c3, c4⟩).toArray), .val (.bool g), .val (.bool true), .val (.bool false), .val (.bool false)])
         (fun w' => Below V.heap.size V w') (by kernel_rfl) (by kernel_rfl) (by kernel_rfl) (Below.refl _ _).drew ?_ ?_
        · refine ⟨?_, ?_, ?_, ?_, ?_, ?_, ?_, ?_, ?_, ?_, ?_, ?_, ?_, ?_, ?_, ?_, ?_, ?_, ?_, ?_, trivial⟩
          · intro _ A0 w2 hI hd hnd K hK; have e0 := hI.q hnd 5; exact hI.z hK
          · intro _ A0 w2 hI hd hnd K hK; have e0 := hI.p hd 0 14; exact hI.z hK
          · intro _ A0 w2 hI hd hnd K hK; have e0 := hI.p hd 1 15; exact hI.z hK
          · intro _ A0 w2 hI hd hnd K hK; have e0 := hI.q hnd 0; exact hI.z1 hK (hI.r hd 2 16 true)
          · intro _ A0 w2 hI hd hnd K hK; have e0 := hI.q hnd 5; exact hI.z1 hK (hI.r hd 2 16 true)
          · intro _ A0 w2 hI hd hnd K hK; have e0 := hI.p hd 4 18; have hS := hI.world; refine wanted_yes rfl (hI.r hd 2 16 true) ?_; clear hI hd hnd; go_simp
            exact hK.out _ _ hS (Ks.of rfl (congrArg (Value.int .i64) HJW.out)) (fun _ _ h => h)
          · intro _ A0 w2 hI hd hnd K hK; have e0 := hI.p hd 3 17; have e1 := hI.p hd 5 19; exact hI.z1 hK (hI.r hd 2 16 true)
          · intro _ A0 w2 hI hd hnd K hK; have e0 := hI.p hd 6 20; exact hI.z1 hK (hI.r hd 2 16 true)
          · intro _ A0 w2 hI hd hnd K hK; have e0 := hI.p hd 7 21; have hS := hI.world; have hcc : w2.cell? ⟨b, o + j * 4, none⟩ = _ := (hS.cell (p := ⟨b, o + j * 4, none⟩) HBV.out).trans KP.out; exact hI.z1 hK (hI.r hd 2 16 true)
          · intro _ A0 w2 hI hd hnd K hK; have e0 := hI.q hnd 6; exact hI.z1 hK (hI.r hd 2 16 true)
          · intro _ A0 w2 hI hd hnd K hK; have e0 := hI.p hd 9 23; have hS := hI.world; have hcc : w2.cell? ⟨wr.heap.size, 0, none⟩ = _ := (hS.cell (p := ⟨wr.heap.size, 0, none⟩) HV6.out).trans K6.out; exact hI.z1 hK (hI.r hd 2 16 true)
          · intro _ A0 w2 hI hd hnd K hK; have e0 := hI.p hd 8 22; have e1 := hI.p hd 10 24; exact hI.z1 hK (hI.r hd 2 16 true)
          · intro _ A0 w2 hI hd hnd K hK; have e0 := hI.p hd 2 16; have e1 := hI.p hd 11 25; exact hI.z hK
          · intro _ A0 w2 hI hd hnd K hK; have e0 := hI.p hd 12 26; exact hI.z hK
          · intro _ A0 w2 hI hd hnd K hK; have e0 := hI.q hnd 0; exact hI.z1 hK (hI.r hd 13 27 false)
          · intro _ A0 w2 hI hd hnd K hK; have e0 := hI.q hnd 6; have hS := hI.world
            have hrange := ((box_at (cs := accL ⟨c1, c2, c3, c4⟩) H6.out).fr (Fr.ofBelow hS)).range
            have hisize := info_accL ⟨c1, c2, c3, c4⟩
            refine wanted_yes rfl (hI.r hd 13 27 false) ?_; clear hI hd hnd
            refine wp_load_mid 87 (.tmp 6) rfl _ _ (by simpa [Act.eval, Array.getD_eq_getD_getElem?] using e0) _ _ hrange Tryz.underlying87 rfl hisize ?_
            exact kq hK hS rfl
          · intro _ A0 w2 hI hd hnd K hK; have e0 := hI.q hnd 1; exact hI.z1 hK (hI.r hd 13 27 false)
          · intro _ A0 w2 hI hd hnd K hK; have e0 := hI.p hd 14 28; have e1 := hI.p hd 15 29; have e2 := hI.p hd 16 30; have hS := hI.world; refine wanted_yes rfl (hI.r hd 13 27 false) ?_; clear hI hd hnd; go_simp
            go_at_call 117
            refine (proper_n l _ c n w2 HN.out (chart_keep HLV.out hS) HNN.out ⟨c1, c2, c3, c4⟩ g HAB.out HIN.out).mono ?_
            rintro e w3 ⟨rfl, h3⟩
            exact hK.out _ _ (hS.trans (h3.mono hS.size)) (Ks.of rfl (congrArg Value.bool HP.out)) (Ks.keep h3)
          · intro _ A0 w2 hI hd hnd K hK; have e0 := hI.p hd 17 31; exact hI.z1 hK (hI.r hd 13 27 false)
          · intro _ A0 w2 hI hd hnd K hK; have e0 := hI.p hd 13 27; have e1 := hI.p hd 18 32; exact hI.z hK
        · intro _ A0 w2 hI hall; have hS := hI.world; have c9 := hI.ch hall [14, 15, 16, 17, 18, 19, 20, 21, 22, 23, 24, 25, 26, 27, 28, 29, 30, 31, 32, 33]; obtain ⟨x0, x1, x2, x3, x4, x5, x6, x7, x8, x9, x10, x11, x12, x13, x14, x15, x16, x17, x18, x19, hA, hV⟩ := c9
          obtain rfl : x19 = .bool false := hV 19 _ _ rfl _ rfl
          clear hV hI hall
          simp only [setAll, List.foldl, List.setIfInBounds_toArray, List.set_cons_zero, List.set_cons_succ] at hA
          rw [hA]
          clear hA
          go_wp2_with fail
          go_roundw
          case rel => exact ⟨j + 1 + 1, by omega, by go_num, hwV.trans (hS.mono hwV.size), fun i hi => by
           rcases Nat.lt_or_ge i (j + 1) with h | h
           · exact HA.out i h
           · have : i = j + 1 := by omega
             subst this
             exact HROW.out⟩
          case measure =>
           have e : wrap64 ((((j + 1 : Nat) : Int) : Int) + 1) = ((j + 1 + 1 : Nat) : Int) := by unfold wrap64; omega
           simp only [intOf, e]
           omega
       | false =>
        have HP := Lib.hid hp
        have hf := Lib.hid (show r = false by rw [← HR.out]; unfold chartB; rw [all_range_false hkl (by rw [rowP_rest HAC.out HPR.out ho]; exact hp)]; rfl)
        clear hp
        go_upto_region 4 with (show wpList _ _ _ (Oper.mk (some 13) _ _ _ _ _ :: _) _ _; refine wpList_load_mid rfl 87 (.tmp 12) rfl b (o + (j + 1) * 4) rfl (accL ⟨c1, c2, c3, c4⟩) _ HAR.out Tryz.underlying87 rfl (info_accL _) ?_)
        rw [HVV.out]
        refine wp_region_inv (Ks V [.val (.int .i64 ((j + 1 : Nat) : Int)), .val (.bool true), .val (.bool true), .val (.slice (some ⟨b, o, none⟩) n c), .val (.int .i64 ((j + 1 : Nat) : Int)), .val (.int .i64 (j : Int)), .val (.pointer (some ⟨b, o + j * 4, none⟩)), .val (.pointer (some ⟨b, o + j * 4, none⟩)), .val (.int .i64 p1), .val (.pointer (some ⟨wr.heap.size, 0, none⟩)), .val (.int .i64 c1), .val (.bool false), .val (.bool false), .val (.bool false), .val (.slice (some ⟨b, o, none⟩) n c), .val (.agg (accL ⟨c1, c2, c3, c4⟩).toArray), .val (.bool g), .val (.bool false), .val (.bool true), .val (.bool true)])
         (fun w' => Below V.heap.size V w') (by kernel_rfl) (by kernel_rfl) (by kernel_rfl) (Below.refl _ _).drew ?_ ?_
        · refine ⟨?_, ?_, ?_, ?_, ?_, ?_, ?_, ?_, ?_, ?_, ?_, ?_, ?_, ?_, ?_, ?_, ?_, ?_, ?_, ?_, trivial⟩
          · intro _ A0 w2 hI hd hnd K hK; have e0 := hI.q hnd 5; exact hI.z hK
          · intro _ A0 w2 hI hd hnd K hK; have e0 := hI.p hd 0 14; exact hI.z hK
          · intro _ A0 w2 hI hd hnd K hK; have e0 := hI.p hd 1 15; exact hI.z hK
          · intro _ A0 w2 hI hd hnd K hK; have e0 := hI.q hnd 0; exact hI.z1 hK (hI.r hd 2 16 true)
          · intro _ A0 w2 hI hd hnd K hK; have e0 := hI.q hnd 5; exact hI.z1 hK (hI.r hd 2 16 true)
          · intro _ A0 w2 hI hd hnd K hK; have e0 := hI.p hd 4 18; have hS := hI.world; refine wanted_yes rfl (hI.r hd 2 16 true) ?_; clear hI hd hnd; go_simp
            exact hK.out _ _ hS (Ks.of rfl (congrArg (Value.int .i64) HJW.out)) (fun _ _ h => h)
          · intro _ A0 w2 hI hd hnd K hK; have e0 := hI.p hd 3 17; have e1 := hI.p hd 5 19; exact hI.z1 hK (hI.r hd 2 16 true)
          · intro _ A0 w2 hI hd hnd K hK; have e0 := hI.p hd 6 20; exact hI.z1 hK (hI.r hd 2 16 true)
          · intro _ A0 w2 hI hd hnd K hK; have e0 := hI.p hd 7 21; have hS := hI.world; have hcc : w2.cell? ⟨b, o + j * 4, none⟩ = _ := (hS.cell (p := ⟨b, o + j * 4, none⟩) HBV.out).trans KP.out; exact hI.z1 hK (hI.r hd 2 16 true)
          · intro _ A0 w2 hI hd hnd K hK; have e0 := hI.q hnd 6; exact hI.z1 hK (hI.r hd 2 16 true)
          · intro _ A0 w2 hI hd hnd K hK; have e0 := hI.p hd 9 23; have hS := hI.world; have hcc : w2.cell? ⟨wr.heap.size, 0, none⟩ = _ := (hS.cell (p := ⟨wr.heap.size, 0, none⟩) HV6.out).trans K6.out; exact hI.z1 hK (hI.r hd 2 16 true)
          · intro _ A0 w2 hI hd hnd K hK; have e0 := hI.p hd 8 22; have e1 := hI.p hd 10 24; exact hI.z1 hK (hI.r hd 2 16 true)
          · intro _ A0 w2 hI hd hnd K hK; have e0 := hI.p hd 2 16; have e1 := hI.p hd 11 25; exact hI.z hK
          · intro _ A0 w2 hI hd hnd K hK; have e0 := hI.p hd 12 26; exact hI.z hK
          · intro _ A0 w2 hI hd hnd K hK; have e0 := hI.q hnd 0; exact hI.z1 hK (hI.r hd 13 27 false)
          · intro _ A0 w2 hI hd hnd K hK; have e0 := hI.q hnd 6; have hS := hI.world
            have hrange := ((box_at (cs := accL ⟨c1, c2, c3, c4⟩) H6.out).fr (Fr.ofBelow hS)).range
            have hisize := info_accL ⟨c1, c2, c3, c4⟩
            refine wanted_yes rfl (hI.r hd 13 27 false) ?_; clear hI hd hnd
            refine wp_load_mid 87 (.tmp 6) rfl _ _ (by simpa [Act.eval, Array.getD_eq_getD_getElem?] using e0) _ _ hrange Tryz.underlying87 rfl hisize ?_
            exact kq hK hS rfl
          · intro _ A0 w2 hI hd hnd K hK; have e0 := hI.q hnd 1; exact hI.z1 hK (hI.r hd 13 27 false)
          · intro _ A0 w2 hI hd hnd K hK; have e0 := hI.p hd 14 28; have e1 := hI.p hd 15 29; have e2 := hI.p hd 16 30; have hS := hI.world; refine wanted_yes rfl (hI.r hd 13 27 false) ?_; clear hI hd hnd; go_simp
            go_at_call 117
            refine (proper_n l _ c n w2 HN.out (chart_keep HLV.out hS) HNN.out ⟨c1, c2, c3, c4⟩ g HAB.out HIN.out).mono ?_
            rintro e w3 ⟨rfl, h3⟩
            exact hK.out _ _ (hS.trans (h3.mono hS.size)) (Ks.of rfl (congrArg Value.bool HP.out)) (Ks.keep h3)
          · intro _ A0 w2 hI hd hnd K hK; have e0 := hI.p hd 17 31; exact hI.z1 hK (hI.r hd 13 27 false)
          · intro _ A0 w2 hI hd hnd K hK; have e0 := hI.p hd 13 27; have e1 := hI.p hd 18 32; exact hI.z hK
        · intro _ A0 w2 hI hall; have hS := hI.world; have c9 := hI.ch hall [14, 15, 16, 17, 18, 19, 20, 21, 22, 23, 24, 25, 26, 27, 28, 29, 30, 31, 32, 33]; obtain ⟨x0, x1, x2, x3, x4, x5, x6, x7, x8, x9, x10, x11, x12, x13, x14, x15, x16, x17, x18, x19, hA, hV⟩ := c9
          obtain rfl : x19 = .bool true := hV 19 _ _ rfl _ rfl
          clear hV hI hall
          simp only [setAll, List.foldl, List.setIfInBounds_toArray, List.set_cons_zero, List.set_cons_succ] at hA
          rw [hA]
          clear hA
          go_wp2_with fail
          go_ret
          exact ⟨by rw [hf.out]; first | done | rfl, hwV.trans (hS.mono hwV.size)⟩
  case neg =>
   have hltI : ¬ (k : Int) < (n : Int) := by omega
   have hall : (List.range l.length).all (rowP l g) = true := all_range_true (fun j hj => HA.out j (by have := HN.out; omega))
   have HF := Lib.hid (show r = decide (n ≤ 200) by rw [← HR.out]; unfold chartB; rw [hall, HN.out]; rfl)
   clear hall
   by_cases h2 : n ≤ 200
   · have h2I : (n : Int) ≤ 200 := by omega
     have hf := Lib.hid (show r = true by rw [HF.out]; exact decide_eq_true h2)
     go_wp2_with fail
     go_ret
     exact ⟨by rw [hf.out]; first | done | rfl, hb⟩
   · have h2I : ¬ (n : Int) ≤ 200 := by omega
     have hf := Lib.hid (show r = false by rw [HF.out]; exact decide_eq_false h2)
     go_wp2_with fail
     go_ret
     exact ⟨by rw [hf.out]; first | done | rfl, hb⟩
end Go.Proofs.YtekelchdbkjjjaaGreat
