/- Charts: Valid, in the reference. Written by gen_b16.py. -/
import Derived.Test.YtekelchdbkjjjaaGreatG20xB0B2
import Derived.Test.YtekelchdbkjjjaaGreatG20xB3B8
import Derived.Test.YtekelchdbkjjjaaGreatG20xB9B13
import Derived.Test.YtekelchdbkjjjaaGreatG20xB14
import Derived.Test.YtekelchdbkjjjaaGreatG20xB15
import Derived.Test.YtekelchdbkjjjaaGreatProg
set_option linter.unusedVariables false
set_option linter.unusedSimpArgs false
set_option maxRecDepth 4000
attribute [local go_sem ↓] Go.wp_at_zero Go.wp_at_succ
namespace Go.Proofs.YtekelchdbkjjjaaGreat
open Go Go.RowKit
theorem Inv.yieldU {md : Region.Mode} {ops : Array Oper} {W : World} {ks : List Kind} {S : World → Prop} {a0 : Act} {listed : Array Bool} {a : Act} {w : World} (hI : Inv md ops (Ks W ks) S a0 listed a w) {o : Oper} (hd : ∀ e ∈ o.after, Region.binds md e = true → Done listed e.on) (j d : Nat) {oj : Oper} (hk : ks[j]? = some (.val undef)) (hj : ops[j]? = some oj) (hjd : oj.dst = some d)
 (h : (o.after.toList.any fun e => Region.binds md e && e.on == j) = true) : yielded ops a.tmps j = none := by
 simp only [List.any_eq_true, Bool.and_eq_true, beq_iff_eq] at h
 obtain ⟨e, he, hb, rfl⟩ := h
 obtain ⟨v, hv, hV⟩ := hI.got e.on oj d hj hjd (hd e (by simpa using he) hb)
 have h2 : v = undef := hV _ hk
 subst h2
 simp [yielded, hj, hjd, hv, undef]
theorem wanted_un {P : Program} {o : Oper} {a : Act} {w : World} {K : Act → World → Prop} {Q : Exit → Act → World → Prop} {E : Prop} {y : Nat → Option Bool} {j : Nat} {b : Bool} (hg : o.guard = some (j, b)) (hy : y j = none) (h : E) : if Region.wanted o y = true then o.wp P a w K Q else E := by
 rw [if_neg (by simp [Region.wanted, hg, hy])]; exact h
theorem meas_up4 {n k : Nat} (h : k < n) : n - (((k + 1 : Nat) : Int)).toNat < n - ((k : Int)).toNat := by omega
def IsLen (m : Nat) (v : Value) (_ : World) : Prop := ∃ A c, v = .slice A m c
theorem IsLen.keep (m : Nat) : ∀ v w w', Below w.heap.size w w' → IsLen m v w → IsLen m v w' := fun _ _ _ _ h => h
theorem own_isLen {w : World} {base : Nat} {e : TypeId} {size n : Nat} {v : Value} {xs : List Value} (h : w.ownsRow base e size v n xs) (w' : World) : IsLen n v w' := by
 rcases h.2 with ⟨rfl, rfl⟩ | ⟨g, cap, cur, rfl, _⟩
 · exact ⟨_, _, rfl⟩
 · exact ⟨_, _, rfl⟩
section
variable (l : List XAccount) (A : Option Addr) (c n m : Nat) (w : World) (hN : l.length = n) (hl : ListC AccountC 4 w (· < w.heap.size) [.slice A l.length c] l) (hn : l.length ≤ 1000)
include hN hl hn in
theorem rclimb_n (code : Int) (hc : intBd code) (hm : (upR l (l.length + 1) [] code).length = m) : Calls Tryz.prog 123 #[.slice A n c, .int .i64 code] w (fun e w' => ∃ v, e = .returned v ∧ IsLen m v w' ∧ Below w.heap.size w w') := by
 subst hN hm
 refine (rclimb_c l A c code w hl hc hn).mono ?_
 rintro e w' ⟨v, h1, h2, h3⟩
 exact ⟨v, h1, own_isLen h2 w', h3⟩
end
section
variable {l : List XAccount} {g : Bool} {i j : Nat} {a b : XAccount}
theorem rowR_p (h : l[i]? = some a) (hp : properR l g a = false) : rowR l g i = false := by rw [rowR_at h, hp]; rfl
theorem rowR_o (h : l[i]? = some a) (hi : i = j + 1) (hb : l[j]? = some b) (ho : a.code ≤ b.code) : rowR l g i = false := by
 subst hi
 rw [rowR_at h, Nat.add_sub_cancel, List.getD_eq_getElem?_getD, hb, Option.getD_some, decide_eq_true ho, decide_eq_true (Nat.succ_pos j)]; simp
theorem rowR_l0 (h : l[i]? = some a) (hi : i = 0) (hp : properR l g a = true) : rowR l g i = decide ((upR l (l.length + 1) [] a.code).length ≤ l.length) := by
 subst hi
 rw [rowR_at h, hp]; simp
theorem rowR_l1 (h : l[i]? = some a) (hi : i = j + 1) (hb : l[j]? = some b) (ho : ¬ a.code ≤ b.code) (hp : properR l g a = true) : rowR l g i = decide ((upR l (l.length + 1) [] a.code).length ≤ l.length) := by
 subst hi
 rw [rowR_at h, hp, Nat.add_sub_cancel, List.getD_eq_getElem?_getD, hb, Option.getD_some, decide_eq_false ho]; simp
end
set_option maxHeartbeats 4000000 in
theorem rchartValid_c (l : List XAccount) (A : Option Addr) (c : Nat) (g : Bool) (w : World) (hl : ListC AccountC 4 w (· < w.heap.size) [.slice A l.length c] l) (hn : l.length ≤ 1000) : Calls Tryz.prog 97 #[.slice A l.length c, .bool g] w (Quiet w (.bool (chartR l g))) := by
 obtain ⟨r, hr⟩ : ∃ r, chartR l g = r := ⟨_, rfl⟩
 rw [hr]
 have HR := Lib.hid hr
 clear hr
 obtain ⟨n, hnl⟩ : ∃ n, l.length = n := ⟨_, rfl⟩
 have HNN := Lib.hid hn
 rw [hnl] at hn
 have HL := Lib.hid hl
 have HN := Lib.hid hnl
 rw [hnl]
 clear hl hnl
 go_enter Tryz.func97, Tryz.ntmps97
 by_cases h2 : n ≤ 200
 case neg =>
  have h2I : (200 : Int) < (n : Int) := by omega
  have hf := Lib.hid (show r = false by rw [← HR.out]; unfold chartR; rw [HN.out, decide_eq_false h2]; rfl)
  go_wp2_with fail
  go_ret
  exact ⟨by rw [hf.out]; first | done | rfl, Below.refl _ _⟩
 case pos =>
 have h2I : ¬ (200 : Int) < (n : Int) := by omega
 go_wp2_with fail
 go_loopw [5] (fun i wr => ∃ k : Nat, k ≤ n ∧ i = .int .i64 (k : Int) ∧ Below w.heap.size w wr ∧ ∀ j, j < k → rowR l g j = true) (fun i _ => n - (intOf i).toNat)
 case atStart => exact ⟨0, by omega, rfl, Below.refl _ _, fun j hj => by omega⟩
 case round =>
  obtain ⟨k, hk, rfl, hb, hall⟩ := hrel
  have HA := Lib.hid hall
  clear hall
  have hsz := hb.size
  by_cases hlt : k < n
  case pos =>
   have hltI : (k : Int) < (n : Int) := by omega
   have hkl : k < l.length := by rw [HN.out]; exact hlt
   obtain ⟨b, o, hAe, hbw, hall⟩ := ListC.base HL.out (by omega)
   subst hAe
   obtain ⟨es, hes, hat⟩ := hall k hkl
   obtain ⟨hes1, hab⟩ := AccountC.lit hes
   rw [hes1] at hat
   have HALL := Lib.hid hall
   clear hall
   obtain ⟨ac, hac⟩ : ∃ ac, l[k] = ac := ⟨_, rfl⟩
   rw [hac] at hat hab
   have HAC := Lib.hid (show l[k]? = some ac by rw [List.getElem?_eq_getElem hkl, hac])
   have hatv := hat.fr (Fr.ofBelow hb)
   have HATV := Lib.hid (hatv.mono (Q' := (· < wr.heap.size)) (fun k hk => by omega))
   have HAB := Lib.hid hab
   have KC := Lib.hid (hatv.c (j := 0) rfl)
   clear hes hes1 hat hac hab hatv
   obtain ⟨c1, c2, c3, c4⟩ := ac
   have HLV := Lib.hid (chart_keep HL.out hb)
   have HBV := Lib.hid (show b < wr.heap.size by omega)
   cases hp : properR l g ⟨c1, c2, c3, c4⟩ with
   | false =>
    have HP := Lib.hid hp
    have hf := Lib.hid (show r = false by rw [← HR.out]; unfold chartR; rw [all_range_false hkl (rowR_p HAC.out hp), Bool.and_false])
    clear hp
    go_upto_region 6 with fail
    refine wp_region_inv (Ks wr [.val (.slice (some ⟨b, o, none⟩) n c), .val (.slice (some ⟨b, o, none⟩) n c), .val (.int .i64 (k : Int)), .val (.pointer (some ⟨b, o + k * 4, none⟩)), .val (.agg (accL ⟨c1, c2, c3, c4⟩).toArray), .val (.bool g), .val (.bool false), .val (.bool true), .val (.bool true), .val (undef), .val (undef), .val (undef), .val (undef), .val (undef), .val (undef), .val (undef), .val (undef), .val (undef), .val (undef), .val (undef), .val (undef), .val (undef), .val (undef), .val (undef), .val (undef), .val (.bool true), .val (.bool true), .val (undef), .val (undef), .val (undef), .val (undef), .val (undef), .val (undef), .val (undef), .val (undef), .val (undef), .val (undef), .val (undef), .val (.bool true)])
     (fun w' => Below wr.heap.size wr w') (by kernel_rfl) (by kernel_rfl) (by kernel_rfl) (Below.refl _ _).drew ?_ ?_
    · refine ⟨?_, ?_, ?_, ?_, ?_, ?_, ?_, ?_, ?_, ?_, ?_, ?_, ?_, ?_, ?_, ?_, ?_, ?_, ?_, ?_, ?_, ?_, ?_, ?_, ?_, ?_, ?_, ?_, ?_, ?_, ?_, ?_, ?_, ?_, ?_, ?_, ?_, ?_, ?_, trivial⟩
      iterate 2 (· intro _ A0 w2 hI hd hnd K hK; have e0 := hI.q hnd 0; exact hI.z hK)
      · intro _ A0 w2 hI hd hnd K hK; have e0 := hI.q hnd 5; exact hI.z hK
      · intro _ A0 w2 hI hd hnd K hK; have e0 := hI.p hd 1 16; have e1 := hI.p hd 2 17; exact hI.z hK
      · intro _ A0 w2 hI hd hnd K hK; have e0 := hI.p hd 3 18; have hS := hI.world; have hrange : w2.rangeAt b (o + k * 4) (accL ⟨c1, c2, c3, c4⟩) := (HATV.out.fr (Fr.ofBelow hS)).range
        have hisize := info_accL ⟨c1, c2, c3, c4⟩
        refine wanted_go rfl ?_; clear hI hd hnd
        refine wp_load_mid 87 (.tmp 18) rfl _ _ (by simpa [Act.eval, Array.getD_eq_getD_getElem?] using e0) _ _ hrange Tryz.underlying87 rfl hisize ?_
        exact kq hK hS rfl
      · intro _ A0 w2 hI hd hnd K hK; have e0 := hI.q hnd 1; exact hI.z hK
      · intro _ A0 w2 hI hd hnd K hK; have e0 := hI.p hd 0 15; have e1 := hI.p hd 4 19; have e2 := hI.p hd 5 20; have hS := hI.world; refine wanted_go rfl ?_; clear hI hd hnd; go_simp
        go_at_call 122
        refine (rproper_n l _ c n w2 HN.out (chart_keep HLV.out hS) HNN.out ⟨c1, c2, c3, c4⟩ g HAB.out).mono ?_
        rintro e w3 ⟨rfl, h3⟩
        exact hK.out _ _ (hS.trans (h3.mono hS.size)) (Ks.of rfl (congrArg Value.bool HP.out)) (Ks.keep h3)
      · intro _ A0 w2 hI hd hnd K hK; have e0 := hI.p hd 6 21; exact hI.z hK
      · intro _ A0 w2 hI hd hnd K hK; have e0 := hI.p hd 7 22; exact hI.z hK
      iterate 3 (· intro _ A0 w2 hI hd hnd K hK; exact hI.z2 hK (hI.r hd 8 23 true))
      iterate 12 (· intro _ A0 w2 hI hd hnd K hK; have hS := hI.world; refine wanted_un rfl (hI.yieldU hd 11 26 rfl rfl rfl (by kernel_rfl)) ?_; exact kq hK hS rfl)
      · intro _ A0 w2 hI hd hnd K hK; exact hI.z2 hK (hI.r hd 8 23 true)
      · intro _ A0 w2 hI hd hnd K hK; have e0 := hI.p hd 8 23; have e1 := hI.p hd 24 39; exact hI.z hK
      · intro _ A0 w2 hI hd hnd K hK; have e0 := hI.p hd 25 40; exact hI.z hK
      iterate 11 (· intro _ A0 w2 hI hd hnd K hK; exact hI.z2 hK (hI.r hd 26 41 true))
      · intro _ A0 w2 hI hd hnd K hK; have e0 := hI.p hd 26 41; have e1 := hI.p hd 37 52; exact hI.z hK
    · intro _ A0 w2 hI hall; have hS := hI.world; have c9 := hI.ch hall [15, 16, 17, 18, 19, 20, 21, 22, 23, 24, 25, 26, 27, 28, 29, 30, 31, 32, 33, 34, 35, 36, 37, 38, 39, 40, 41, 42, 43, 44, 45, 46, 47, 48, 49, 50, 51, 52, 53]; obtain ⟨x0, x1, x2, x3, x4, x5, x6, x7, x8, x9, x10, x11, x12, x13, x14, x15, x16, x17, x18, x19, x20, x21, x22, x23, x24, x25, x26, x27, x28, x29, x30, x31, x32, x33, x34, x35, x36, x37, x38, hA, hV⟩ := c9
      obtain rfl : x38 = .bool true := hV 38 _ _ rfl _ rfl
      clear hV hI hall
      simp only [setAll, List.foldl, List.setIfInBounds_toArray, List.set_cons_zero, List.set_cons_succ] at hA
      rw [hA]
      clear hA
      go_wp2_with fail
      go_ret
      exact ⟨by rw [hf.out]; first | done | rfl, hb.trans (hS.mono hb.size)⟩
   | true =>
    have HP := Lib.hid hp
    clear hp
    obtain ⟨m, hm⟩ : ∃ m, (upR l (l.length + 1) [] c1).length = m := ⟨_, rfl⟩
    have HM := Lib.hid hm
    clear hm
    rcases Nat.eq_zero_or_pos k with hk0 | hk0
    · have HKD := Lib.hid (show decide (0 < k) = false from decide_eq_false (by omega))
      have HK0 := Lib.hid hk0
      clear hk0
      rcases Nat.lt_or_ge n m with hmn | hmn
      · have hmI : (n : Int) < (m : Int) := by omega
        have hf := Lib.hid (show r = false by rw [← HR.out]; unfold chartR; rw [all_range_false hkl (by rw [rowR_l0 HAC.out HK0.out HP.out, HM.out]; exact decide_eq_false (by have := HN.out; omega)), Bool.and_false])
        go_upto_region 6 with fail
        refine wp_region_inv (Ks wr [.val (.slice (some ⟨b, o, none⟩) n c), .val (.slice (some ⟨b, o, none⟩) n c), .val (.int .i64 (k : Int)), .val (.pointer (some ⟨b, o + k * 4, none⟩)), .val (.agg (accL ⟨c1, c2, c3, c4⟩).toArray), .val (.bool g), .val (.bool true), .val (.bool false), .val (.bool false), .val (.int .i64 (k : Int)), .val (.bool false), .val (.bool false), .val (undef), .val (undef), .val (undef), .val (undef), .val (undef), .val (undef), .val (undef), .val (undef), .val (undef), .val (undef), .val (undef), .val (undef), .val (.bool false), .val (.bool false), .val (.bool false), .val (.slice (some ⟨b, o, none⟩) n c), .val (.slice (some ⟨b, o, none⟩) n c), .val (.int .i64 (k : Int)), .val (.pointer (some ⟨b, o + k * 4, none⟩)), .val (.pointer (some ⟨b, o + k * 4, none⟩)), .val (.int .i64 c1), .own (IsLen m) (IsLen.keep m), .val (.int .i64 (m : Int)), .val (.slice (some ⟨b, o, none⟩) n c), .val (.int .i64 (n : Int)), .val (.bool true), .val (.bool true)])
         (fun w' => Below wr.heap.size wr w') (by kernel_rfl) (by kernel_rfl) (by kernel_rfl) (Below.refl _ _).drew ?_ ?_
        · refine ⟨?_, ?_, ?_, ?_, ?_, ?_, ?_, ?_, ?_, ?_, ?_, ?_, ?_, ?_, ?_, ?_, ?_, ?_, ?_, ?_, ?_, ?_, ?_, ?_, ?_, ?_, ?_, ?_, ?_, ?_, ?_, ?_, ?_, ?_, ?_, ?_, ?_, ?_, ?_, trivial⟩
          iterate 2 (· intro _ A0 w2 hI hd hnd K hK; have e0 := hI.q hnd 0; exact hI.z hK)
          · intro _ A0 w2 hI hd hnd K hK; have e0 := hI.q hnd 5; exact hI.z hK
          · intro _ A0 w2 hI hd hnd K hK; have e0 := hI.p hd 1 16; have e1 := hI.p hd 2 17; exact hI.z hK
          · intro _ A0 w2 hI hd hnd K hK; have e0 := hI.p hd 3 18; have hS := hI.world; have hrange : w2.rangeAt b (o + k * 4) (accL ⟨c1, c2, c3, c4⟩) := (HATV.out.fr (Fr.ofBelow hS)).range
            have hisize := info_accL ⟨c1, c2, c3, c4⟩
            refine wanted_go rfl ?_; clear hI hd hnd
            refine wp_load_mid 87 (.tmp 18) rfl _ _ (by simpa [Act.eval, Array.getD_eq_getD_getElem?] using e0) _ _ hrange Tryz.underlying87 rfl hisize ?_
            exact kq hK hS rfl
          · intro _ A0 w2 hI hd hnd K hK; have e0 := hI.q hnd 1; exact hI.z hK
          · intro _ A0 w2 hI hd hnd K hK; have e0 := hI.p hd 0 15; have e1 := hI.p hd 4 19; have e2 := hI.p hd 5 20; have hS := hI.world; refine wanted_go rfl ?_; clear hI hd hnd; go_simp
            go_at_call 122
            refine (rproper_n l _ c n w2 HN.out (chart_keep HLV.out hS) HNN.out ⟨c1, c2, c3, c4⟩ g HAB.out).mono ?_
            rintro e w3 ⟨rfl, h3⟩
            exact hK.out _ _ (hS.trans (h3.mono hS.size)) (Ks.of rfl (congrArg Value.bool HP.out)) (Ks.keep h3)
          · intro _ A0 w2 hI hd hnd K hK; have e0 := hI.p hd 6 21; exact hI.z hK
          · intro _ A0 w2 hI hd hnd K hK; have e0 := hI.p hd 7 22; exact hI.z hK
          · intro _ A0 w2 hI hd hnd K hK; have e0 := hI.q hnd 5; exact hI.z1 hK (hI.r hd 8 23 false)
          · intro _ A0 w2 hI hd hnd K hK; have e0 := hI.p hd 9 24; have hS := hI.world; refine wanted_yes rfl (hI.r hd 8 23 false) ?_; clear hI hd hnd; go_simp
            exact hK.out _ _ hS (Ks.of rfl (congrArg Value.bool HKD.out)) (fun _ _ h => h)
          · intro _ A0 w2 hI hd hnd K hK; have e0 := hI.p hd 10 25; exact hI.z1 hK (hI.r hd 8 23 false)
          iterate 12 (· intro _ A0 w2 hI hd hnd K hK; exact hI.z2 hK (hI.r hd 11 26 false))
          · intro _ A0 w2 hI hd hnd K hK; have e0 := hI.p hd 11 26; have e1 := hI.p hd 23 38; exact hI.z1 hK (hI.r hd 8 23 false)
          · intro _ A0 w2 hI hd hnd K hK; have e0 := hI.p hd 8 23; have e1 := hI.p hd 24 39; exact hI.z hK
          · intro _ A0 w2 hI hd hnd K hK; have e0 := hI.p hd 25 40; exact hI.z hK
          iterate 2 (· intro _ A0 w2 hI hd hnd K hK; have e0 := hI.q hnd 0; exact hI.z1 hK (hI.r hd 26 41 false))
          · intro _ A0 w2 hI hd hnd K hK; have e0 := hI.q hnd 5; exact hI.z1 hK (hI.r hd 26 41 false)
          · intro _ A0 w2 hI hd hnd K hK; have e0 := hI.p hd 28 43; have e1 := hI.p hd 29 44; exact hI.z1 hK (hI.r hd 26 41 false)
          · intro _ A0 w2 hI hd hnd K hK; have e0 := hI.p hd 30 45; exact hI.z1 hK (hI.r hd 26 41 false)
          · intro _ A0 w2 hI hd hnd K hK; have e0 := hI.p hd 31 46; have hS := hI.world; have hcc : w2.cell? ⟨b, o + k * 4, none⟩ = _ := (hS.cell (p := ⟨b, o + k * 4, none⟩) HBV.out).trans KC.out; exact hI.z1 hK (hI.r hd 26 41 false)
          · intro _ A0 w2 hI hd hnd K hK; have e0 := hI.p hd 27 42; have e1 := hI.p hd 32 47; have hS := hI.world; refine wanted_yes rfl (hI.r hd 26 41 false) ?_; clear hI hd hnd; go_simp
            go_at_call 123
            refine (rclimb_n l _ c n m w2 HN.out (chart_keep HLV.out hS) HNN.out c1 HAB.out.1 HM.out).mono ?_
            rintro e w3 ⟨v, rfl, h1, h3⟩
            exact hK.out _ _ (hS.trans (h3.mono hS.size)) (Ks.of rfl h1) (Ks.keep h3)
          · intro _ A0 w2 hI hd hnd K hK
            obtain ⟨x0, e0, h0⟩ := hI.dep hd 33 48 rfl rfl rfl (by kernel_rfl)
            have hS := hI.world
            obtain ⟨Ab, cb, rfl⟩ := h0
            exact hI.z1 hK (hI.r hd 26 41 false)
          · intro _ A0 w2 hI hd hnd K hK; have e0 := hI.q hnd 0; exact hI.z1 hK (hI.r hd 26 41 false)
          · intro _ A0 w2 hI hd hnd K hK; have e0 := hI.p hd 35 50; exact hI.z1 hK (hI.r hd 26 41 false)
          · intro _ A0 w2 hI hd hnd K hK; have e0 := hI.p hd 34 49; have e1 := hI.p hd 36 51; exact hI.z1 hK (hI.r hd 26 41 false)
          · intro _ A0 w2 hI hd hnd K hK; have e0 := hI.p hd 26 41; have e1 := hI.p hd 37 52; exact hI.z hK
        · intro _ A0 w2 hI hall; have hS := hI.world; have c9 := hI.ch hall [15, 16, 17, 18, 19, 20, 21, 22, 23, 24, 25, 26, 27, 28, 29, 30, 31, 32, 33, 34, 35, 36, 37, 38, 39, 40, 41, 42, 43, 44, 45, 46, 47, 48, 49, 50, 51, 52, 53]; obtain ⟨x0, x1, x2, x3, x4, x5, x6, x7, x8, x9, x10, x11, x12, x13, x14, x15, x16, x17, x18, x19, x20, x21, x22, x23, x24, x25, x26, x27, x28, x29, x30, x31, x32, x33, x34, x35, x36, x37, x38, hA, hV⟩ := c9
          obtain rfl : x38 = .bool true := hV 38 _ _ rfl _ rfl
          clear hV hI hall
          simp only [setAll, List.foldl, List.setIfInBounds_toArray, List.set_cons_zero, List.set_cons_succ] at hA
          rw [hA]
          clear hA
          go_wp2_with fail
          go_ret
          exact ⟨by rw [hf.out]; first | done | rfl, hb.trans (hS.mono hb.size)⟩
      · have hmI : ¬ (n : Int) < (m : Int) := by omega
        have HROW := Lib.hid (show rowR l g k = true by rw [rowR_l0 HAC.out HK0.out HP.out, HM.out]; exact decide_eq_true (by have := HN.out; omega))
        go_upto_region 6 with fail
        refine wp_region_inv (Ks wr [.val (.slice (some ⟨b, o, none⟩) n c), .val (.slice (some ⟨b, o, none⟩) n c), .val (.int .i64 (k : Int)), .val (.pointer (some ⟨b, o + k * 4, none⟩)), .val (.agg (accL ⟨c1, c2, c3, c4⟩).toArray), .val (.bool g), .val (.bool true), .val (.bool false), .val (.bool false), .val (.int .i64 (k : Int)), .val (.bool false), .val (.bool false), .val (undef), .val (undef), .val (undef), .val (undef), .val (undef), .val (undef), .val (undef), .val (undef), .val (undef), .val (undef), .val (undef), .val (undef), .val (.bool false), .val (.bool false), .val (.bool false), .val (.slice (some ⟨b, o, none⟩) n c), .val (.slice (some ⟨b, o, none⟩) n c), .val (.int .i64 (k : Int)), .val (.pointer (some ⟨b, o + k * 4, none⟩)), .val (.pointer (some ⟨b, o + k * 4, none⟩)), .val (.int .i64 c1), .own (IsLen m) (IsLen.keep m), .val (.int .i64 (m : Int)), .val (.slice (some ⟨b, o, none⟩) n c), .val (.int .i64 (n : Int)), .val (.bool false), .val (.bool false)])
         (fun w' => Below wr.heap.size wr w') (by kernel_rfl) (by kernel_rfl) (by kernel_rfl) (Below.refl _ _).drew ?_ ?_
        · refine ⟨?_, ?_, ?_, ?_, ?_, ?_, ?_, ?_, ?_, ?_, ?_, ?_, ?_, ?_, ?_, ?_, ?_, ?_, ?_, ?_, ?_, ?_, ?_, ?_, ?_, ?_, ?_, ?_, ?_, ?_, ?_, ?_, ?_, ?_, ?_, ?_, ?_, ?_, ?_, trivial⟩
          iterate 2 (· intro _ A0 w2 hI hd hnd K hK; have e0 := hI.q hnd 0; exact hI.z hK)
          · intro _ A0 w2 hI hd hnd K hK; have e0 := hI.q hnd 5; exact hI.z hK
          · intro _ A0 w2 hI hd hnd K hK; have e0 := hI.p hd 1 16; have e1 := hI.p hd 2 17; exact hI.z hK
          · intro _ A0 w2 hI hd hnd K hK; have e0 := hI.p hd 3 18; have hS := hI.world; have hrange : w2.rangeAt b (o + k * 4) (accL ⟨c1, c2, c3, c4⟩) := (HATV.out.fr (Fr.ofBelow hS)).range
            have hisize := info_accL ⟨c1, c2, c3, c4⟩
            refine wanted_go rfl ?_; clear hI hd hnd
            refine wp_load_mid 87 (.tmp 18) rfl _ _ (by simpa [Act.eval, Array.getD_eq_getD_getElem?] using e0) _ _ hrange Tryz.underlying87 rfl hisize ?_
            exact kq hK hS rfl
          · intro _ A0 w2 hI hd hnd K hK; have e0 := hI.q hnd 1; exact hI.z hK
          · intro _ A0 w2 hI hd hnd K hK; have e0 := hI.p hd 0 15; have e1 := hI.p hd 4 19; have e2 := hI.p hd 5 20; have hS := hI.world; refine wanted_go rfl ?_; clear hI hd hnd; go_simp
            go_at_call 122
            refine (rproper_n l _ c n w2 HN.out (chart_keep HLV.out hS) HNN.out ⟨c1, c2, c3, c4⟩ g HAB.out).mono ?_
            rintro e w3 ⟨rfl, h3⟩
            exact hK.out _ _ (hS.trans (h3.mono hS.size)) (Ks.of rfl (congrArg Value.bool HP.out)) (Ks.keep h3)
          · intro _ A0 w2 hI hd hnd K hK; have e0 := hI.p hd 6 21; exact hI.z hK
          · intro _ A0 w2 hI hd hnd K hK; have e0 := hI.p hd 7 22; exact hI.z hK
          · intro _ A0 w2 hI hd hnd K hK; have e0 := hI.q hnd 5; exact hI.z1 hK (hI.r hd 8 23 false)
          · intro _ A0 w2 hI hd hnd K hK; have e0 := hI.p hd 9 24; have hS := hI.world; refine wanted_yes rfl (hI.r hd 8 23 false) ?_; clear hI hd hnd; go_simp
            exact hK.out _ _ hS (Ks.of rfl (congrArg Value.bool HKD.out)) (fun _ _ h => h)
          · intro _ A0 w2 hI hd hnd K hK; have e0 := hI.p hd 10 25; exact hI.z1 hK (hI.r hd 8 23 false)
          iterate 12 (· intro _ A0 w2 hI hd hnd K hK; exact hI.z2 hK (hI.r hd 11 26 false))
          · intro _ A0 w2 hI hd hnd K hK; have e0 := hI.p hd 11 26; have e1 := hI.p hd 23 38; exact hI.z1 hK (hI.r hd 8 23 false)
          · intro _ A0 w2 hI hd hnd K hK; have e0 := hI.p hd 8 23; have e1 := hI.p hd 24 39; exact hI.z hK
          · intro _ A0 w2 hI hd hnd K hK; have e0 := hI.p hd 25 40; exact hI.z hK
          iterate 2 (· intro _ A0 w2 hI hd hnd K hK; have e0 := hI.q hnd 0; exact hI.z1 hK (hI.r hd 26 41 false))
          · intro _ A0 w2 hI hd hnd K hK; have e0 := hI.q hnd 5; exact hI.z1 hK (hI.r hd 26 41 false)
          · intro _ A0 w2 hI hd hnd K hK; have e0 := hI.p hd 28 43; have e1 := hI.p hd 29 44; exact hI.z1 hK (hI.r hd 26 41 false)
          · intro _ A0 w2 hI hd hnd K hK; have e0 := hI.p hd 30 45; exact hI.z1 hK (hI.r hd 26 41 false)
          · intro _ A0 w2 hI hd hnd K hK; have e0 := hI.p hd 31 46; have hS := hI.world; have hcc : w2.cell? ⟨b, o + k * 4, none⟩ = _ := (hS.cell (p := ⟨b, o + k * 4, none⟩) HBV.out).trans KC.out; exact hI.z1 hK (hI.r hd 26 41 false)
          · intro _ A0 w2 hI hd hnd K hK; have e0 := hI.p hd 27 42; have e1 := hI.p hd 32 47; have hS := hI.world; refine wanted_yes rfl (hI.r hd 26 41 false) ?_; clear hI hd hnd; go_simp
            go_at_call 123
            refine (rclimb_n l _ c n m w2 HN.out (chart_keep HLV.out hS) HNN.out c1 HAB.out.1 HM.out).mono ?_
            rintro e w3 ⟨v, rfl, h1, h3⟩
            exact hK.out _ _ (hS.trans (h3.mono hS.size)) (Ks.of rfl h1) (Ks.keep h3)
          · intro _ A0 w2 hI hd hnd K hK
            obtain ⟨x0, e0, h0⟩ := hI.dep hd 33 48 rfl rfl rfl (by kernel_rfl)
            have hS := hI.world
            obtain ⟨Ab, cb, rfl⟩ := h0
            exact hI.z1 hK (hI.r hd 26 41 false)
          · intro _ A0 w2 hI hd hnd K hK; have e0 := hI.q hnd 0; exact hI.z1 hK (hI.r hd 26 41 false)
          · intro _ A0 w2 hI hd hnd K hK; have e0 := hI.p hd 35 50; exact hI.z1 hK (hI.r hd 26 41 false)
          · intro _ A0 w2 hI hd hnd K hK; have e0 := hI.p hd 34 49; have e1 := hI.p hd 36 51; exact hI.z1 hK (hI.r hd 26 41 false)
          · intro _ A0 w2 hI hd hnd K hK; have e0 := hI.p hd 26 41; have e1 := hI.p hd 37 52; exact hI.z hK
        · intro _ A0 w2 hI hall; have hS := hI.world; have c9 := hI.ch hall [15, 16, 17, 18, 19, 20, 21, 22, 23, 24, 25, 26, 27, 28, 29, 30, 31, 32, 33, 34, 35, 36, 37, 38, 39, 40, 41, 42, 43, 44, 45, 46, 47, 48, 49, 50, 51, 52, 53]; obtain ⟨x0, x1, x2, x3, x4, x5, x6, x7, x8, x9, x10, x11, x12, x13, x14, x15, x16, x17, x18, x19, x20, x21, x22, x23, x24, x25, x26, x27, x28, x29, x30, x31, x32, x33, x34, x35, x36, x37, x38, hA, hV⟩ := c9
          obtain rfl : x38 = .bool false := hV 38 _ _ rfl _ rfl
          clear hV hI hall
          simp only [setAll, List.foldl, List.setIfInBounds_toArray, List.set_cons_zero, List.set_cons_succ] at hA
          rw [hA]
          clear hA
          go_wp2_with fail
          go_roundw
          case rel => exact ⟨k + 1, by omega, by go_num, hb.trans (hS.mono hb.size), fun i hi => by
           rcases Nat.lt_or_ge i k with h | h
           · exact HA.out i h
           · have : i = k := by omega
             subst this
             exact HROW.out⟩
          case measure =>
           have e : wrap64 ((k : Int) + 1) = ((k + 1 : Nat) : Int) := by unfold wrap64; omega
           simp only [intOf, e]
           exact meas_up4 hlt
    · have HKD := Lib.hid (show decide (0 < k) = true from decide_eq_true (by omega))
      obtain ⟨j, hj⟩ : ∃ j, k = j + 1 := ⟨k - 1, by omega⟩
      have hjn : j < n := by omega
      have HJW := Lib.hid (show IntKind.i64.wrap ((k : Int) - 1) = (j : Int) by rw [show (k : Int) - 1 = (j : Int) by omega]; exact wrap_j (by omega))
      obtain ⟨es2, hes2, hat2⟩ := HALL.out j (by omega)
      obtain ⟨hes3, hab2⟩ := AccountC.lit hes2
      clear hab2
      rw [hes3] at hat2
      obtain ⟨pr, hpr⟩ : ∃ pr, l[j]'(by omega) = pr := ⟨_, rfl⟩
      rw [hpr] at hat2
      have HPR := Lib.hid (show l[j]? = some pr by rw [List.getElem?_eq_getElem (by omega), hpr])
      have KP := Lib.hid ((hat2.fr (Fr.ofBelow hb)).c (j := 0) rfl)
      have HJ := Lib.hid hj
      clear hes2 hes3 hat2 hpr hj hk0
      obtain ⟨p1, p2, p3, p4⟩ := pr
      by_cases ho : c1 ≤ p1
      · have hf := Lib.hid (show r = false by rw [← HR.out]; unfold chartR; rw [all_range_false hkl (rowR_o HAC.out HJ.out HPR.out ho), Bool.and_false])
        go_upto_region 6 with fail
        refine wp_region_inv (Ks wr [.val (.slice (some ⟨b, o, none⟩) n c), .val (.slice (some ⟨b, o, none⟩) n c), .val (.int .i64 (k : Int)), .val (.pointer (some ⟨b, o + k * 4, none⟩)), .val (.agg (accL ⟨c1, c2, c3, c4⟩).toArray), .val (.bool g), .val (.bool true), .val (.bool false), .val (.bool false), .val (.int .i64 (k : Int)), .val (.bool true), .val (.bool true), .val (.slice (some ⟨b, o, none⟩) n c), .val (.int .i64 (k : Int)), .val (.pointer (some ⟨b, o + k * 4, none⟩)), .val (.pointer (some ⟨b, o + k * 4, none⟩)), .val (.int .i64 c1), .val (.slice (some ⟨b, o, none⟩) n c), .val (.int .i64 (k : Int)), .val (.int .i64 (j : Int)), .val (.pointer (some ⟨b, o + j * 4, none⟩)), .val (.pointer (some ⟨b, o + j * 4, none⟩)), .val (.int .i64 p1), .val (.bool true), .val (.bool true), .val (.bool true), .val (.bool true), .val (undef), .val (undef), .val (undef), .val (undef), .val (undef), .val (undef), .val (undef), .val (undef), .val (undef), .val (undef), .val (undef), .val (.bool true)])
         (fun w' => Below wr.heap.size wr w') (by kernel_rfl) (by kernel_rfl) (by kernel_rfl) (Below.refl _ _).drew ?_ ?_
        · refine ⟨?_, ?_, ?_, ?_, ?_, ?_, ?_, ?_, ?_, ?_, ?_, ?_, ?_, ?_, ?_, ?_, ?_, ?_, ?_, ?_, ?_, ?_, ?_, ?_, ?_, ?_, ?_, ?_, ?_, ?_, ?_, ?_, ?_, ?_, ?_, ?_, ?_, ?_, ?_, trivial⟩
          iterate 2 (· intro _ A0 w2 hI hd hnd K hK; have e0 := hI.q hnd 0; exact hI.z hK)
          · intro _ A0 w2 hI hd hnd K hK; have e0 := hI.q hnd 5; exact hI.z hK
          · intro _ A0 w2 hI hd hnd K hK; have e0 := hI.p hd 1 16; have e1 := hI.p hd 2 17; exact hI.z hK
          · intro _ A0 w2 hI hd hnd K hK; have e0 := hI.p hd 3 18; have hS := hI.world; have hrange : w2.rangeAt b (o + k * 4) (accL ⟨c1, c2, c3, c4⟩) := (HATV.out.fr (Fr.ofBelow hS)).range
            have hisize := info_accL ⟨c1, c2, c3, c4⟩
            refine wanted_go rfl ?_; clear hI hd hnd
            refine wp_load_mid 87 (.tmp 18) rfl _ _ (by simpa [Act.eval, Array.getD_eq_getD_getElem?] using e0) _ _ hrange Tryz.underlying87 rfl hisize ?_
            exact kq hK hS rfl
          · intro _ A0 w2 hI hd hnd K hK; have e0 := hI.q hnd 1; exact hI.z hK
          · intro _ A0 w2 hI hd hnd K hK; have e0 := hI.p hd 0 15; have e1 := hI.p hd 4 19; have e2 := hI.p hd 5 20; have hS := hI.world; refine wanted_go rfl ?_; clear hI hd hnd; go_simp
            go_at_call 122
            refine (rproper_n l _ c n w2 HN.out (chart_keep HLV.out hS) HNN.out ⟨c1, c2, c3, c4⟩ g HAB.out).mono ?_
            rintro e w3 ⟨rfl, h3⟩
            exact hK.out _ _ (hS.trans (h3.mono hS.size)) (Ks.of rfl (congrArg Value.bool HP.out)) (Ks.keep h3)
          · intro _ A0 w2 hI hd hnd K hK; have e0 := hI.p hd 6 21; exact hI.z hK
          · intro _ A0 w2 hI hd hnd K hK; have e0 := hI.p hd 7 22; exact hI.z hK
          · intro _ A0 w2 hI hd hnd K hK; have e0 := hI.q hnd 5; exact hI.z1 hK (hI.r hd 8 23 false)
          · intro _ A0 w2 hI hd hnd K hK; have e0 := hI.p hd 9 24; have hS := hI.world; refine wanted_yes rfl (hI.r hd 8 23 false) ?_; clear hI hd hnd; go_simp
            exact hK.out _ _ hS (Ks.of rfl (congrArg Value.bool HKD.out)) (fun _ _ h => h)
          · intro _ A0 w2 hI hd hnd K hK; have e0 := hI.p hd 10 25; exact hI.z1 hK (hI.r hd 8 23 false)
          · intro _ A0 w2 hI hd hnd K hK; have e0 := hI.q hnd 0; exact hI.z1 hK (hI.r hd 11 26 true)
          · intro _ A0 w2 hI hd hnd K hK; have e0 := hI.q hnd 5; exact hI.z1 hK (hI.r hd 11 26 true)
          · intro _ A0 w2 hI hd hnd K hK; have e0 := hI.p hd 12 27; have e1 := hI.p hd 13 28; exact hI.z1 hK (hI.r hd 11 26 true)
          · intro _ A0 w2 hI hd hnd K hK; have e0 := hI.p hd 14 29; exact hI.z1 hK (hI.r hd 11 26 true)
          · intro _ A0 w2 hI hd hnd K hK; have e0 := hI.p hd 15 30; have hS := hI.world; have hcc : w2.cell? ⟨b, o + k * 4, none⟩ = _ := (hS.cell (p := ⟨b, o + k * 4, none⟩) HBV.out).trans KC.out; exact hI.z1 hK (hI.r hd 11 26 true)
          · intro _ A0 w2 hI hd hnd K hK; have e0 := hI.q hnd 0; exact hI.z1 hK (hI.r hd 11 26 true)
          · intro _ A0 w2 hI hd hnd K hK; have e0 := hI.q hnd 5; exact hI.z1 hK (hI.r hd 11 26 true)
          · intro _ A0 w2 hI hd hnd K hK; have e0 := hI.p hd 18 33; have hS := hI.world; refine wanted_yes rfl (hI.r hd 11 26 true) ?_; clear hI hd hnd; go_simp
            exact hK.out _ _ hS (Ks.of rfl (congrArg (Value.int .i64) HJW.out)) (fun _ _ h => h)
          · intro _ A0 w2 hI hd hnd K hK; have e0 := hI.p hd 17 32; have e1 := hI.p hd 19 34; exact hI.z1 hK (hI.r hd 11 26 true)
          · intro _ A0 w2 hI hd hnd K hK; have e0 := hI.p hd 20 35; exact hI.z1 hK (hI.r hd 11 26 true)
          · intro _ A0 w2 hI hd hnd K hK; have e0 := hI.p hd 21 36; have hS := hI.world; have hcc : w2.cell? ⟨b, o + j * 4, none⟩ = _ := (hS.cell (p := ⟨b, o + j * 4, none⟩) HBV.out).trans KP.out; exact hI.z1 hK (hI.r hd 11 26 true)
          · intro _ A0 w2 hI hd hnd K hK; have e0 := hI.p hd 16 31; have e1 := hI.p hd 22 37; exact hI.z1 hK (hI.r hd 11 26 true)
          · intro _ A0 w2 hI hd hnd K hK; have e0 := hI.p hd 11 26; have e1 := hI.p hd 23 38; exact hI.z1 hK (hI.r hd 8 23 false)
          · intro _ A0 w2 hI hd hnd K hK; have e0 := hI.p hd 8 23; have e1 := hI.p hd 24 39; exact hI.z hK
          · intro _ A0 w2 hI hd hnd K hK; have e0 := hI.p hd 25 40; exact hI.z hK
          iterate 11 (· intro _ A0 w2 hI hd hnd K hK; exact hI.z2 hK (hI.r hd 26 41 true))
          · intro _ A0 w2 hI hd hnd K hK; have e0 := hI.p hd 26 41; have e1 := hI.p hd 37 52; exact hI.z hK
        · intro _ A0 w2 hI hall; have hS := hI.world; have c9 := hI.ch hall [15, 16, 17, 18, 19, 20, 21, 22, 23, 24, 25, 26, 27, 28, 29, 30, 31, 32, 33, 34, 35, 36, 37, 38, 39, 40, 41, 42, 43, 44, 45, 46, 47, 48, 49, 50, 51, 52, 53]; obtain ⟨x0, x1, x2, x3, x4, x5, x6, x7, x8, x9, x10, x11, x12, x13, x14, x15, x16, x17, x18, x19, x20, x21, x22, x23, x24, x25, x26, x27, x28, x29, x30, x31, x32, x33, x34, x35, x36, x37, x38, hA, hV⟩ := c9
          obtain rfl : x38 = .bool true := hV 38 _ _ rfl _ rfl
          clear hV hI hall
          simp only [setAll, List.foldl, List.setIfInBounds_toArray, List.set_cons_zero, List.set_cons_succ] at hA
          rw [hA]
          clear hA
          go_wp2_with fail
          go_ret
          exact ⟨by rw [hf.out]; first | done | rfl, hb.trans (hS.mono hb.size)⟩
      · have HO := Lib.hid ho
        rcases Nat.lt_or_ge n m with hmn | hmn
        · have hmI : (n : Int) < (m : Int) := by omega
          have hf := Lib.hid (show r = false by rw [← HR.out]; unfold chartR; rw [all_range_false hkl (by rw [rowR_l1 HAC.out HJ.out HPR.out HO.out HP.out, HM.out]; exact decide_eq_false (by have := HN.out; omega)), Bool.and_false])
          go_upto_region 6 with fail
          refine wp_region_inv (Ks wr [.val (.slice (some ⟨b, o, none⟩) n c), .val (.slice (some ⟨b, o, none⟩) n c), .val (.int .i64 (k : Int)), .val (.pointer (some ⟨b, o + k * 4, none⟩)), .val (.agg (accL ⟨c1, c2, c3, c4⟩).toArray), .val (.bool g), .val (.bool true), .val (.bool false), .val (.bool false), .val (.int .i64 (k : Int)), .val (.bool true), .val (.bool true), .val (.slice (some ⟨b, o, none⟩) n c), .val (.int .i64 (k : Int)), .val (.pointer (some ⟨b, o + k * 4, none⟩)), .val (.pointer (some ⟨b, o + k * 4, none⟩)), .val (.int .i64 c1), .val (.slice (some ⟨b, o, none⟩) n c), .val (.int .i64 (k : Int)), .val (.int .i64 (j : Int)), .val (.pointer (some ⟨b, o + j * 4, none⟩)), .val (.pointer (some ⟨b, o + j * 4, none⟩)), .val (.int .i64 p1), .val (.bool false), .val (.bool false), .val (.bool false), .val (.bool false), .val (.slice (some ⟨b, o, none⟩) n c), .val (.slice (some ⟨b, o, none⟩) n c), .val (.int .i64 (k : Int)), .val (.pointer (some ⟨b, o + k * 4, none⟩)), .val (.pointer (some ⟨b, o + k * 4, none⟩)), .val (.int .i64 c1), .own (IsLen m) (IsLen.keep m), .val (.int .i64 (m : Int)), .val (.slice (some ⟨b, o, none⟩) n c), .val (.int .i64 (n : Int)), .val (.bool true), .val (.bool true)])
           (fun w' => Below wr.heap.size wr w') (by kernel_rfl) (by kernel_rfl) (by kernel_rfl) (Below.refl _ _).drew ?_ ?_
          · refine ⟨?_, ?_, ?_, ?_, ?_, ?_, ?_, ?_, ?_, ?_, ?_, ?_, ?_, ?_, ?_, ?_, ?_, ?_, ?_, ?_, ?_, ?_, ?_, ?_, ?_, ?_, ?_, ?_, ?_, ?_, ?_, ?_, ?_, ?_, ?_, ?_, ?_, ?_, ?_, trivial⟩
            iterate 2 (· intro _ A0 w2 hI hd hnd K hK; have e0 := hI.q hnd 0; exact hI.z hK)
            · intro _ A0 w2 hI hd hnd K hK; have e0 := hI.q hnd 5; exact hI.z hK
            · intro _ A0 w2 hI hd hnd K hK; have e0 := hI.p hd 1 16; have e1 := hI.p hd 2 17; exact hI.z hK
            · intro _ A0 w2 hI hd hnd K hK; have e0 := hI.p hd 3 18; have hS := hI.world; have hrange : w2.rangeAt b (o + k * 4) (accL ⟨c1, c2, c3, c4⟩) := (HATV.out.fr (Fr.ofBelow hS)).range
              have hisize := info_accL ⟨c1, c2, c3, c4⟩
              refine wanted_go rfl ?_; clear hI hd hnd
              refine wp_load_mid 87 (.tmp 18) rfl _ _ (by simpa [Act.eval, Array.getD_eq_getD_getElem?] using e0) _ _ hrange Tryz.underlying87 rfl hisize ?_
              exact kq hK hS rfl
            · intro _ A0 w2 hI hd hnd K hK; have e0 := hI.q hnd 1; exact hI.z hK
            · intro _ A0 w2 hI hd hnd K hK; have e0 := hI.p hd 0 15; have e1 := hI.p hd 4 19; have e2 := hI.p hd 5 20; have hS := hI.world; refine wanted_go rfl ?_; clear hI hd hnd; go_simp
              go_at_call 122
              refine (rproper_n l _ c n w2 HN.out (chart_keep HLV.out hS) HNN.out ⟨c1, c2, c3, c4⟩ g HAB.out).mono ?_
              rintro e w3 ⟨rfl, h3⟩
              exact hK.out _ _ (hS.trans (h3.mono hS.size)) (Ks.of rfl (congrArg Value.bool HP.out)) (Ks.keep h3)
            · intro _ A0 w2 hI hd hnd K hK; have e0 := hI.p hd 6 21; exact hI.z hK
            · intro _ A0 w2 hI hd hnd K hK; have e0 := hI.p hd 7 22; exact hI.z hK
            · intro _ A0 w2 hI hd hnd K hK; have e0 := hI.q hnd 5; exact hI.z1 hK (hI.r hd 8 23 false)
            · intro _ A0 w2 hI hd hnd K hK; have e0 := hI.p hd 9 24; have hS := hI.world; refine wanted_yes rfl (hI.r hd 8 23 false) ?_; clear hI hd hnd; go_simp
              exact hK.out _ _ hS (Ks.of rfl (congrArg Value.bool HKD.out)) (fun _ _ h => h)
            · intro _ A0 w2 hI hd hnd K hK; have e0 := hI.p hd 10 25; exact hI.z1 hK (hI.r hd 8 23 false)
            · intro _ A0 w2 hI hd hnd K hK; have e0 := hI.q hnd 0; exact hI.z1 hK (hI.r hd 11 26 true)
            · intro _ A0 w2 hI hd hnd K hK; have e0 := hI.q hnd 5; exact hI.z1 hK (hI.r hd 11 26 true)
            · intro _ A0 w2 hI hd hnd K hK; have e0 := hI.p hd 12 27; have e1 := hI.p hd 13 28; exact hI.z1 hK (hI.r hd 11 26 true)
            · intro _ A0 w2 hI hd hnd K hK; have e0 := hI.p hd 14 29; exact hI.z1 hK (hI.r hd 11 26 true)
            · intro _ A0 w2 hI hd hnd K hK; have e0 := hI.p hd 15 30; have hS := hI.world; have hcc : w2.cell? ⟨b, o + k * 4, none⟩ = _ := (hS.cell (p := ⟨b, o + k * 4, none⟩) HBV.out).trans KC.out; exact hI.z1 hK (hI.r hd 11 26 true)
            · intro _ A0 w2 hI hd hnd K hK; have e0 := hI.q hnd 0; exact hI.z1 hK (hI.r hd 11 26 true)
            · intro _ A0 w2 hI hd hnd K hK; have e0 := hI.q hnd 5; exact hI.z1 hK (hI.r hd 11 26 true)
            · intro _ A0 w2 hI hd hnd K hK; have e0 := hI.p hd 18 33; have hS := hI.world; refine wanted_yes rfl (hI.r hd 11 26 true) ?_; clear hI hd hnd; go_simp
              exact hK.out _ _ hS (Ks.of rfl (congrArg (Value.int .i64) HJW.out)) (fun _ _ h => h)
            · intro _ A0 w2 hI hd hnd K hK; have e0 := hI.p hd 17 32; have e1 := hI.p hd 19 34; exact hI.z1 hK (hI.r hd 11 26 true)
            · intro _ A0 w2 hI hd hnd K hK; have e0 := hI.p hd 20 35; exact hI.z1 hK (hI.r hd 11 26 true)
            · intro _ A0 w2 hI hd hnd K hK; have e0 := hI.p hd 21 36; have hS := hI.world; have hcc : w2.cell? ⟨b, o + j * 4, none⟩ = _ := (hS.cell (p := ⟨b, o + j * 4, none⟩) HBV.out).trans KP.out; exact hI.z1 hK (hI.r hd 11 26 true)
            · intro _ A0 w2 hI hd hnd K hK; have e0 := hI.p hd 16 31; have e1 := hI.p hd 22 37; exact hI.z1 hK (hI.r hd 11 26 true)
            · intro _ A0 w2 hI hd hnd K hK; have e0 := hI.p hd 11 26; have e1 := hI.p hd 23 38; exact hI.z1 hK (hI.r hd 8 23 false)
            · intro _ A0 w2 hI hd hnd K hK; have e0 := hI.p hd 8 23; have e1 := hI.p hd 24 39; exact hI.z hK
            · intro _ A0 w2 hI hd hnd K hK; have e0 := hI.p hd 25 40; exact hI.z hK
            iterate 2 (· intro _ A0 w2 hI hd hnd K hK; have e0 := hI.q hnd 0; exact hI.z1 hK (hI.r hd 26 41 false))
            · intro _ A0 w2 hI hd hnd K hK; have e0 := hI.q hnd 5; exact hI.z1 hK (hI.r hd 26 41 false)
            · intro _ A0 w2 hI hd hnd K hK; have e0 := hI.p hd 28 43; have e1 := hI.p hd 29 44; exact hI.z1 hK (hI.r hd 26 41 false)
            · intro _ A0 w2 hI hd hnd K hK; have e0 := hI.p hd 30 45; exact hI.z1 hK (hI.r hd 26 41 false)
            · intro _ A0 w2 hI hd hnd K hK; have e0 := hI.p hd 31 46; have hS := hI.world; have hcc : w2.cell? ⟨b, o + k * 4, none⟩ = _ := (hS.cell (p := ⟨b, o + k * 4, none⟩) HBV.out).trans KC.out; exact hI.z1 hK (hI.r hd 26 41 false)
            · intro _ A0 w2 hI hd hnd K hK; have e0 := hI.p hd 27 42; have e1 := hI.p hd 32 47; have hS := hI.world; refine wanted_yes rfl (hI.r hd 26 41 false) ?_; clear hI hd hnd; go_simp
              go_at_call 123
              refine (rclimb_n l _ c n m w2 HN.out (chart_keep HLV.out hS) HNN.out c1 HAB.out.1 HM.out).mono ?_
              rintro e w3 ⟨v, rfl, h1, h3⟩
              exact hK.out _ _ (hS.trans (h3.mono hS.size)) (Ks.of rfl h1) (Ks.keep h3)
            · intro _ A0 w2 hI hd hnd K hK
              obtain ⟨x0, e0, h0⟩ := hI.dep hd 33 48 rfl rfl rfl (by kernel_rfl)
              have hS := hI.world
              obtain ⟨Ab, cb, rfl⟩ := h0
              exact hI.z1 hK (hI.r hd 26 41 false)
            · intro _ A0 w2 hI hd hnd K hK; have e0 := hI.q hnd 0; exact hI.z1 hK (hI.r hd 26 41 false)
            · intro _ A0 w2 hI hd hnd K hK; have e0 := hI.p hd 35 50; exact hI.z1 hK (hI.r hd 26 41 false)
            · intro _ A0 w2 hI hd hnd K hK; have e0 := hI.p hd 34 49; have e1 := hI.p hd 36 51; exact hI.z1 hK (hI.r hd 26 41 false)
            · intro _ A0 w2 hI hd hnd K hK; have e0 := hI.p hd 26 41; have e1 := hI.p hd 37 52; exact hI.z hK
          · intro _ A0 w2 hI hall; have hS := hI.world; have c9 := hI.ch hall [15, 16, 17, 18, 19, 20, 21, 22, 23, 24, 25, 26, 27, 28, 29, 30, 31, 32, 33, 34, 35, 36, 37, 38, 39, 40, 41, 42, 43, 44, 45, 46, 47, 48, 49, 50, 51, 52, 53]; obtain ⟨x0, x1, x2, x3, x4, x5, x6, x7, x8, x9, x10, x11, x12, x13, x14, x15, x16, x17, x18, x19, x20, x21, x22, x23, x24, x25, x26, x27, x28, x29, x30, x31, x32, x33, x34, x35, x36, x37, x38, hA, hV⟩ := c9
            obtain rfl : x38 = .bool true := hV 38 _ _ rfl _ rfl
            clear hV hI hall
            simp only [setAll, List.foldl, List.setIfInBounds_toArray, List.set_cons_zero, List.set_cons_succ] at hA
            rw [hA]
            clear hA
            go_wp2_with fail
            go_ret
            exact ⟨by rw [hf.out]; first | done | rfl, hb.trans (hS.mono hb.size)⟩
        · have hmI : ¬ (n : Int) < (m : Int) := by omega
          have HROW := Lib.hid (show rowR l g k = true by rw [rowR_l1 HAC.out HJ.out HPR.out HO.out HP.out, HM.out]; exact decide_eq_true (by have := HN.out; omega))
          go_upto_region 6 with fail
          refine wp_region_inv (Ks wr [.val (.slice (some ⟨b, o, none⟩) n c), .val (.slice (some ⟨b, o, none⟩) n c), .val (.int .i64 (k : Int)), .val (.pointer (some ⟨b, o + k * 4, none⟩)), .val (.agg (accL ⟨c1, c2, c3, c4⟩).toArray), .val (.bool g), .val (.bool true), .val (.bool false), .val (.bool false), .val (.int .i64 (k : Int)), .val (.bool true), .val (.bool true), .val (.slice (some ⟨b, o, none⟩) n c), .val (.int .i64 (k : Int)), .val (.pointer (some ⟨b, o + k * 4, none⟩)), .val (.pointer (some ⟨b, o + k * 4, none⟩)), .val (.int .i64 c1), .val (.slice (some ⟨b, o, none⟩) n c), .val (.int .i64 (k : Int)), .val (.int .i64 (j : Int)), .val (.pointer (some ⟨b, o + j * 4, none⟩)), .val (.pointer (some ⟨b, o + j * 4, none⟩)), .val (.int .i64 p1), .val (.bool false), .val (.bool false), .val (.bool false), .val (.bool false), .val (.slice (some ⟨b, o, none⟩) n c), .val (.slice (some ⟨b, o, none⟩) n c), .val (.int .i64 (k : Int)), .val (.pointer (some ⟨b, o + k * 4, none⟩)), .val (.pointer (some ⟨b, o + k * 4, none⟩)), .val (.int .i64 c1), .own (IsLen m) (IsLen.keep m), .val (.int .i64 (m : Int)), .val (.slice (some ⟨b, o, none⟩) n c), .val (.int .i64 (n : Int)), .val (.bool false), .val (.bool false)])
           (fun w' => Below wr.heap.size wr w') (by kernel_rfl) (by kernel_rfl) (by kernel_rfl) (Below.refl _ _).drew ?_ ?_
          · refine ⟨?_, ?_, ?_, ?_, ?_, ?_, ?_, ?_, ?_, ?_, ?_, ?_, ?_, ?_, ?_, ?_, ?_, ?_, ?_, ?_, ?_, ?_, ?_, ?_, ?_, ?_, ?_, ?_, ?_, ?_, ?_, ?_, ?_, ?_, ?_, ?_, ?_, ?_, ?_, trivial⟩
            iterate 2 (· intro _ A0 w2 hI hd hnd K hK; have e0 := hI.q hnd 0; exact hI.z hK)
            · intro _ A0 w2 hI hd hnd K hK; have e0 := hI.q hnd 5; exact hI.z hK
            · intro _ A0 w2 hI hd hnd K hK; have e0 := hI.p hd 1 16; have e1 := hI.p hd 2 17; exact hI.z hK
            · intro _ A0 w2 hI hd hnd K hK; have e0 := hI.p hd 3 18; have hS := hI.world; have hrange : w2.rangeAt b (o + k * 4) (accL ⟨c1, c2, c3, c4⟩) := (HATV.out.fr (Fr.ofBelow hS)).range
              have hisize := info_accL ⟨c1, c2, c3, c4⟩
              refine wanted_go rfl ?_; clear hI hd hnd
              refine wp_load_mid 87 (.tmp 18) rfl _ _ (by simpa [Act.eval, Array.getD_eq_getD_getElem?] using e0) _ _ hrange Tryz.underlying87 rfl hisize ?_
              exact kq hK hS rfl
            · intro _ A0 w2 hI hd hnd K hK; have e0 := hI.q hnd 1; exact hI.z hK
            · intro _ A0 w2 hI hd hnd K hK; have e0 := hI.p hd 0 15; have e1 := hI.p hd 4 19; have e2 := hI.p hd 5 20; have hS := hI.world; refine wanted_go rfl ?_; clear hI hd hnd; go_simp
              go_at_call 122
              refine (rproper_n l _ c n w2 HN.out (chart_keep HLV.out hS) HNN.out ⟨c1, c2, c3, c4⟩ g HAB.out).mono ?_
              rintro e w3 ⟨rfl, h3⟩
              exact hK.out _ _ (hS.trans (h3.mono hS.size)) (Ks.of rfl (congrArg Value.bool HP.out)) (Ks.keep h3)
            · intro _ A0 w2 hI hd hnd K hK; have e0 := hI.p hd 6 21; exact hI.z hK
            · intro _ A0 w2 hI hd hnd K hK; have e0 := hI.p hd 7 22; exact hI.z hK
            · intro _ A0 w2 hI hd hnd K hK; have e0 := hI.q hnd 5; exact hI.z1 hK (hI.r hd 8 23 false)
            · intro _ A0 w2 hI hd hnd K hK; have e0 := hI.p hd 9 24; have hS := hI.world; refine wanted_yes rfl (hI.r hd 8 23 false) ?_; clear hI hd hnd; go_simp
              exact hK.out _ _ hS (Ks.of rfl (congrArg Value.bool HKD.out)) (fun _ _ h => h)
            · intro _ A0 w2 hI hd hnd K hK; have e0 := hI.p hd 10 25; exact hI.z1 hK (hI.r hd 8 23 false)
            · intro _ A0 w2 hI hd hnd K hK; have e0 := hI.q hnd 0; exact hI.z1 hK (hI.r hd 11 26 true)
            · intro _ A0 w2 hI hd hnd K hK; have e0 := hI.q hnd 5; exact hI.z1 hK (hI.r hd 11 26 true)
            · intro _ A0 w2 hI hd hnd K hK; have e0 := hI.p hd 12 27; have e1 := hI.p hd 13 28; exact hI.z1 hK (hI.r hd 11 26 true)
            · intro _ A0 w2 hI hd hnd K hK; have e0 := hI.p hd 14 29; exact hI.z1 hK (hI.r hd 11 26 true)
            · intro _ A0 w2 hI hd hnd K hK; have e0 := hI.p hd 15 30; have hS := hI.world; have hcc : w2.cell? ⟨b, o + k * 4, none⟩ = _ := (hS.cell (p := ⟨b, o + k * 4, none⟩) HBV.out).trans KC.out; exact hI.z1 hK (hI.r hd 11 26 true)
            · intro _ A0 w2 hI hd hnd K hK; have e0 := hI.q hnd 0; exact hI.z1 hK (hI.r hd 11 26 true)
            · intro _ A0 w2 hI hd hnd K hK; have e0 := hI.q hnd 5; exact hI.z1 hK (hI.r hd 11 26 true)
            · intro _ A0 w2 hI hd hnd K hK; have e0 := hI.p hd 18 33; have hS := hI.world; refine wanted_yes rfl (hI.r hd 11 26 true) ?_; clear hI hd hnd; go_simp
              exact hK.out _ _ hS (Ks.of rfl (congrArg (Value.int .i64) HJW.out)) (fun _ _ h => h)
            · intro _ A0 w2 hI hd hnd K hK; have e0 := hI.p hd 17 32; have e1 := hI.p hd 19 34; exact hI.z1 hK (hI.r hd 11 26 true)
            · intro _ A0 w2 hI hd hnd K hK; have e0 := hI.p hd 20 35; exact hI.z1 hK (hI.r hd 11 26 true)
            · intro _ A0 w2 hI hd hnd K hK; have e0 := hI.p hd 21 36; have hS := hI.world; have hcc : w2.cell? ⟨b, o + j * 4, none⟩ = _ := (hS.cell (p := ⟨b, o + j * 4, none⟩) HBV.out).trans KP.out; exact hI.z1 hK (hI.r hd 11 26 true)
            · intro _ A0 w2 hI hd hnd K hK; have e0 := hI.p hd 16 31; have e1 := hI.p hd 22 37; exact hI.z1 hK (hI.r hd 11 26 true)
            · intro _ A0 w2 hI hd hnd K hK; have e0 := hI.p hd 11 26; have e1 := hI.p hd 23 38; exact hI.z1 hK (hI.r hd 8 23 false)
            · intro _ A0 w2 hI hd hnd K hK; have e0 := hI.p hd 8 23; have e1 := hI.p hd 24 39; exact hI.z hK
            · intro _ A0 w2 hI hd hnd K hK; have e0 := hI.p hd 25 40; exact hI.z hK
            iterate 2 (· intro _ A0 w2 hI hd hnd K hK; have e0 := hI.q hnd 0; exact hI.z1 hK (hI.r hd 26 41 false))
            · intro _ A0 w2 hI hd hnd K hK; have e0 := hI.q hnd 5; exact hI.z1 hK (hI.r hd 26 41 false)
            · intro _ A0 w2 hI hd hnd K hK; have e0 := hI.p hd 28 43; have e1 := hI.p hd 29 44; exact hI.z1 hK (hI.r hd 26 41 false)
            · intro _ A0 w2 hI hd hnd K hK; have e0 := hI.p hd 30 45; exact hI.z1 hK (hI.r hd 26 41 false)
            · intro _ A0 w2 hI hd hnd K hK; have e0 := hI.p hd 31 46; have hS := hI.world; have hcc : w2.cell? ⟨b, o + k * 4, none⟩ = _ := (hS.cell (p := ⟨b, o + k * 4, none⟩) HBV.out).trans KC.out; exact hI.z1 hK (hI.r hd 26 41 false)
            · intro _ A0 w2 hI hd hnd K hK; have e0 := hI.p hd 27 42; have e1 := hI.p hd 32 47; have hS := hI.world; refine wanted_yes rfl (hI.r hd 26 41 false) ?_; clear hI hd hnd; go_simp
              go_at_call 123
              refine (rclimb_n l _ c n m w2 HN.out (chart_keep HLV.out hS) HNN.out c1 HAB.out.1 HM.out).mono ?_
              rintro e w3 ⟨v, rfl, h1, h3⟩
              exact hK.out _ _ (hS.trans (h3.mono hS.size)) (Ks.of rfl h1) (Ks.keep h3)
            · intro _ A0 w2 hI hd hnd K hK
              obtain ⟨x0, e0, h0⟩ := hI.dep hd 33 48 rfl rfl rfl (by kernel_rfl)
              have hS := hI.world
              obtain ⟨Ab, cb, rfl⟩ := h0
              exact hI.z1 hK (hI.r hd 26 41 false)
            · intro _ A0 w2 hI hd hnd K hK; have e0 := hI.q hnd 0; exact hI.z1 hK (hI.r hd 26 41 false)
            · intro _ A0 w2 hI hd hnd K hK; have e0 := hI.p hd 35 50; exact hI.z1 hK (hI.r hd 26 41 false)
            · intro _ A0 w2 hI hd hnd K hK; have e0 := hI.p hd 34 49; have e1 := hI.p hd 36 51; exact hI.z1 hK (hI.r hd 26 41 false)
            · intro _ A0 w2 hI hd hnd K hK; have e0 := hI.p hd 26 41; have e1 := hI.p hd 37 52; exact hI.z hK
          · intro _ A0 w2 hI hall; have hS := hI.world; have c9 := hI.ch hall [15, 16, 17, 18, 19, 20, 21, 22, 23, 24, 25, 26, 27, 28, 29, 30, 31, 32, 33, 34, 35, 36, 37, 38, 39, 40, 41, 42, 43, 44, 45, 46, 47, 48, 49, 50, 51, 52, 53]; obtain ⟨x0, x1, x2, x3, x4, x5, x6, x7, x8, x9, x10, x11, x12, x13, x14, x15, x16, x17, x18, x19, x20, x21, x22, x23, x24, x25, x26, x27, x28, x29, x30, x31, x32, x33, x34, x35, x36, x37, x38, hA, hV⟩ := c9
            obtain rfl : x38 = .bool false := hV 38 _ _ rfl _ rfl
            clear hV hI hall
            simp only [setAll, List.foldl, List.setIfInBounds_toArray, List.set_cons_zero, List.set_cons_succ] at hA
            rw [hA]
            clear hA
            go_wp2_with fail
            go_roundw
            case rel => exact ⟨k + 1, by omega, by go_num, hb.trans (hS.mono hb.size), fun i hi => by
             rcases Nat.lt_or_ge i k with h | h
             · exact HA.out i h
             · have : i = k := by omega
               subst this
               exact HROW.out⟩
            case measure =>
             have e : wrap64 ((k : Int) + 1) = ((k + 1 : Nat) : Int) := by unfold wrap64; omega
             simp only [intOf, e]
             exact meas_up4 hlt
  case neg =>
   have hltI : ¬ (k : Int) < (n : Int) := by omega
   have hall : (List.range l.length).all (rowR l g) = true := all_range_true (fun j hj => HA.out j (by have := HN.out; omega))
   have hf := Lib.hid (show r = true by rw [← HR.out]; unfold chartR; rw [hall, HN.out, decide_eq_true h2]; rfl)
   clear hall
   go_wp2_with fail
   go_ret
   exact ⟨by rw [hf.out]; first | done | rfl, hb⟩
end Go.Proofs.YtekelchdbkjjjaaGreat
