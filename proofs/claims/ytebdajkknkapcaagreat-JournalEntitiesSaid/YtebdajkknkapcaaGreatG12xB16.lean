/- Charts: Valid, in the reference. Written by gen_b16.py. -/
import Derived.Test.YtebdajkknkapcaaGreatG12xB0B2
import Derived.Test.YtebdajkknkapcaaGreatG12xB3B8
import Derived.Test.YtebdajkknkapcaaGreatG12xB9B13
import Derived.Test.YtebdajkknkapcaaGreatG12xB14
import Derived.Test.YtebdajkknkapcaaGreatG12xB15
import Derived.Test.YtebdajkknkapcaaGreatProg
set_option linter.unusedVariables false
set_option linter.unusedSimpArgs false
set_option maxRecDepth 4000
attribute [local go_sem ↓] Go.wp_at_zero Go.wp_at_succ
namespace Go.Proofs.YtebdajkknkapcaaGreat
open Go Go.RowKit
theorem Inv.yieldU {md : Region.Mode} {ops : Array Oper} {W : World} {ks : List Kind} {S : World → Prop} {a0 : Act} {listed : Array Bool} {a : Act} {w : World} (hI : Inv md ops (Ks W ks) S a0 listed a w) {o : Oper} (hd : ∀ e ∈ o.after, Region.binds md e = true → Done listed e.on) (j d : Nat) {oj : Oper} (hk : ks[j]? = some (.val undef)) (hj : ops[j]? = some oj) (hjd : oj.dst = some d)
 (h : (o.after.toList.any fun e => Region.binds md e && e.on == j) = true) : yielded ops a.tmps j = none := by
 simp only [List.any_eq_true, Bool.and_eq_true, beq_iff_eq] at h
 obtain ⟨e, he, hb, rfl⟩ := h
 obtain ⟨v, hv, hV⟩ := hI.got e.on oj d hj hjd (hd e (by simpa using he) hb)
 have h2 : v = undef := hV _ hk
 subst h2
 simp [yielded, hj, hjd, hv, undef]
theorem wanted_un {P : Program} {o : Oper} {a : Act} {w : World} {K : Act → World → Prop} {Q : Exit → Act → World → Prop} {E : Prop} {y : Nat → Option Bool} {j : Nat} {b : Bool} (hg : o.guard = some (j, b)) (hy : y j = none) (h : E) : if Region.wanted o y = true then o.wp P a w K Q else E := by
 rw [if_neg (by simp [Region.wanted, hg, hy])]; exact h
theorem meas_up4 {n k : Nat} (h : k < n) : n - (((k + 1 : Nat) : Int)).toNat < n - ((k : Int)).toNat := by omega
def IsLen (m : Nat) (v : Value) (_ : World) : Prop := ∃ A c, v = .slice A m c
theorem IsLen.keep (m : Nat) : ∀ v w w', Below w.heap.size w w' → IsLen m v w → IsLen m v w' := fun _ _ _ _ h => h
theorem own_isLen {w : World} {base : Nat} {e : TypeId} {size n : Nat} {v : Value} {xs : List Value} (h : w.ownsRow base e size v n xs) (w' : World) : IsLen n v w' := by
 rcases h.2 with ⟨rfl, rfl⟩ | ⟨g, cap, cur, rfl, _⟩
 · exact ⟨_, _, rfl⟩
 · exact ⟨_, _, rfl⟩
section
variable (l : List XAccount) (A : Option Addr) (c n m : Nat) (w : World) (hN : l.length = n) (hl : ListC AccountC 4 w (· < w.heap.size) [.slice A l.length c] l) (hn : l.length ≤ 1000)
include hN hl hn in
theorem rclimb_n (code : Int) (hc : intBd code) (hm : (upR l (l.length + 1) [] code).length = m) : Calls Tryz.prog 177 #[.slice A n c, .int .i64 code] w (fun e w' => ∃ v, e = .returned v ∧ IsLen m v w' ∧ Below w.heap.size w w') := by
 subst hN hm
 refine (rclimb_c l A c code w hl hc hn).mono ?_
 rintro e w' ⟨v, h1, h2, h3⟩
 exact ⟨v, h1, own_isLen h2 w', h3⟩
end
section
variable {l : List XAccount} {g : Bool} {i j : Nat} {a b : XAccount}
theorem rowR_p (h : l[i]? = some a) (hp : properR l g a = false) : rowR l g i = false := by rw [rowR_at h, hp]; rfl
theorem rowR_o (h : l[i]? = some a) (hi : i = j + 1) (hb : l[j]? = some b) (ho : a.code ≤ b.code) : rowR l g i = false := by
 subst hi
 rw [rowR_at h, Nat.add_sub_cancel, List.getD_eq_getElem?_getD, hb, Option.getD_some, decide_eq_true ho, decide_eq_true (Nat.succ_pos j)]; simp
theorem rowR_l0 (h : l[i]? = some a) (hi : i = 0) (hp : properR l g a = true) : rowR l g i = decide ((upR l (l.length + 1) [] a.code).length ≤ l.length) := by
 subst hi
 rw [rowR_at h, hp]; simp
theorem rowR_l1 (h : l[i]? = some a) (hi : i = j + 1) (hb : l[j]? = some b) (ho : ¬ a.code ≤ b.code) (hp : properR l g a = true) : rowR l g i = decide ((upR l (l.length + 1) [] a.code).length ≤ l.length) := by
 subst hi
 rw [rowR_at h, hp, Nat.add_sub_cancel, List.getD_eq_getElem?_getD, hb, Option.getD_some, decide_eq_false ho]; simp
end
set_option maxHeartbeats 4000000 in
theorem rchartValid_c (l : List XAccount) (A : Option Addr) (c : Nat) (g : Bool) (w : World) (hl : ListC AccountC 4 w (· < w.heap.size) [.slice A l.length c] l) (hn : l.length ≤ 1000) : Calls Tryz.prog 137 #[.slice A l.length c, .bool g] w (Quiet w (.bool (chartR l g))) := by
 obtain ⟨r, hr⟩ : ∃ r, chartR l g = r := ⟨_, rfl⟩
 rw [hr]
 have HR := Lib.hid hr
 clear hr
 obtain ⟨n, hnl⟩ : ∃ n, l.length = n := ⟨_, rfl⟩
 have HNN := Lib.hid hn
 rw [hnl] at hn
 have HL := Lib.hid hl
 have HN := Lib.hid hnl
 rw [hnl]
 clear hl hnl
 go_enter Tryz.func137, Tryz.ntmps137
 by_cases h2 : n ≤ 200
 case neg =>
  have h2I : (200 : Int) < (n : Int) := by omega
  have hf := Lib.hid (show r = false by rw [← HR.out]; unfold chartR; rw [HN.out, decide_eq_false h2]; rfl)
  go_wp2_with fail
  go_ret
  exact ⟨by rw [hf.out]; first | done | rfl, Below.refl _ _⟩
 case pos =>
 have h2I : ¬ (200 : Int) < (n : Int) := by omega
 go_wp2_with fail
 go_loopw [5] (fun i wr => ∃ k : Nat, k ≤ n ∧ i = .int .i64 (k : Int) ∧ Below w.heap.size w wr ∧ ∀ j, j < k → rowR l g j = true) (fun i _ => n - (intOf i).toNat)
 case atStart => exact ⟨0, by omega, rfl, Below.refl _ _, fun j hj => by omega⟩
 case round =>
  obtain ⟨k, hk, rfl, hb, hall⟩ := hrel
  have HA := Lib.hid hall
  clear hall
  have hsz := hb.size
  by_cases hlt : k < n
  case pos =>
   have hltI : (k : Int) < (n : Int) := by omega
   have hkl : k < l.length := by rw [HN.out]; exact hlt
   obtain ⟨b, o, hAe, hbw, hall⟩ := ListC.base HL.out (by omega)
   subst hAe
   obtain ⟨es, hes, hat⟩ := hall k hkl
   obtain ⟨hes1, hab⟩ := AccountC.lit hes
   rw [hes1] at hat
   have HALL := Lib.hid hall
   clear hall
   obtain ⟨ac, hac⟩ : ∃ ac, l[k] = ac := ⟨_, rfl⟩
   rw [hac] at hat hab
   have HAC := Lib.hid (show l[k]? = some ac by rw [List.getElem?_eq_getElem hkl, hac])
   have hatv := hat.fr (Fr.ofBelow hb)
   have HATV := Lib.hid (hatv.mono (Q' := (· < wr.heap.size)) (fun k hk => by omega))
   have HAB := Lib.hid hab
   have KC := Lib.hid (hatv.c (j := 0) rfl)
   clear hes hes1 hat hac hab hatv
   obtain ⟨c1, c2, c3, c4⟩ := ac
   have HLV := Lib.hid (chart_keep HL.out hb)
   have HBV := Lib.hid (show b < wr.heap.size by omega)
   cases hp : properR l g ⟨c1, c2, c3, c4⟩ with
   | false =>
    have HP := Lib.hid hp
    have hf := Lib.hid (show r = false by rw [← HR.out]; unfold chartR; rw [all_range_false hkl (rowR_p HAC.out hp), Bool.and_false])
    clear hp
    go_upto_region 6 with fail
    refine wp_region_inv (Ks wr [.val (.slice (some ⟨b, o, none⟩) n c), .val (.slice (some ⟨b, o, none⟩) n c), .val (.int .i64 (k : Int)), .val (.pointer (some ⟨b, o + k * 4, none⟩)), .val (.agg (accL ⟨c1, c2, c3, c4⟩).toArray), .val (.bool g), .val (.bool false), .val (.bool true), .val (.bool true), .val (undef), .val (undef), .val (undef), .val (undef), .val (undef), .val (undef), .val (undef), .val (undef), .val (undef), .val (undef), .val (undef), .val (undef), .val (undef), .val (undef), .val (undef), .val (undef), .val (.bool true), .val (.bool true), .val (undef), .val (undef), .val (undef), .val (undef), .val (undef), .val (undef), .val (undef), .val (undef), .val (undef), .val (undef), .val (undef), .val (.bool true)])
     (fun w' => Below wr.heap.size wr w') (by kernel_rfl) (by kernel_rfl) (by kernel_rfl) (Below.refl _ _).drew ?_ ?_
    · refine ⟨?_, ?_, ?_, ?_, ?_, ?_, ?_, ?_, ?_, ?_, ?_, ?_, ?_, ?_, ?_, ?_, ?_, ?_, ?_, ?_, ?_, ?_, ?_, ?_, ?_, ?_, ?_, ?_, ?_, ?_, ?_, ?_, ?_, ?_, ?_, ?_, ?_, ?_, ?_, trivial⟩
      · intro _ A0 w2 hI hd hnd K hK; have e0 := hI.slot hnd 0 _ rfl (by kernel_rfl); have hS := hI.world; refine wanted_go rfl ?_; clear hI hd hnd; go_simp; exact kq hK hS rfl
      · intro _ A0 w2 hI hd hnd K hK; have e0 := hI.slot hnd 0 _ rfl (by kernel_rfl); have hS := hI.world; refine wanted_go rfl ?_; clear hI hd hnd; go_simp; exact kq hK hS rfl
      · intro _ A0 w2 hI hd hnd K hK; have e0 := hI.slot hnd 5 _ rfl (by kernel_rfl); have hS := hI.world; refine wanted_go rfl ?_; clear hI hd hnd; go_simp; exact kq hK hS rfl
      · intro _ A0 w2 hI hd hnd K hK; have e0 := hI.depv hd 1 16 _ rfl rfl rfl (by kernel_rfl); have e1 := hI.depv hd 2 17 _ rfl rfl rfl (by kernel_rfl); have hS := hI.world; refine wanted_go rfl ?_; clear hI hd hnd; go_simp; exact kq hK hS rfl
      · intro _ A0 w2 hI hd hnd K hK; have e0 := hI.depv hd 3 18 _ rfl rfl rfl (by kernel_rfl); have hS := hI.world; have hrange : w2.rangeAt b (o + k * 4) (accL ⟨c1, c2, c3, c4⟩) := (HATV.out.fr (Fr.ofBelow hS)).range
        have hisize := info_accL ⟨c1, c2, c3, c4⟩
        refine wanted_go rfl ?_; clear hI hd hnd
        refine wp_load_mid 130 (.tmp 18) rfl _ _ (by simpa [Act.eval, Array.getD_eq_getD_getElem?] using e0) _ _ hrange Tryz.underlying130 rfl hisize ?_
        exact kq hK hS rfl
      · intro _ A0 w2 hI hd hnd K hK; have e0 := hI.slot hnd 1 _ rfl (by kernel_rfl); have hS := hI.world; refine wanted_go rfl ?_; clear hI hd hnd; go_simp; exact kq hK hS rfl
      · intro _ A0 w2 hI hd hnd K hK; have e0 := hI.depv hd 0 15 _ rfl rfl rfl (by kernel_rfl); have e1 := hI.depv hd 4 19 _ rfl rfl rfl (by kernel_rfl); have e2 := hI.depv hd 5 20 _ rfl rfl rfl (by kernel_rfl); have hS := hI.world; refine wanted_go rfl ?_; clear hI hd hnd; go_simp
        go_at_call 176
        refine (rproper_n l _ c n w2 HN.out (chart_keep HLV.out hS) HNN.out ⟨c1, c2, c3, c4⟩ g HAB.out).mono ?_
        rintro e w3 ⟨rfl, h3⟩
        exact hK.out _ _ (hS.trans (h3.mono hS.size)) (Ks.of rfl (congrArg Value.bool HP.out)) (Ks.keep h3)
      · intro _ A0 w2 hI hd hnd K hK; have e0 := hI.depv hd 6 21 _ rfl rfl rfl (by kernel_rfl); have hS := hI.world; refine wanted_go rfl ?_; clear hI hd hnd; go_simp; exact kq hK hS rfl
      · intro _ A0 w2 hI hd hnd K hK; have e0 := hI.depv hd 7 22 _ rfl rfl rfl (by kernel_rfl); have hS := hI.world; refine wanted_go rfl ?_; clear hI hd hnd; go_simp; exact kq hK hS rfl
      · intro _ A0 w2 hI hd hnd K hK; have hS := hI.world; refine wanted_no rfl (hI.yield hd 8 23 true rfl rfl rfl (by kernel_rfl)) rfl ?_; exact kq hK hS rfl
      · intro _ A0 w2 hI hd hnd K hK; have hS := hI.world; refine wanted_no rfl (hI.yield hd 8 23 true rfl rfl rfl (by kernel_rfl)) rfl ?_; exact kq hK hS rfl
      · intro _ A0 w2 hI hd hnd K hK; have hS := hI.world; refine wanted_no rfl (hI.yield hd 8 23 true rfl rfl rfl (by kernel_rfl)) rfl ?_; exact kq hK hS rfl
      · intro _ A0 w2 hI hd hnd K hK; have hS := hI.world; refine wanted_un rfl (hI.yieldU hd 11 26 rfl rfl rfl (by kernel_rfl)) ?_; exact kq hK hS rfl
      · intro _ A0 w2 hI hd hnd K hK; have hS := hI.world; refine wanted_un rfl (hI.yieldU hd 11 26 rfl rfl rfl (by kernel_rfl)) ?_; exact kq hK hS rfl
      · intro _ A0 w2 hI hd hnd K hK; have hS := hI.world; refine wanted_un rfl (hI.yieldU hd 11 26 rfl rfl rfl (by kernel_rfl)) ?_; exact kq hK hS rfl
      · intro _ A0 w2 hI hd hnd K hK; have hS := hI.world; refine wanted_un rfl (hI.yieldU hd 11 26 rfl rfl rfl (by kernel_rfl)) ?_; exact kq hK hS rfl
      · intro _ A0 w2 hI hd hnd K hK; have hS := hI.world; refine wanted_un rfl (hI.yieldU hd 11 26 rfl rfl rfl (by kernel_rfl)) ?_; exact kq hK hS rfl
      · intro _ A0 w2 hI hd hnd K hK; have hS := hI.world; refine wanted_un rfl (hI.yieldU hd 11 26 rfl rfl rfl (by kernel_rfl)) ?_; exact kq hK hS rfl
      · intro _ A0 w2 hI hd hnd K hK; have hS := hI.world; refine wanted_un rfl (hI.yieldU hd 11 26 rfl rfl rfl (by kernel_rfl)) ?_; exact kq hK hS rfl
      · intro _ A0 w2 hI hd hnd K hK; have hS := hI.world; refine wanted_un rfl (hI.yieldU hd 11 26 rfl rfl rfl (by kernel_rfl)) ?_; exact kq hK hS rfl
      · intro _ A0 w2 hI hd hnd K hK; have hS := hI.world; refine wanted_un rfl (hI.yieldU hd 11 26 rfl rfl rfl (by kernel_rfl)) ?_; exact kq hK hS rfl
      · intro _ A0 w2 hI hd hnd K hK; have hS := hI.world; refine wanted_un rfl (hI.yieldU hd 11 26 rfl rfl rfl (by kernel_rfl)) ?_; exact kq hK hS rfl
      · intro _ A0 w2 hI hd hnd K hK; have hS := hI.world; refine wanted_un rfl (hI.yieldU hd 11 26 rfl rfl rfl (by kernel_rfl)) ?_; exact kq hK hS rfl
      · intro _ A0 w2 hI hd hnd K hK; have hS := hI.world; refine wanted_un rfl (hI.yieldU hd 11 26 rfl rfl rfl (by kernel_rfl)) ?_; exact kq hK hS rfl
      · intro _ A0 w2 hI hd hnd K hK; have hS := hI.world; refine wanted_no rfl (hI.yield hd 8 23 true rfl rfl rfl (by kernel_rfl)) rfl ?_; exact kq hK hS rfl
      · intro _ A0 w2 hI hd hnd K hK; have e0 := hI.depv hd 8 23 _ rfl rfl rfl (by kernel_rfl); have e1 := hI.depv hd 24 39 _ rfl rfl rfl (by kernel_rfl); have hS := hI.world; refine wanted_go rfl ?_; clear hI hd hnd; go_simp; exact kq hK hS rfl
      · intro _ A0 w2 hI hd hnd K hK; have e0 := hI.depv hd 25 40 _ rfl rfl rfl (by kernel_rfl); have hS := hI.world; refine wanted_go rfl ?_; clear hI hd hnd; go_simp; exact kq hK hS rfl
      · intro _ A0 w2 hI hd hnd K hK; have hS := hI.world; refine wanted_no rfl (hI.yield hd 26 41 true rfl rfl rfl (by kernel_rfl)) rfl ?_; exact kq hK hS rfl
      · intro _ A0 w2 hI hd hnd K hK; have hS := hI.world; refine wanted_no rfl (hI.yield hd 26 41 true rfl rfl rfl (by kernel_rfl)) rfl ?_; exact kq hK hS rfl
      · intro _ A0 w2 hI hd hnd K hK; have hS := hI.world; refine wanted_no rfl (hI.yield hd 26 41 true rfl rfl rfl (by kernel_rfl)) rfl ?_; exact kq hK hS rfl
      · intro _ A0 w2 hI hd hnd K hK; have hS := hI.world; refine wanted_no rfl (hI.yield hd 26 41 true rfl rfl rfl (by kernel_rfl)) rfl ?_; exact kq hK hS rfl
      · intro _ A0 w2 hI hd hnd K hK; have hS := hI.world; refine wanted_no rfl (hI.yield hd 26 41 true rfl rfl rfl (by kernel_rfl)) rfl ?_; exact kq hK hS rfl
      · intro _ A0 w2 hI hd hnd K hK; have hS := hI.world; refine wanted_no rfl (hI.yield hd 26 41 true rfl rfl rfl (by kernel_rfl)) rfl ?_; exact kq hK hS rfl
      · intro _ A0 w2 hI hd hnd K hK; have hS := hI.world; refine wanted_no rfl (hI.yield hd 26 41 true rfl rfl rfl (by kernel_rfl)) rfl ?_; exact kq hK hS rfl
      · intro _ A0 w2 hI hd hnd K hK; have hS := hI.world; refine wanted_no rfl (hI.yield hd 26 41 true rfl rfl rfl (by kernel_rfl)) rfl ?_; exact kq hK hS rfl
      · intro _ A0 w2 hI hd hnd K hK; have hS := hI.world; refine wanted_no rfl (hI.yield hd 26 41 true rfl rfl rfl (by kernel_rfl)) rfl ?_; exact kq hK hS rfl
      · intro _ A0 w2 hI hd hnd K hK; have hS := hI.world; refine wanted_no rfl (hI.yield hd 26 41 true rfl rfl rfl (by kernel_rfl)) rfl ?_; exact kq hK hS rfl
      · intro _ A0 w2 hI hd hnd K hK; have hS := hI.world; refine wanted_no rfl (hI.yield hd 26 41 true rfl rfl rfl (by kernel_rfl)) rfl ?_; exact kq hK hS rfl
      · intro _ A0 w2 hI hd hnd K hK; have e0 := hI.depv hd 26 41 _ rfl rfl rfl (by kernel_rfl); have e1 := hI.depv hd 37 52 _ rfl rfl rfl (by kernel_rfl); have hS := hI.world; refine wanted_go rfl ?_; clear hI hd hnd; go_simp; exact kq hK hS rfl
    · intro _ A0 w2 hI hall; obtain ⟨x0, g0, h0⟩ := hI.got 0 _ 15 rfl rfl (hall 0 (by decide)); obtain ⟨x1, g1, h1⟩ := hI.got 1 _ 16 rfl rfl (hall 1 (by decide)); obtain ⟨x2, g2, h2⟩ := hI.got 2 _ 17 rfl rfl (hall 2 (by decide)); obtain ⟨x3, g3, h3⟩ := hI.got 3 _ 18 rfl rfl (hall 3 (by decide)); obtain ⟨x4, g4, h4⟩ := hI.got 4 _ 19 rfl rfl (hall 4 (by decide)); obtain ⟨x5, g5, h5⟩ := hI.got 5 _ 20 rfl rfl (hall 5 (by decide)); obtain ⟨x6, g6, h6⟩ := hI.got 6 _ 21 rfl rfl (hall 6 (by decide)); obtain ⟨x7, g7, h7⟩ := hI.got 7 _ 22 rfl rfl (hall 7 (by decide)); obtain ⟨x8, g8, h8⟩ := hI.got 8 _ 23 rfl rfl (hall 8 (by decide)); obtain ⟨x9, g9, h9⟩ := hI.got 9 _ 24 rfl rfl (hall 9 (by decide)); obtain ⟨x10, g10, h10⟩ := hI.got 10 _ 25 rfl rfl (hall 10 (by decide)); obtain ⟨x11, g11, h11⟩ := hI.got 11 _ 26 rfl rfl (hall 11 (by decide)); obtain ⟨x12, g12, h12⟩ := hI.got 12 _ 27 rfl rfl (hall 12 (by decide)); obtain ⟨x13, g13, h13⟩ := hI.got 13 _ 28 rfl rfl (hall 13 (by decide)); obtain ⟨x14, g14, h14⟩ := hI.got 14 _ 29 rfl rfl (hall 14 (by decide)); obtain ⟨x15, g15, h15⟩ := hI.got 15 _ 30 rfl rfl (hall 15 (by decide)); obtain ⟨x16, g16, h16⟩ := hI.got 16 _ 31 rfl rfl (hall 16 (by decide)); obtain ⟨x17, g17, h17⟩ := hI.got 17 _ 32 rfl rfl (hall 17 (by decide)); obtain ⟨x18, g18, h18⟩ := hI.got 18 _ 33 rfl rfl (hall 18 (by decide)); obtain ⟨x19, g19, h19⟩ := hI.got 19 _ 34 rfl rfl (hall 19 (by decide)); obtain ⟨x20, g20, h20⟩ := hI.got 20 _ 35 rfl rfl (hall 20 (by decide)); obtain ⟨x21, g21, h21⟩ := hI.got 21 _ 36 rfl rfl (hall 21 (by decide)); obtain ⟨x22, g22, h22⟩ := hI.got 22 _ 37 rfl rfl (hall 22 (by decide)); obtain ⟨x23, g23, h23⟩ := hI.got 23 _ 38 rfl rfl (hall 23 (by decide)); obtain ⟨x24, g24, h24⟩ := hI.got 24 _ 39 rfl rfl (hall 24 (by decide)); obtain ⟨x25, g25, h25⟩ := hI.got 25 _ 40 rfl rfl (hall 25 (by decide)); obtain ⟨x26, g26, h26⟩ := hI.got 26 _ 41 rfl rfl (hall 26 (by decide)); obtain ⟨x27, g27, h27⟩ := hI.got 27 _ 42 rfl rfl (hall 27 (by decide)); obtain ⟨x28, g28, h28⟩ := hI.got 28 _ 43 rfl rfl (hall 28 (by decide)); obtain ⟨x29, g29, h29⟩ := hI.got 29 _ 44 rfl rfl (hall 29 (by decide)); obtain ⟨x30, g30, h30⟩ := hI.got 30 _ 45 rfl rfl (hall 30 (by decide)); obtain ⟨x31, g31, h31⟩ := hI.got 31 _ 46 rfl rfl (hall 31 (by decide)); obtain ⟨x32, g32, h32⟩ := hI.got 32 _ 47 rfl rfl (hall 32 (by decide)); obtain ⟨x33, g33, h33⟩ := hI.got 33 _ 48 rfl rfl (hall 33 (by decide)); obtain ⟨x34, g34, h34⟩ := hI.got 34 _ 49 rfl rfl (hall 34 (by decide)); obtain ⟨x35, g35, h35⟩ := hI.got 35 _ 50 rfl rfl (hall 35 (by decide)); obtain ⟨x36, g36, h36⟩ := hI.got 36 _ 51 rfl rfl (hall 36 (by decide)); obtain ⟨x37, g37, h37⟩ := hI.got 37 _ 52 rfl rfl (hall 37 (by decide)); obtain ⟨x38, g38, h38⟩ := hI.got 38 _ 53 rfl rfl (hall 38 (by decide)); have hS := hI.world
      have hA : A0 = _ := hI.tmps [(15, x0), (16, x1), (17, x2), (18, x3), (19, x4), (20, x5), (21, x6), (22, x7), (23, x8), (24, x9), (25, x10), (26, x11), (27, x12), (28, x13), (29, x14), (30, x15), (31, x16), (32, x17), (33, x18), (34, x19), (35, x20), (36, x21), (37, x22), (38, x23), (39, x24), (40, x25), (41, x26), (42, x27), (43, x28), (44, x29), (45, x30), (46, x31), (47, x32), (48, x33), (49, x34), (50, x35), (51, x36), (52, x37), (53, x38)] (by simp only [List.mem_cons, List.not_mem_nil, or_false, forall_eq_or_imp, forall_eq]; exact ⟨g0, g1, g2, g3, g4, g5, g6, g7, g8, g9, g10, g11, g12, g13, g14, g15, g16, g17, g18, g19, g20, g21, g22, g23, g24, g25, g26, g27, g28, g29, g30, g31, g32, g33, g34, g35, g36, g37, g38⟩) (by kernel_rfl)
      obtain rfl : x38 = .bool true := h38 _ rfl
      clear h0 g0 h1 g1 h2 g2 h3 g3 h4 g4 h5 g5 h6 g6 h7 g7 h8 g8 h9 g9 h10 g10 h11 g11 h12 g12 h13 g13 h14 g14 h15 g15 h16 g16 h17 g17 h18 g18 h19 g19 h20 g20 h21 g21 h22 g22 h23 g23 h24 g24 h25 g25 h26 g26 h27 g27 h28 g28 h29 g29 h30 g30 h31 g31 h32 g32 h33 g33 h34 g34 h35 g35 h36 g36 h37 g37 h38 g38 hI hall
      simp only [setAll, List.foldl, List.setIfInBounds_toArray, List.set_cons_zero, List.set_cons_succ] at hA
      rw [hA]
      clear hA
      go_wp2_with fail
      go_ret
      exact ⟨by rw [hf.out]; first | done | rfl, hb.trans (hS.mono hb.size)⟩
   | true =>
    have HP := Lib.hid hp
    clear hp
    obtain ⟨m, hm⟩ : ∃ m, (upR l (l.length + 1) [] c1).length = m := ⟨_, rfl⟩
    have HM := Lib.hid hm
    clear hm
    rcases Nat.eq_zero_or_pos k with hk0 | hk0
    · have HKD := Lib.hid (show decide (0 < k) = false from decide_eq_false (by omega))
      have HK0 := Lib.hid hk0
      clear hk0
      rcases Nat.lt_or_ge n m with hmn | hmn
      · have hmI : (n : Int) < (m : Int) := by omega
        have hf := Lib.hid (show r = false by rw [← HR.out]; unfold chartR; rw [all_range_false hkl (by rw [rowR_l0 HAC.out HK0.out HP.out, HM.out]; exact decide_eq_false (by have := HN.out; omega)), Bool.and_false])
        go_upto_region 6 with fail
        refine wp_region_inv (Ks wr [.val (.slice (some ⟨b, o, none⟩) n c), .val (.slice (some ⟨b, o, none⟩) n c), .val (.int .i64 (k : Int)), .val (.pointer (some ⟨b, o + k * 4, none⟩)), .val (.agg (accL ⟨c1, c2, c3, c4⟩).toArray), .val (.bool g), .val (.bool true), .val (.bool false), .val (.bool false), .val (.int .i64 (k : Int)), .val (.bool false), .val (.bool false), .val (undef), .val (undef), .val (undef), .val (undef), .val (undef), .val (undef), .val (undef), .val (undef), .val (undef), .val (undef), .val (undef), .val (undef), .val (.bool false), .val (.bool false), .val (.bool false), .val (.slice (some ⟨b, o, none⟩) n c), .val (.slice (some ⟨b, o, none⟩) n c), .val (.int .i64 (k : Int)), .val (.pointer (some ⟨b, o + k * 4, none⟩)), .val (.pointer (some ⟨b, o + k * 4, none⟩)), .val (.int .i64 c1), .own (IsLen m) (IsLen.keep m), .val (.int .i64 (m : Int)), .val (.slice (some ⟨b, o, none⟩) n c), .val (.int .i64 (n : Int)), .val (.bool true), .val (.bool true)])
         (fun w' => Below wr.heap.size wr w') (by kernel_rfl) (by kernel_rfl) (by kernel_rfl) (Below.refl _ _).drew ?_ ?_
        · refine ⟨?_, ?_, ?_, ?_, ?_, ?_, ?_, ?_, ?_, ?_, ?_, ?_, ?_, ?_, ?_, ?_, ?_, ?_, ?_, ?_, ?_, ?_, ?_, ?_, ?_, ?_, ?_, ?_, ?_, ?_, ?_, ?_, ?_, ?_, ?_, ?_, ?_, ?_, ?_, trivial⟩
          · intro _ A0 w2 hI hd hnd K hK; have e0 := hI.slot hnd 0 _ rfl (by kernel_rfl); have hS := hI.world; refine wanted_go rfl ?_; clear hI hd hnd; go_simp; exact kq hK hS rfl
          · intro _ A0 w2 hI hd hnd K hK; have e0 := hI.slot hnd 0 _ rfl (by kernel_rfl); have hS := hI.world; refine wanted_go rfl ?_; clear hI hd hnd; go_simp; exact kq hK hS rfl
          · intro _ A0 w2 hI hd hnd K hK; have e0 := hI.slot hnd 5 _ rfl (by kernel_rfl); have hS := hI.world; refine wanted_go rfl ?_; clear hI hd hnd; go_simp; exact kq hK hS rfl
          · intro _ A0 w2 hI hd hnd K hK; have e0 := hI.depv hd 1 16 _ rfl rfl rfl (by kernel_rfl); have e1 := hI.depv hd 2 17 _ rfl rfl rfl (by kernel_rfl); have hS := hI.world; refine wanted_go rfl ?_; clear hI hd hnd; go_simp; exact kq hK hS rfl
          · intro _ A0 w2 hI hd hnd K hK; have e0 := hI.depv hd 3 18 _ rfl rfl rfl (by kernel_rfl); have hS := hI.world; have hrange : w2.rangeAt b (o + k * 4) (accL ⟨c1, c2, c3, c4⟩) := (HATV.out.fr (Fr.ofBelow hS)).range
            have hisize := info_accL ⟨c1, c2, c3, c4⟩
            refine wanted_go rfl ?_; clear hI hd hnd
            refine wp_load_mid 130 (.tmp 18) rfl _ _ (by simpa [Act.eval, Array.getD_eq_getD_getElem?] using e0) _ _ hrange Tryz.underlying130 rfl hisize ?_
            exact kq hK hS rfl
          · intro _ A0 w2 hI hd hnd K hK; have e0 := hI.slot hnd 1 _ rfl (by kernel_rfl); have hS := hI.world; refine wanted_go rfl ?_; clear hI hd hnd; go_simp; exact kq hK hS rfl
          · intro _ A0 w2 hI hd hnd K hK; have e0 := hI.depv hd 0 15 _ rfl rfl rfl (by kernel_rfl); have e1 := hI.depv hd 4 19 _ rfl rfl rfl (by kernel_rfl); have e2 := hI.depv hd 5 20 _ rfl rfl rfl (by kernel_rfl); have hS := hI.world; refine wanted_go rfl ?_; clear hI hd hnd; go_simp
            go_at_call 176
            refine (rproper_n l _ c n w2 HN.out (chart_keep HLV.out hS) HNN.out ⟨c1, c2, c3, c4⟩ g HAB.out).mono ?_
            rintro e w3 ⟨rfl, h3⟩
            exact hK.out _ _ (hS.trans (h3.mono hS.size)) (Ks.of rfl (congrArg Value.bool HP.out)) (Ks.keep h3)
          · intro _ A0 w2 hI hd hnd K hK; have e0 := hI.depv hd 6 21 _ rfl rfl rfl (by kernel_rfl); have hS := hI.world; refine wanted_go rfl ?_; clear hI hd hnd; go_simp; exact kq hK hS rfl
          · intro _ A0 w2 hI hd hnd K hK; have e0 := hI.depv hd 7 22 _ rfl rfl rfl (by kernel_rfl); have hS := hI.world; refine wanted_go rfl ?_; clear hI hd hnd; go_simp; exact kq hK hS rfl
          · intro _ A0 w2 hI hd hnd K hK; have e0 := hI.slot hnd 5 _ rfl (by kernel_rfl); have hS := hI.world; refine wanted_yes rfl (hI.yield hd 8 23 false rfl rfl rfl (by kernel_rfl)) ?_; clear hI hd hnd; go_simp; exact kq hK hS rfl
          · intro _ A0 w2 hI hd hnd K hK; have e0 := hI.depv hd 9 24 _ rfl rfl rfl (by kernel_rfl); have hS := hI.world; refine wanted_yes rfl (hI.yield hd 8 23 false rfl rfl rfl (by kernel_rfl)) ?_; clear hI hd hnd; go_simp
            exact hK.out _ _ hS (Ks.of rfl (congrArg Value.bool HKD.out)) (fun _ _ h => h)
          · intro _ A0 w2 hI hd hnd K hK; have e0 := hI.depv hd 10 25 _ rfl rfl rfl (by kernel_rfl); have hS := hI.world; refine wanted_yes rfl (hI.yield hd 8 23 false rfl rfl rfl (by kernel_rfl)) ?_; clear hI hd hnd; go_simp; exact kq hK hS rfl
          · intro _ A0 w2 hI hd hnd K hK; have hS := hI.world; refine wanted_no rfl (hI.yield hd 11 26 false rfl rfl rfl (by kernel_rfl)) rfl ?_; exact kq hK hS rfl
          · intro _ A0 w2 hI hd hnd K hK; have hS := hI.world; refine wanted_no rfl (hI.yield hd 11 26 false rfl rfl rfl (by kernel_rfl)) rfl ?_; exact kq hK hS rfl
          · intro _ A0 w2 hI hd hnd K hK; have hS := hI.world; refine wanted_no rfl (hI.yield hd 11 26 false rfl rfl rfl (by kernel_rfl)) rfl ?_; exact kq hK hS rfl
          · intro _ A0 w2 hI hd hnd K hK; have hS := hI.world; refine wanted_no rfl (hI.yield hd 11 26 false rfl rfl rfl (by kernel_rfl)) rfl ?_; exact kq hK hS rfl
          · intro _ A0 w2 hI hd hnd K hK; have hS := hI.world; refine wanted_no rfl (hI.yield hd 11 26 false rfl rfl rfl (by kernel_rfl)) rfl ?_; exact kq hK hS rfl
          · intro _ A0 w2 hI hd hnd K hK; have hS := hI.world; refine wanted_no rfl (hI.yield hd 11 26 false rfl rfl rfl (by kernel_rfl)) rfl ?_; exact kq hK hS rfl
          · intro _ A0 w2 hI hd hnd K hK; have hS := hI.world; refine wanted_no rfl (hI.yield hd 11 26 false rfl rfl rfl (by kernel_rfl)) rfl ?_; exact kq hK hS rfl
          · intro _ A0 w2 hI hd hnd K hK; have hS := hI.world; refine wanted_no rfl (hI.yield hd 11 26 false rfl rfl rfl (by kernel_rfl)) rfl ?_; exact kq hK hS rfl
          · intro _ A0 w2 hI hd hnd K hK; have hS := hI.world; refine wanted_no rfl (hI.yield hd 11 26 false rfl rfl rfl (by kernel_rfl)) rfl ?_; exact kq hK hS rfl
          · intro _ A0 w2 hI hd hnd K hK; have hS := hI.world; refine wanted_no rfl (hI.yield hd 11 26 false rfl rfl rfl (by kernel_rfl)) rfl ?_; exact kq hK hS rfl
          · intro _ A0 w2 hI hd hnd K hK; have hS := hI.world; refine wanted_no rfl (hI.yield hd 11 26 false rfl rfl rfl (by kernel_rfl)) rfl ?_; exact kq hK hS rfl
          · intro _ A0 w2 hI hd hnd K hK; have hS := hI.world; refine wanted_no rfl (hI.yield hd 11 26 false rfl rfl rfl (by kernel_rfl)) rfl ?_; exact kq hK hS rfl
          · intro _ A0 w2 hI hd hnd K hK; have e0 := hI.depv hd 11 26 _ rfl rfl rfl (by kernel_rfl); have e1 := hI.depv hd 23 38 _ rfl rfl rfl (by kernel_rfl); have hS := hI.world; refine wanted_yes rfl (hI.yield hd 8 23 false rfl rfl rfl (by kernel_rfl)) ?_; clear hI hd hnd; go_simp; exact kq hK hS rfl
          · intro _ A0 w2 hI hd hnd K hK; have e0 := hI.depv hd 8 23 _ rfl rfl rfl (by kernel_rfl); have e1 := hI.depv hd 24 39 _ rfl rfl rfl (by kernel_rfl); have hS := hI.world; refine wanted_go rfl ?_; clear hI hd hnd; go_simp; exact kq hK hS rfl
          · intro _ A0 w2 hI hd hnd K hK; have e0 := hI.depv hd 25 40 _ rfl rfl rfl (by kernel_rfl); have hS := hI.world; refine wanted_go rfl ?_; clear hI hd hnd; go_simp; exact kq hK hS rfl
          · intro _ A0 w2 hI hd hnd K hK; have e0 := hI.slot hnd 0 _ rfl (by kernel_rfl); have hS := hI.world; refine wanted_yes rfl (hI.yield hd 26 41 false rfl rfl rfl (by kernel_rfl)) ?_; clear hI hd hnd; go_simp; exact kq hK hS rfl
          · intro _ A0 w2 hI hd hnd K hK; have e0 := hI.slot hnd 0 _ rfl (by kernel_rfl); have hS := hI.world; refine wanted_yes rfl (hI.yield hd 26 41 false rfl rfl rfl (by kernel_rfl)) ?_; clear hI hd hnd; go_simp; exact kq hK hS rfl
          · intro _ A0 w2 hI hd hnd K hK; have e0 := hI.slot hnd 5 _ rfl (by kernel_rfl); have hS := hI.world; refine wanted_yes rfl (hI.yield hd 26 41 false rfl rfl rfl (by kernel_rfl)) ?_; clear hI hd hnd; go_simp; exact kq hK hS rfl
          · intro _ A0 w2 hI hd hnd K hK; have e0 := hI.depv hd 28 43 _ rfl rfl rfl (by kernel_rfl); have e1 := hI.depv hd 29 44 _ rfl rfl rfl (by kernel_rfl); have hS := hI.world; refine wanted_yes rfl (hI.yield hd 26 41 false rfl rfl rfl (by kernel_rfl)) ?_; clear hI hd hnd; go_simp; exact kq hK hS rfl
          · intro _ A0 w2 hI hd hnd K hK; have e0 := hI.depv hd 30 45 _ rfl rfl rfl (by kernel_rfl); have hS := hI.world; refine wanted_yes rfl (hI.yield hd 26 41 false rfl rfl rfl (by kernel_rfl)) ?_; clear hI hd hnd; go_simp; exact kq hK hS rfl
          · intro _ A0 w2 hI hd hnd K hK; have e0 := hI.depv hd 31 46 _ rfl rfl rfl (by kernel_rfl); have hS := hI.world; have hcc : w2.cell? ⟨b, o + k * 4, none⟩ = _ := (hS.cell (p := ⟨b, o + k * 4, none⟩) HBV.out).trans KC.out; refine wanted_yes rfl (hI.yield hd 26 41 false rfl rfl rfl (by kernel_rfl)) ?_; clear hI hd hnd; go_simp; exact kq hK hS rfl
          · intro _ A0 w2 hI hd hnd K hK; have e0 := hI.depv hd 27 42 _ rfl rfl rfl (by kernel_rfl); have e1 := hI.depv hd 32 47 _ rfl rfl rfl (by kernel_rfl); have hS := hI.world; refine wanted_yes rfl (hI.yield hd 26 41 false rfl rfl rfl (by kernel_rfl)) ?_; clear hI hd hnd; go_simp
            go_at_call 177
            refine (rclimb_n l _ c n m w2 HN.out (chart_keep HLV.out hS) HNN.out c1 HAB.out.1 HM.out).mono ?_
            rintro e w3 ⟨v, rfl, h1, h3⟩
            exact hK.out _ _ (hS.trans (h3.mono hS.size)) (Ks.of rfl h1) (Ks.keep h3)
          · intro _ A0 w2 hI hd hnd K hK
            obtain ⟨x0, e0, h0⟩ := hI.dep hd 33 48 rfl rfl rfl (by kernel_rfl)
            have hS := hI.world
            obtain ⟨Ab, cb, rfl⟩ := h0
            refine wanted_yes rfl (hI.yield hd 26 41 false rfl rfl rfl (by kernel_rfl)) ?_; clear hI hd hnd; go_simp; exact kq hK hS rfl
          · intro _ A0 w2 hI hd hnd K hK; have e0 := hI.slot hnd 0 _ rfl (by kernel_rfl); have hS := hI.world; refine wanted_yes rfl (hI.yield hd 26 41 false rfl rfl rfl (by kernel_rfl)) ?_; clear hI hd hnd; go_simp; exact kq hK hS rfl
          · intro _ A0 w2 hI hd hnd K hK; have e0 := hI.depv hd 35 50 _ rfl rfl rfl (by kernel_rfl); have hS := hI.world; refine wanted_yes rfl (hI.yield hd 26 41 false rfl rfl rfl (by kernel_rfl)) ?_; clear hI hd hnd; go_simp; exact kq hK hS rfl
          · intro _ A0 w2 hI hd hnd K hK; have e0 := hI.depv hd 34 49 _ rfl rfl rfl (by kernel_rfl); have e1 := hI.depv hd 36 51 _ rfl rfl rfl (by kernel_rfl); have hS := hI.world; refine wanted_yes rfl (hI.yield hd 26 41 false rfl rfl rfl (by kernel_rfl)) ?_; clear hI hd hnd; go_simp; exact kq hK hS rfl
          · intro _ A0 w2 hI hd hnd K hK; have e0 := hI.depv hd 26 41 _ rfl rfl rfl (by kernel_rfl); have e1 := hI.depv hd 37 52 _ rfl rfl rfl (by kernel_rfl); have hS := hI.world; refine wanted_go rfl ?_; clear hI hd hnd; go_simp; exact kq hK hS rfl
        · intro _ A0 w2 hI hall; obtain ⟨x0, g0, h0⟩ := hI.got 0 _ 15 rfl rfl (hall 0 (by decide)); obtain ⟨x1, g1, h1⟩ := hI.got 1 _ 16 rfl rfl (hall 1 (by decide)); obtain ⟨x2, g2, h2⟩ := hI.got 2 _ 17 rfl rfl (hall 2 (by decide)); obtain ⟨x3, g3, h3⟩ := hI.got 3 _ 18 rfl rfl (hall 3 (by decide)); obtain ⟨x4, g4, h4⟩ := hI.got 4 _ 19 rfl rfl (hall 4 (by decide)); obtain ⟨x5, g5, h5⟩ := hI.got 5 _ 20 rfl rfl (hall 5 (by decide)); obtain ⟨x6, g6, h6⟩ := hI.got 6 _ 21 rfl rfl (hall 6 (by decide)); obtain ⟨x7, g7, h7⟩ := hI.got 7 _ 22 rfl rfl (hall 7 (by decide)); obtain ⟨x8, g8, h8⟩ := hI.got 8 _ 23 rfl rfl (hall 8 (by decide)); obtain ⟨x9, g9, h9⟩ := hI.got 9 _ 24 rfl rfl (hall 9 (by decide)); obtain ⟨x10, g10, h10⟩ := hI.got 10 _ 25 rfl rfl (hall 10 (by decide)); obtain ⟨x11, g11, h11⟩ := hI.got 11 _ 26 rfl rfl (hall 11 (by decide)); obtain ⟨x12, g12, h12⟩ := hI.got 12 _ 27 rfl rfl (hall 12 (by decide)); obtain ⟨x13, g13, h13⟩ := hI.got 13 _ 28 rfl rfl (hall 13 (by decide)); obtain ⟨x14, g14, h14⟩ := hI.got 14 _ 29 rfl rfl (hall 14 (by decide)); obtain ⟨x15, g15, h15⟩ := hI.got 15 _ 30 rfl rfl (hall 15 (by decide)); obtain ⟨x16, g16, h16⟩ := hI.got 16 _ 31 rfl rfl (hall 16 (by decide)); obtain ⟨x17, g17, h17⟩ := hI.got 17 _ 32 rfl rfl (hall 17 (by decide)); obtain ⟨x18, g18, h18⟩ := hI.got 18 _ 33 rfl rfl (hall 18 (by decide)); obtain ⟨x19, g19, h19⟩ := hI.got 19 _ 34 rfl rfl (hall 19 (by decide)); obtain ⟨x20, g20, h20⟩ := hI.got 20 _ 35 rfl rfl (hall 20 (by decide)); obtain ⟨x21, g21, h21⟩ := hI.got 21 _ 36 rfl rfl (hall 21 (by decide)); obtain ⟨x22, g22, h22⟩ := hI.got 22 _ 37 rfl rfl (hall 22 (by decide)); obtain ⟨x23, g23, h23⟩ := hI.got 23 _ 38 rfl rfl (hall 23 (by decide)); obtain ⟨x24, g24, h24⟩ := hI.got 24 _ 39 rfl rfl (hall 24 (by decide)); obtain ⟨x25, g25, h25⟩ := hI.got 25 _ 40 rfl rfl (hall 25 (by decide)); obtain ⟨x26, g26, h26⟩ := hI.got 26 _ 41 rfl rfl (hall 26 (by decide)); obtain ⟨x27, g27, h27⟩ := hI.got 27 _ 42 rfl rfl (hall 27 (by decide)); obtain ⟨x28, g28, h28⟩ := hI.got 28 _ 43 rfl rfl (hall 28 (by decide)); obtain ⟨x29, g29, h29⟩ := hI.got 29 _ 44 rfl rfl (hall 29 (by decide)); obtain ⟨x30, g30, h30⟩ := hI.got 30 _ 45 rfl rfl (hall 30 (by decide)); obtain ⟨x31, g31, h31⟩ := hI.got 31 _ 46 rfl rfl (hall 31 (by decide)); obtain ⟨x32, g32, h32⟩ := hI.got 32 _ 47 rfl rfl (hall 32 (by decide)); obtain ⟨x33, g33, h33⟩ := hI.got 33 _ 48 rfl rfl (hall 33 (by decide)); obtain ⟨x34, g34, h34⟩ := hI.got 34 _ 49 rfl rfl (hall 34 (by decide)); obtain ⟨x35, g35, h35⟩ := hI.got 35 _ 50 rfl rfl (hall 35 (by decide)); obtain ⟨x36, g36, h36⟩ := hI.got 36 _ 51 rfl rfl (hall 36 (by decide)); obtain ⟨x37, g37, h37⟩ := hI.got 37 _ 52 rfl rfl (hall 37 (by decide)); obtain ⟨x38, g38, h38⟩ := hI.got 38 _ 53 rfl rfl (hall 38 (by decide)); have hS := hI.world
          have hA : A0 = _ := hI.tmps [(15, x0), (16, x1), (17, x2), (18, x3), (19, x4), (20, x5), (21, x6), (22, x7), (23, x8), (24, x9), (25, x10), (26, x11), (27, x12), (28, x13), (29, x14), (30, x15), (31, x16), (32, x17), (33, x18), (34, x19), (35, x20), (36, x21), (37, x22), (38, x23), (39, x24), (40, x25), (41, x26), (42, x27), (43, x28), (44, x29), (45, x30), (46, x31), (47, x32), (48, x33), (49, x34), (50, x35), (51, x36), (52, x37), (53, x38)] (by simp only [List.mem_cons, List.not_mem_nil, or_false, forall_eq_or_imp, forall_eq]; exact ⟨g0, g1, g2, g3, g4, g5, g6, g7, g8, g9, g10, g11, g12, g13, g14, g15, g16, g17, g18, g19, g20, g21, g22, g23, g24, g25, g26, g27, g28, g29, g30, g31, g32, g33, g34, g35, g36, g37, g38⟩) (by kernel_rfl)
          obtain rfl : x38 = .bool true := h38 _ rfl
          clear h0 g0 h1 g1 h2 g2 h3 g3 h4 g4 h5 g5 h6 g6 h7 g7 h8 g8 h9 g9 h10 g10 h11 g11 h12 g12 h13 g13 h14 g14 h15 g15 h16 g16 h17 g17 h18 g18 h19 g19 h20 g20 h21 g21 h22 g22 h23 g23 h24 g24 h25 g25 h26 g26 h27 g27 h28 g28 h29 g29 h30 g30 h31 g31 h32 g32 h33 g33 h34 g34 h35 g35 h36 g36 h37 g37 h38 g38 hI hall
          simp only [setAll, List.foldl, List.setIfInBounds_toArray, List.set_cons_zero, List.set_cons_succ] at hA
          rw [hA]
          clear hA
          go_wp2_with fail
          go_ret
          exact ⟨by rw [hf.out]; first | done | rfl, hb.trans (hS.mono hb.size)⟩
      · have hmI : ¬ (n : Int) < (m : Int) := by omega
        have HROW := Lib.hid (show rowR l g k = true by rw [rowR_l0 HAC.out HK0.out HP.out, HM.out]; exact decide_eq_true (by have := HN.out; omega))
        go_upto_region 6 with fail
        refine wp_region_inv (Ks wr [.val (.slice (some ⟨b, o, none⟩) n c), .val (.slice (some ⟨b, o, none⟩) n c), .val (.int .i64 (k : Int)), .val (.pointer (some ⟨b, o + k * 4, none⟩)), .val (.agg (accL ⟨c1, c2, c3, c4⟩).toArray), .val (.bool g), .val (.bool true), .val (.bool false), .val (.bool false), .val (.int .i64 (k : Int)), .val (.bool false), .val (.bool false), .val (undef), .val (undef), .val (undef), .val (undef), .val (undef), .val (undef), .val (undef), .val (undef), .val (undef), .val (undef), .val (undef), .val (undef), .val (.bool false), .val (.bool false), .val (.bool false), .val (.slice (some ⟨b, o, none⟩) n c), .val (.slice (some ⟨b, o, none⟩) n c), .val (.int .i64 (k : Int)), .val (.pointer (some ⟨b, o + k * 4, none⟩)), .val (.pointer (some ⟨b, o + k * 4, none⟩)), .val (.int .i64 c1), .own (IsLen m) (IsLen.keep m), .val (.int .i64 (m : Int)), .val (.slice (some ⟨b, o, none⟩) n c), .val (.int .i64 (n : Int)), .val (.bool false), .val (.bool false)])
         (fun w' => Below wr.heap.size wr w') (by kernel_rfl) (by kernel_rfl) (by kernel_rfl) (Below.refl _ _).drew ?_ ?_
        · refine ⟨?_, ?_, ?_, ?_, ?_, ?_, ?_, ?_, ?_, ?_, ?_, ?_, ?_, ?_, ?_, ?_, ?_, ?_, ?_, ?_, ?_, ?_, ?_, ?_, ?_, ?_, ?_, ?_, ?_, ?_, ?_, ?_, ?_, ?_, ?_, ?_, ?_, ?_, ?_, trivial⟩
          · intro _ A0 w2 hI hd hnd K hK; have e0 := hI.slot hnd 0 _ rfl (by kernel_rfl); have hS := hI.world; refine wanted_go rfl ?_; clear hI hd hnd; go_simp; exact kq hK hS rfl
          · intro _ A0 w2 hI hd hnd K hK; have e0 := hI.slot hnd 0 _ rfl (by kernel_rfl); have hS := hI.world; refine wanted_go rfl ?_; clear hI hd hnd; go_simp; exact kq hK hS rfl
          · intro _ A0 w2 hI hd hnd K hK; have e0 := hI.slot hnd 5 _ rfl (by kernel_rfl); have hS := hI.world; refine wanted_go rfl ?_; clear hI hd hnd; go_simp; exact kq hK hS rfl
          · intro _ A0 w2 hI hd hnd K hK; have e0 := hI.depv hd 1 16 _ rfl rfl rfl (by kernel_rfl); have e1 := hI.depv hd 2 17 _ rfl rfl rfl (by kernel_rfl); have hS := hI.world; refine wanted_go rfl ?_; clear hI hd hnd; go_simp; exact kq hK hS rfl
          · intro _ A0 w2 hI hd hnd K hK; have e0 := hI.depv hd 3 18 _ rfl rfl rfl (by kernel_rfl); have hS := hI.world; have hrange : w2.rangeAt b (o + k * 4) (accL ⟨c1, c2, c3, c4⟩) := (HATV.out.fr (Fr.ofBelow hS)).range
            have hisize := info_accL ⟨c1, c2, c3, c4⟩
            refine wanted_go rfl ?_; clear hI hd hnd
            refine wp_load_mid 130 (.tmp 18) rfl _ _ (by simpa [Act.eval, Array.getD_eq_getD_getElem?] using e0) _ _ hrange Tryz.underlying130 rfl hisize ?_
            exact kq hK hS rfl
          · intro _ A0 w2 hI hd hnd K hK; have e0 := hI.slot hnd 1 _ rfl (by kernel_rfl); have hS := hI.world; refine wanted_go rfl ?_; clear hI hd hnd; go_simp; exact kq hK hS rfl
          · intro _ A0 w2 hI hd hnd K hK; have e0 := hI.depv hd 0 15 _ rfl rfl rfl (by kernel_rfl); have e1 := hI.depv hd 4 19 _ rfl rfl rfl (by kernel_rfl); have e2 := hI.depv hd 5 20 _ rfl rfl rfl (by kernel_rfl); have hS := hI.world; refine wanted_go rfl ?_; clear hI hd hnd; go_simp
            go_at_call 176
            refine (rproper_n l _ c n w2 HN.out (chart_keep HLV.out hS) HNN.out ⟨c1, c2, c3, c4⟩ g HAB.out).mono ?_
            rintro e w3 ⟨rfl, h3⟩
            exact hK.out _ _ (hS.trans (h3.mono hS.size)) (Ks.of rfl (congrArg Value.bool HP.out)) (Ks.keep h3)
          · intro _ A0 w2 hI hd hnd K hK; have e0 := hI.depv hd 6 21 _ rfl rfl rfl (by kernel_rfl); have hS := hI.world; refine wanted_go rfl ?_; clear hI hd hnd; go_simp; exact kq hK hS rfl
          · intro _ A0 w2 hI hd hnd K hK; have e0 := hI.depv hd 7 22 _ rfl rfl rfl (by kernel_rfl); have hS := hI.world; refine wanted_go rfl ?_; clear hI hd hnd; go_simp; exact kq hK hS rfl
          · intro _ A0 w2 hI hd hnd K hK; have e0 := hI.slot hnd 5 _ rfl (by kernel_rfl); have hS := hI.world; refine wanted_yes rfl (hI.yield hd 8 23 false rfl rfl rfl (by kernel_rfl)) ?_; clear hI hd hnd; go_simp; exact kq hK hS rfl
          · intro _ A0 w2 hI hd hnd K hK; have e0 := hI.depv hd 9 24 _ rfl rfl rfl (by kernel_rfl); have hS := hI.world; refine wanted_yes rfl (hI.yield hd 8 23 false rfl rfl rfl (by kernel_rfl)) ?_; clear hI hd hnd; go_simp
            exact hK.out _ _ hS (Ks.of rfl (congrArg Value.bool HKD.out)) (fun _ _ h => h)
          · intro _ A0 w2 hI hd hnd K hK; have e0 := hI.depv hd 10 25 _ rfl rfl rfl (by kernel_rfl); have hS := hI.world; refine wanted_yes rfl (hI.yield hd 8 23 false rfl rfl rfl (by kernel_rfl)) ?_; clear hI hd hnd; go_simp; exact kq hK hS rfl
          · intro _ A0 w2 hI hd hnd K hK; have hS := hI.world; refine wanted_no rfl (hI.yield hd 11 26 false rfl rfl rfl (by kernel_rfl)) rfl ?_; exact kq hK hS rfl
          · intro _ A0 w2 hI hd hnd K hK; have hS := hI.world; refine wanted_no rfl (hI.yield hd 11 26 false rfl rfl rfl (by kernel_rfl)) rfl ?_; exact kq hK hS rfl
          · intro _ A0 w2 hI hd hnd K hK; have hS := hI.world; refine wanted_no rfl (hI.yield hd 11 26 false rfl rfl rfl (by kernel_rfl)) rfl ?_; exact kq hK hS rfl
          · intro _ A0 w2 hI hd hnd K hK; have hS := hI.world; refine wanted_no rfl (hI.yield hd 11 26 false rfl rfl rfl (by kernel_rfl)) rfl ?_; exact kq hK hS rfl
          · intro _ A0 w2 hI hd hnd K hK; have hS := hI.world; refine wanted_no rfl (hI.yield hd 11 26 false rfl rfl rfl (by kernel_rfl)) rfl ?_; exact kq hK hS rfl
          · intro _ A0 w2 hI hd hnd K hK; have hS := hI.world; refine wanted_no rfl (hI.yield hd 11 26 false rfl rfl rfl (by kernel_rfl)) rfl ?_; exact kq hK hS rfl
          · intro _ A0 w2 hI hd hnd K hK; have hS := hI.world; refine wanted_no rfl (hI.yield hd 11 26 false rfl rfl rfl (by kernel_rfl)) rfl ?_; exact kq hK hS rfl
          · intro _ A0 w2 hI hd hnd K hK; have hS := hI.world; refine wanted_no rfl (hI.yield hd 11 26 false rfl rfl rfl (by kernel_rfl)) rfl ?_; exact kq hK hS rfl
          · intro _ A0 w2 hI hd hnd K hK; have hS := hI.world; refine wanted_no rfl (hI.yield hd 11 26 false rfl rfl rfl (by kernel_rfl)) rfl ?_; exact kq hK hS rfl
          · intro _ A0 w2 hI hd hnd K hK; have hS := hI.world; refine wanted_no rfl (hI.yield hd 11 26 false rfl rfl rfl (by kernel_rfl)) rfl ?_; exact kq hK hS rfl
          · intro _ A0 w2 hI hd hnd K hK; have hS := hI.world; refine wanted_no rfl (hI.yield hd 11 26 false rfl rfl rfl (by kernel_rfl)) rfl ?_; exact kq hK hS rfl
          · intro _ A0 w2 hI hd hnd K hK; have hS := hI.world; refine wanted_no rfl (hI.yield hd 11 26 false rfl rfl rfl (by kernel_rfl)) rfl ?_; exact kq hK hS rfl
          · intro _ A0 w2 hI hd hnd K hK; have e0 := hI.depv hd 11 26 _ rfl rfl rfl (by kernel_rfl); have e1 := hI.depv hd 23 38 _ rfl rfl rfl (by kernel_rfl); have hS := hI.world; refine wanted_yes rfl (hI.yield hd 8 23 false rfl rfl rfl (by kernel_rfl)) ?_; clear hI hd hnd; go_simp; exact kq hK hS rfl
          · intro _ A0 w2 hI hd hnd K hK; have e0 := hI.depv hd 8 23 _ rfl rfl rfl (by kernel_rfl); have e1 := hI.depv hd 24 39 _ rfl rfl rfl (by kernel_rfl); have hS := hI.world; refine wanted_go rfl ?_; clear hI hd hnd; go_simp; exact kq hK hS rfl
          · intro _ A0 w2 hI hd hnd K hK; have e0 := hI.depv hd 25 40 _ rfl rfl rfl (by kernel_rfl); have hS := hI.world; refine wanted_go rfl ?_; clear hI hd hnd; go_simp; exact kq hK hS rfl
          · intro _ A0 w2 hI hd hnd K hK; have e0 := hI.slot hnd 0 _ rfl (by kernel_rfl); have hS := hI.world; refine wanted_yes rfl (hI.yield hd 26 41 false rfl rfl rfl (by kernel_rfl)) ?_; clear hI hd hnd; go_simp; exact kq hK hS rfl
          · intro _ A0 w2 hI hd hnd K hK; have e0 := hI.slot hnd 0 _ rfl (by kernel_rfl); have hS := hI.world; refine wanted_yes rfl (hI.yield hd 26 41 false rfl rfl rfl (by kernel_rfl)) ?_; clear hI hd hnd; go_simp; exact kq hK hS rfl
          · intro _ A0 w2 hI hd hnd K hK; have e0 := hI.slot hnd 5 _ rfl (by kernel_rfl); have hS := hI.world; refine wanted_yes rfl (hI.yield hd 26 41 false rfl rfl rfl (by kernel_rfl)) ?_; clear hI hd hnd; go_simp; exact kq hK hS rfl
          · intro _ A0 w2 hI hd hnd K hK; have e0 := hI.depv hd 28 43 _ rfl rfl rfl (by kernel_rfl); have e1 := hI.depv hd 29 44 _ rfl rfl rfl (by kernel_rfl); have hS := hI.world; refine wanted_yes rfl (hI.yield hd 26 41 false rfl rfl rfl (by kernel_rfl)) ?_; clear hI hd hnd; go_simp; exact kq hK hS rfl
          · intro _ A0 w2 hI hd hnd K hK; have e0 := hI.depv hd 30 45 _ rfl rfl rfl (by kernel_rfl); have hS := hI.world; refine wanted_yes rfl (hI.yield hd 26 41 false rfl rfl rfl (by kernel_rfl)) ?_; clear hI hd hnd; go_simp; exact kq hK hS rfl
          · intro _ A0 w2 hI hd hnd K hK; have e0 := hI.depv hd 31 46 _ rfl rfl rfl (by kernel_rfl); have hS := hI.world; have hcc : w2.cell? ⟨b, o + k * 4, none⟩ = _ := (hS.cell (p := ⟨b, o + k * 4, none⟩) HBV.out).trans KC.out; refine wanted_yes rfl (hI.yield hd 26 41 false rfl rfl rfl (by kernel_rfl)) ?_; clear hI hd hnd; go_simp; exact kq hK hS rfl
          · intro _ A0 w2 hI hd hnd K hK; have e0 := hI.depv hd 27 42 _ rfl rfl rfl (by kernel_rfl); have e1 := hI.depv hd 32 47 _ rfl rfl rfl (by kernel_rfl); have hS := hI.world; refine wanted_yes rfl (hI.yield hd 26 41 false rfl rfl rfl (by kernel_rfl)) ?_; clear hI hd hnd; go_simp
            go_at_call 177
            refine (rclimb_n l _ c n m w2 HN.out (chart_keep HLV.out hS) HNN.out c1 HAB.out.1 HM.out).mono ?_
            rintro e w3 ⟨v, rfl, h1, h3⟩
            exact hK.out _ _ (hS.trans (h3.mono hS.size)) (Ks.of rfl h1) (Ks.keep h3)
          · intro _ A0 w2 hI hd hnd K hK
            obtain ⟨x0, e0, h0⟩ := hI.dep hd 33 48 rfl rfl rfl (by kernel_rfl)
            have hS := hI.world
            obtain ⟨Ab, cb, rfl⟩ := h0
            refine wanted_yes rfl (hI.yield hd 26 41 false rfl rfl rfl (by kernel_rfl)) ?_; clear hI hd hnd; go_simp; exact kq hK hS rfl
          · intro _ A0 w2 hI hd hnd K hK; have e0 := hI.slot hnd 0 _ rfl (by kernel_rfl); have hS := hI.world; refine wanted_yes rfl (hI.yield hd 26 41 false rfl rfl rfl (by kernel_rfl)) ?_; clear hI hd hnd; go_simp; exact kq hK hS rfl
          · intro _ A0 w2 hI hd hnd K hK; have e0 := hI.depv hd 35 50 _ rfl rfl rfl (by kernel_rfl); have hS := hI.world; refine wanted_yes rfl (hI.yield hd 26 41 false rfl rfl rfl (by kernel_rfl)) ?_; clear hI hd hnd; go_simp; exact kq hK hS rfl
          · intro _ A0 w2 hI hd hnd K hK; have e0 := hI.depv hd 34 49 _ rfl rfl rfl (by kernel_rfl); have e1 := hI.depv hd 36 51 _ rfl rfl rfl (by kernel_rfl); have hS := hI.world; refine wanted_yes rfl (hI.yield hd 26 41 false rfl rfl rfl (by kernel_rfl)) ?_; clear hI hd hnd; go_simp; exact kq hK hS rfl
          · intro _ A0 w2 hI hd hnd K hK; have e0 := hI.depv hd 26 41 _ rfl rfl rfl (by kernel_rfl); have e1 := hI.depv hd 37 52 _ rfl rfl rfl (by kernel_rfl); have hS := hI.world; refine wanted_go rfl ?_; clear hI hd hnd; go_simp; exact kq hK hS rfl
        · intro _ A0 w2 hI hall; obtain ⟨x0, g0, h0⟩ := hI.got 0 _ 15 rfl rfl (hall 0 (by decide)); obtain ⟨x1, g1, h1⟩ := hI.got 1 _ 16 rfl rfl (hall 1 (by decide)); obtain ⟨x2, g2, h2⟩ := hI.got 2 _ 17 rfl rfl (hall 2 (by decide)); obtain ⟨x3, g3, h3⟩ := hI.got 3 _ 18 rfl rfl (hall 3 (by decide)); obtain ⟨x4, g4, h4⟩ := hI.got 4 _ 19 rfl rfl (hall 4 (by decide)); obtain ⟨x5, g5, h5⟩ := hI.got 5 _ 20 rfl rfl (hall 5 (by decide)); obtain ⟨x6, g6, h6⟩ := hI.got 6 _ 21 rfl rfl (hall 6 (by decide)); obtain ⟨x7, g7, h7⟩ := hI.got 7 _ 22 rfl rfl (hall 7 (by decide)); obtain ⟨x8, g8, h8⟩ := hI.got 8 _ 23 rfl rfl (hall 8 (by decide)); obtain ⟨x9, g9, h9⟩ := hI.got 9 _ 24 rfl rfl (hall 9 (by decide)); obtain ⟨x10, g10, h10⟩ := hI.got 10 _ 25 rfl rfl (hall 10 (by decide)); obtain ⟨x11, g11, h11⟩ := hI.got 11 _ 26 rfl rfl (hall 11 (by decide)); obtain ⟨x12, g12, h12⟩ := hI.got 12 _ 27 rfl rfl (hall 12 (by decide)); obtain ⟨x13, g13, h13⟩ := hI.got 13 _ 28 rfl rfl (hall 13 (by decide)); obtain ⟨x14, g14, h14⟩ := hI.got 14 _ 29 rfl rfl (hall 14 (by decide)); obtain ⟨x15, g15, h15⟩ := hI.got 15 _ 30 rfl rfl (hall 15 (by decide)); obtain ⟨x16, g16, h16⟩ := hI.got 16 _ 31 rfl rfl (hall 16 (by decide)); obtain ⟨x17, g17, h17⟩ := hI.got 17 _ 32 rfl rfl (hall 17 (by decide)); obtain ⟨x18, g18, h18⟩ := hI.got 18 _ 33 rfl rfl (hall 18 (by decide)); obtain ⟨x19, g19, h19⟩ := hI.got 19 _ 34 rfl rfl (hall 19 (by decide)); obtain ⟨x20, g20, h20⟩ := hI.got 20 _ 35 rfl rfl (hall 20 (by decide)); obtain ⟨x21, g21, h21⟩ := hI.got 21 _ 36 rfl rfl (hall 21 (by decide)); obtain ⟨x22, g22, h22⟩ := hI.got 22 _ 37 rfl rfl (hall 22 (by decide)); obtain ⟨x23, g23, h23⟩ := hI.got 23 _ 38 rfl rfl (hall 23 (by decide)); obtain ⟨x24, g24, h24⟩ := hI.got 24 _ 39 rfl rfl (hall 24 (by decide)); obtain ⟨x25, g25, h25⟩ := hI.got 25 _ 40 rfl rfl (hall 25 (by decide)); obtain ⟨x26, g26, h26⟩ := hI.got 26 _ 41 rfl rfl (hall 26 (by decide)); obtain ⟨x27, g27, h27⟩ := hI.got 27 _ 42 rfl rfl (hall 27 (by decide)); obtain ⟨x28, g28, h28⟩ := hI.got 28 _ 43 rfl rfl (hall 28 (by decide)); obtain ⟨x29, g29, h29⟩ := hI.got 29 _ 44 rfl rfl (hall 29 (by decide)); obtain ⟨x30, g30, h30⟩ := hI.got 30 _ 45 rfl rfl (hall 30 (by decide)); obtain ⟨x31, g31, h31⟩ := hI.got 31 _ 46 rfl rfl (hall 31 (by decide)); obtain ⟨x32, g32, h32⟩ := hI.got 32 _ 47 rfl rfl (hall 32 (by decide)); obtain ⟨x33, g33, h33⟩ := hI.got 33 _ 48 rfl rfl (hall 33 (by decide)); obtain ⟨x34, g34, h34⟩ := hI.got 34 _ 49 rfl rfl (hall 34 (by decide)); obtain ⟨x35, g35, h35⟩ := hI.got 35 _ 50 rfl rfl (hall 35 (by decide)); obtain ⟨x36, g36, h36⟩ := hI.got 36 _ 51 rfl rfl (hall 36 (by decide)); obtain ⟨x37, g37, h37⟩ := hI.got 37 _ 52 rfl rfl (hall 37 (by decide)); obtain ⟨x38, g38, h38⟩ := hI.got 38 _ 53 rfl rfl (hall 38 (by decide)); have hS := hI.world
          have hA : A0 = _ := hI.tmps [(15, x0), (16, x1), (17, x2), (18, x3), (19, x4), (20, x5), (21, x6), (22, x7), (23, x8), (24, x9), (25, x10), (26, x11), (27, x12), (28, x13), (29, x14), (30, x15), (31, x16), (32, x17), (33, x18), (34, x19), (35, x20), (36, x21), (37, x22), (38, x23), (39, x24), (40, x25), (41, x26), (42, x27), (43, x28), (44, x29), (45, x30), (46, x31), (47, x32), (48, x33), (49, x34), (50, x35), (51, x36), (52, x37), (53, x38)] (by simp only [List.mem_cons, List.not_mem_nil, or_false, forall_eq_or_imp, forall_eq]; exact ⟨g0, g1, g2, g3, g4, g5, g6, g7, g8, g9, g10, g11, g12, g13, g14, g15, g16, g17, g18, g19, g20, g21, g22, g23, g24, g25, g26, g27, g28, g29, g30, g31, g32, g33, g34, g35, g36, g37, g38⟩) (by kernel_rfl)
          obtain rfl : x38 = .bool false := h38 _ rfl
          clear h0 g0 h1 g1 h2 g2 h3 g3 h4 g4 h5 g5 h6 g6 h7 g7 h8 g8 h9 g9 h10 g10 h11 g11 h12 g12 h13 g13 h14 g14 h15 g15 h16 g16 h17 g17 h18 g18 h19 g19 h20 g20 h21 g21 h22 g22 h23 g23 h24 g24 h25 g25 h26 g26 h27 g27 h28 g28 h29 g29 h30 g30 h31 g31 h32 g32 h33 g33 h34 g34 h35 g35 h36 g36 h37 g37 h38 g38 hI hall
          simp only [setAll, List.foldl, List.setIfInBounds_toArray, List.set_cons_zero, List.set_cons_succ] at hA
          rw [hA]
          clear hA
          go_wp2_with fail
          go_roundw
          case rel => exact ⟨k + 1, by omega, by go_num, hb.trans (hS.mono hb.size), fun i hi => by
           rcases Nat.lt_or_ge i k with h | h
           · exact HA.out i h
           · have : i = k := by omega
             subst this
             exact HROW.out⟩
          case measure =>
           have e : wrap64 ((k : Int) + 1) = ((k + 1 : Nat) : Int) := by unfold wrap64; omega
           simp only [intOf, e]
           exact meas_up4 hlt
    · have HKD := Lib.hid (show decide (0 < k) = true from decide_eq_true (by omega))
      obtain ⟨j, hj⟩ : ∃ j, k = j + 1 := ⟨k - 1, by omega⟩
      have hjn : j < n := by omega
      have HJW := Lib.hid (show IntKind.i64.wrap ((k : Int) - 1) = (j : Int) by rw [show (k : Int) - 1 = (j : Int) by omega]; exact wrap_j (by omega))
      obtain ⟨es2, hes2, hat2⟩ := HALL.out j (by omega)
      obtain ⟨hes3, hab2⟩ := AccountC.lit hes2
      clear hab2
      rw [hes3] at hat2
      obtain ⟨pr, hpr⟩ : ∃ pr, l[j]'(by omega) = pr := ⟨_, rfl⟩
      rw [hpr] at hat2
      have HPR := Lib.hid (show l[j]? = some pr by rw [List.getElem?_eq_getElem (by omega), hpr])
      have KP := Lib.hid ((hat2.fr (Fr.ofBelow hb)).c (j := 0) rfl)
      have HJ := Lib.hid hj
      clear hes2 hes3 hat2 hpr hj hk0
      obtain ⟨p1, p2, p3, p4⟩ := pr
      by_cases ho : c1 ≤ p1
      · have hf := Lib.hid (show r = false by rw [← HR.out]; unfold chartR; rw [all_range_false hkl (rowR_o HAC.out HJ.out HPR.out ho), Bool.and_false])
        go_upto_region 6 with fail
        refine wp_region_inv (Ks wr [.val (.slice (some ⟨b, o, none⟩) n c), .val (.slice (some ⟨b, o, none⟩) n c), .val (.int .i64 (k : Int)), .val (.pointer (some ⟨b, o + k * 4, none⟩)), .val (.agg (accL ⟨c1, c2, c3, c4⟩).toArray), .val (.bool g), .val (.bool true), .val (.bool false), .val (.bool false), .val (.int .i64 (k : Int)), .val (.bool true), .val (.bool true), .val (.slice (some ⟨b, o, none⟩) n c), .val (.int .i64 (k : Int)), .val (.pointer (some ⟨b, o + k * 4, none⟩)), .val (.pointer (some ⟨b, o + k * 4, none⟩)), .val (.int .i64 c1), .val (.slice (some ⟨b, o, none⟩) n c), .val (.int .i64 (k : Int)), .val (.int .i64 (j : Int)), .val (.pointer (some ⟨b, o + j * 4, none⟩)), .val (.pointer (some ⟨b, o + j * 4, none⟩)), .val (.int .i64 p1), .val (.bool true), .val (.bool true), .val (.bool true), .val (.bool true), .val (undef), .val (undef), .val (undef), .val (undef), .val (undef), .val (undef), .val (undef), .val (undef), .val (undef), .val (undef), .val (undef), .val (.bool true)])
         (fun w' => Below wr.heap.size wr w') (by kernel_rfl) (by kernel_rfl) (by kernel_rfl) (Below.refl _ _).drew ?_ ?_
        · refine ⟨?_, ?_, ?_, ?_, ?_, ?_, ?_, ?_, ?_, ?_, ?_, ?_, ?_, ?_, ?_, ?_, ?_, ?_, ?_, ?_, ?_, ?_, ?_, ?_, ?_, ?_, ?_, ?_, ?_, ?_, ?_, ?_, ?_, ?_, ?_, ?_, ?_, ?_, ?_, trivial⟩
          · intro _ A0 w2 hI hd hnd K hK; have e0 := hI.slot hnd 0 _ rfl (by kernel_rfl); have hS := hI.world; refine wanted_go rfl ?_; clear hI hd hnd; go_simp; exact kq hK hS rfl
          · intro _ A0 w2 hI hd hnd K hK; have e0 := hI.slot hnd 0 _ rfl (by kernel_rfl); have hS := hI.world; refine wanted_go rfl ?_; clear hI hd hnd; go_simp; exact kq hK hS rfl
          · intro _ A0 w2 hI hd hnd K hK; have e0 := hI.slot hnd 5 _ rfl (by kernel_rfl); have hS := hI.world; refine wanted_go rfl ?_; clear hI hd hnd; go_simp; exact kq hK hS rfl
          · intro _ A0 w2 hI hd hnd K hK; have e0 := hI.depv hd 1 16 _ rfl rfl rfl (by kernel_rfl); have e1 := hI.depv hd 2 17 _ rfl rfl rfl (by kernel_rfl); have hS := hI.world; refine wanted_go rfl ?_; clear hI hd hnd; go_simp; exact kq hK hS rfl
          · intro _ A0 w2 hI hd hnd K hK; have e0 := hI.depv hd 3 18 _ rfl rfl rfl (by kernel_rfl); have hS := hI.world; have hrange : w2.rangeAt b (o + k * 4) (accL ⟨c1, c2, c3, c4⟩) := (HATV.out.fr (Fr.ofBelow hS)).range
            have hisize := info_accL ⟨c1, c2, c3, c4⟩
            refine wanted_go rfl ?_; clear hI hd hnd
            refine wp_load_mid 130 (.tmp 18) rfl _ _ (by simpa [Act.eval, Array.getD_eq_getD_getElem?] using e0) _ _ hrange Tryz.underlying130 rfl hisize ?_
            exact kq hK hS rfl
          · intro _ A0 w2 hI hd hnd K hK; have e0 := hI.slot hnd 1 _ rfl (by kernel_rfl); have hS := hI.world; refine wanted_go rfl ?_; clear hI hd hnd; go_simp; exact kq hK hS rfl
          · intro _ A0 w2 hI hd hnd K hK; have e0 := hI.depv hd 0 15 _ rfl rfl rfl (by kernel_rfl); have e1 := hI.depv hd 4 19 _ rfl rfl rfl (by kernel_rfl); have e2 := hI.depv hd 5 20 _ rfl rfl rfl (by kernel_rfl); have hS := hI.world; refine wanted_go rfl ?_; clear hI hd hnd; go_simp
            go_at_call 176
            refine (rproper_n l _ c n w2 HN.out (chart_keep HLV.out hS) HNN.out ⟨c1, c2, c3, c4⟩ g HAB.out).mono ?_
            rintro e w3 ⟨rfl, h3⟩
            exact hK.out _ _ (hS.trans (h3.mono hS.size)) (Ks.of rfl (congrArg Value.bool HP.out)) (Ks.keep h3)
          · intro _ A0 w2 hI hd hnd K hK; have e0 := hI.depv hd 6 21 _ rfl rfl rfl (by kernel_rfl); have hS := hI.world; refine wanted_go rfl ?_; clear hI hd hnd; go_simp; exact kq hK hS rfl
          · intro _ A0 w2 hI hd hnd K hK; have e0 := hI.depv hd 7 22 _ rfl rfl rfl (by kernel_rfl); have hS := hI.world; refine wanted_go rfl ?_; clear hI hd hnd; go_simp; exact kq hK hS rfl
          · intro _ A0 w2 hI hd hnd K hK; have e0 := hI.slot hnd 5 _ rfl (by kernel_rfl); have hS := hI.world; refine wanted_yes rfl (hI.yield hd 8 23 false rfl rfl rfl (by kernel_rfl)) ?_; clear hI hd hnd; go_simp; exact kq hK hS rfl
          · intro _ A0 w2 hI hd hnd K hK; have e0 := hI.depv hd 9 24 _ rfl rfl rfl (by kernel_rfl); have hS := hI.world; refine wanted_yes rfl (hI.yield hd 8 23 false rfl rfl rfl (by kernel_rfl)) ?_; clear hI hd hnd; go_simp
            exact hK.out _ _ hS (Ks.of rfl (congrArg Value.bool HKD.out)) (fun _ _ h => h)
          · intro _ A0 w2 hI hd hnd K hK; have e0 := hI.depv hd 10 25 _ rfl rfl rfl (by kernel_rfl); have hS := hI.world; refine wanted_yes rfl (hI.yield hd 8 23 false rfl rfl rfl (by kernel_rfl)) ?_; clear hI hd hnd; go_simp; exact kq hK hS rfl
          · intro _ A0 w2 hI hd hnd K hK; have e0 := hI.slot hnd 0 _ rfl (by kernel_rfl); have hS := hI.world; refine wanted_yes rfl (hI.yield hd 11 26 true rfl rfl rfl (by kernel_rfl)) ?_; clear hI hd hnd; go_simp; exact kq hK hS rfl
          · intro _ A0 w2 hI hd hnd K hK; have e0 := hI.slot hnd 5 _ rfl (by kernel_rfl); have hS := hI.world; refine wanted_yes rfl (hI.yield hd 11 26 true rfl rfl rfl (by kernel_rfl)) ?_; clear hI hd hnd; go_simp; exact kq hK hS rfl
          · intro _ A0 w2 hI hd hnd K hK; have e0 := hI.depv hd 12 27 _ rfl rfl rfl (by kernel_rfl); have e1 := hI.depv hd 13 28 _ rfl rfl rfl (by kernel_rfl); have hS := hI.world; refine wanted_yes rfl (hI.yield hd 11 26 true rfl rfl rfl (by kernel_rfl)) ?_; clear hI hd hnd; go_simp; exact kq hK hS rfl
          · intro _ A0 w2 hI hd hnd K hK; have e0 := hI.depv hd 14 29 _ rfl rfl rfl (by kernel_rfl); have hS := hI.world; refine wanted_yes rfl (hI.yield hd 11 26 true rfl rfl rfl (by kernel_rfl)) ?_; clear hI hd hnd; go_simp; exact kq hK hS rfl
          · intro _ A0 w2 hI hd hnd K hK; have e0 := hI.depv hd 15 30 _ rfl rfl rfl (by kernel_rfl); have hS := hI.world; have hcc : w2.cell? ⟨b, o + k * 4, none⟩ = _ := (hS.cell (p := ⟨b, o + k * 4, none⟩) HBV.out).trans KC.out; refine wanted_yes rfl (hI.yield hd 11 26 true rfl rfl rfl (by kernel_rfl)) ?_; clear hI hd hnd; go_simp; exact kq hK hS rfl
          · intro _ A0 w2 hI hd hnd K hK; have e0 := hI.slot hnd 0 _ rfl (by kernel_rfl); have hS := hI.world; refine wanted_yes rfl (hI.yield hd 11 26 true rfl rfl rfl (by kernel_rfl)) ?_; clear hI hd hnd; go_simp; exact kq hK hS rfl
          · intro _ A0 w2 hI hd hnd K hK; have e0 := hI.slot hnd 5 _ rfl (by kernel_rfl); have hS := hI.world; refine wanted_yes rfl (hI.yield hd 11 26 true rfl rfl rfl (by kernel_rfl)) ?_; clear hI hd hnd; go_simp; exact kq hK hS rfl
          · intro _ A0 w2 hI hd hnd K hK; have e0 := hI.depv hd 18 33 _ rfl rfl rfl (by kernel_rfl); have hS := hI.world; refine wanted_yes rfl (hI.yield hd 11 26 true rfl rfl rfl (by kernel_rfl)) ?_; clear hI hd hnd; go_simp
            exact hK.out _ _ hS (Ks.of rfl (congrArg (Value.int .i64) HJW.out)) (fun _ _ h => h)
          · intro _ A0 w2 hI hd hnd K hK; have e0 := hI.depv hd 17 32 _ rfl rfl rfl (by kernel_rfl); have e1 := hI.depv hd 19 34 _ rfl rfl rfl (by kernel_rfl); have hS := hI.world; refine wanted_yes rfl (hI.yield hd 11 26 true rfl rfl rfl (by kernel_rfl)) ?_; clear hI hd hnd; go_simp; exact kq hK hS rfl
          · intro _ A0 w2 hI hd hnd K hK; have e0 := hI.depv hd 20 35 _ rfl rfl rfl (by kernel_rfl); have hS := hI.world; refine wanted_yes rfl (hI.yield hd 11 26 true rfl rfl rfl (by kernel_rfl)) ?_; clear hI hd hnd; go_simp; exact kq hK hS rfl
          · intro _ A0 w2 hI hd hnd K hK; have e0 := hI.depv hd 21 36 _ rfl rfl rfl (by kernel_rfl); have hS := hI.world; have hcc : w2.cell? ⟨b, o + j * 4, none⟩ = _ := (hS.cell (p := ⟨b, o + j * 4, none⟩) HBV.out).trans KP.out; refine wanted_yes rfl (hI.yield hd 11 26 true rfl rfl rfl (by kernel_rfl)) ?_; clear hI hd hnd; go_simp; exact kq hK hS rfl
          · intro _ A0 w2 hI hd hnd K hK; have e0 := hI.depv hd 16 31 _ rfl rfl rfl (by kernel_rfl); have e1 := hI.depv hd 22 37 _ rfl rfl rfl (by kernel_rfl); have hS := hI.world; refine wanted_yes rfl (hI.yield hd 11 26 true rfl rfl rfl (by kernel_rfl)) ?_; clear hI hd hnd; go_simp; exact kq hK hS rfl
          · intro _ A0 w2 hI hd hnd K hK; have e0 := hI.depv hd 11 26 _ rfl rfl rfl (by kernel_rfl); have e1 := hI.depv hd 23 38 _ rfl rfl rfl (by kernel_rfl); have hS := hI.world; refine wanted_yes rfl (hI.yield hd 8 23 false rfl rfl rfl (by kernel_rfl)) ?_; clear hI hd hnd; go_simp; exact kq hK hS rfl
          · intro _ A0 w2 hI hd hnd K hK; have e0 := hI.depv hd 8 23 _ rfl rfl rfl (by kernel_rfl); have e1 := hI.depv hd 24 39 _ rfl rfl rfl (by kernel_rfl); have hS := hI.world; refine wanted_go rfl ?_; clear hI hd hnd; go_simp; exact kq hK hS rfl
          · intro _ A0 w2 hI hd hnd K hK; have e0 := hI.depv hd 25 40 _ rfl rfl rfl (by kernel_rfl); have hS := hI.world; refine wanted_go rfl ?_; clear hI hd hnd; go_simp; exact kq hK hS rfl
          · intro _ A0 w2 hI hd hnd K hK; have hS := hI.world; refine wanted_no rfl (hI.yield hd 26 41 true rfl rfl rfl (by kernel_rfl)) rfl ?_; exact kq hK hS rfl
          · intro _ A0 w2 hI hd hnd K hK; have hS := hI.world; refine wanted_no rfl (hI.yield hd 26 41 true rfl rfl rfl (by kernel_rfl)) rfl ?_; exact kq hK hS rfl
          · intro _ A0 w2 hI hd hnd K hK; have hS := hI.world; refine wanted_no rfl (hI.yield hd 26 41 true rfl rfl rfl (by kernel_rfl)) rfl ?_; exact kq hK hS rfl
          · intro _ A0 w2 hI hd hnd K hK; have hS := hI.world; refine wanted_no rfl (hI.yield hd 26 41 true rfl rfl rfl (by kernel_rfl)) rfl ?_; exact kq hK hS rfl
          · intro _ A0 w2 hI hd hnd K hK; have hS := hI.world; refine wanted_no rfl (hI.yield hd 26 41 true rfl rfl rfl (by kernel_rfl)) rfl ?_; exact kq hK hS rfl
          · intro _ A0 w2 hI hd hnd K hK; have hS := hI.world; refine wanted_no rfl (hI.yield hd 26 41 true rfl rfl rfl (by kernel_rfl)) rfl ?_; exact kq hK hS rfl
          · intro _ A0 w2 hI hd hnd K hK; have hS := hI.world; refine wanted_no rfl (hI.yield hd 26 41 true rfl rfl rfl (by kernel_rfl)) rfl ?_; exact kq hK hS rfl
          · intro _ A0 w2 hI hd hnd K hK; have hS := hI.world; refine wanted_no rfl (hI.yield hd 26 41 true rfl rfl rfl (by kernel_rfl)) rfl ?_; exact kq hK hS rfl
          · intro _ A0 w2 hI hd hnd K hK; have hS := hI.world; refine wanted_no rfl (hI.yield hd 26 41 true rfl rfl rfl (by kernel_rfl)) rfl ?_; exact kq hK hS rfl
          · intro _ A0 w2 hI hd hnd K hK; have hS := hI.world; refine wanted_no rfl (hI.yield hd 26 41 true rfl rfl rfl (by kernel_rfl)) rfl ?_; exact kq hK hS rfl
          · intro _ A0 w2 hI hd hnd K hK; have hS := hI.world; refine wanted_no rfl (hI.yield hd 26 41 true rfl rfl rfl (by kernel_rfl)) rfl ?_; exact kq hK hS rfl
          · intro _ A0 w2 hI hd hnd K hK; have e0 := hI.depv hd 26 41 _ rfl rfl rfl (by kernel_rfl); have e1 := hI.depv hd 37 52 _ rfl rfl rfl (by kernel_rfl); have hS := hI.world; refine wanted_go rfl ?_; clear hI hd hnd; go_simp; exact kq hK hS rfl
        · intro _ A0 w2 hI hall; obtain ⟨x0, g0, h0⟩ := hI.got 0 _ 15 rfl rfl (hall 0 (by decide)); obtain ⟨x1, g1, h1⟩ := hI.got 1 _ 16 rfl rfl (hall 1 (by decide)); obtain ⟨x2, g2, h2⟩ := hI.got 2 _ 17 rfl rfl (hall 2 (by decide)); obtain ⟨x3, g3, h3⟩ := hI.got 3 _ 18 rfl rfl (hall 3 (by decide)); obtain ⟨x4, g4, h4⟩ := hI.got 4 _ 19 rfl rfl (hall 4 (by decide)); obtain ⟨x5, g5, h5⟩ := hI.got 5 _ 20 rfl rfl (hall 5 (by decide)); obtain ⟨x6, g6, h6⟩ := hI.got 6 _ 21 rfl rfl (hall 6 (by decide)); obtain ⟨x7, g7, h7⟩ := hI.got 7 _ 22 rfl rfl (hall 7 (by decide)); obtain ⟨x8, g8, h8⟩ := hI.got 8 _ 23 rfl rfl (hall 8 (by decide)); obtain ⟨x9, g9, h9⟩ := hI.got 9 _ 24 rfl rfl (hall 9 (by decide)); obtain ⟨x10, g10, h10⟩ := hI.got 10 _ 25 rfl rfl (hall 10 (by decide)); obtain ⟨x11, g11, h11⟩ := hI.got 11 _ 26 rfl rfl (hall 11 (by decide)); obtain ⟨x12, g12, h12⟩ := hI.got 12 _ 27 rfl rfl (hall 12 (by decide)); obtain ⟨x13, g13, h13⟩ := hI.got 13 _ 28 rfl rfl (hall 13 (by decide)); obtain ⟨x14, g14, h14⟩ := hI.got 14 _ 29 rfl rfl (hall 14 (by decide)); obtain ⟨x15, g15, h15⟩ := hI.got 15 _ 30 rfl rfl (hall 15 (by decide)); obtain ⟨x16, g16, h16⟩ := hI.got 16 _ 31 rfl rfl (hall 16 (by decide)); obtain ⟨x17, g17, h17⟩ := hI.got 17 _ 32 rfl rfl (hall 17 (by decide)); obtain ⟨x18, g18, h18⟩ := hI.got 18 _ 33 rfl rfl (hall 18 (by decide)); obtain ⟨x19, g19, h19⟩ := hI.got 19 _ 34 rfl rfl (hall 19 (by decide)); obtain ⟨x20, g20, h20⟩ := hI.got 20 _ 35 rfl rfl (hall 20 (by decide)); obtain ⟨x21, g21, h21⟩ := hI.got 21 _ 36 rfl rfl (hall 21 (by decide)); obtain ⟨x22, g22, h22⟩ := hI.got 22 _ 37 rfl rfl (hall 22 (by decide)); obtain ⟨x23, g23, h23⟩ := hI.got 23 _ 38 rfl rfl (hall 23 (by decide)); obtain ⟨x24, g24, h24⟩ := hI.got 24 _ 39 rfl rfl (hall 24 (by decide)); obtain ⟨x25, g25, h25⟩ := hI.got 25 _ 40 rfl rfl (hall 25 (by decide)); obtain ⟨x26, g26, h26⟩ := hI.got 26 _ 41 rfl rfl (hall 26 (by decide)); obtain ⟨x27, g27, h27⟩ := hI.got 27 _ 42 rfl rfl (hall 27 (by decide)); obtain ⟨x28, g28, h28⟩ := hI.got 28 _ 43 rfl rfl (hall 28 (by decide)); obtain ⟨x29, g29, h29⟩ := hI.got 29 _ 44 rfl rfl (hall 29 (by decide)); obtain ⟨x30, g30, h30⟩ := hI.got 30 _ 45 rfl rfl (hall 30 (by decide)); obtain ⟨x31, g31, h31⟩ := hI.got 31 _ 46 rfl rfl (hall 31 (by decide)); obtain ⟨x32, g32, h32⟩ := hI.got 32 _ 47 rfl rfl (hall 32 (by decide)); obtain ⟨x33, g33, h33⟩ := hI.got 33 _ 48 rfl rfl (hall 33 (by decide)); obtain ⟨x34, g34, h34⟩ := hI.got 34 _ 49 rfl rfl (hall 34 (by decide)); obtain ⟨x35, g35, h35⟩ := hI.got 35 _ 50 rfl rfl (hall 35 (by decide)); obtain ⟨x36, g36, h36⟩ := hI.got 36 _ 51 rfl rfl (hall 36 (by decide)); obtain ⟨x37, g37, h37⟩ := hI.got 37 _ 52 rfl rfl (hall 37 (by decide)); obtain ⟨x38, g38, h38⟩ := hI.got 38 _ 53 rfl rfl (hall 38 (by decide)); have hS := hI.world
          have hA : A0 = _ := hI.tmps [(15, x0), (16, x1), (17, x2), (18, x3), (19, x4), (20, x5), (21, x6), (22, x7), (23, x8), (24, x9), (25, x10), (26, x11), (27, x12), (28, x13), (29, x14), (30, x15), (31, x16), (32, x17), (33, x18), (34, x19), (35, x20), (36, x21), (37, x22), (38, x23), (39, x24), (40, x25), (41, x26), (42, x27), (43, x28), (44, x29), (45, x30), (46, x31), (47, x32), (48, x33), (49, x34), (50, x35), (51, x36), (52, x37), (53, x38)] (by simp only [List.mem_cons, List.not_mem_nil, or_false, forall_eq_or_imp, forall_eq]; exact ⟨g0, g1, g2, g3, g4, g5, g6, g7, g8, g9, g10, g11, g12, g13, g14, g15, g16, g17, g18, g19, g20, g21, g22, g23, g24, g25, g26, g27, g28, g29, g30, g31, g32, g33, g34, g35, g36, g37, g38⟩) (by kernel_rfl)
          obtain rfl : x38 = .bool true := h38 _ rfl
          clear h0 g0 h1 g1 h2 g2 h3 g3 h4 g4 h5 g5 h6 g6 h7 g7 h8 g8 h9 g9 h10 g10 h11 g11 h12 g12 h13 g13 h14 g14 h15 g15 h16 g16 h17 g17 h18 g18 h19 g19 h20 g20 h21 g21 h22 g22 h23 g23 h24 g24 h25 g25 h26 g26 h27 g27 h28 g28 h29 g29 h30 g30 h31 g31 h32 g32 h33 g33 h34 g34 h35 g35 h36 g36 h37 g37 h38 g38 hI hall
          simp only [setAll, List.foldl, List.setIfInBounds_toArray, List.set_cons_zero, List.set_cons_succ] at hA
          rw [hA]
          clear hA
          go_wp2_with fail
          go_ret
          exact ⟨by rw [hf.out]; first | done | rfl, hb.trans (hS.mono hb.size)⟩
      · have HO := Lib.hid ho
        rcases Nat.lt_or_ge n m with hmn | hmn
        · have hmI : (n : Int) < (m : Int) := by omega
          have hf := Lib.hid (show r = false by rw [← HR.out]; unfold chartR; rw [all_range_false hkl (by rw [rowR_l1 HAC.out HJ.out HPR.out HO.out HP.out, HM.out]; exact decide_eq_false (by have := HN.out; omega)), Bool.and_false])
          go_upto_region 6 with fail
          refine wp_region_inv (Ks wr [.val (.slice (some ⟨b, o, none⟩) n c), .val (.slice (some ⟨b, o, none⟩) n c), .val (.int .i64 (k : Int)), .val (.pointer (some ⟨b, o + k * 4, none⟩)), .val (.agg (accL ⟨c1, c2, c3, c4⟩).toArray), .val (.bool g), .val (.bool true), .val (.bool false), .val (.bool false), .val (.int .i64 (k : Int)), .val (.bool true), .val (.bool true), .val (.slice (some ⟨b, o, none⟩) n c), .val (.int .i64 (k : Int)), .val (.pointer (some ⟨b, o + k * 4, none⟩)), .val (.pointer (some ⟨b, o + k * 4, none⟩)), .val (.int .i64 c1), .val (.slice (some ⟨b, o, none⟩) n c), .val (.int .i64 (k : Int)), .val (.int .i64 (j : Int)), .val (.pointer (some ⟨b, o + j * 4, none⟩)), .val (.pointer (some ⟨b, o + j * 4, none⟩)), .val (.int .i64 p1), .val (.bool false), .val (.bool false), .val (.bool false), .val (.bool false), .val (.slice (some ⟨b, o, none⟩) n c), .val (.slice (some ⟨b, o, none⟩) n c), .val (.int .i64 (k : Int)), .val (.pointer (some ⟨b, o + k * 4, none⟩)), .val (.pointer (some ⟨b, o + k * 4, none⟩)), .val (.int .i64 c1), .own (IsLen m) (IsLen.keep m), .val (.int .i64 (m : Int)), .val (.slice (some ⟨b, o, none⟩) n c), .val (.int .i64 (n : Int)), .val (.bool true), .val (.bool true)])
           (fun w' => Below wr.heap.size wr w') (by kernel_rfl) (by kernel_rfl) (by kernel_rfl) (Below.refl _ _).drew ?_ ?_
          · refine ⟨?_, ?_, ?_, ?_, ?_, ?_, ?_, ?_, ?_, ?_, ?_, ?_, ?_, ?_, ?_, ?_, ?_, ?_, ?_, ?_, ?_, ?_, ?_, ?_, ?_, ?_, ?_, ?_, ?_, ?_, ?_, ?_, ?_, ?_, ?_, ?_, ?_, ?_, ?_, trivial⟩
            · intro _ A0 w2 hI hd hnd K hK; have e0 := hI.slot hnd 0 _ rfl (by kernel_rfl); have hS := hI.world; refine wanted_go rfl ?_; clear hI hd hnd; go_simp; exact kq hK hS rfl
            · intro _ A0 w2 hI hd hnd K hK; have e0 := hI.slot hnd 0 _ rfl (by kernel_rfl); have hS := hI.world; refine wanted_go rfl ?_; clear hI hd hnd; go_simp; exact kq hK hS rfl
            · intro _ A0 w2 hI hd hnd K hK; have e0 := hI.slot hnd 5 _ rfl (by kernel_rfl); have hS := hI.world; refine wanted_go rfl ?_; clear hI hd hnd; go_simp; exact kq hK hS rfl
            · intro _ A0 w2 hI hd hnd K hK; have e0 := hI.depv hd 1 16 _ rfl rfl rfl (by kernel_rfl); have e1 := hI.depv hd 2 17 _ rfl rfl rfl (by kernel_rfl); have hS := hI.world; refine wanted_go rfl ?_; clear hI hd hnd; go_simp; exact kq hK hS rfl
            · intro _ A0 w2 hI hd hnd K hK; have e0 := hI.depv hd 3 18 _ rfl rfl rfl (by kernel_rfl); have hS := hI.world; have hrange : w2.rangeAt b (o + k * 4) (accL ⟨c1, c2, c3, c4⟩) := (HATV.out.fr (Fr.ofBelow hS)).range
              have hisize := info_accL ⟨c1, c2, c3, c4⟩
              refine wanted_go rfl ?_; clear hI hd hnd
              refine wp_load_mid 130 (.tmp 18) rfl _ _ (by simpa [Act.eval, Array.getD_eq_getD_getElem?] using e0) _ _ hrange Tryz.underlying130 rfl hisize ?_
              exact kq hK hS rfl
            · intro _ A0 w2 hI hd hnd K hK; have e0 := hI.slot hnd 1 _ rfl (by kernel_rfl); have hS := hI.world; refine wanted_go rfl ?_; clear hI hd hnd; go_simp; exact kq hK hS rfl
            · intro _ A0 w2 hI hd hnd K hK; have e0 := hI.depv hd 0 15 _ rfl rfl rfl (by kernel_rfl); have e1 := hI.depv hd 4 19 _ rfl rfl rfl (by kernel_rfl); have e2 := hI.depv hd 5 20 _ rfl rfl rfl (by kernel_rfl); have hS := hI.world; refine wanted_go rfl ?_; clear hI hd hnd; go_simp
              go_at_call 176
              refine (rproper_n l _ c n w2 HN.out (chart_keep HLV.out hS) HNN.out ⟨c1, c2, c3, c4⟩ g HAB.out).mono ?_
              rintro e w3 ⟨rfl, h3⟩
              exact hK.out _ _ (hS.trans (h3.mono hS.size)) (Ks.of rfl (congrArg Value.bool HP.out)) (Ks.keep h3)
            · intro _ A0 w2 hI hd hnd K hK; have e0 := hI.depv hd 6 21 _ rfl rfl rfl (by kernel_rfl); have hS := hI.world; refine wanted_go rfl ?_; clear hI hd hnd; go_simp; exact kq hK hS rfl
            · intro _ A0 w2 hI hd hnd K hK; have e0 := hI.depv hd 7 22 _ rfl rfl rfl (by kernel_rfl); have hS := hI.world; refine wanted_go rfl ?_; clear hI hd hnd; go_simp; exact kq hK hS rfl
            · intro _ A0 w2 hI hd hnd K hK; have e0 := hI.slot hnd 5 _ rfl (by kernel_rfl); have hS := hI.world; refine wanted_yes rfl (hI.yield hd 8 23 false rfl rfl rfl (by kernel_rfl)) ?_; clear hI hd hnd; go_simp; exact kq hK hS rfl
            · intro _ A0 w2 hI hd hnd K hK; have e0 := hI.depv hd 9 24 _ rfl rfl rfl (by kernel_rfl); have hS := hI.world; refine wanted_yes rfl (hI.yield hd 8 23 false rfl rfl rfl (by kernel_rfl)) ?_; clear hI hd hnd; go_simp
              exact hK.out _ _ hS (Ks.of rfl (congrArg Value.bool HKD.out)) (fun _ _ h => h)
            · intro _ A0 w2 hI hd hnd K hK; have e0 := hI.depv hd 10 25 _ rfl rfl rfl (by kernel_rfl); have hS := hI.world; refine wanted_yes rfl (hI.yield hd 8 23 false rfl rfl rfl (by kernel_rfl)) ?_; clear hI hd hnd; go_simp; exact kq hK hS rfl
            · intro _ A0 w2 hI hd hnd K hK; have e0 := hI.slot hnd 0 _ rfl (by kernel_rfl); have hS := hI.world; refine wanted_yes rfl (hI.yield hd 11 26 true rfl rfl rfl (by kernel_rfl)) ?_; clear hI hd hnd; go_simp; exact kq hK hS rfl
            · intro _ A0 w2 hI hd hnd K hK; have e0 := hI.slot hnd 5 _ rfl (by kernel_rfl); have hS := hI.world; refine wanted_yes rfl (hI.yield hd 11 26 true rfl rfl rfl (by kernel_rfl)) ?_; clear hI hd hnd; go_simp; exact kq hK hS rfl
            · intro _ A0 w2 hI hd hnd K hK; have e0 := hI.depv hd 12 27 _ rfl rfl rfl (by kernel_rfl); have e1 := hI.depv hd 13 28 _ rfl rfl rfl (by kernel_rfl); have hS := hI.world; refine wanted_yes rfl (hI.yield hd 11 26 true rfl rfl rfl (by kernel_rfl)) ?_; clear hI hd hnd; go_simp; exact kq hK hS rfl
            · intro _ A0 w2 hI hd hnd K hK; have e0 := hI.depv hd 14 29 _ rfl rfl rfl (by kernel_rfl); have hS := hI.world; refine wanted_yes rfl (hI.yield hd 11 26 true rfl rfl rfl (by kernel_rfl)) ?_; clear hI hd hnd; go_simp; exact kq hK hS rfl
            · intro _ A0 w2 hI hd hnd K hK; have e0 := hI.depv hd 15 30 _ rfl rfl rfl (by kernel_rfl); have hS := hI.world; have hcc : w2.cell? ⟨b, o + k * 4, none⟩ = _ := (hS.cell (p := ⟨b, o + k * 4, none⟩) HBV.out).trans KC.out; refine wanted_yes rfl (hI.yield hd 11 26 true rfl rfl rfl (by kernel_rfl)) ?_; clear hI hd hnd; go_simp; exact kq hK hS rfl
            · intro _ A0 w2 hI hd hnd K hK; have e0 := hI.slot hnd 0 _ rfl (by kernel_rfl); have hS := hI.world; refine wanted_yes rfl (hI.yield hd 11 26 true rfl rfl rfl (by kernel_rfl)) ?_; clear hI hd hnd; go_simp; exact kq hK hS rfl
            · intro _ A0 w2 hI hd hnd K hK; have e0 := hI.slot hnd 5 _ rfl (by kernel_rfl); have hS := hI.world; refine wanted_yes rfl (hI.yield hd 11 26 true rfl rfl rfl (by kernel_rfl)) ?_; clear hI hd hnd; go_simp; exact kq hK hS rfl
            · intro _ A0 w2 hI hd hnd K hK; have e0 := hI.depv hd 18 33 _ rfl rfl rfl (by kernel_rfl); have hS := hI.world; refine wanted_yes rfl (hI.yield hd 11 26 true rfl rfl rfl (by kernel_rfl)) ?_; clear hI hd hnd; go_simp
              exact hK.out _ _ hS (Ks.of rfl (congrArg (Value.int .i64) HJW.out)) (fun _ _ h => h)
            · intro _ A0 w2 hI hd hnd K hK; have e0 := hI.depv hd 17 32 _ rfl rfl rfl (by kernel_rfl); have e1 := hI.depv hd 19 34 _ rfl rfl rfl (by kernel_rfl); have hS := hI.world; refine wanted_yes rfl (hI.yield hd 11 26 true rfl rfl rfl (by kernel_rfl)) ?_; clear hI hd hnd; go_simp; exact kq hK hS rfl
            · intro _ A0 w2 hI hd hnd K hK; have e0 := hI.depv hd 20 35 _ rfl rfl rfl (by kernel_rfl); have hS := hI.world; refine wanted_yes rfl (hI.yield hd 11 26 true rfl rfl rfl (by kernel_rfl)) ?_; clear hI hd hnd; go_simp; exact kq hK hS rfl
            · intro _ A0 w2 hI hd hnd K hK; have e0 := hI.depv hd 21 36 _ rfl rfl rfl (by kernel_rfl); have hS := hI.world; have hcc : w2.cell? ⟨b, o + j * 4, none⟩ = _ := (hS.cell (p := ⟨b, o + j * 4, none⟩) HBV.out).trans KP.out; refine wanted_yes rfl (hI.yield hd 11 26 true rfl rfl rfl (by kernel_rfl)) ?_; clear hI hd hnd; go_simp; exact kq hK hS rfl
            · intro _ A0 w2 hI hd hnd K hK; have e0 := hI.depv hd 16 31 _ rfl rfl rfl (by kernel_rfl); have e1 := hI.depv hd 22 37 _ rfl rfl rfl (by kernel_rfl); have hS := hI.world; refine wanted_yes rfl (hI.yield hd 11 26 true rfl rfl rfl (by kernel_rfl)) ?_; clear hI hd hnd; go_simp; exact kq hK hS rfl
            · intro _ A0 w2 hI hd hnd K hK; have e0 := hI.depv hd 11 26 _ rfl rfl rfl (by kernel_rfl); have e1 := hI.depv hd 23 38 _ rfl rfl rfl (by kernel_rfl); have hS := hI.world; refine wanted_yes rfl (hI.yield hd 8 23 false rfl rfl rfl (by kernel_rfl)) ?_; clear hI hd hnd; go_simp; exact kq hK hS rfl
            · intro _ A0 w2 hI hd hnd K hK; have e0 := hI.depv hd 8 23 _ rfl rfl rfl (by kernel_rfl); have e1 := hI.depv hd 24 39 _ rfl rfl rfl (by kernel_rfl); have hS := hI.world; refine wanted_go rfl ?_; clear hI hd hnd; go_simp; exact kq hK hS rfl
            · intro _ A0 w2 hI hd hnd K hK; have e0 := hI.depv hd 25 40 _ rfl rfl rfl (by kernel_rfl); have hS := hI.world; refine wanted_go rfl ?_; clear hI hd hnd; go_simp; exact kq hK hS rfl
            · intro _ A0 w2 hI hd hnd K hK; have e0 := hI.slot hnd 0 _ rfl (by kernel_rfl); have hS := hI.world; refine wanted_yes rfl (hI.yield hd 26 41 false rfl rfl rfl (by kernel_rfl)) ?_; clear hI hd hnd; go_simp; exact kq hK hS rfl
            · intro _ A0 w2 hI hd hnd K hK; have e0 := hI.slot hnd 0 _ rfl (by kernel_rfl); have hS := hI.world; refine wanted_yes rfl (hI.yield hd 26 41 false rfl rfl rfl (by kernel_rfl)) ?_; clear hI hd hnd; go_simp; exact kq hK hS rfl
            · intro _ A0 w2 hI hd hnd K hK; have e0 := hI.slot hnd 5 _ rfl (by kernel_rfl); have hS := hI.world; refine wanted_yes rfl (hI.yield hd 26 41 false rfl rfl rfl (by kernel_rfl)) ?_; clear hI hd hnd; go_simp; exact kq hK hS rfl
            · intro _ A0 w2 hI hd hnd K hK; have e0 := hI.depv hd 28 43 _ rfl rfl rfl (by kernel_rfl); have e1 := hI.depv hd 29 44 _ rfl rfl rfl (by kernel_rfl); have hS := hI.world; refine wanted_yes rfl (hI.yield hd 26 41 false rfl rfl rfl (by kernel_rfl)) ?_; clear hI hd hnd; go_simp; exact kq hK hS rfl
            · intro _ A0 w2 hI hd hnd K hK; have e0 := hI.depv hd 30 45 _ rfl rfl rfl (by kernel_rfl); have hS := hI.world; refine wanted_yes rfl (hI.yield hd 26 41 false rfl rfl rfl (by kernel_rfl)) ?_; clear hI hd hnd; go_simp; exact kq hK hS rfl
            · intro _ A0 w2 hI hd hnd K hK; have e0 := hI.depv hd 31 46 _ rfl rfl rfl (by kernel_rfl); have hS := hI.world; have hcc : w2.cell? ⟨b, o + k * 4, none⟩ = _ := (hS.cell (p := ⟨b, o + k * 4, none⟩) HBV.out).trans KC.out; refine wanted_yes rfl (hI.yield hd 26 41 false rfl rfl rfl (by kernel_rfl)) ?_; clear hI hd hnd; go_simp; exact kq hK hS rfl
            · intro _ A0 w2 hI hd hnd K hK; have e0 := hI.depv hd 27 42 _ rfl rfl rfl (by kernel_rfl); have e1 := hI.depv hd 32 47 _ rfl rfl rfl (by kernel_rfl); have hS := hI.world; refine wanted_yes rfl (hI.yield hd 26 41 false rfl rfl rfl (by kernel_rfl)) ?_; clear hI hd hnd; go_simp
              go_at_call 177
              refine (rclimb_n l _ c n m w2 HN.out (chart_keep HLV.out hS) HNN.out c1 HAB.out.1 HM.out).mono ?_
              rintro e w3 ⟨v, rfl, h1, h3⟩
              exact hK.out _ _ (hS.trans (h3.mono hS.size)) (Ks.of rfl h1) (Ks.keep h3)
            · intro _ A0 w2 hI hd hnd K hK
              obtain ⟨x0, e0, h0⟩ := hI.dep hd 33 48 rfl rfl rfl (by kernel_rfl)
              have hS := hI.world
              obtain ⟨Ab, cb, rfl⟩ := h0
              refine wanted_yes rfl (hI.yield hd 26 41 false rfl rfl rfl (by kernel_rfl)) ?_; clear hI hd hnd; go_simp; exact kq hK hS rfl
            · intro _ A0 w2 hI hd hnd K hK; have e0 := hI.slot hnd 0 _ rfl (by kernel_rfl); have hS := hI.world; refine wanted_yes rfl (hI.yield hd 26 41 false rfl rfl rfl (by kernel_rfl)) ?_; clear hI hd hnd; go_simp; exact kq hK hS rfl
            · intro _ A0 w2 hI hd hnd K hK; have e0 := hI.depv hd 35 50 _ rfl rfl rfl (by kernel_rfl); have hS := hI.world; refine wanted_yes rfl (hI.yield hd 26 41 false rfl rfl rfl (by kernel_rfl)) ?_; clear hI hd hnd; go_simp; exact kq hK hS rfl
            · intro _ A0 w2 hI hd hnd K hK; have e0 := hI.depv hd 34 49 _ rfl rfl rfl (by kernel_rfl); have e1 := hI.depv hd 36 51 _ rfl rfl rfl (by kernel_rfl); have hS := hI.world; refine wanted_yes rfl (hI.yield hd 26 41 false rfl rfl rfl (by kernel_rfl)) ?_; clear hI hd hnd; go_simp; exact kq hK hS rfl
            · intro _ A0 w2 hI hd hnd K hK; have e0 := hI.depv hd 26 41 _ rfl rfl rfl (by kernel_rfl); have e1 := hI.depv hd 37 52 _ rfl rfl rfl (by kernel_rfl); have hS := hI.world; refine wanted_go rfl ?_; clear hI hd hnd; go_simp; exact kq hK hS rfl
          · intro _ A0 w2 hI hall; obtain ⟨x0, g0, h0⟩ := hI.got 0 _ 15 rfl rfl (hall 0 (by decide)); obtain ⟨x1, g1, h1⟩ := hI.got 1 _ 16 rfl rfl (hall 1 (by decide)); obtain ⟨x2, g2, h2⟩ := hI.got 2 _ 17 rfl rfl (hall 2 (by decide)); obtain ⟨x3, g3, h3⟩ := hI.got 3 _ 18 rfl rfl (hall 3 (by decide)); obtain ⟨x4, g4, h4⟩ := hI.got 4 _ 19 rfl rfl (hall 4 (by decide)); obtain ⟨x5, g5, h5⟩ := hI.got 5 _ 20 rfl rfl (hall 5 (by decide)); obtain ⟨x6, g6, h6⟩ := hI.got 6 _ 21 rfl rfl (hall 6 (by decide)); obtain ⟨x7, g7, h7⟩ := hI.got 7 _ 22 rfl rfl (hall 7 (by decide)); obtain ⟨x8, g8, h8⟩ := hI.got 8 _ 23 rfl rfl (hall 8 (by decide)); obtain ⟨x9, g9, h9⟩ := hI.got 9 _ 24 rfl rfl (hall 9 (by decide)); obtain ⟨x10, g10, h10⟩ := hI.got 10 _ 25 rfl rfl (hall 10 (by decide)); obtain ⟨x11, g11, h11⟩ := hI.got 11 _ 26 rfl rfl (hall 11 (by decide)); obtain ⟨x12, g12, h12⟩ := hI.got 12 _ 27 rfl rfl (hall 12 (by decide)); obtain ⟨x13, g13, h13⟩ := hI.got 13 _ 28 rfl rfl (hall 13 (by decide)); obtain ⟨x14, g14, h14⟩ := hI.got 14 _ 29 rfl rfl (hall 14 (by decide)); obtain ⟨x15, g15, h15⟩ := hI.got 15 _ 30 rfl rfl (hall 15 (by decide)); obtain ⟨x16, g16, h16⟩ := hI.got 16 _ 31 rfl rfl (hall 16 (by decide)); obtain ⟨x17, g17, h17⟩ := hI.got 17 _ 32 rfl rfl (hall 17 (by decide)); obtain ⟨x18, g18, h18⟩ := hI.got 18 _ 33 rfl rfl (hall 18 (by decide)); obtain ⟨x19, g19, h19⟩ := hI.got 19 _ 34 rfl rfl (hall 19 (by decide)); obtain ⟨x20, g20, h20⟩ := hI.got 20 _ 35 rfl rfl (hall 20 (by decide)); obtain ⟨x21, g21, h21⟩ := hI.got 21 _ 36 rfl rfl (hall 21 (by decide)); obtain ⟨x22, g22, h22⟩ := hI.got 22 _ 37 rfl rfl (hall 22 (by decide)); obtain ⟨x23, g23, h23⟩ := hI.got 23 _ 38 rfl rfl (hall 23 (by decide)); obtain ⟨x24, g24, h24⟩ := hI.got 24 _ 39 rfl rfl (hall 24 (by decide)); obtain ⟨x25, g25, h25⟩ := hI.got 25 _ 40 rfl rfl (hall 25 (by decide)); obtain ⟨x26, g26, h26⟩ := hI.got 26 _ 41 rfl rfl (hall 26 (by decide)); obtain ⟨x27, g27, h27⟩ := hI.got 27 _ 42 rfl rfl (hall 27 (by decide)); obtain ⟨x28, g28, h28⟩ := hI.got 28 _ 43 rfl rfl (hall 28 (by decide)); obtain ⟨x29, g29, h29⟩ := hI.got 29 _ 44 rfl rfl (hall 29 (by decide)); obtain ⟨x30, g30, h30⟩ := hI.got 30 _ 45 rfl rfl (hall 30 (by decide)); obtain ⟨x31, g31, h31⟩ := hI.got 31 _ 46 rfl rfl (hall 31 (by decide)); obtain ⟨x32, g32, h32⟩ := hI.got 32 _ 47 rfl rfl (hall 32 (by decide)); obtain ⟨x33, g33, h33⟩ := hI.got 33 _ 48 rfl rfl (hall 33 (by decide)); obtain ⟨x34, g34, h34⟩ := hI.got 34 _ 49 rfl rfl (hall 34 (by decide)); obtain ⟨x35, g35, h35⟩ := hI.got 35 _ 50 rfl rfl (hall 35 (by decide)); obtain ⟨x36, g36, h36⟩ := hI.got 36 _ 51 rfl rfl (hall 36 (by decide)); obtain ⟨x37, g37, h37⟩ := hI.got 37 _ 52 rfl rfl (hall 37 (by decide)); obtain ⟨x38, g38, h38⟩ := hI.got 38 _ 53 rfl rfl (hall 38 (by decide)); have hS := hI.world
            have hA : A0 = _ := hI.tmps [(15, x0), (16, x1), (17, x2), (18, x3), (19, x4), (20, x5), (21, x6), (22, x7), (23, x8), (24, x9), (25, x10), (26, x11), (27, x12), (28, x13), (29, x14), (30, x15), (31, x16), (32, x17), (33, x18), (34, x19), (35, x20), (36, x21), (37, x22), (38, x23), (39, x24), (40, x25), (41, x26), (42, x27), (43, x28), (44, x29), (45, x30), (46, x31), (47, x32), (48, x33), (49, x34), (50, x35), (51, x36), (52, x37), (53, x38)] (by simp only [List.mem_cons, List.not_mem_nil, or_false, forall_eq_or_imp, forall_eq]; exact ⟨g0, g1, g2, g3, g4, g5, g6, g7, g8, g9, g10, g11, g12, g13, g14, g15, g16, g17, g18, g19, g20, g21, g22, g23, g24, g25, g26, g27, g28, g29, g30, g31, g32, g33, g34, g35, g36, g37, g38⟩) (by kernel_rfl)
            obtain rfl : x38 = .bool true := h38 _ rfl
            clear h0 g0 h1 g1 h2 g2 h3 g3 h4 g4 h5 g5 h6 g6 h7 g7 h8 g8 h9 g9 h10 g10 h11 g11 h12 g12 h13 g13 h14 g14 h15 g15 h16 g16 h17 g17 h18 g18 h19 g19 h20 g20 h21 g21 h22 g22 h23 g23 h24 g24 h25 g25 h26 g26 h27 g27 h28 g28 h29 g29 h30 g30 h31 g31 h32 g32 h33 g33 h34 g34 h35 g35 h36 g36 h37 g37 h38 g38 hI hall
            simp only [setAll, List.foldl, List.setIfInBounds_toArray, List.set_cons_zero, List.set_cons_succ] at hA
            rw [hA]
            clear hA
            go_wp2_with fail
            go_ret
            exact ⟨by rw [hf.out]; first | done | rfl, hb.trans (hS.mono hb.size)⟩
        · have hmI : ¬ (n : Int) < (m : Int) := by omega
          have HROW := Lib.hid (show rowR l g k = true by rw [rowR_l1 HAC.out HJ.out HPR.out HO.out HP.out, HM.out]; exact decide_eq_true (by have := HN.out; omega))
          go_upto_region 6 with fail
          refine wp_region_inv (Ks wr [.val (.slice (some ⟨b, o, none⟩) n c), .val (.slice (some ⟨b, o, none⟩) n c), .val (.int .i64 (k : Int)), .val (.pointer (some ⟨b, o + k * 4, none⟩)), .val (.agg (accL ⟨c1, c2, c3, c4⟩).toArray), .val (.bool g), .val (.bool true), .val (.bool false), .val (.bool false), .val (.int .i64 (k : Int)), .val (.bool true), .val (.bool true), .val (.slice (some ⟨b, o, none⟩) n c), .val (.int .i64 (k : Int)), .val (.pointer (some ⟨b, o + k * 4, none⟩)), .val (.pointer (some ⟨b, o + k * 4, none⟩)), .val (.int .i64 c1), .val (.slice (some ⟨b, o, none⟩) n c), .val (.int .i64 (k : Int)), .val (.int .i64 (j : Int)), .val (.pointer (some ⟨b, o + j * 4, none⟩)), .val (.pointer (some ⟨b, o + j * 4, none⟩)), .val (.int .i64 p1), .val (.bool false), .val (.bool false), .val (.bool false), .val (.bool false), .val (.slice (some ⟨b, o, none⟩) n c), .val (.slice (some ⟨b, o, none⟩) n c), .val (.int .i64 (k : Int)), .val (.pointer (some ⟨b, o + k * 4, none⟩)), .val (.pointer (some ⟨b, o + k * 4, none⟩)), .val (.int .i64 c1), .own (IsLen m) (IsLen.keep m), .val (.int .i64 (m : Int)), .val (.slice (some ⟨b, o, none⟩) n c), .val (.int .i64 (n : Int)), .val (.bool false), .val (.bool false)])
           (fun w' => Below wr.heap.size wr w') (by kernel_rfl) (by kernel_rfl) (by kernel_rfl) (Below.refl _ _).drew ?_ ?_
          · refine ⟨?_, ?_, ?_, ?_, ?_, ?_, ?_, ?_, ?_, ?_, ?_, ?_, ?_, ?_, ?_, ?_, ?_, ?_, ?_, ?_, ?_, ?_, ?_, ?_, ?_, ?_, ?_, ?_, ?_, ?_, ?_, ?_, ?_, ?_, ?_, ?_, ?_, ?_, ?_, trivial⟩
            · intro _ A0 w2 hI hd hnd K hK; have e0 := hI.slot hnd 0 _ rfl (by kernel_rfl); have hS := hI.world; refine wanted_go rfl ?_; clear hI hd hnd; go_simp; exact kq hK hS rfl
            · intro _ A0 w2 hI hd hnd K hK; have e0 := hI.slot hnd 0 _ rfl (by kernel_rfl); have hS := hI.world; refine wanted_go rfl ?_; clear hI hd hnd; go_simp; exact kq hK hS rfl
            · intro _ A0 w2 hI hd hnd K hK; have e0 := hI.slot hnd 5 _ rfl (by kernel_rfl); have hS := hI.world; refine wanted_go rfl ?_; clear hI hd hnd; go_simp; exact kq hK hS rfl
            · intro _ A0 w2 hI hd hnd K hK; have e0 := hI.depv hd 1 16 _ rfl rfl rfl (by kernel_rfl); have e1 := hI.depv hd 2 17 _ rfl rfl rfl (by kernel_rfl); have hS := hI.world; refine wanted_go rfl ?_; clear hI hd hnd; go_simp; exact kq hK hS rfl
            · intro _ A0 w2 hI hd hnd K hK; have e0 := hI.depv hd 3 18 _ rfl rfl rfl (by kernel_rfl); have hS := hI.world; have hrange : w2.rangeAt b (o + k * 4) (accL ⟨c1, c2, c3, c4⟩) := (HATV.out.fr (Fr.ofBelow hS)).range
              have hisize := info_accL ⟨c1, c2, c3, c4⟩
              refine wanted_go rfl ?_; clear hI hd hnd
              refine wp_load_mid 130 (.tmp 18) rfl _ _ (by simpa [Act.eval, Array.getD_eq_getD_getElem?] using e0) _ _ hrange Tryz.underlying130 rfl hisize ?_
              exact kq hK hS rfl
            · intro _ A0 w2 hI hd hnd K hK; have e0 := hI.slot hnd 1 _ rfl (by kernel_rfl); have hS := hI.world; refine wanted_go rfl ?_; clear hI hd hnd; go_simp; exact kq hK hS rfl
            · intro _ A0 w2 hI hd hnd K hK; have e0 := hI.depv hd 0 15 _ rfl rfl rfl (by kernel_rfl); have e1 := hI.depv hd 4 19 _ rfl rfl rfl (by kernel_rfl); have e2 := hI.depv hd 5 20 _ rfl rfl rfl (by kernel_rfl); have hS := hI.world; refine wanted_go rfl ?_; clear hI hd hnd; go_simp
              go_at_call 176
              refine (rproper_n l _ c n w2 HN.out (chart_keep HLV.out hS) HNN.out ⟨c1, c2, c3, c4⟩ g HAB.out).mono ?_
              rintro e w3 ⟨rfl, h3⟩
              exact hK.out _ _ (hS.trans (h3.mono hS.size)) (Ks.of rfl (congrArg Value.bool HP.out)) (Ks.keep h3)
            · intro _ A0 w2 hI hd hnd K hK; have e0 := hI.depv hd 6 21 _ rfl rfl rfl (by kernel_rfl); have hS := hI.world; refine wanted_go rfl ?_; clear hI hd hnd; go_simp; exact kq hK hS rfl
            · intro _ A0 w2 hI hd hnd K hK; have e0 := hI.depv hd 7 22 _ rfl rfl rfl (by kernel_rfl); have hS := hI.world; refine wanted_go rfl ?_; clear hI hd hnd; go_simp; exact kq hK hS rfl
            · intro _ A0 w2 hI hd hnd K hK; have e0 := hI.slot hnd 5 _ rfl (by kernel_rfl); have hS := hI.world; refine wanted_yes rfl (hI.yield hd 8 23 false rfl rfl rfl (by kernel_rfl)) ?_; clear hI hd hnd; go_simp; exact kq hK hS rfl
            · intro _ A0 w2 hI hd hnd K hK; have e0 := hI.depv hd 9 24 _ rfl rfl rfl (by kernel_rfl); have hS := hI.world; refine wanted_yes rfl (hI.yield hd 8 23 false rfl rfl rfl (by kernel_rfl)) ?_; clear hI hd hnd; go_simp
              exact hK.out _ _ hS (Ks.of rfl (congrArg Value.bool HKD.out)) (fun _ _ h => h)
            · intro _ A0 w2 hI hd hnd K hK; have e0 := hI.depv hd 10 25 _ rfl rfl rfl (by kernel_rfl); have hS := hI.world; refine wanted_yes rfl (hI.yield hd 8 23 false rfl rfl rfl (by kernel_rfl)) ?_; clear hI hd hnd; go_simp; exact kq hK hS rfl
            · intro _ A0 w2 hI hd hnd K hK; have e0 := hI.slot hnd 0 _ rfl (by kernel_rfl); have hS := hI.world; refine wanted_yes rfl (hI.yield hd 11 26 true rfl rfl rfl (by kernel_rfl)) ?_; clear hI hd hnd; go_simp; exact kq hK hS rfl
            · intro _ A0 w2 hI hd hnd K hK; have e0 := hI.slot hnd 5 _ rfl (by kernel_rfl); have hS := hI.world; refine wanted_yes rfl (hI.yield hd 11 26 true rfl rfl rfl (by kernel_rfl)) ?_; clear hI hd hnd; go_simp; exact kq hK hS rfl
            · intro _ A0 w2 hI hd hnd K hK; have e0 := hI.depv hd 12 27 _ rfl rfl rfl (by kernel_rfl); have e1 := hI.depv hd 13 28 _ rfl rfl rfl (by kernel_rfl); have hS := hI.world; refine wanted_yes rfl (hI.yield hd 11 26 true rfl rfl rfl (by kernel_rfl)) ?_; clear hI hd hnd; go_simp; exact kq hK hS rfl
            · intro _ A0 w2 hI hd hnd K hK; have e0 := hI.depv hd 14 29 _ rfl rfl rfl (by kernel_rfl); have hS := hI.world; refine wanted_yes rfl (hI.yield hd 11 26 true rfl rfl rfl (by kernel_rfl)) ?_; clear hI hd hnd; go_simp; exact kq hK hS rfl
            · intro _ A0 w2 hI hd hnd K hK; have e0 := hI.depv hd 15 30 _ rfl rfl rfl (by kernel_rfl); have hS := hI.world; have hcc : w2.cell? ⟨b, o + k * 4, none⟩ = _ := (hS.cell (p := ⟨b, o + k * 4, none⟩) HBV.out).trans KC.out; refine wanted_yes rfl (hI.yield hd 11 26 true rfl rfl rfl (by kernel_rfl)) ?_; clear hI hd hnd; go_simp; exact kq hK hS rfl
            · intro _ A0 w2 hI hd hnd K hK; have e0 := hI.slot hnd 0 _ rfl (by kernel_rfl); have hS := hI.world; refine wanted_yes rfl (hI.yield hd 11 26 true rfl rfl rfl (by kernel_rfl)) ?_; clear hI hd hnd; go_simp; exact kq hK hS rfl
            · intro _ A0 w2 hI hd hnd K hK; have e0 := hI.slot hnd 5 _ rfl (by kernel_rfl); have hS := hI.world; refine wanted_yes rfl (hI.yield hd 11 26 true rfl rfl rfl (by kernel_rfl)) ?_; clear hI hd hnd; go_simp; exact kq hK hS rfl
            · intro _ A0 w2 hI hd hnd K hK; have e0 := hI.depv hd 18 33 _ rfl rfl rfl (by kernel_rfl); have hS := hI.world; refine wanted_yes rfl (hI.yield hd 11 26 true rfl rfl rfl (by kernel_rfl)) ?_; clear hI hd hnd; go_simp
              exact hK.out _ _ hS (Ks.of rfl (congrArg (Value.int .i64) HJW.out)) (fun _ _ h => h)
            · intro _ A0 w2 hI hd hnd K hK; have e0 := hI.depv hd 17 32 _ rfl rfl rfl (by kernel_rfl); have e1 := hI.depv hd 19 34 _ rfl rfl rfl (by kernel_rfl); have hS := hI.world; refine wanted_yes rfl (hI.yield hd 11 26 true rfl rfl rfl (by kernel_rfl)) ?_; clear hI hd hnd; go_simp; exact kq hK hS rfl
            · intro _ A0 w2 hI hd hnd K hK; have e0 := hI.depv hd 20 35 _ rfl rfl rfl (by kernel_rfl); have hS := hI.world; refine wanted_yes rfl (hI.yield hd 11 26 true rfl rfl rfl (by kernel_rfl)) ?_; clear hI hd hnd; go_simp; exact kq hK hS rfl
            · intro _ A0 w2 hI hd hnd K hK; have e0 := hI.depv hd 21 36 _ rfl rfl rfl (by kernel_rfl); have hS := hI.world; have hcc : w2.cell? ⟨b, o + j * 4, none⟩ = _ := (hS.cell (p := ⟨b, o + j * 4, none⟩) HBV.out).trans KP.out; refine wanted_yes rfl (hI.yield hd 11 26 true rfl rfl rfl (by kernel_rfl)) ?_; clear hI hd hnd; go_simp; exact kq hK hS rfl
            · intro _ A0 w2 hI hd hnd K hK; have e0 := hI.depv hd 16 31 _ rfl rfl rfl (by kernel_rfl); have e1 := hI.depv hd 22 37 _ rfl rfl rfl (by kernel_rfl); have hS := hI.world; refine wanted_yes rfl (hI.yield hd 11 26 true rfl rfl rfl (by kernel_rfl)) ?_; clear hI hd hnd; go_simp; exact kq hK hS rfl
            · intro _ A0 w2 hI hd hnd K hK; have e0 := hI.depv hd 11 26 _ rfl rfl rfl (by kernel_rfl); have e1 := hI.depv hd 23 38 _ rfl rfl rfl (by kernel_rfl); have hS := hI.world; refine wanted_yes rfl (hI.yield hd 8 23 false rfl rfl rfl (by kernel_rfl)) ?_; clear hI hd hnd; go_simp; exact kq hK hS rfl
            · intro _ A0 w2 hI hd hnd K hK; have e0 := hI.depv hd 8 23 _ rfl rfl rfl (by kernel_rfl); have e1 := hI.depv hd 24 39 _ rfl rfl rfl (by kernel_rfl); have hS := hI.world; refine wanted_go rfl ?_; clear hI hd hnd; go_simp; exact kq hK hS rfl
            · intro _ A0 w2 hI hd hnd K hK; have e0 := hI.depv hd 25 40 _ rfl rfl rfl (by kernel_rfl); have hS := hI.world; refine wanted_go rfl ?_; clear hI hd hnd; go_simp; exact kq hK hS rfl
            · intro _ A0 w2 hI hd hnd K hK; have e0 := hI.slot hnd 0 _ rfl (by kernel_rfl); have hS := hI.world; refine wanted_yes rfl (hI.yield hd 26 41 false rfl rfl rfl (by kernel_rfl)) ?_; clear hI hd hnd; go_simp; exact kq hK hS rfl
            · intro _ A0 w2 hI hd hnd K hK; have e0 := hI.slot hnd 0 _ rfl (by kernel_rfl); have hS := hI.world; refine wanted_yes rfl (hI.yield hd 26 41 false rfl rfl rfl (by kernel_rfl)) ?_; clear hI hd hnd; go_simp; exact kq hK hS rfl
            · intro _ A0 w2 hI hd hnd K hK; have e0 := hI.slot hnd 5 _ rfl (by kernel_rfl); have hS := hI.world; refine wanted_yes rfl (hI.yield hd 26 41 false rfl rfl rfl (by kernel_rfl)) ?_; clear hI hd hnd; go_simp; exact kq hK hS rfl
            · intro _ A0 w2 hI hd hnd K hK; have e0 := hI.depv hd 28 43 _ rfl rfl rfl (by kernel_rfl); have e1 := hI.depv hd 29 44 _ rfl rfl rfl (by kernel_rfl); have hS := hI.world; refine wanted_yes rfl (hI.yield hd 26 41 false rfl rfl rfl (by kernel_rfl)) ?_; clear hI hd hnd; go_simp; exact kq hK hS rfl
            · intro _ A0 w2 hI hd hnd K hK; have e0 := hI.depv hd 30 45 _ rfl rfl rfl (by kernel_rfl); have hS := hI.world; refine wanted_yes rfl (hI.yield hd 26 41 false rfl rfl rfl (by kernel_rfl)) ?_; clear hI hd hnd; go_simp; exact kq hK hS rfl
            · intro _ A0 w2 hI hd hnd K hK; have e0 := hI.depv hd 31 46 _ rfl rfl rfl (by kernel_rfl); have hS := hI.world; have hcc : w2.cell? ⟨b, o + k * 4, none⟩ = _ := (hS.cell (p := ⟨b, o + k * 4, none⟩) HBV.out).trans KC.out; refine wanted_yes rfl (hI.yield hd 26 41 false rfl rfl rfl (by kernel_rfl)) ?_; clear hI hd hnd; go_simp; exact kq hK hS rfl
            · intro _ A0 w2 hI hd hnd K hK; have e0 := hI.depv hd 27 42 _ rfl rfl rfl (by kernel_rfl); have e1 := hI.depv hd 32 47 _ rfl rfl rfl (by kernel_rfl); have hS := hI.world; refine wanted_yes rfl (hI.yield hd 26 41 false rfl rfl rfl (by kernel_rfl)) ?_; clear hI hd hnd; go_simp
              go_at_call 177
              refine (rclimb_n l _ c n m w2 HN.out (chart_keep HLV.out hS) HNN.out c1 HAB.out.1 HM.out).mono ?_
              rintro e w3 ⟨v, rfl, h1, h3⟩
              exact hK.out _ _ (hS.trans (h3.mono hS.size)) (Ks.of rfl h1) (Ks.keep h3)
            · intro _ A0 w2 hI hd hnd K hK
              obtain ⟨x0, e0, h0⟩ := hI.dep hd 33 48 rfl rfl rfl (by kernel_rfl)
              have hS := hI.world
              obtain ⟨Ab, cb, rfl⟩ := h0
              refine wanted_yes rfl (hI.yield hd 26 41 false rfl rfl rfl (by kernel_rfl)) ?_; clear hI hd hnd; go_simp; exact kq hK hS rfl
            · intro _ A0 w2 hI hd hnd K hK; have e0 := hI.slot hnd 0 _ rfl (by kernel_rfl); have hS := hI.world; refine wanted_yes rfl (hI.yield hd 26 41 false rfl rfl rfl (by kernel_rfl)) ?_; clear hI hd hnd; go_simp; exact kq hK hS rfl
            · intro _ A0 w2 hI hd hnd K hK; have e0 := hI.depv hd 35 50 _ rfl rfl rfl (by kernel_rfl); have hS := hI.world; refine wanted_yes rfl (hI.yield hd 26 41 false rfl rfl rfl (by kernel_rfl)) ?_; clear hI hd hnd; go_simp; exact kq hK hS rfl
            · intro _ A0 w2 hI hd hnd K hK; have e0 := hI.depv hd 34 49 _ rfl rfl rfl (by kernel_rfl); have e1 := hI.depv hd 36 51 _ rfl rfl rfl (by kernel_rfl); have hS := hI.world; refine wanted_yes rfl (hI.yield hd 26 41 false rfl rfl rfl (by kernel_rfl)) ?_; clear hI hd hnd; go_simp; exact kq hK hS rfl
            · intro _ A0 w2 hI hd hnd K hK; have e0 := hI.depv hd 26 41 _ rfl rfl rfl (by kernel_rfl); have e1 := hI.depv hd 37 52 _ rfl rfl rfl (by kernel_rfl); have hS := hI.world; refine wanted_go rfl ?_; clear hI hd hnd; go_simp; exact kq hK hS rfl
          · intro _ A0 w2 hI hall; obtain ⟨x0, g0, h0⟩ := hI.got 0 _ 15 rfl rfl (hall 0 (by decide)); obtain ⟨x1, g1, h1⟩ := hI.got 1 _ 16 rfl rfl (hall 1 (by decide)); obtain ⟨x2, g2, h2⟩ := hI.got 2 _ 17 rfl rfl (hall 2 (by decide)); obtain ⟨x3, g3, h3⟩ := hI.got 3 _ 18 rfl rfl (hall 3 (by decide)); obtain ⟨x4, g4, h4⟩ := hI.got 4 _ 19 rfl rfl (hall 4 (by decide)); obtain ⟨x5, g5, h5⟩ := hI.got 5 _ 20 rfl rfl (hall 5 (by decide)); obtain ⟨x6, g6, h6⟩ := hI.got 6 _ 21 rfl rfl (hall 6 (by decide)); obtain ⟨x7, g7, h7⟩ := hI.got 7 _ 22 rfl rfl (hall 7 (by decide)); obtain ⟨x8, g8, h8⟩ := hI.got 8 _ 23 rfl rfl (hall 8 (by decide)); obtain ⟨x9, g9, h9⟩ := hI.got 9 _ 24 rfl rfl (hall 9 (by decide)); obtain ⟨x10, g10, h10⟩ := hI.got 10 _ 25 rfl rfl (hall 10 (by decide)); obtain ⟨x11, g11, h11⟩ := hI.got 11 _ 26 rfl rfl (hall 11 (by decide)); obtain ⟨x12, g12, h12⟩ := hI.got 12 _ 27 rfl rfl (hall 12 (by decide)); obtain ⟨x13, g13, h13⟩ := hI.got 13 _ 28 rfl rfl (hall 13 (by decide)); obtain ⟨x14, g14, h14⟩ := hI.got 14 _ 29 rfl rfl (hall 14 (by decide)); obtain ⟨x15, g15, h15⟩ := hI.got 15 _ 30 rfl rfl (hall 15 (by decide)); obtain ⟨x16, g16, h16⟩ := hI.got 16 _ 31 rfl rfl (hall 16 (by decide)); obtain ⟨x17, g17, h17⟩ := hI.got 17 _ 32 rfl rfl (hall 17 (by decide)); obtain ⟨x18, g18, h18⟩ := hI.got 18 _ 33 rfl rfl (hall 18 (by decide)); obtain ⟨x19, g19, h19⟩ := hI.got 19 _ 34 rfl rfl (hall 19 (by decide)); obtain ⟨x20, g20, h20⟩ := hI.got 20 _ 35 rfl rfl (hall 20 (by decide)); obtain ⟨x21, g21, h21⟩ := hI.got 21 _ 36 rfl rfl (hall 21 (by decide)); obtain ⟨x22, g22, h22⟩ := hI.got 22 _ 37 rfl rfl (hall 22 (by decide)); obtain ⟨x23, g23, h23⟩ := hI.got 23 _ 38 rfl rfl (hall 23 (by decide)); obtain ⟨x24, g24, h24⟩ := hI.got 24 _ 39 rfl rfl (hall 24 (by decide)); obtain ⟨x25, g25, h25⟩ := hI.got 25 _ 40 rfl rfl (hall 25 (by decide)); obtain ⟨x26, g26, h26⟩ := hI.got 26 _ 41 rfl rfl (hall 26 (by decide)); obtain ⟨x27, g27, h27⟩ := hI.got 27 _ 42 rfl rfl (hall 27 (by decide)); obtain ⟨x28, g28, h28⟩ := hI.got 28 _ 43 rfl rfl (hall 28 (by decide)); obtain ⟨x29, g29, h29⟩ := hI.got 29 _ 44 rfl rfl (hall 29 (by decide)); obtain ⟨x30, g30, h30⟩ := hI.got 30 _ 45 rfl rfl (hall 30 (by decide)); obtain ⟨x31, g31, h31⟩ := hI.got 31 _ 46 rfl rfl (hall 31 (by decide)); obtain ⟨x32, g32, h32⟩ := hI.got 32 _ 47 rfl rfl (hall 32 (by decide)); obtain ⟨x33, g33, h33⟩ := hI.got 33 _ 48 rfl rfl (hall 33 (by decide)); obtain ⟨x34, g34, h34⟩ := hI.got 34 _ 49 rfl rfl (hall 34 (by decide)); obtain ⟨x35, g35, h35⟩ := hI.got 35 _ 50 rfl rfl (hall 35 (by decide)); obtain ⟨x36, g36, h36⟩ := hI.got 36 _ 51 rfl rfl (hall 36 (by decide)); obtain ⟨x37, g37, h37⟩ := hI.got 37 _ 52 rfl rfl (hall 37 (by decide)); obtain ⟨x38, g38, h38⟩ := hI.got 38 _ 53 rfl rfl (hall 38 (by decide)); have hS := hI.world
            have hA : A0 = _ := hI.tmps [(15, x0), (16, x1), (17, x2), (18, x3), (19, x4), (20, x5), (21, x6), (22, x7), (23, x8), (24, x9), (25, x10), (26, x11), (27, x12), (28, x13), (29, x14), (30, x15), (31, x16), (32, x17), (33, x18), (34, x19), (35, x20), (36, x21), (37, x22), (38, x23), (39, x24), (40, x25), (41, x26), (42, x27), (43, x28), (44, x29), (45, x30), (46, x31), (47, x32), (48, x33), (49, x34), (50, x35), (51, x36), (52, x37), (53, x38)] (by simp only [List.mem_cons, List.not_mem_nil, or_false, forall_eq_or_imp, forall_eq]; exact ⟨g0, g1, g2, g3, g4, g5, g6, g7, g8, g9, g10, g11, g12, g13, g14, g15, g16, g17, g18, g19, g20, g21, g22, g23, g24, g25, g26, g27, g28, g29, g30, g31, g32, g33, g34, g35, g36, g37, g38⟩) (by kernel_rfl)
            obtain rfl : x38 = .bool false := h38 _ rfl
            clear h0 g0 h1 g1 h2 g2 h3 g3 h4 g4 h5 g5 h6 g6 h7 g7 h8 g8 h9 g9 h10 g10 h11 g11 h12 g12 h13 g13 h14 g14 h15 g15 h16 g16 h17 g17 h18 g18 h19 g19 h20 g20 h21 g21 h22 g22 h23 g23 h24 g24 h25 g25 h26 g26 h27 g27 h28 g28 h29 g29 h30 g30 h31 g31 h32 g32 h33 g33 h34 g34 h35 g35 h36 g36 h37 g37 h38 g38 hI hall
            simp only [setAll, List.foldl, List.setIfInBounds_toArray, List.set_cons_zero, List.set_cons_succ] at hA
            rw [hA]
            clear hA
            go_wp2_with fail
            go_roundw
            case rel => exact ⟨k + 1, by omega, by go_num, hb.trans (hS.mono hb.size), fun i hi => by
             rcases Nat.lt_or_ge i k with h | h
             · exact HA.out i h
             · have : i = k := by omega
               subst this
               exact HROW.out⟩
            case measure =>
             have e : wrap64 ((k : Int) + 1) = ((k + 1 : Nat) : Int) := by unfold wrap64; omega
             simp only [intOf, e]
             exact meas_up4 hlt
  case neg =>
   have hltI : ¬ (k : Int) < (n : Int) := by omega
   have hall : (List.range l.length).all (rowR l g) = true := all_range_true (fun j hj => HA.out j (by have := HN.out; omega))
   have hf := Lib.hid (show r = true by rw [← HR.out]; unfold chartR; rw [hall, HN.out, decide_eq_true h2]; rfl)
   clear hall
   go_wp2_with fail
   go_ret
   exact ⟨by rw [hf.out]; first | done | rfl, hb⟩
end Go.Proofs.YtebdajkknkapcaaGreat
