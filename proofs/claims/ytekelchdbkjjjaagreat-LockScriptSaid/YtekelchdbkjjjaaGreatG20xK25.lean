/- The reference's locks: index, Locked. Written by gen_k25.py. -/
import Derived.Test.YtekelchdbkjjjaaGreatG20xB0B2
import Derived.Test.YtekelchdbkjjjaaGreatG20xB3B8
import Derived.Test.YtekelchdbkjjjaaGreatG20xB9B13
import Derived.Test.YtekelchdbkjjjaaGreatG20xB14
import Derived.Test.YtekelchdbkjjjaaGreatG20xB16
import Derived.Test.YtekelchdbkjjjaaGreatG20xB17B24
import Derived.Test.YtekelchdbkjjjaaGreatG20xB33C3
import Derived.Test.YtekelchdbkjjjaaGreatG20xC4I2
import Derived.Test.YtekelchdbkjjjaaGreatG20xI3I16
import Derived.Test.YtekelchdbkjjjaaGreatG20xK1K12
import Derived.Test.YtekelchdbkjjjaaGreatG20xT1K13
import Derived.Test.YtekelchdbkjjjaaGreatG20xK14K24
import Derived.Test.YtekelchdbkjjjaaGreatProg
set_option linter.unusedVariables false
set_option linter.unusedSimpArgs false
set_option maxRecDepth 4000
attribute [local go_sem ↓] Go.wp_at_zero Go.wp_at_succ
namespace Go.Proofs.YtekelchdbkjjjaaGreat
open Go Go.RowKit
set_option maxHeartbeats 2000000 in
theorem index_c (ks : List KK) (A : Option Addr) (cc : Nat) (c : KK) (w : World) (h : ListC KC 2 w (· < w.heap.size) [.slice A ks.length cc] ks) : Calls Tryz.prog 38 #[.slice A ks.length cc, .agg #[.int .i64 c.1.1, .int .i64 c.1.2]] w (Quiet w (.int .i64 (idxK ks c))) := by
 have HL := Lib.hid h
 have hcap := h.cap
 unfold maxLen at hcap
 obtain ⟨n, hnl⟩ : ∃ n, ks.length = n := ⟨_, rfl⟩
 have HN := Lib.hid hnl
 rw [hnl] at hcap ⊢
 obtain ⟨ca, hca⟩ : ∃ x, c.1.1 = x := ⟨_, rfl⟩
 obtain ⟨cb, hcb⟩ : ∃ x, c.1.2 = x := ⟨_, rfl⟩
 have HCE := Lib.hid (And.intro hca hcb)
 obtain ⟨R, hR⟩ : ∃ R, idxK ks c = R := ⟨_, rfl⟩
 have HR := Lib.hid hR
 rw [hca, hcb, hR]
 clear h hnl hca hcb hR
 go_enter Tryz.func38, Tryz.ntmps38
 go_upto_region 1 with fail
 have H := heap_alloc_new w (.cells #[.int .i64 ca, .int .i64 cb] 99)
 have HB := below1 w (.cells #[.int .i64 ca, .int .i64 cb] 99)
 have HS := blk_lt H
 generalize hW : w.alloc (Obj.cells #[.int .i64 ca, .int .i64 cb] 99) = W at *
 clear hW
 have HX := Lib.hid H
 have HBW := Lib.hid HB
 clear H
 go_wp2_with fail
 go_loopw [5] (fun i wr => ∃ k : Nat, k ≤ n ∧ i = .int .i64 (k : Int) ∧ Below W.heap.size W wr ∧ ∀ j (hj : j < ks.length), j < k → ks[j] ≠ c) (fun i _ => n - (intOf i).toNat)
 case atStart => exact ⟨0, by omega, rfl, Below.refl _ _, fun j hj h => by omega⟩
 case round =>
  obtain ⟨k, hk, rfl, hb, hall⟩ := hrel
  have HALL := Lib.hid hall
  have HBR := Lib.hid hb
  by_cases hlt : k < n
  case pos =>
   have hltI : (k : Int) < (n : Int) := by omega
   have hltI2 : 0 < n := by omega
   have hkl : k < ks.length := by rw [HN.out]; exact hlt
   obtain ⟨b, o, cs1, hAe1, hbw1, hes1, hat1⟩ := ListC.get HL.out k hkl
   subst hAe1
   have hcs1 : cs1 = kL ks[k] := hes1
   subst hcs1
   have HE := Lib.hid (show ∀ x : KK, ks[k] = x → (x = c ↔ x.1.1 = ca ∧ x.1.2 = cb) from fun x _ => by
    rw [← HCE.out.1, ← HCE.out.2]
    exact ⟨fun e => by rw [e]; exact ⟨rfl, rfl⟩, fun e => Subtype.ext (Prod.ext e.1 e.2)⟩)
   obtain ⟨x, hx⟩ : ∃ x, ks[k] = x := ⟨_, rfl⟩
   have HX0 := Lib.hid hx
   rw [hx] at hat1
   obtain ⟨⟨xa, xb⟩, hxx⟩ := x
   have HXC := Lib.hid (show (⟨(xa, xb), hxx⟩ : KK) = c ↔ xa = ca ∧ xb = cb from HE.out _ hx)
   have HA := Lib.hid (show At wr (· < wr.heap.size) ⟨b, o + k * 2, none⟩ [.int .i64 xa, .int .i64 xb] from (hat1.fr (Fr.ofBelow (HB.trans (hb.mono HB.size)))).mono (fun q hq => Nat.lt_of_lt_of_le (Nat.lt_of_lt_of_le hq HB.size) hb.size))
   have HC := Lib.hid (show At wr (· < wr.heap.size) ⟨w.heap.size, 0, none⟩ [.int .i64 ca, .int .i64 cb] from (show At W (· < W.heap.size) ⟨w.heap.size, 0, none⟩ [.int .i64 ca, .int .i64 cb] from ⟨HS, (box_at (cs := [.int .i64 ca, .int .i64 cb]) HX.out).2⟩).fr (Fr.ofBelow hb) |>.mono (fun q hq => Nat.lt_of_lt_of_le hq hb.size))
   clear hes1 hat1 hx hbw1 hb hall HB
   by_cases he : xa = ca ∧ xb = cb
   case pos =>
    have HRK := Lib.hid (show R = (k : Int) from HR.out.symm.trans (idxK_at hkl (HX0.out.trans (HXC.out.2 he)) HALL.out))
    obtain ⟨rfl, rfl⟩ := he
    go_upto_region 4 with fail
    refine wp_region_inv (Ks wr [.val (.slice (some ⟨b, o, none⟩) n cc), .val (.int .i64 (k : Int)), .val (.pointer (some ⟨b, o + k * 2, none⟩)), .val (.agg #[.int .i64 xa, .int .i64 xb]), .val (.agg #[.int .i64 xa, .int .i64 xb]), .val (.bool true)])
     (fun w' => Below wr.heap.size wr w') (by kernel_rfl) (by kernel_rfl) (by kernel_rfl) (Below.refl _ _).drew ?_ ?_
    · refine ⟨?_, ?_, ?_, ?_, ?_, ?_, trivial⟩
      · intro _ A0 w2 hI hd hnd K hK; have e0 := hI.q hnd 0; exact hI.z hK
      · intro _ A0 w2 hI hd hnd K hK; have e0 := hI.q hnd 5; exact hI.z hK
      · intro _ A0 w2 hI hd hnd K hK; have e0 := hI.p hd 0 12; have e1 := hI.p hd 1 13; exact hI.z hK
      · intro _ A0 w2 hI hd hnd K hK; have e0 := hI.p hd 2 14; have hS := hI.world; have hrange : w2.rangeAt b (o + k * 2) [.int .i64 xa, .int .i64 xb] := (HA.out.fr (Fr.ofBelow hS)).range; have hisize := info_lock2; refine wanted_go rfl ?_; clear hI hd hnd
        refine wp_load_mid 99 (.tmp 14) rfl _ _ (by simpa [Act.eval, Array.getD_eq_getD_getElem?] using e0) _ _ hrange Tryz.underlying99 rfl hisize ?_
        exact kq hK hS rfl
      · intro _ A0 w2 hI hd hnd K hK; have e0 := hI.q hnd 3; have hS := hI.world; have hrange : w2.rangeAt w.heap.size 0 [.int .i64 xa, .int .i64 xb] := (HC.out.fr (Fr.ofBelow hS)).range; have hisize := info_lock2; refine wanted_go rfl ?_; clear hI hd hnd
        refine wp_load_mid 99 (.tmp 3) rfl _ _ (by simpa [Act.eval, Array.getD_eq_getD_getElem?] using e0) _ _ hrange Tryz.underlying99 rfl hisize ?_
        exact kq hK hS rfl
      · intro _ A0 w2 hI hd hnd K hK; have e0 := hI.p hd 3 15; have e1 := hI.p hd 4 16; exact hI.z hK
    · intro _ A0 w2 hI hall; have hS := hI.world; have c9 := hI.ch hall [12, 13, 14, 15, 16, 17]; obtain ⟨x0, x1, x2, x3, x4, x5, hA, hV⟩ := c9
      obtain rfl : x5 = .bool true := hV 5 _ _ rfl _ rfl
      clear hV hI hall
      simp only [setAll, List.foldl, List.setIfInBounds_toArray, List.set_cons_zero, List.set_cons_succ] at hA
      rw [hA]
      clear hA
      have HBW2 := Lib.hid (HBR.out.trans (hS.mono HBR.out.size))
      clear hS
      go_wp2_with fail
      go_ret
      exact ⟨by rw [HRK.out]; rfl, HBW.out.trans (HBW2.out.mono HBW.out.size)⟩
   case neg =>
    have HNE := Lib.hid he
    have HNX := Lib.hid (show ks[k] ≠ c from fun e => he (HXC.out.1 (HX0.out.symm.trans e)))
    clear he
    go_upto_region 4 with fail
    refine wp_region_inv (Ks wr [.val (.slice (some ⟨b, o, none⟩) n cc), .val (.int .i64 (k : Int)), .val (.pointer (some ⟨b, o + k * 2, none⟩)), .val (.agg #[.int .i64 xa, .int .i64 xb]), .val (.agg #[.int .i64 ca, .int .i64 cb]), .val (.bool false)])
     (fun w' => Below wr.heap.size wr w') (by kernel_rfl) (by kernel_rfl) (by kernel_rfl) (Below.refl _ _).drew ?_ ?_
    · refine ⟨?_, ?_, ?_, ?_, ?_, ?_, trivial⟩
      · intro _ A0 w2 hI hd hnd K hK; have e0 := hI.q hnd 0; exact hI.z hK
      · intro _ A0 w2 hI hd hnd K hK; have e0 := hI.q hnd 5; exact hI.z hK
      · intro _ A0 w2 hI hd hnd K hK; have e0 := hI.p hd 0 12; have e1 := hI.p hd 1 13; exact hI.z hK
      · intro _ A0 w2 hI hd hnd K hK; have e0 := hI.p hd 2 14; have hS := hI.world; have hrange : w2.rangeAt b (o + k * 2) [.int .i64 xa, .int .i64 xb] := (HA.out.fr (Fr.ofBelow hS)).range; have hisize := info_lock2; refine wanted_go rfl ?_; clear hI hd hnd
        refine wp_load_mid 99 (.tmp 14) rfl _ _ (by simpa [Act.eval, Array.getD_eq_getD_getElem?] using e0) _ _ hrange Tryz.underlying99 rfl hisize ?_
        exact kq hK hS rfl
      · intro _ A0 w2 hI hd hnd K hK; have e0 := hI.q hnd 3; have hS := hI.world; have hrange : w2.rangeAt w.heap.size 0 [.int .i64 ca, .int .i64 cb] := (HC.out.fr (Fr.ofBelow hS)).range; have hisize := info_lock2; refine wanted_go rfl ?_; clear hI hd hnd
        refine wp_load_mid 99 (.tmp 3) rfl _ _ (by simpa [Act.eval, Array.getD_eq_getD_getElem?] using e0) _ _ hrange Tryz.underlying99 rfl hisize ?_
        exact kq hK hS rfl
      · intro _ A0 w2 hI hd hnd K hK; have e0 := hI.p hd 3 15; have e1 := hI.p hd 4 16; have hS := hI.world; refine wanted_go rfl ?_; clear hI hd hnd; go_simp
        have he := HNE.out
        by_cases hxa : xa = ca
        · have hxb : ¬ xb = cb := fun e => he ⟨hxa, e⟩
          rw [if_pos hxa, if_neg hxb]
          exact kq hK hS rfl
        · rw [if_neg hxa]
          exact kq hK hS rfl
    · intro _ A0 w2 hI hall; have hS := hI.world; have c9 := hI.ch hall [12, 13, 14, 15, 16, 17]; obtain ⟨x0, x1, x2, x3, x4, x5, hA, hV⟩ := c9
      obtain rfl : x5 = .bool false := hV 5 _ _ rfl _ rfl
      clear hV hI hall
      simp only [setAll, List.foldl, List.setIfInBounds_toArray, List.set_cons_zero, List.set_cons_succ] at hA
      rw [hA]
      clear hA
      have HBW2 := Lib.hid (HBR.out.trans (hS.mono HBR.out.size))
      clear hS
      go_wp2_with fail
      go_roundw
      case rel => exact ⟨k + 1, by omega, by go_num, HBW2.out, fun j hj h => by
       rcases Nat.lt_or_ge j k with h3 | h3
       · exact HALL.out j hj h3
       · obtain rfl : j = k := by omega
         exact HNX.out⟩
      case measure => first | exact meas_v hlt | (simp only [intOf]; omega)
  case neg =>
   have hltI : ¬ (k : Int) < (n : Int) := by omega
   have hRN : R = -1 := HR.out.symm.trans (idxK_none fun j hj => HALL.out j hj (by have := HN.out; omega))
   have HRN := Lib.hid hRN
   clear hRN
   go_wp2_with fail
   go_ret
   exact ⟨by rw [HRN.out]; rfl, HBW.out.trans (HBR.out.mono HBW.out.size)⟩
theorem gones_l {w : World} {Q : Nat → Prop} {cs : List Value} {g : XGroup} (h : GroupC w Q cs g) : cs.all (·.oneCell') = true := by
 obtain ⟨Ac, cc, Ae, ce, e, _⟩ := h.lit
 subst e
 simp [grpL, Value.oneCell']
theorem lapp_at {gl r : List Value} {i : Nat} {v : Value} (h : gl[i]? = some v) : (gl ++ r)[i]? = some v := by
 rw [List.getElem?_append_left (List.getElem?_eq_some_iff.1 h).1]; exact h
def RLk (w : World) (Q : Nat → Prop) (ll : List Value) (g : XGroup) (ks : List KK) : Prop := ∃ (gl : List Value) (A : Option Addr) (cc : Nat), ll = gl ++ [.slice A ks.length cc] ∧ GroupC w Q gl g ∧ ListC KC 2 w Q [.slice A ks.length cc] ks
theorem RLk.keep {w w' : World} {ll : List Value} {g : XGroup} {ks : List KK} (h : RLk w (· < w.heap.size) ll g ks) (hb : Below w.heap.size w w') : RLk w' (· < w'.heap.size) ll g ks := by
 obtain ⟨gl, A, cc, h1, h2, h3⟩ := h
 exact ⟨gl, A, cc, h1, h2.keep hb, ks_keep (fun q hq => hq) h3 hb⟩
theorem RLk.len {w : World} {Q : Nat → Prop} {ll : List Value} {g : XGroup} {ks : List KK} (h : RLk w Q ll g ks) : ll.length = 22 := by
 obtain ⟨gl, A, cc, rfl, h2, h3⟩ := h
 rw [List.length_append, h2.len]; rfl
theorem RLk.one {w : World} {Q : Nat → Prop} {ll : List Value} {g : XGroup} {ks : List KK} (h : RLk w Q ll g ks) : ll.toArray.all (·.oneCell') = true := by
 obtain ⟨gl, A, cc, rfl, h2, h3⟩ := h
 have h1 := gones_l h2
 rw [List.all_toArray, List.all_append, h1]
 rfl
theorem info_locks : (Tryz.prog.info? 53).map (·.size) = some 22 := by kernel_rfl
theorem RLk.view {w : World} {Q : Nat → Prop} {ll : List Value} {g : XGroup} {ks : List KK} (h : RLk w Q ll g ks) : ∃ Ae ce A cc, ll[21]? = some (.slice A ks.length cc) ∧ ll[20]? = some (.slice Ae g.entities.length ce) ∧ ll[1]? = some (.int .i64 g.calendar.year) ∧ ll[2]? = some (.int .i64 g.calendar.month) ∧ ll[3]? = some (.int .i64 g.calendar.periods) ∧ ListC KC 2 w Q [.slice A ks.length cc] ks := by
 obtain ⟨gl, A, cc, rfl, h2, h3⟩ := h
 obtain ⟨Ac, c2, Ae, ce, hl, v20, _, v1, v2, v3, _, _⟩ := h2.view
 exact ⟨Ae, ce, A, cc, by rw [List.getElem?_append_right (by omega), hl]; rfl, lapp_at v20, lapp_at v1, lapp_at v2, lapp_at v3, h3⟩
theorem RLk.set {w w' : World} {ll : List Value} {g : XGroup} {ks ks' : List KK} {A' : Option Addr} {c' : Nat} (h : RLk w (· < w.heap.size) ll g ks) (hb : Below w.heap.size w w') (hl : ListC KC 2 w' (· < w'.heap.size) [.slice A' ks'.length c'] ks') : RLk w' (· < w'.heap.size) (ll.set 21 (.slice A' ks'.length c')) g ks' := by
 obtain ⟨gl, A, cc, rfl, h2, h3⟩ := h
 refine ⟨gl, A', c', ?_, h2.keep hb, hl⟩
 rw [List.set_append_right _ _ (by rw [h2.len]; omega), h2.len]
 rfl
set_option maxHeartbeats 2000000 in
theorem rlocked_c (g : XGroup) (ks : List KK) (ll : List Value) (c : KK) (w : World) (h : RLk w (· < w.heap.size) ll g ks) : Calls Tryz.prog 18 #[.agg ll.toArray, .int .i64 c.1.1, .int .i64 c.1.2] w (Quiet w (.bool (decide (0 ≤ idxK ks c)))) := by
 obtain ⟨Ae, ce, A, cc, v21, _, _, _, _, hl⟩ := h.view
 have HIX := Lib.hid (fun (w2 : World) (hb : Below w.heap.size w w2) => index_c ks A cc c w2 (ks_keep (fun q hq => hq) hl hb))
 have HV21 := Lib.hid v21
 obtain ⟨R, hR⟩ : ∃ R, idxK ks c = R := ⟨_, rfl⟩
 obtain ⟨n, hn⟩ : ∃ R, ks.length = R := ⟨_, rfl⟩
 rw [hR] at HIX ⊢
 rw [hn] at HIX HV21
 clear h hl hR hn v21
 go_enter Tryz.func18, Tryz.ntmps18
 go_upto_region 1 with fail
 have H := heap_alloc_new w (.cells ll.toArray 53)
 have HB := below1 w (.cells ll.toArray 53)
 have HS := blk_lt H
 generalize hW : w.alloc (Obj.cells ll.toArray 53) = W at *
 clear hW
 have HX := Lib.hid H
 have c21 : W.cell? ⟨w.heap.size, 21, none⟩ = some (.slice A n cc) := (blk_cell H 21).trans (by simpa using HV21.out)
 clear H
 go_wp2_with fail
 refine (HIX.out W HB).mono ?_
 rintro e w2 ⟨rfl, hb2⟩
 have hb02 := HB.trans (hb2.mono HB.size)
 have HDR := Lib.hid (show decide (R ≥ 0) = decide (0 ≤ R) from rfl)
 go_wp2_with fail
 go_ret
 exact ⟨by first | rfl | simp, hb02⟩
def OwL (B n : Nat) (xs : List Value) (v : Value) (w : World) : Prop := w.ownsRow B 99 2 v n xs
theorem OwL.keep {B n : Nat} {xs : List Value} : ∀ v w w', Below w.heap.size w w' → OwL B n xs v w → OwL B n xs v w' := fun v w w' hb h => own_below h hb
def RLPost (l0 : List Value) (k0 : List KK) (r : Int) (f : KK → Bool) (n : Nat) (w : World) (e : Ending) (w' : World) : Prop := ∃ (ll : List Value) (ks : List KK), e = .returned (.tuple #[.agg ll.toArray, .int .i64 r]) ∧ ((r ≠ 0 ∧ ll = l0 ∧ ks = k0) ∨ (r = 0 ∧ ∃ (A : Option Addr) (c : Nat), ll = l0.set 21 (.slice A ks.length c) ∧ ListC KC 2 w' (fun q => w.heap.size ≤ q ∧ q < w'.heap.size) [.slice A ks.length c] ks)) ∧ ListK f ks ∧ ks.length ≤ n ∧ Below w.heap.size w w'
theorem kl_one (ks : List KK) : ∀ u ∈ ks.flatMap kL, u.oneCell' = true := fun u hu => by
 obtain ⟨x, _, hx⟩ := List.mem_flatMap.1 hu
 simp only [kL, List.mem_cons, List.not_mem_nil, or_false] at hx
 rcases hx with rfl | rfl <;> rfl
theorem kl_take (ks : List KK) (k : Nat) : (ks.flatMap kL).take (k * 2) = (ks.take k).flatMap kL := by
 induction ks generalizing k with
 | nil => simp
 | cons x ks ih =>
  cases k with
  | zero => simp
  | succ k =>
   rw [Nat.succ_mul, List.take_succ_cons, List.flatMap_cons, List.flatMap_cons]
   show (.int .i64 x.1.1 :: .int .i64 x.1.2 :: ks.flatMap kL).take (k * 2 + 2) = _
   rw [List.take_succ_cons, List.take_succ_cons, ih]; rfl
theorem kl_drop (ks : List KK) (k : Nat) : (ks.flatMap kL).drop (k * 2) = (ks.drop k).flatMap kL := by
 induction ks generalizing k with
 | nil => simp
 | cons x ks ih =>
  cases k with
  | zero => simp
  | succ k =>
   rw [Nat.succ_mul, List.drop_succ_cons, List.flatMap_cons]
   show (.int .i64 x.1.1 :: .int .i64 x.1.2 :: ks.flatMap kL).drop (k * 2 + 2) = _
   rw [List.drop_succ_cons, List.drop_succ_cons, ih]
theorem kl_cut {w : World} {Q : Nat → Prop} {A : Option Addr} {n cc : Nat} {ks : List KK} (h : ListC KC 2 w Q [.slice A ks.length cc] ks) (hn : ks.length = n) {k : Nat} (hk : k ≤ n) :
 n ≤ cc ∧ Rd w Q A k 2 ((ks.take k).flatMap kL) ∧ Rd w Q (if cc = k then A else A.map (·.add (k * 2))) (n - k) 2 ((ks.drop k).flatMap kL) := by
 have h1 := rd_list (f := kL) (fun cs x hx => hx) (fun _ => rfl) (by decide) h
 rw [hn] at h1
 have hc := h.cap
 have hcc : n ≤ cc := by omega
 refine ⟨hcc, ?_, ?_⟩
 · have := h1.head hk
   rwa [kl_take] at this
 · have := h1.cut hk hcc
   rwa [kl_drop] at this
set_option maxHeartbeats 4000000 in
theorem rremove_c (g : XGroup) (ks : List KK) (ll : List Value) (c : KK) (fl : KK → Bool) (m : Nat) (w : World) (h : RLk w (· < w.heap.size) ll g ks) (hf : ListK fl ks) (hm : ks.length ≤ m) (hm2 : m ≤ 100) : Calls Tryz.prog 14 #[.agg ll.toArray, .int .i64 c.1.1, .int .i64 c.1.2] w (RLPost ll ks (unlockE fl c) (unlockF fl c) m w) := by
 obtain ⟨ia, hia, hzia, hsia, hbia⟩ := info_parts info_lock2A
 obtain ⟨Ae, ce, A, cc, v21, _, _, _, _, hl⟩ := h.view
 have HIX := Lib.hid (fun (w2 : World) (hb : Below w.heap.size w w2) => index_c ks A cc c w2 (ks_keep (fun q hq => hq) hl hb))
 have HV21 := Lib.hid v21
 have HRL := Lib.hid h
 have HLS := Lib.hid hl
 have HLEN := Lib.hid h.len
 have HLI := Lib.hid (show (Tryz.prog.info? 53).map (·.size) = some ll.toArray.size by rw [info_locks]; simp [h.len])
 have HLO := Lib.hid h.one
 have HF := Lib.hid hf
 have HM := Lib.hid (And.intro hm hm2)
 obtain ⟨R, hR⟩ : ∃ R, idxK ks c = R := ⟨_, rfl⟩
 have HR := Lib.hid hR
 obtain ⟨n, hn⟩ : ∃ R, ks.length = R := ⟨_, rfl⟩
 have HN := Lib.hid hn
 rw [hR] at HIX
 rw [hn] at HIX HV21
 clear h hl hR hn v21 hf hm hm2
 go_enter Tryz.func14, Tryz.ntmps14
 go_upto_region 1 with fail
 have H := heap_alloc_new w (.cells ll.toArray 53)
 have HB := below1 w (.cells ll.toArray 53)
 have HS := blk_lt H
 generalize hW : w.alloc (Obj.cells ll.toArray 53) = W at *
 have H2 := heap_alloc_new W (.cells #[.string ⟨#[]⟩, .int .i64 0, .int .i64 0, .int .i64 0, .slice none 0 0, .int .i64 0, .int .i64 0, .int .i64 0, .int .i64 0, .int .i64 0, .int .i64 0, .int .i64 0, .int .i64 0, .int .i64 0, .int .i64 0, .int .i64 0, .int .i64 0, .int .i64 0, .int .i64 0, .int .i64 0, .slice none 0 0, .slice none 0 0] 53)
 have HB2 := below1 W (.cells #[.string ⟨#[]⟩, .int .i64 0, .int .i64 0, .int .i64 0, .slice none 0 0, .int .i64 0, .int .i64 0, .int .i64 0, .int .i64 0, .int .i64 0, .int .i64 0, .int .i64 0, .int .i64 0, .int .i64 0, .int .i64 0, .int .i64 0, .int .i64 0, .int .i64 0, .int .i64 0, .int .i64 0, .slice none 0 0, .slice none 0 0] 53)
 have HS2 := blk_lt H2
 replace H := alloc_keep H (Obj.cells #[.string ⟨#[]⟩, .int .i64 0, .int .i64 0, .int .i64 0, .slice none 0 0, .int .i64 0, .int .i64 0, .int .i64 0, .int .i64 0, .int .i64 0, .int .i64 0, .int .i64 0, .int .i64 0, .int .i64 0, .int .i64 0, .int .i64 0, .int .i64 0, .int .i64 0, .int .i64 0, .int .i64 0, .slice none 0 0, .slice none 0 0] 53)
 generalize hW2 : W.alloc (Obj.cells #[.string ⟨#[]⟩, .int .i64 0, .int .i64 0, .int .i64 0, .slice none 0 0, .int .i64 0, .int .i64 0, .int .i64 0, .int .i64 0, .int .i64 0, .int .i64 0, .int .i64 0, .int .i64 0, .int .i64 0, .int .i64 0, .int .i64 0, .int .i64 0, .int .i64 0, .int .i64 0, .int .i64 0, .slice none 0 0, .slice none 0 0] 53) = W2 at *
 clear hW2
 have eW : W.heap.size = w.heap.size + 1 := by rw [← hW]; simp
 rw [eW] at H2
 clear hW
 have hb2 := HB.trans (HB2.mono HB.size)
 have hs2 := HB2.size
 have LT1 := blk_lt H2
 have LT0 : w.heap.size < W2.heap.size := by omega
 have HH := Lib.hid H
 have HZ := Lib.hid H2
 have EW := Lib.hid eW
 clear H H2 eW
 have hb02 := hb2
 have LT02 := LT0
 have LT12 := LT1
 have HH2 := HH
 have HZ2 := HZ
 have c21 : W2.cell? ⟨w.heap.size, 21, none⟩ = some (.slice A n cc) := (blk_cell HH2.out 21).trans (by simpa using HV21.out)
 go_wp2_with fail
 refine (HIX.out W2 hb02).mono ?_
 rintro e w3 ⟨rfl, hb3⟩
 have hb03 := hb02.trans (hb3.mono hb02.size)
 have hs3 := hb3.size
 have LT03 := Nat.lt_of_lt_of_le LT02 hs3
 have LT13 := Nat.lt_of_lt_of_le LT12 hs3
 have HH3 := Lib.hid ((hb3.block _ LT02).trans HH2.out)
 have HZ3 := Lib.hid ((hb3.block _ LT12).trans HZ2.out)
 clear c21
 rcases idxK_cases ks c with ⟨hc1, hc2⟩ | ⟨k, hc0, hk, hc2⟩
 case inl =>
  have hRm : R = -1 := HR.out.symm.trans hc1
  subst hRm
  have HNC := Lib.hid hc2
  clear hc1 hc2
  go_wp2_with (first | (show wpList _ _ _ (Oper.mk (some 17) _ _ _ _ _ :: _) _ _; refine wpList_load_row_g rfl 53 (.tmp 3) rfl (w.heap.size) rfl _ _ _ _ HH3.out Tryz.underlying53 rfl HLI.out ?_) | (show wpList _ _ _ (Oper.mk none (Op.store _ (Operand.tmp 6) _) _ _ _ _ :: _) _ _; refine wpList_store_row rfl 53 (.tmp 6) (.tmp 17) rfl (w.heap.size + 1) ll.toArray rfl rfl 53 #[.string ⟨#[]⟩, .int .i64 0, .int .i64 0, .int .i64 0, .slice none 0 0, .int .i64 0, .int .i64 0, .int .i64 0, .int .i64 0, .int .i64 0, .int .i64 0, .int .i64 0, .int .i64 0, .int .i64 0, .int .i64 0, .int .i64 0, .int .i64 0, .int .i64 0, .int .i64 0, .int .i64 0, .slice none 0 0, .slice none 0 0] HZ3.out HLI.out (by simp [HLEN.out]) HLO.out ?_))
  refine bodyPost_ret (v := .tuple #[.agg ll.toArray, .int .i64 8]) (results_cell_tmp rfl _ _ (w.heap.size + 1) 53 _ (0, 0) _ rfl (heap_setRow HZ3.out _) Tryz.underlying53 rfl HLI.out _ rfl) rfl ?_
  have hfc : fl c = false := by
   cases h : fl c with
   | false => rfl
   | true => exact absurd ((HF.out.2 c).2 h) HNC.out
  have hb9 := below_setRow (g := w.heap.size + 1) hb03 (by omega) ll.toArray
  refine ⟨ll, ks, by unfold unlockE; rw [hfc]; rfl, .inl ⟨by unfold unlockE; rw [hfc]; decide, rfl, rfl⟩, ?_, HM.out.1, hb9⟩
  have h := remK_list HF.out c
  rwa [List.filter_eq_self.2 (fun a ha => by
   have hne : a ≠ c := fun e => HNC.out (by rw [← e]; exact ha)
   simpa using hne)] at h
 case inr =>
  obtain rfl : R = (k : Int) := HR.out.symm.trans hc0
  clear hc0
  have HCK := Lib.hid hc2
  have hkn : k < n := by rw [← HN.out]; exact hk
  obtain ⟨k1, hk1⟩ : ∃ q : Nat, k + 1 = q := ⟨_, rfl⟩
  have HK1 := Lib.hid (show k ≤ 100 ∧ n ≤ 100 from by have := HM.out; have := HN.out; omega)
  have HKE := Lib.hid hk1
  have HKI := Lib.hid (show (k : Int) + 1 = (k1 : Int) by omega)
  have HWR := Lib.hid (show IntKind.i64.wrap (k1 : Int) = (k1 : Int) by have := HK1.out; rw [IntKind.wrap_i64]; omega)
  obtain ⟨hncc, hr0, _⟩ := kl_cut (ks_keep (fun q hq => hq) HLS.out hb03) HN.out (Nat.le_of_lt hkn)
  obtain ⟨_, _, hr1⟩ := kl_cut (ks_keep (fun q hq => hq) HLS.out hb03) HN.out (show k1 ≤ n by omega)
  have HKN := Lib.hid (Nat.le_of_lt hkn)
  have HKC := Lib.hid (show k ≤ cc by omega)
  obtain ⟨A1, hA1⟩ : ∃ A1, (if cc = k1 then A else Option.map (fun x : Addr => x.add (k1 * 2)) A) = A1 := ⟨_, rfl⟩
  obtain ⟨m1, hm1⟩ : ∃ m1, n - k1 = m1 := ⟨_, rfl⟩
  obtain ⟨c1, hc1⟩ : ∃ m1, cc - k1 = m1 := ⟨_, rfl⟩
  have HQ := Lib.hid (show (if cc = k1 then A else Option.map (fun x : Addr => x.add (k1 * 2)) A) = A1 ∧ n - k1 = m1 ∧ cc - k1 = c1 ∧ k1 ≤ cc ∧ (k1 : Int) ≤ (n : Int) from ⟨hA1, hm1, hc1, by omega, by omega⟩)
  have HM1 := Lib.hid (show k + 1 + m1 = n by omega)
  rw [hA1, hm1] at hr1
  obtain ⟨F0, hF0⟩ : ∃ F, (ks.take k).flatMap kL = F := ⟨_, rfl⟩
  obtain ⟨F1, hF1⟩ : ∃ F, (ks.drop k1).flatMap kL = F := ⟨_, rfl⟩
  have HFF := Lib.hid (And.intro hF0 hF1)
  have HONE0 := Lib.hid (show ∀ u ∈ F0, u.oneCell' = true from hF0 ▸ kl_one _)
  have HONE1 := Lib.hid (show ∀ u ∈ F1, u.oneCell' = true from hF1 ▸ kl_one _)
  rw [hF0] at hr0
  rw [hF1] at hr1
  have HRD0 := Lib.hid hr0
  have HRD1 := Lib.hid hr1
  have HM1N := Lib.hid (show m1 ≤ 100 by have := HK1.out; omega)
  clear hk1 hkn hncc hr0 hr1 hA1 hm1 hc1 hF0 hF1 hc2
  go_upto_region 4 with fail
  generalize w3 = V at *
  have HC21 := Lib.hid (show V.cell? ⟨w.heap.size, 21, none⟩ = some (.slice A n cc) from (blk_cell HH3.out 21).trans (by simpa using HV21.out))
  have HLT := Lib.hid LT03
  refine wp_region_invW2 13 (Ks V [.own (MdL V.heap.size) (MdL.keep), .val (.pointer (some ⟨w.heap.size, 21, none⟩)), .val (.slice A n cc), .val (.int .i64 (k : Int)), .val (.slice A k cc), .own (RwL V.heap.size k F0) (RwL.keep), .val (.pointer (some ⟨w.heap.size, 21, none⟩)), .val (.slice A n cc), .val (.int .i64 (k : Int)), .val (.int .i64 (k1 : Int)), .val (.slice A1 m1 c1), .own (OwL V.heap.size (k + m1) (F0 ++ F1)) (OwL.keep), .val (.pointer (some ⟨w.heap.size, 21, none⟩))])
   (fun w' => Below V.heap.size V w') (by kernel_rfl) (by kernel_rfl) (by kernel_rfl) (by decide) (by kernel_rfl) (by kernel_rfl) (Below.refl _ _).drew ?_ ?_
  · refine ⟨?_, ?_, ?_, ?_, ?_, ?_, ?_, ?_, ?_, ?_, ?_, ?_, ?_, trivial⟩
    · intro _ A0 w2 hI hd hnd K hK; have hS := hI.world; refine wanted_go rfl ?_; clear hI hd hnd; go_simp
      exact hK.out _ _ (hS.alloc hS.size _) (Ks.of rfl ⟨_, rfl, hS.size, heap_alloc_new _ _⟩) (Ks.keepW (below1 w2 _))
    · intro _ A0 w2 hI hd hnd K hK; have e0 := hI.q hnd 3; have hS := hI.world; refine wanted_go rfl ?_; clear hI hd hnd; go_simp
      exact hK.out _ _ hS (Ks.of rfl rfl) (fun _ _ _ h => h)
    · intro _ A0 w2 hI hd hnd K hK; have e0 := hI.p hd 1 19; have hS := hI.world; have hcc : w2.cell? ⟨w.heap.size, 21, none⟩ = _ := (hS.cell (p := ⟨w.heap.size, 21, none⟩) HLT.out).trans HC21.out; refine wanted_go rfl ?_; clear hI hd hnd; go_simp
      exact hK.out _ _ hS (Ks.of rfl rfl) (fun _ _ _ h => h)
    · intro _ A0 w2 hI hd hnd K hK; have e0 := hI.q hnd 8; have hS := hI.world; refine wanted_go rfl ?_; clear hI hd hnd; go_simp
      exact hK.out _ _ hS (Ks.of rfl rfl) (fun _ _ _ h => h)
    · intro _ A0 w2 hI hd hnd K hK; have e0 := hI.p hd 2 20; have e1 := hI.p hd 3 21; have hS := hI.world
      have hkn := HKN.out
      have hkc := HKC.out
      refine wanted_go rfl ?_; clear hI hd hnd; go_simp
      exact hK.out _ _ hS (Ks.of rfl rfl) (fun _ _ _ h => h)
    · intro _ A0 w2 hI hd hnd K hK
      obtain ⟨x0, e0, h0⟩ := hI.dep hd 0 18 rfl rfl rfl (by kernel_rfl)
      have e1 := hI.p hd 4 22; have hS := hI.world
      obtain ⟨g5, rfl, hg1, hg2⟩ := h0
      refine wanted_go rfl ?_; clear hI hd hnd
      refine wp_app3 (w := w2) (.tmp 18) (.tmp 22) 51 rfl V.heap.size 99 ia _ 2 16 locks2_uty hia hzia hsia hbia rfl (by decide) (.slice (some ⟨g5, 0, none⟩) 0 0) 0 [] (by simpa [Act.eval, Array.getD_eq_getD_getElem?] using e0) (own_empty hg1 hg2) (· < V.heap.size) A k cc F0 (by simpa [Act.eval, Array.getD_eq_getD_getElem?] using e1) (HRD0.out.fr (Fr.ofBelow hS)) HONE0.out (by simp only [maxLen]; have := HK1.out; omega) (by have := HK1.out; omega) hS.size ?_
      intro v9 w9 hown9 _ hg9 hc9 hz9
      have hb9 : Below w2.heap.size w2 w9 := hc9.elim id (fun ⟨g, cap, e, h1, h2⟩ => by simp at e; omega)
      exact hK.out _ _ (hS.trans (hb9.mono hS.size)) (Ks.of rfl ⟨by simpa using hown9, fun hk0 => ⟨g5, hz9 hk0 ⟨g5, 0, rfl⟩⟩⟩) (Ks.keepW hb9)
    · intro _ A0 w2 hI hd hnd K hK; have e0 := hI.q hnd 3; have hS := hI.world; refine wanted_go rfl ?_; clear hI hd hnd; go_simp
      exact hK.out _ _ hS (Ks.of rfl rfl) (fun _ _ _ h => h)
    · intro _ A0 w2 hI hd hnd K hK; have e0 := hI.p hd 6 24; have hS := hI.world; have hcc : w2.cell? ⟨w.heap.size, 21, none⟩ = _ := (hS.cell (p := ⟨w.heap.size, 21, none⟩) HLT.out).trans HC21.out; refine wanted_go rfl ?_; clear hI hd hnd; go_simp
      exact hK.out _ _ hS (Ks.of rfl rfl) (fun _ _ _ h => h)
    · intro _ A0 w2 hI hd hnd K hK; have e0 := hI.q hnd 8; have hS := hI.world; refine wanted_go rfl ?_; clear hI hd hnd; go_simp
      exact hK.out _ _ hS (Ks.of rfl rfl) (fun _ _ _ h => h)
    · intro _ A0 w2 hI hd hnd K hK; have e0 := hI.p hd 8 26; have hS := hI.world
      have hk1 := HKI.out
      have hwr := HWR.out
      refine wanted_go rfl ?_; clear hI hd hnd; go_simp
      exact hK.out _ _ hS (Ks.of rfl rfl) (fun _ _ _ h => h)
    · intro _ A0 w2 hI hd hnd K hK; have e0 := hI.p hd 7 25; have e1 := hI.p hd 9 27; have hS := hI.world
      have hq1 := HQ.out
      obtain ⟨q1, q2, q3, q4, q5⟩ := hq1
      refine wanted_go rfl ?_; clear hI hd hnd; go_simp
      exact hK.out _ _ hS (Ks.of rfl rfl) (fun _ _ _ h => h)
    · intro _ A0 w2 hI hd hnd K hK
      obtain ⟨x0, e0, h0⟩ := hI.dep hd 5 23 rfl rfl rfl (by kernel_rfl)
      have e1 := hI.p hd 10 28; have hS := hI.world; refine wanted_go rfl ?_; clear hI hd hnd
      refine wp_app3 (w := w2) (.tmp 23) (.tmp 28) 51 rfl V.heap.size 99 ia _ 2 16 locks2_uty hia hzia hsia hbia rfl (by decide) x0 k F0 (by simpa [Act.eval, Array.getD_eq_getD_getElem?] using e0) h0.1 (· < V.heap.size) A1 m1 c1 F1 (by simpa [Act.eval, Array.getD_eq_getD_getElem?] using e1) (HRD1.out.fr (Fr.ofBelow hS)) HONE1.out (by simp only [maxLen]; have := HK1.out; have := HM1N.out; omega) (by have := HK1.out; have := HM1N.out; omega) hS.size ?_
      intro v9 w9 hown9 hold9 hg9 hc9 hz9
      have hb9 : Below V.heap.size V w9 := below_grown hS hg9 (fun q hq => (h0.1.lt _ hq).1) (Nat.le_refl _)
      exact hK.out _ _ hb9 (Ks.of rfl hown9) (by
       intro j u hj hV q hq
       rcases j with _ | _ | _ | _ | _ | _ | _ | _ | _ | _ | _ | _ | _ | _ | j
       all_goals first | (exact absurd rfl hj) | (cases hq; done) | (cases hq; first | exact hV _ rfl | exact MdL.app (hV _ rfl) h0.1 hg9 hc9 | exact RwL.app (hV _ rfl) h0.1 hold9 hg9 (Nat.le_refl _)))
    · intro _ A0 w2 hI hd hnd K hK; have e0 := hI.q hnd 3; have hS := hI.world; refine wanted_go rfl ?_; clear hI hd hnd; go_simp
      exact hK.out _ _ hS (Ks.of rfl rfl) (fun _ _ _ h => h)
  · intro f A0 w2 hI
    obtain ⟨x0, g0, h0⟩ := hI.got 0 _ 18 rfl rfl rfl
    obtain ⟨x1, g1, h1⟩ := hI.got 1 _ 19 rfl rfl rfl
    obtain ⟨x2, g2, h2⟩ := hI.got 2 _ 20 rfl rfl rfl
    obtain ⟨x3, g3, h3⟩ := hI.got 3 _ 21 rfl rfl rfl
    obtain ⟨x4, g4, h4⟩ := hI.got 4 _ 22 rfl rfl rfl
    obtain ⟨x5, g5, h5⟩ := hI.got 5 _ 23 rfl rfl rfl
    obtain ⟨x6, g6, h6⟩ := hI.got 6 _ 24 rfl rfl rfl
    obtain ⟨x7, g7, h7⟩ := hI.got 7 _ 25 rfl rfl rfl
    obtain ⟨x8, g8, h8⟩ := hI.got 8 _ 26 rfl rfl rfl
    obtain ⟨x9, g9, h9⟩ := hI.got 9 _ 27 rfl rfl rfl
    obtain ⟨x10, g10, h10⟩ := hI.got 10 _ 28 rfl rfl rfl
    obtain ⟨x11, g11, h11⟩ := hI.got 11 _ 29 rfl rfl rfl
    obtain ⟨x12, g12, h12⟩ := hI.got 12 _ 30 rfl rfl rfl
    have hS := hI.world
    have hA : A0 = _ := hI.tmps [(18, x0), (19, x1), (20, x2), (21, x3), (22, x4), (23, x5), (24, x6), (25, x7), (26, x8), (27, x9), (28, x10), (29, x11), (30, x12)] (by simp only [List.mem_cons, List.not_mem_nil, or_false, forall_eq_or_imp, forall_eq]; exact ⟨g0, g1, g2, g3, g4, g5, g6, g7, g8, g9, g10, g11, g12⟩) (by kernel_rfl)
    have k11 : (OwL V.heap.size (k + m1) (F0 ++ F1)) x11 w2 := h11 _ rfl
    obtain rfl : x12 = .pointer (some ⟨w.heap.size, 21, none⟩) := h12 _ rfl
    clear h0 g0 h1 g1 h2 g2 h3 g3 h4 g4 h5 g5 h6 g6 h7 g7 h8 g8 h9 g9 h10 g10 h11 g11 h12 g12 hI
    simp only [setAll, List.foldl, List.setIfInBounds_toArray, List.set_cons_zero, List.set_cons_succ] at hA
    rw [hA]
    clear hA
    have hown : w2.ownsRow V.heap.size 99 2 x11 (k + m1) (F0 ++ F1) := k11
    obtain ⟨A9, n9, c9, rfl⟩ := own_shape hown
    have HOW := Lib.hid hown
    clear hown k11
    show wpAny _ _ _ _ (f + 1) _ _ _
    refine wpAny_all (rs := [13]) (by kernel_rfl) (by simp) ?_
    intro i hi
    obtain rfl : i = 13 := by simpa using hi
    refine wpOp_step (o := _) rfl (fun K hK => ?_)
    refine wanted_go rfl ?_; have hcc : w2.cell? ⟨w.heap.size, 21, none⟩ = some (.slice A n cc) := (hS.cell (p := ⟨w.heap.size, 21, none⟩) HLT.out).trans HC21.out
    have hcf : w2.frozen? ⟨w.heap.size, 21, none⟩ = false := blk_frozen ((hS.block _ HLT.out).trans HH3.out) 21
    go_simp
    refine hK _ _ ?_
    refine wpAny_done (by kernel_rfl) ?_ _
    clear hK
    have hown := HOW.out
    obtain rfl : n9 = k + m1 := own_val hown
    have HCUT := Lib.hid (show ks.take k ++ ks.drop k1 = ks.filter (fun d => decide (d ≠ c)) by
     have h := cut_filter HF.out.1 hk
     rw [HCK.out, HKE.out] at h
     exact h)
    obtain ⟨FN, hFN⟩ : ∃ F, F0 ++ F1 = F := ⟨_, rfl⟩
    rw [hFN] at HOW
    have HFN := Lib.hid hFN
    have hkn2 := HN.out
    have hm1n := HM1.out
    obtain ⟨n9, hn9⟩ : ∃ q, k + m1 = q := ⟨_, rfl⟩
    rw [hn9] at HOW ⊢
    have HN9 := Lib.hid hn9
    clear hown hFN hn9 hkn2 hm1n
    obtain ⟨v9, hv9⟩ : ∃ v, Value.slice A9 n9 c9 = v := ⟨_, rfl⟩
    rw [hv9]
    have HOV := Lib.hid (show w2.ownsRow V.heap.size 99 2 v9 n9 FN from by rw [← hv9]; exact HOW.out)
    have HV9 := Lib.hid hv9
    have HG9 := Lib.hid (show (w2.setCell ⟨w.heap.size, 21, none⟩ v9).heap[w.heap.size]? = some (.cells (ll.set 21 v9).toArray 53 (0, 0)) from by
     have h := heap_setCell_same ((hS.block _ HLT.out).trans HH3.out) 21 v9
     rwa [show ll.toArray.setIfInBounds 21 v9 = (ll.set 21 v9).toArray from by simp] at h)
    have HZ9 := Lib.hid (show (w2.setCell ⟨w.heap.size, 21, none⟩ v9).heap[w.heap.size + 1]? = some (.cells #[.string ⟨#[]⟩, .int .i64 0, .int .i64 0, .int .i64 0, .slice none 0 0, .int .i64 0, .int .i64 0, .int .i64 0, .int .i64 0, .int .i64 0, .int .i64 0, .int .i64 0, .int .i64 0, .int .i64 0, .int .i64 0, .int .i64 0, .int .i64 0, .int .i64 0, .int .i64 0, .int .i64 0, .slice none 0 0, .slice none 0 0] 53 (0, 0)) from
     (Below.heap_setCell w2 ⟨w.heap.size, 21, none⟩ v9 (w.heap.size + 1) (by show w.heap.size + 1 ≠ w.heap.size; omega)).trans ((hS.block _ LT13).trans HZ3.out))
    have HB9 := Lib.hid (show Below w.heap.size w (w2.setCell ⟨w.heap.size, 21, none⟩ v9) from (hb03.trans (hS.mono hb03.size)).setCell (Nat.le_refl _) _)
    have HW9 := Lib.hid (show (w2.setCell ⟨w.heap.size, 21, none⟩ v9).ownsRow V.heap.size 99 2 v9 n9 FN from own_same HOV.out (fun q hq => Below.heap_setCell w2 ⟨w.heap.size, 21, none⟩ v9 q (by have := (HOV.out.lt q hq).1; have := HLT.out; show q ≠ w.heap.size; omega)))
    have HLI9 := Lib.hid (show (Tryz.prog.info? 53).map (·.size) = some (ll.set 21 v9).toArray.size by rw [info_locks]; simp [HLEN.out])
    have HL22 := Lib.hid (show (ll.set 21 v9).length = 22 by simp [HLEN.out])
    have HLO9 := Lib.hid (show (ll.set 21 v9).toArray.all (·.oneCell') = true by
     have h := HLO.out
     rw [List.all_toArray, List.all_eq_true] at h ⊢
     intro x hx
     rcases List.mem_or_eq_of_mem_set hx with hx | rfl
     · exact h x hx
     · rw [← HV9.out]; rfl)
    generalize (w2.setCell ⟨w.heap.size, 21, none⟩ v9) = W9 at *
    obtain ⟨L9, hL9⟩ : ∃ L, ll.set 21 v9 = L := ⟨_, rfl⟩
    rw [hL9] at HG9 HLI9 HLO9 HL22
    have HL9 := Lib.hid hL9
    clear hL9 hv9 hS
    go_wp2_with (first | (show wpList _ _ _ (Oper.mk (some 31) _ _ _ _ _ :: _) _ _; refine wpList_load_row_g rfl 53 (.tmp 3) rfl (w.heap.size) rfl _ _ _ _ HG9.out Tryz.underlying53 rfl HLI9.out ?_) | (show wpList _ _ _ (Oper.mk none (Op.store _ (Operand.tmp 6) _) _ _ _ _ :: _) _ _; refine wpList_store_row rfl 53 (.tmp 6) (.tmp 31) rfl (w.heap.size + 1) L9.toArray rfl rfl 53 #[.string ⟨#[]⟩, .int .i64 0, .int .i64 0, .int .i64 0, .slice none 0 0, .int .i64 0, .int .i64 0, .int .i64 0, .int .i64 0, .int .i64 0, .int .i64 0, .int .i64 0, .int .i64 0, .int .i64 0, .int .i64 0, .int .i64 0, .int .i64 0, .int .i64 0, .int .i64 0, .int .i64 0, .slice none 0 0, .slice none 0 0] HZ9.out HLI9.out (by simp [HL22.out]) HLO9.out ?_))
    refine bodyPost_ret (v := .tuple #[.agg L9.toArray, .int .i64 0]) (results_cell_tmp rfl _ _ (w.heap.size + 1) 53 _ (0, 0) _ rfl (heap_setRow HZ9.out _) Tryz.underlying53 rfl HLI9.out _ rfl) rfl ?_
    have hb10 := below_setRow (g := w.heap.size + 1) HB9.out (by omega) L9.toArray
    have hln : (ks.filter (fun d => decide (d ≠ c))).length = n9 := (by rw [← HCUT.out, ← HN9.out, List.length_append, List.length_take, List.length_drop]; have := HN.out; have := HM1.out; have := HKE.out; omega)
    have hown10 : (W9.setRow (w.heap.size + 1) L9.toArray).ownsRow V.heap.size 99 2 v9 (ks.filter (fun d => decide (d ≠ c))).length ((ks.filter (fun d => decide (d ≠ c))).flatMap kL) := by
     have h := own_same (w' := W9.setRow (w.heap.size + 1) L9.toArray) HW9.out (fun q hq => (fr_setRow W9 (w.heap.size + 1) L9.toArray).block q (by have := (HW9.out.lt q hq).1; have := LT13; show q ≠ w.heap.size + 1; omega))
     rw [hln, (show (ks.filter (fun d => decide (d ≠ c))).flatMap kL = FN by rw [← HCUT.out, List.flatMap_append, HFF.out.1, HFF.out.2, HFN.out])]
     exact h
    have hv : v9 = .slice A9 (ks.filter (fun d => decide (d ≠ c))).length c9 := by rw [hln, HV9.out]
    have hlc : ListC KC 2 (W9.setRow (w.heap.size + 1) L9.toArray) (fun q => w.heap.size ≤ q ∧ q < (W9.setRow (w.heap.size + 1) L9.toArray).heap.size) [.slice A9 (ks.filter (fun d => decide (d ≠ c))).length c9] (ks.filter (fun d => decide (d ≠ c))) := by
     have h := own_listC (El := KC) (f := kL) (Q := fun q => w.heap.size ≤ q ∧ q < (W9.setRow (w.heap.size + 1) L9.toArray).heap.size) (fun _ => rfl) hown10 (fun x hx => rfl) (fun q hq => ⟨Nat.le_trans (Nat.le_of_lt HLT.out) (hown10.lt q hq).1, (hown10.lt q hq).2⟩) (by rw [hln]; have := HN9.out; have := HM.out; have := HK1.out; have := HM1N.out; omega)
     rwa [hv] at h
    have hL9s : L9 = ll.set 21 (.slice A9 (ks.filter (fun d => decide (d ≠ c))).length c9) := by rw [← hv, HL9.out]
    have hfc : fl c = true := (HF.out.2 c).1 (by rw [← HCK.out]; exact List.getElem_mem hk)
    refine ⟨L9, _, by unfold unlockE; rw [hfc]; rfl, .inr ⟨by unfold unlockE; rw [hfc]; rfl, A9, c9, hL9s, hlc⟩, remK_list HF.out c, ?_, hb10⟩
    rw [hln]
    have := HN9.out; have := HM.out; have := HM1.out; have := HN.out
    omega
end Go.Proofs.YtekelchdbkjjjaaGreat
