/- The walk of the law on the reserve's postings. Written by gen_c5.py. -/
import Derived.Test.YtnigokmjehemaaaProg
import Derived.Test.YtnigokmjehemaaaC3Awake
namespace Go.Proofs.Ytnigokmjehemaaa
open Go Go.RowKit
set_option linter.unusedVariables false
set_option linter.unusedSimpArgs false
set_option maxRecDepth 4000
attribute [local go_sem ↓] Go.wp_at_zero Go.wp_at_succ
def sumP (l : List XPart) : Int := (l.map (·.amount)).sum
theorem sumP_succ {l : List XPart} {k : Nat} (hk : k < l.length) : sumP (l.take (k + 1)) = sumP (l.take k) + l[k].amount := by
  unfold sumP
  rw [List.take_add_one, List.getElem?_eq_getElem hk, List.map_append, List.sum_append]
  simp
/-- What a posting's parts are: none, or one with the reserve. -/
theorem post_parts (g : XGroup) (ent S : Int) : (postB g ent (-S)).1.parts = [] ∧ ((postB g ent (-S)).2 = 0 → S = 0) ∨ ∃ a, (postB g ent (-S)).1.parts = [⟨a, -S⟩] := by
  unfold postB
  split
  · exact Or.inl ⟨rfl, fun h => by cases h⟩
  · split
    · exact Or.inl ⟨rfl, fun h => by cases h⟩
    · split
      · exact Or.inl ⟨rfl, fun _ => by omega⟩
      · exact Or.inr ⟨_, rfl⟩
theorem post_law (g : XGroup) (ent S : Int) (hS : -337769972052787200 ≤ S ∧ S ≤ 337769972052787200) : (∀ k, -337769972052787200 ≤ S + sumP ((postB g ent (-S)).1.parts.take k) ∧ S + sumP ((postB g ent (-S)).1.parts.take k) ≤ 337769972052787200) ∧ ((postB g ent (-S)).2 = 0 → S + sumP (postB g ent (-S)).1.parts = 0) := by
  rcases post_parts g ent S with ⟨h, h0⟩ | ⟨a, h⟩
  · rw [h]
    refine ⟨fun k => ?_, fun he => ?_⟩
    · simp [sumP]; omega
    · have := h0 he; simp [sumP]; omega
  · rw [h]
    refine ⟨fun k => ?_, fun he => ?_⟩
    · cases k with
      | zero => simp [sumP]; omega
      | succ k => simp [sumP]; omega
    · simp [sumP]; omega
theorem part_lit {w : World} {Q : Nat → Prop} {cs : List Value} {x : XPart} (h : PartC w Q cs x) : cs = [.int .i64 x.account, .int .i64 x.amount] ∧ intBd x.account ∧ intBd x.amount := by
  obtain ⟨c0, c1, rfl, ⟨rfl, h0⟩, ⟨rfl, h1⟩⟩ := h
  exact ⟨rfl, h0, h1⟩
theorem few_n {g : XGroup} {cs : List Value} {w w2 : World} (hg : GroupC w (· < w.heap.size) cs g) (hsz : szG g) (hb : Below w.heap.size w w2) : Calls Try.prog 18 #[.agg cs.toArray] w2 (If (fewG g) w2) := few_c g cs w2 (hg.keep hb) hsz
set_option maxHeartbeats 4000000 in
theorem law_posting (g : XGroup) (cs : List Value) (ent : Int) (l : List XItem) (Al : Option Addr) (cl : Nat) (w : World) (hg : GroupC w (· < w.heap.size) cs g) (hsz : szG g) (hent : intBd ent) (hl : ListC ItemC 7 w (· < w.heap.size) [.slice Al l.length cl] l) : Calls Try.prog 3 #[.agg cs.toArray, .int .i64 ent, .slice Al l.length cl] w (Quiet w (.bool true)) := by
  have HF := Lib.hid (fun (w2 : World) (hb : Below w.heap.size w w2) => few_n hg hsz hb)
  have HSM := Lib.hid (fun (w2 : World) (hb : Below w.heap.size w w2) => small_c l Al cl w2 (items_keep hl hb))
  have HPO := Lib.hid (fun (w2 : World) (hb : Below w.heap.size w w2) (hf : fewG g) (hs : smallI l) => posting_c g cs ent l Al cl w2 (hg.keep hb) hf.small hent (items_keep hl hb) hs)
  have HRP := Lib.hid (fun (w2 : World) (hb : Below w.heap.size w w2) (hf : fewG g) (hs : smallI l) => rPosting_c g cs ent l Al cl w2 (hg.keep hb) hf.small hent (items_keep hl hb) hs)
  have HAM := Lib.hid (fun (w2 : World) (hb : Below w.heap.size w w2) (hs : smallI l) => amount_c l Al cl w2 (items_keep hl hb) hs)
  have HRA := Lib.hid (fun (w2 : World) (hb : Below w.heap.size w w2) (hs : smallI l) => rAmount_c l Al cl w2 (items_keep hl hb) hs)
  have HSU := Lib.hid (fun (w2 : World) (hb : Below w.heap.size w w2) (hs : smallI l) => sum_c l Al cl w2 (items_keep hl hb) hs)
  have HBD := Lib.hid (fun (hs : smallI l) => show -337769972052787200 ≤ sumI l ∧ sumI l ≤ 337769972052787200 by
    have h := sumI_bd hs l.length (Nat.le_refl _)
    rw [List.take_length] at h
    have h300 := hs.2
    omega)
  have HPL := Lib.hid (fun (hs : smallI l) => post_law g ent (sumI l) (HBD.out hs))
  obtain ⟨nl, hnl⟩ : ∃ n, l.length = n := ⟨_, rfl⟩
  obtain ⟨S, hS⟩ : ∃ S, sumI l = S := ⟨_, rfl⟩
  obtain ⟨N, hN⟩ : ∃ N, -S = N := ⟨_, rfl⟩
  have hgl := hg.len
  rw [hnl] at HSM HPO HRP HAM HRA HSU ⊢
  rw [hS, hN] at HPO HRP HAM HRA HPL
  rw [hS] at HSU HBD
  obtain ⟨P, hP⟩ : ∃ P, postB g ent N = P := ⟨_, rfl⟩
  rw [hP] at HPO HRP HPL
  obtain ⟨⟨pk, pe, po, pr, ps⟩, er⟩ := P
  obtain ⟨n, hn⟩ : ∃ n, ps.length = n := ⟨_, rfl⟩
  have HN := Lib.hid hn
  have HGL := Lib.hid hgl
  obtain ⟨G, hG⟩ : ∃ G, cs.toArray = G := ⟨_, rfl⟩
  have hGs : G.size = 21 := by rw [← hG]; simpa using hgl
  have HGS := Lib.hid hGs
  rw [hG] at HF HPO HRP ⊢
  obtain ⟨smI, hsmI⟩ : ∃ p : Prop, smallI l = p := ⟨_, rfl⟩
  obtain ⟨fw, hfw⟩ : ∃ p : Prop, fewG g = p := ⟨_, rfl⟩
  rw [hsmI] at HSM HPO HRP HAM HRA HSU HBD HPL
  rw [hfw] at HF HPO HRP
  clear hg hl hsz hent hnl hS hN hP hn hgl hG hGs hsmI hfw
  go_enter Try.func3, Try.ntmps3
  go_upto_region 1 with fail
  have H := heap_alloc_new w (.cells G 29)
  have HB := below1 w (.cells G 29)
  have HS : w.heap.size < (w.alloc (.cells G 29)).heap.size := blk_lt H
  generalize hW : w.alloc (Obj.cells G 29) = W at *
  clear hW
  have HG := Lib.hid H
  clear H
  go_wp2_with fail
  refine (awake_c W).mono ?_
  rintro e w1 ⟨rfl, hb1⟩
  have hb01 := HB.trans (hb1.mono HB.size)
  have hs1 := hb1.size
  have HG1 := Lib.hid ((hb1.block _ (by omega)).trans HG.out)
  go_wp2_with fail
  refine (HSM.out w1 hb01).mono ?_
  rintro e w2 ⟨bs, rfl, hs, hb2⟩
  have hb02 := hb01.trans (hb2.mono hb01.size)
  have hs2 := hb2.size
  have HG2 := Lib.hid ((hb2.block _ (by omega)).trans HG1.out)
  cases bs with
  | false =>
    clear hs
    go_wp2_with fail
    go_ret
    exact ⟨rfl, hb02⟩
  | true =>
  have HSI := hs rfl
  clear hs
  go_wp2_with (show wpList _ _ _ (Oper.mk (some 19) _ _ _ _ _ :: _) _ _; refine wpList_load_row_g rfl 29 (.tmp 3) rfl w.heap.size rfl _ _ _ _ HG2.out Try.underlying29 rfl (by rw [info_group]; exact congrArg some HGS.out.symm) ?_)
  refine (HF.out w2 hb02).mono ?_
  rintro e w3 ⟨bf, rfl, hf, hb3⟩
  have hb03 := hb02.trans (hb3.mono hb02.size)
  have hs3 := hb3.size
  have HG3 := Lib.hid ((hb3.block _ (by omega)).trans HG2.out)
  cases bf with
  | false =>
    clear hf
    go_wp2_with fail
    go_ret
    exact ⟨rfl, hb03⟩
  | true =>
  have HFW := hf rfl
  clear hf
  go_wp2_with (show wpList _ _ _ (Oper.mk (some 24) _ _ _ _ _ :: _) _ _; refine wpList_load_row_g rfl 29 (.tmp 3) rfl w.heap.size rfl _ _ _ _ HG3.out Try.underlying29 rfl (by rw [info_group]; exact congrArg some HGS.out.symm) ?_)
  refine (HPO.out w3 hb03 HFW HSI).mono ?_
  rintro e w4 ⟨A4, c4, he, hl4, hb4⟩
  simp only at he hl4
  rw [HN.out] at he hl4
  subst he
  have hb04 := hb03.trans (hb4.mono hb03.size)
  have hs4 := hb4.size
  have HG4 := Lib.hid ((hb4.block _ (by omega)).trans HG3.out)
  have HL4 := Lib.hid hl4
  clear hl4
  go_upto_region 6 with (show wpList _ _ _ (Oper.mk none (Op.store _ (Operand.tmp 7) _) _ _ _ _ :: _) _ _; refine wpList_store_fresh3 rfl 36 (.tmp 7) (.tmp 28) rfl rfl w4 #[.int .i64 0, .int .i64 0, .int .i64 0, .int .i64 0, .slice none 0 0] 36 #[.int .i64 pk, .int .i64 pe, .int .i64 po, .int .i64 pr, .slice A4 n c4] rfl rfl rfl info_post rfl (by simp [Value.oneCell']) ?_; intro W5 HW5 HBW5 HSW5)
  have hb05 := hb04.trans (HBW5.mono hb04.size)
  have HG5 := Lib.hid ((HBW5.block _ (by omega)).trans HG4.out)
  have H5 := Lib.hid HW5
  clear HW5
  go_wp2_with (show wpList _ _ _ (Oper.mk (some 31) _ _ _ _ _ :: _) _ _; refine wpList_load_row_g rfl 29 (.tmp 3) rfl w.heap.size rfl _ _ _ _ HG5.out Try.underlying29 rfl (by rw [info_group]; exact congrArg some HGS.out.symm) ?_)
  refine (HRP.out W5 hb05 HFW HSI).mono ?_
  rintro e w6 ⟨A6, c6, he, hl6, hb6⟩
  simp only at he hl6
  rw [HN.out] at he hl6
  subst he
  have hb06 := hb05.trans (hb6.mono hb05.size)
  have hs6 := hb6.size
  have HL6 := Lib.hid hl6
  clear hl6
  have H6 := Lib.hid ((hb6.block _ (blk_lt H5.out)).trans H5.out)
  go_upto_region 7 with (show wpList _ _ _ (Oper.mk none (Op.store _ (Operand.tmp 9) _) _ _ _ _ :: _) _ _; refine wpList_store_fresh3 rfl 36 (.tmp 9) (.tmp 35) rfl rfl w6 #[.int .i64 0, .int .i64 0, .int .i64 0, .int .i64 0, .slice none 0 0] 36 #[.int .i64 pk, .int .i64 pe, .int .i64 po, .int .i64 pr, .slice A6 n c6] rfl rfl rfl info_post rfl (by simp [Value.oneCell']) ?_; intro W7 HW7 HBW7 HSW7)
  have hb07 := hb06.trans (HBW7.mono hb06.size)
  have h46 : w4.heap.size < w6.heap.size := Nat.lt_of_lt_of_le HSW5 hs6
  have H7 := Lib.hid ((HBW7.block _ h46).trans H6.out)
  have H9 := Lib.hid HW7
  clear HW7
  have c0 := blk_cell H7.out 0
  have c1 := blk_cell H7.out 1
  have c2 := blk_cell H7.out 2
  have c3 := blk_cell H7.out 3
  have c4' := blk_cell H7.out 4
  have e0 := blk_cell H9.out 0
  have e1 := blk_cell H9.out 1
  have e2 := blk_cell H9.out 2
  have e3 := blk_cell H9.out 3
  have e4 := blk_cell H9.out 4
  go_wp2_with fail
  refine (HAM.out W7 hb07 HSI).mono ?_
  rintro e w8 ⟨rfl, hb8⟩
  have hb08 := hb07.trans (hb8.mono hb07.size)
  have hs8 := hb8.size
  go_wp2_with fail
  refine (HRA.out w8 hb08 HSI).mono ?_
  rintro e w9 ⟨rfl, hb9⟩
  have hb09 := hb08.trans (hb9.mono hb08.size)
  have hs9 := hb9.size
  clear c0 c1 c2 c3 c4' e0 e1 e2 e3 e4
  go_wp2_with fail
  refine (HSU.out w9 hb09 HSI).mono ?_
  rintro e w10 ⟨rfl, hb10⟩
  have hb010 := hb09.trans (hb10.mono hb09.size)
  have hs10 := hb10.size
  go_wp2_with fail
  have hs7 := HBW7.size
  have q8 : w6.heap.size < w8.heap.size := Nat.lt_of_lt_of_le HSW7 hs8
  have q9 : w6.heap.size < w9.heap.size := Nat.lt_of_lt_of_le q8 hs9
  have q10 : w6.heap.size < w10.heap.size := Nat.lt_of_lt_of_le q9 hs10
  have K9 := Lib.hid ((hb10.block _ q9).trans ((hb9.block _ q8).trans ((hb8.block _ HSW7).trans H9.out)))
  have K7 := Lib.hid ((hb10.block _ (Nat.lt_trans h46 q9)).trans ((hb9.block _ (Nat.lt_trans h46 q8)).trans ((hb8.block _ (Nat.lt_trans h46 HSW7)).trans H7.out)))
  have t7 := HBW7.trans (hb8.mono hs7)
  have t8 := t7.trans (hb9.mono t7.size)
  have t9 := t8.trans (hb10.mono t8.size)
  have t5 := HBW5.trans (hb6.mono HBW5.size)
  have t4 := t5.trans (t9.mono t5.size)
  have L4 := Lib.hid ((HL4.out.fr (fun h => PartC.fr h (Fr.ofBelow (t4.mono (Nat.le_refl _)) |>.mono (fun k hk => hk.2))) (Fr.ofBelow t4 |>.mono (fun k hk => hk.2))).mono (fun h => PartC.mono h (fun k hk => show k < w10.heap.size by have := t4.size; omega)) (fun k hk => show k < w10.heap.size by have := t4.size; omega))
  have L6 := Lib.hid ((HL6.out.fr (fun h => PartC.fr h (Fr.ofBelow t9 |>.mono (fun k hk => hk.2))) (Fr.ofBelow t9 |>.mono (fun k hk => hk.2))).mono (fun h => PartC.mono h (fun k hk => show k < w10.heap.size by have := t9.size; omega)) (fun k hk => show k < w10.heap.size by have := t9.size; omega))
  have hnb : n ≤ 9223372036854775807 := by have h := HL4.out.cap; rw [HN.out] at h; unfold maxLen at h; omega
  have hp4 : w4.heap.size < w10.heap.size := Nat.lt_trans h46 q10
  clear HL4 HL6 t7 t8 t9 t5 t4
  clear H7 H9 H5 H6 HG HG1 HG2 HG3 HG4 HG5 HPO HRP HAM HRA HSU HF HSM
  go_loopw [11, 12] (fun sm i wr => ∃ k : Nat, k ≤ n ∧ sm = .int .i64 (S + sumP (ps.take k)) ∧ i = .int .i64 (k : Int) ∧ Below w10.heap.size w10 wr) (fun _ i _ => n - (intOf i).toNat)
  case atStart => exact ⟨0, by omega, by simp [sumP], rfl, Below.refl _ _⟩
  case round =>
    obtain ⟨k, hk, rfl, rfl, hb⟩ := hrel
    have d7 := blk_cell ((hb.block _ hp4).trans K7.out) 4
    have d9 := blk_cell ((hb.block _ q10).trans K9.out) 4
    by_cases hlt : k < n
    case pos =>
      have hltI : (k : Int) < (n : Int) := by omega
      have hkl : k < ps.length := by rw [HN.out]; exact hlt
      obtain ⟨b4, o4, es4, hA4, _, hes4, hat4⟩ := ListC.get L4.out k hkl
      obtain ⟨b6, o6, es6, hA6, _, hes6, hat6⟩ := ListC.get L6.out k hkl
      subst hA4 hA6
      obtain ⟨hl4, _⟩ := part_lit hes4
      obtain ⟨hl6, _⟩ := part_lit hes6
      subst hl4 hl6
      have HSC := Lib.hid (sumP_succ hkl)
      have hB1 := (HPL.out HSI).1 k
      have hB2 := (HPL.out HSI).1 (k + 1)
      rw [HSC.out] at hB2
      obtain ⟨x, hx⟩ : ∃ x, ps[k] = x := ⟨_, rfl⟩
      rw [hx] at hat4 hat6 hB2
      have HX := Lib.hid hx
      obtain ⟨SS, hSS⟩ : ∃ s, sumP (ps.take k) = s := ⟨_, rfl⟩
      rw [hSS] at hB1 hB2 ⊢
      have HSS := Lib.hid hSS
      have AT4 := Lib.hid ((hat4.fr (Fr.ofBelow hb)).mono (fun k (hk : k < w10.heap.size) => show k < wr.heap.size by have := hb.size; omega))
      have AT6 := Lib.hid ((hat6.fr (Fr.ofBelow hb)).mono (fun k (hk : k < w10.heap.size) => show k < wr.heap.size by have := hb.size; omega))
      have HV4 := Lib.hid (show w4.heap.size < wr.heap.size by have := hb.size; omega)
      have HV6 := Lib.hid (show w6.heap.size < wr.heap.size by have := hb.size; omega)
      have D7 := Lib.hid d7
      have D9 := Lib.hid d9
      have a4 := (hat4.fr (Fr.ofBelow hb)).c (j := 1) rfl
      clear hes4 hes6 hat4 hat6 hx hSS
      obtain ⟨xa, xm⟩ := x
      simp only at AT4 AT6 a4 hB2
      obtain ⟨hB3, hB4⟩ := hB2
      obtain ⟨hB5, hB6⟩ := hB1
      go_wp2_with fail
      refine wp_region_inv (Ks wr [.val (.pointer (some ⟨w4.heap.size, 4, none⟩)), .val (.slice (some ⟨b4, o4, none⟩) n c4), .val (.int .i64 (k : Int)), .val (.pointer (some ⟨b4, o4 + k * 2, none⟩)), .val (.agg #[.int .i64 xa, .int .i64 xm]), .val (.pointer (some ⟨w6.heap.size, 4, none⟩)), .val (.slice (some ⟨b6, o6, none⟩) n c6), .val (.int .i64 (k : Int)), .val (.pointer (some ⟨b6, o6 + k * 2, none⟩)), .val (.agg #[.int .i64 xa, .int .i64 xm]), .val (.bool false)])
        (fun w' => Below wr.heap.size wr w') (by kernel_rfl) (by kernel_rfl) (by kernel_rfl) (Below.refl _ _).drew ?_ ?_
      · refine ⟨?_, ?_, ?_, ?_, ?_, ?_, ?_, ?_, ?_, ?_, ?_, trivial⟩
        · intro listed A0 w2 hI hd hnd K hK
          have e0 := hI.slot hnd 7 _ rfl (by kernel_rfl)
          have hS := hI.world
          refine wanted_go rfl ?_
          clear hI hd hnd
          go_simp
          exact hK.out _ _ hS (Ks.of rfl rfl) (fun _ _ h => h)
        · intro listed A0 w2 hI hd hnd K hK
          have e0 := hI.depv hd 0 93 _ rfl rfl rfl (by kernel_rfl)
          have hS := hI.world
          have hcc : w2.cell? ⟨w4.heap.size, 4, none⟩ = _ := (hS.cell (p := ⟨w4.heap.size, 4, none⟩) HV4.out).trans D7.out
          refine wanted_go rfl ?_
          clear hI hd hnd
          go_simp
          exact hK.out _ _ hS (Ks.of rfl rfl) (fun _ _ h => h)
        · intro listed A0 w2 hI hd hnd K hK
          have e0 := hI.slot hnd 12 _ rfl (by kernel_rfl)
          have hS := hI.world
          refine wanted_go rfl ?_
          clear hI hd hnd
          go_simp
          exact hK.out _ _ hS (Ks.of rfl rfl) (fun _ _ h => h)
        · intro listed A0 w2 hI hd hnd K hK
          have e0 := hI.depv hd 1 94 _ rfl rfl rfl (by kernel_rfl)
          have e1 := hI.depv hd 2 95 _ rfl rfl rfl (by kernel_rfl)
          have hS := hI.world
          refine wanted_go rfl ?_
          clear hI hd hnd
          go_simp
          exact hK.out _ _ hS (Ks.of rfl rfl) (fun _ _ h => h)
        · intro listed A0 w2 hI hd hnd K hK
          have e0 := hI.depv hd 3 96 _ rfl rfl rfl (by kernel_rfl)
          have hS := hI.world
          have hrange : w2.rangeAt b4 (o4 + k * 2) [.int .i64 xa, .int .i64 xm] := (AT4.out.fr (Fr.ofBelow hS)).range
          have hisize := info_part
          refine wanted_go rfl ?_
          clear hI hd hnd
          refine wp_load_mid 42 (.tmp 96) rfl _ _ (by simpa [Act.eval, Array.getD_eq_getD_getElem?] using e0) _ _ hrange Try.underlying42 rfl hisize ?_
          exact hK.out _ _ hS (Ks.of rfl rfl) (fun _ _ h => h)
        · intro listed A0 w2 hI hd hnd K hK
          have e0 := hI.slot hnd 9 _ rfl (by kernel_rfl)
          have hS := hI.world
          refine wanted_go rfl ?_
          clear hI hd hnd
          go_simp
          exact hK.out _ _ hS (Ks.of rfl rfl) (fun _ _ h => h)
        · intro listed A0 w2 hI hd hnd K hK
          have e0 := hI.depv hd 5 98 _ rfl rfl rfl (by kernel_rfl)
          have hS := hI.world
          have hcc : w2.cell? ⟨w6.heap.size, 4, none⟩ = _ := (hS.cell (p := ⟨w6.heap.size, 4, none⟩) HV6.out).trans D9.out
          refine wanted_go rfl ?_
          clear hI hd hnd
          go_simp
          exact hK.out _ _ hS (Ks.of rfl rfl) (fun _ _ h => h)
        · intro listed A0 w2 hI hd hnd K hK
          have e0 := hI.slot hnd 12 _ rfl (by kernel_rfl)
          have hS := hI.world
          refine wanted_go rfl ?_
          clear hI hd hnd
          go_simp
          exact hK.out _ _ hS (Ks.of rfl rfl) (fun _ _ h => h)
        · intro listed A0 w2 hI hd hnd K hK
          have e0 := hI.depv hd 6 99 _ rfl rfl rfl (by kernel_rfl)
          have e1 := hI.depv hd 7 100 _ rfl rfl rfl (by kernel_rfl)
          have hS := hI.world
          refine wanted_go rfl ?_
          clear hI hd hnd
          go_simp
          exact hK.out _ _ hS (Ks.of rfl rfl) (fun _ _ h => h)
        · intro listed A0 w2 hI hd hnd K hK
          have e0 := hI.depv hd 8 101 _ rfl rfl rfl (by kernel_rfl)
          have hS := hI.world
          have hrange : w2.rangeAt b6 (o6 + k * 2) [.int .i64 xa, .int .i64 xm] := (AT6.out.fr (Fr.ofBelow hS)).range
          have hisize := info_part
          refine wanted_go rfl ?_
          clear hI hd hnd
          refine wp_load_mid 42 (.tmp 101) rfl _ _ (by simpa [Act.eval, Array.getD_eq_getD_getElem?] using e0) _ _ hrange Try.underlying42 rfl hisize ?_
          exact hK.out _ _ hS (Ks.of rfl rfl) (fun _ _ h => h)
        · intro listed A0 w2 hI hd hnd K hK
          have e0 := hI.depv hd 4 97 _ rfl rfl rfl (by kernel_rfl)
          have e1 := hI.depv hd 9 102 _ rfl rfl rfl (by kernel_rfl)
          have hS := hI.world
          refine wanted_go rfl ?_
          clear hI hd hnd
          go_simp
          exact hK.out _ _ hS (Ks.of rfl rfl) (fun _ _ h => h)
      · intro listed A0 w2 hI hall
        obtain ⟨x0, g0, h0⟩ := hI.got 0 _ 93 rfl rfl (hall 0 (by decide))
        obtain ⟨x1, g1, h1⟩ := hI.got 1 _ 94 rfl rfl (hall 1 (by decide))
        obtain ⟨x2, g2, h2⟩ := hI.got 2 _ 95 rfl rfl (hall 2 (by decide))
        obtain ⟨x3, g3, h3⟩ := hI.got 3 _ 96 rfl rfl (hall 3 (by decide))
        obtain ⟨x4, g4, h4⟩ := hI.got 4 _ 97 rfl rfl (hall 4 (by decide))
        obtain ⟨x5, g5, h5⟩ := hI.got 5 _ 98 rfl rfl (hall 5 (by decide))
        obtain ⟨x6, g6, h6⟩ := hI.got 6 _ 99 rfl rfl (hall 6 (by decide))
        obtain ⟨x7, g7, h7⟩ := hI.got 7 _ 100 rfl rfl (hall 7 (by decide))
        obtain ⟨x8, g8, h8⟩ := hI.got 8 _ 101 rfl rfl (hall 8 (by decide))
        obtain ⟨x9, g9, h9⟩ := hI.got 9 _ 102 rfl rfl (hall 9 (by decide))
        obtain ⟨x10, g10, h10⟩ := hI.got 10 _ 103 rfl rfl (hall 10 (by decide))
        have hS := hI.world
        have hA : A0 = _ := hI.tmps [(93, x0), (94, x1), (95, x2), (96, x3), (97, x4), (98, x5), (99, x6), (100, x7), (101, x8), (102, x9), (103, x10)] (by simp only [List.mem_cons, List.not_mem_nil, or_false, forall_eq_or_imp, forall_eq]; exact ⟨g0, g1, g2, g3, g4, g5, g6, g7, g8, g9, g10⟩) (by kernel_rfl)
        obtain rfl : x10 = .bool false := h10 _ rfl
        clear h0 g0 h1 g1 h2 g2 h3 g3 h4 g4 h5 g5 h6 g6 h7 g7 h8 g8 h9 g9 h10 g10 hI hall
        simp only [setAll, List.foldl, List.setIfInBounds_toArray, List.set_cons_zero, List.set_cons_succ] at hA
        rw [hA]
        clear hA
        have hb2 := hb.trans (hS.mono hb.size)
        have f7 := (hS.cell (p := ⟨w4.heap.size, 4, none⟩) HV4.out).trans D7.out
        have g4 := (AT4.out.fr (Fr.ofBelow hS)).c (j := 1) rfl
        clear hS d7 d9 a4
        go_wp2_with fail
        go_roundw
        case rel => exact ⟨k + 1, by omega, by rw [HSC.out, HX.out, HSS.out, ← Int.add_assoc], by go_num, hb2⟩
        case measure => first | exact meas_v hlt | (simp only [intOf]; omega)
    case neg =>
      have hltI : ¬ (k : Int) < (n : Int) := by omega
      have hkn : k = n := by omega
      have HE := Lib.hid (show er = 0 → S + sumP (ps.take k) = 0 by rw [hkn, ← HN.out, List.take_length]; exact (HPL.out HSI).2)
      clear hkn d9
      obtain ⟨F, hF⟩ : ∃ F, S + sumP (ps.take k) = F := ⟨_, rfl⟩
      rw [hF] at HE ⊢
      clear hF
      by_cases he : er = 0
      case pos =>
        have hz := HE.out he
        subst he hz
        go_wp2_with fail
        go_ret
        exact ⟨rfl, hb010.trans (hb.mono hb010.size)⟩
      case neg =>
        go_wp2_with fail
        go_ret
        exact ⟨rfl, hb010.trans (hb.mono hb010.size)⟩
end Go.Proofs.Ytnigokmjehemaaa
