/- The walk of CodecCut. Written by gen_q2.py. -/
import Derived.Test.YtgdibeegheddmaaZPa
import Derived.Test.YtgdibeegheddmaaZK5Books
import Derived.Test.YtgdibeegheddmaaZIb
namespace Go.Proofs.Ytgdibeegheddmaa
open Go Go.RowKit
set_option linter.unusedVariables false
set_option linter.unusedSimpArgs false
attribute [local go_sem ↓] Go.wp_at_zero Go.wp_at_succ
theorem event_len {x : XEvent} {R : List UInt8} (hp : parseEv R = some x) : 0 < R.length := by
  obtain ⟨h1, _⟩ := parseEv_some hp
  rw [h1]
  unfold encEv
  have := enc_pos x.kind
  simp only [List.length_append]
  omega
theorem zsizeB {w : World} {Q : Nat → Prop} {cs : List Value} {x : XBooks} (h : BooksC w Q cs x) : zBk.toArray.size = cs.toArray.size := by
  rw [List.size_toArray, List.size_toArray, h.len]; rfl
theorem books_len {x : XBooks} {R : List UInt8} (hp : parseBks R = some x) : 0 < R.length := by
  obtain ⟨h1, _⟩ := parseBks_some hp
  rw [h1]
  unfold encBooks encGroup
  have := encS_pos x.group.currency
  simp only [List.length_append]
  omega
set_option maxHeartbeats 4000000 in
set_option maxRecDepth 100000 in
theorem cut_big (x : XEvent) (y : XBooks) (cx cy : List Value) (n : Int) (w : World) (hx : EventC w (· < w.heap.size) cx x) (hy : BooksC w (· < w.heap.size) cy y) (hn0 : 0 ≤ n) (hn1 : n ≤ 65535) (hfx : fewB x = false) :
    Calls Try.prog 10 #[.agg cx.toArray, .agg cy.toArray, .int .u16 n] w fun e w' => e = .returned (.bool true) ∧ Below w.heap.size w w' := by
  have HFX := Lib.hid hfx
  clear hfx
  have HX := Lib.hid hx
  have HY := Lib.hid hy
  have HCX := Lib.hid (size45 hx.len)
  have HCY := Lib.hid (size67 hy.len)
  clear hx hy
  go_enter Try.func10, Try.ntmps10
  go_upto_region 1 with fail
  have h2 := heap2 w (.cells cx.toArray 45) (.cells cy.toArray 67)
  generalize hW : (w.alloc (Obj.cells cx.toArray 45)).alloc (Obj.cells cy.toArray 67) = V at *
  obtain ⟨H0, H1, HS, HF⟩ := h2
  have hbV : Below w.heap.size w V := HF.below
  have hVs : w.heap.size + 1 < V.heap.size := by omega
  clear hW HF HS
  have HH0 := Lib.hid H0
  have HH1 := Lib.hid H1
  have VX := Lib.hid (HX.out.keep hbV)
  have VY := Lib.hid (HY.out.keep hbV)
  clear H0 H1
  go_wp2_with fail
  refine (awake_c V).mono ?_
  rintro e V1 ⟨rfl, hb1⟩
  have G0 := Lib.hid ((hb1.block w.heap.size (by omega)).trans HH0.out)
  have G1 := Lib.hid ((hb1.block (w.heap.size + 1) (by omega)).trans HH1.out)
  go_wp2_with (refine wpList_load_row rfl 45 (.tmp 3) rfl (w.heap.size) rfl 45 cx.toArray (0, 0) _ G0.out Try.underlying45 rfl HCX.out ?_)
  refine (rFew_c x cx V1 (VX.out.keep hb1)).mono ?_
  rintro e V2 ⟨rfl, hb2⟩
  rw [HFX.out]
  go_wp2_with fail
  go_ret
  exact ⟨rfl, hbV.trans ((hb1.trans (hb2.mono hb1.size)).mono hbV.size)⟩
set_option maxHeartbeats 4000000 in
set_option maxRecDepth 100000 in
theorem cut_ok (x : XEvent) (y : XBooks) (cx cy : List Value) (n : Int) (w : World) (hx : EventC w (· < w.heap.size) cx x) (hy : BooksC w (· < w.heap.size) cy y) (hn0 : 0 ≤ n) (hn1 : n ≤ 65535) (hfx0 : fewB x = true) (R1 : List UInt8) (hr : eventR x = (R1, 0)) :
    Calls Try.prog 10 #[.agg cx.toArray, .agg cy.toArray, .int .u16 n] w fun e w' => e = .returned (.bool true) ∧ Below w.heap.size w w' := by
  have HFX := Lib.hid hfx0
  have HR := Lib.hid hr
  have hfx := fewB_few hfx0
  have hLx1 : (encAll x).length + 100 ≤ Lim := by have := hfx.lenAll; unfold Lim; omega
  have hLe : (encEv x).length ≤ Lim := by have := hfx.lenEv; unfold Lim; omega
  have okx := Lib.hid (hx.ok hfx)
  clear hfx0 hr
  have HX := Lib.hid hx
  have HY := Lib.hid hy
  have HCX := Lib.hid (size45 hx.len)
  have HCY := Lib.hid (size67 hy.len)
  clear hx hy
  go_enter Try.func10, Try.ntmps10
  go_upto_region 1 with fail
  have h2 := heap2 w (.cells cx.toArray 45) (.cells cy.toArray 67)
  generalize hW : (w.alloc (Obj.cells cx.toArray 45)).alloc (Obj.cells cy.toArray 67) = V at *
  obtain ⟨H0, H1, HS, HF⟩ := h2
  have hbV : Below w.heap.size w V := HF.below
  have hVs : w.heap.size + 1 < V.heap.size := by omega
  clear hW HF HS
  have HH0 := Lib.hid H0
  have HH1 := Lib.hid H1
  have VX := Lib.hid (HX.out.keep hbV)
  have VY := Lib.hid (HY.out.keep hbV)
  clear H0 H1
  go_wp2_with fail
  refine (awake_c V).mono ?_
  rintro e V1 ⟨rfl, hb1⟩
  have G0 := Lib.hid ((hb1.block w.heap.size (by omega)).trans HH0.out)
  have G1 := Lib.hid ((hb1.block (w.heap.size + 1) (by omega)).trans HH1.out)
  go_wp2_with (refine wpList_load_row rfl 45 (.tmp 3) rfl (w.heap.size) rfl 45 cx.toArray (0, 0) _ G0.out Try.underlying45 rfl HCX.out ?_)
  refine (rFew_c x cx V1 (VX.out.keep hb1)).mono ?_
  rintro e V2 ⟨rfl, hb2⟩
  rw [HFX.out]
  have G3 := Lib.hid ((hb2.block (w.heap.size + 1) (by have := hb1.size; omega)).trans G1.out)
  go_wp2_with (refine wpList_load_row_g rfl 67 (.tmp 4) rfl (w.heap.size + 1) rfl 67 cy.toArray (0, 0) _ G3.out Try.underlying67 rfl HCY.out ?_)
  refine (rFewBooks_c y cy V2 ((VY.out.keep hb1).keep hb2)).mono ?_
  rintro e V3 ⟨r2, rfl, hr2, hb3⟩
  have HFY := Lib.hid hr2
  clear hr2
  cases r2
  case false =>
    go_wp2_with fail
    go_ret
    exact ⟨rfl, hbV.trans ((hb1.trans ((hb2.trans (hb3.mono hb2.size)).mono hb1.size)).mono hbV.size)⟩
  case true =>
  have hfy := HFY.out (by trivial)
  have oky := Lib.hid (VY.out.ok hfy)
  have hly : (encBooks y).length ≤ 8000000 := hfy.len
  have hb13 := hb1.trans ((hb2.trans (hb3.mono hb2.size)).mono hb1.size)
  have G4 := Lib.hid ((hb13.block w.heap.size (by omega)).trans HH0.out)
  have X3 := Lib.hid (VX.out.keep hb13)
  clear hb1 hb2 hb3 G0 G1 G3 HFY
  go_wp2_with (refine wpList_load_row rfl 45 (.tmp 3) rfl (w.heap.size) rfl 45 cx.toArray (0, 0) _ G4.out Try.underlying45 rfl HCX.out ?_)
  refine (event_c x cx V3 X3.out hLx1 hLe).mono ?_
  rw [HR.out]
  rintro e W0 ⟨v4, rfl, hn4⟩
  obtain ⟨A1, c1, rfl, hc1, _⟩ := hn4.1.form
  have HC1 := Lib.hid hc1
  have hb4 := hb13.trans (hn4.2.2.mono hb13.size)
  have RD1 := Lib.hid ((hn4.1.rd (Q := (· < W0.heap.size)) (fun k hk => hn4.1.lt hk)).2)
  have hbW := hbV.trans (hb4.mono hbV.size)
  have GY := Lib.hid ((hb4.block (w.heap.size + 1) (by omega)).trans HH1.out)
  have EY := Lib.hid (VY.out.keep hb4)
  have hWs : w.heap.size + 1 < W0.heap.size := by have := hb4.size; omega
  clear hn4 hb4 hb13 X3 G4 hc1 HX HY VX VY HH0 HH1 hVs hbV
  obtain ⟨-, hR1, hP1⟩ := eventR_ok okx.out HR.out
  have HP1 := Lib.hid hP1
  have PLEN := Lib.hid (event_len hP1)
  clear hP1
  have hpos := PLEN.out
  have hlenI : (0 : Int) < (R1.length : Int) := by omega
  have hm1 : 0 ≤ n % (R1.length : Int) := Int.emod_nonneg _ (by omega)
  have hm2 : n % (R1.length : Int) < (R1.length : Int) := Int.emod_lt_of_pos _ hlenI
  have hm3 : n % (R1.length : Int) ≤ (c1 : Int) := by have : R1.length ≤ c1 := HC1.out; omega
  have hm4 := And.intro hm1 hm3
  go_wp2_with fail
  obtain ⟨k, hk⟩ : ∃ k : Nat, (n % (R1.length : Int)).toNat = k := ⟨_, rfl⟩
  have hkl : k < R1.length := by omega
  have hkc : k ≤ c1 := by have : R1.length ≤ c1 := HC1.out; omega
  rw [hk]
  have HKK := Lib.hid hk
  clear hk hm1 hm2 hm3 hm4
  have hRk : Rd W0 (· < W0.heap.size) A1 (R1.take k).length 1 (bv (R1.take k)) := (RD1.out).headN (by omega)
  have hlk : (R1.take k).length = k := by rw [List.length_take]; omega
  have hcall := parseEvent_c A1 c1 (R1.take k) W0 hRk (by omega) (by omega)
  rw [hlk, parseEv_cut HP1.out k hkl] at hcall
  refine hcall.mono ?_
  rintro e W1 ⟨cz, z, m, rfl, hz, hbz, hcase⟩
  obtain ⟨hm, hzx⟩ : m = 4 ∧ z = {} := by
    rcases hcase with ⟨q, hq, _⟩ | ⟨_, h1, h2⟩
    · cases hq
    · exact ⟨h1, h2⟩
  subst hm
  subst hzx
  have HCZ := Lib.hid (size45 hz.len)
  have HZS := Lib.hid (zsize hz)
  have HZO := Lib.hid hz.one
  clear hz hcase hcall hRk hlk HKK hkl hkc
  go_upto_region 8 with (refine wpList_store_fresh2 rfl 45 (.tmp 9) (.tmp 45) rfl rfl W1 zCells 45 cz.toArray rfl rfl HCZ.out HZS.out HZO.out ?_; intro W2 S1 S2 S3; clear S1)
  have hb2 := hbz.trans (S2.mono hbz.size)
  have RDB := Lib.hid ((RD1.out).keep hb2)
  clear hbz HCZ HZS HZO
  obtain ⟨Y, hY⟩ : ∃ Y, Y = W2 := ⟨_, rfl⟩
  have hbY : Below W0.heap.size W0 Y := by rw [hY]; exact hb2
  rw [← hY]
  rw [← hY] at RDB
  have hcell0 : Fr (fun k => k < Y.heap.size) Y (Y.alloc (.cells #[] 5)) := (Fr.refl _ Y).alloc (fun _ h => h) _
  have HC0 := Lib.hid hcell0
  clear hY S2 S3 hb2 hcell0
  obtain ⟨B, hB⟩ : ∃ B : UInt8, (B.toNat : Int) = n % 256 := ⟨UInt8.ofNat (n % 256).toNat, by rw [UInt8.toNat_ofNat']; omega⟩
  have HBB := Lib.hid hB
  clear hB
  obtain ⟨M5, hM5⟩ : ∃ M5, R1 ++ [B] = M5 := ⟨_, rfl⟩
  have HM5 := Lib.hid hM5
  have hM5l := Lib.hid (show M5.length = R1.length + 1 by rw [← hM5]; simp)
  clear hM5
  go_wp2_with (first | (at_builtin; refine wpList_appB _ rfl (.tmp 48) (.tmp 49) rfl _ [] rfl (Bytes.new Y) (· < Y.heap.size) A1 c1 R1 rfl (RDB.out.fr HC0.out) (by unfold Lim; simp only [List.length_nil]; omega) ?_; intro v4 w4 hby4 hg4 hat4; have f4 : Fr (fun k => k < Y.heap.size) Y w4 := Fr.grown HC0.out hg4 (fun _ h => h) (fun k hk => by have hk2 : some Y.heap.size = some k := hk; injection hk2 with hk2; omega); obtain ⟨A4, n4, c4, rfl⟩ := hby4.shape; replace hby4 := Lib.hid hby4; replace hg4 := Lib.hid hg4; replace f4 := Lib.hid f4; replace hat4 := Lib.hid hat4; have hrow : Rd (w4.alloc (Obj.cells #[.int .u8 (n % 256)] 5)) (fun _ => True) (some ⟨w4.heap.size, 0, none⟩) [B].length 1 (bv [B]) := (by show Rd _ _ _ 1 1 [Value.int .u8 (B.toNat : Int)]; rw [HBB.out]; exact row1 w4 [.int .u8 (n % 256)] 5 1 rfl); replace hrow := Lib.hid hrow) | (at_builtin; go_loud (refine wpList_appB _ rfl (.tmp 50) (.tmp 53) rfl _ ([] ++ R1) rfl (World.ownsRow.alloc hby4.out _) (fun _ => True) (some ⟨w4.heap.size, 0, none⟩) 1 [B] rfl hrow.out (by unfold Lim; simp only [List.nil_append, List.length_cons, List.length_nil]; omega) ?_); intro v5 w5 hby5 hg5 hat5; rw [List.nil_append, HM5.out] at hby5; obtain ⟨A5, c5, rfl, hc5, _⟩ := hby5.form; replace hby5 := Lib.hid hby5; replace hg5 := Lib.hid hg5; replace hc5 := Lib.hid hc5; clear hat5))
  have hvo : ∀ j, (Value.slice A4 n4 c4).ownBlock = some j → Y.heap.size ≤ j := fun j hj => by
    rcases hat4.out with e | e
    · rw [e] at hj; have hk2 : some Y.heap.size = some j := hj; injection hk2 with hk2; omega
    · rw [e] at hj; injection hj with hj; simp at hj; omega
  have z4 := f4.out.size
  have f5 : Fr (fun k => k < Y.heap.size) (w4.alloc (Obj.cells #[.int .u8 (n % 256)] 5)) w5 := Fr.grown (Fr.refl _ _) hg5.out (fun k hk => by simp; omega) (fun k hk h => by have := hvo k hk; omega)
  have f45 : Below Y.heap.size Y w5 := (Fr.trans (Fr.trans f4.out ((Fr.refl _ w4).alloc (fun k (hk : k < Y.heap.size) => by omega) (Obj.cells #[.int .u8 (n % 256)] 5))) f5).below
  have hcall := parseEvent_c A5 c5 M5 w5 (hby5.out.rd (Q := fun k => k < w5.heap.size) (fun k hk => hby5.out.lt hk)).2 hc5.out (by have := hM5l.out; omega)
  have hnone : parseEv M5 = none := by rw [← HM5.out]; exact parseEv_more HP1.out B
  rw [hnone] at hcall
  refine hcall.mono ?_
  rintro e W5 ⟨cq, z, m, rfl, hz, hbz, hcase⟩
  obtain ⟨hm, hzx⟩ : m = 4 ∧ z = {} := by
    rcases hcase with ⟨q, hq, _⟩ | ⟨_, h1, h2⟩
    · cases hq
    · exact ⟨h1, h2⟩
  subst hm
  subst hzx
  have HCZ := Lib.hid (size45 hz.len)
  have HZS := Lib.hid (zsize hz)
  have HZO := Lib.hid hz.one
  have hbE := hbY.trans ((f45.trans (hbz.mono f45.size)).mono hbY.size)
  clear hz hcase hcall hnone hbz f45 f5 hvo hbY RDB HBB HM5 hM5l
  go_upto_region 9 with (refine wpList_store_fresh2 rfl 45 (.tmp 11) (.tmp 56) rfl rfl W5 zCells 45 cq.toArray rfl rfl HCZ.out HZS.out HZO.out ?_; intro W6 S1 S2 S3; clear S1)
  have hb6 := hbE.trans (S2.mono hbE.size)
  clear S2 S3 hbE HCZ HZS HZO
  obtain ⟨Q0, hQ0⟩ : ∃ Q0, Q0 = W6 := ⟨_, rfl⟩
  rw [← hQ0] at hb6
  rw [← hQ0]
  have GYQ := Lib.hid ((hb6.block (w.heap.size + 1) (by omega)).trans GY.out)
  have EYQ := Lib.hid (EY.out.keep hb6)
  have hbQ := hbW.trans (hb6.mono hbW.size)
  clear hQ0 hb6 GY EY hbW RD1 HC1 HP1 PLEN hR1 hlenI
  obtain ⟨R2, hR2⟩ : ∃ R, encBooks y = R := ⟨_, rfl⟩
  have HP2 := Lib.hid (show parseBks R2 = some y by rw [← hR2]; exact parseBks_enc oky.out (by omega))
  have PLEN := Lib.hid (books_len HP2.out)
  have hl2 : R2.length ≤ 8000000 := by rw [← hR2]; exact hly
  have HR2 := Lib.hid hR2
  clear hR2
  go_wp2_with (refine wpList_load_row rfl 67 (.tmp 4) rfl (w.heap.size + 1) rfl 67 cy.toArray (0, 0) _ GYQ.out Try.underlying67 rfl HCY.out ?_)
  refine (books_c y cy Q0 EYQ.out hly).mono ?_
  rw [HR2.out]
  rintro e Z0 ⟨v4, rfl, hn4⟩
  obtain ⟨A2, c2, rfl, hc2, _⟩ := hn4.1.form
  have HC2 := Lib.hid hc2
  have RD2 := Lib.hid ((hn4.1.rd (Q := (· < Z0.heap.size)) (fun k hk => hn4.1.lt hk)).2)
  have hbZ := hbQ.trans (hn4.2.2.mono hbQ.size)
  have hne0 := Lib.hid (show ((R2.length : Int) == 0) = false by have := PLEN.out; simp; intro h; rw [h] at this; exact absurd this (by simp))
  have hne1 := Lib.hid (show ¬ R2 = [] by have := PLEN.out; intro h; rw [h] at this; exact absurd this (by simp))
  clear hn4 hc2 EYQ GYQ hbQ
  have hne2 := hne0.out
  have hne3 := hne1.out
  go_upto_region 14 with fail
  clear hne2 hne3
  have hpos := PLEN.out
  have hlenI : (0 : Int) < (R2.length : Int) := by omega
  have hm1 : 0 ≤ n % (R2.length : Int) := Int.emod_nonneg _ (by omega)
  have hm2 : n % (R2.length : Int) < (R2.length : Int) := Int.emod_lt_of_pos _ hlenI
  have hm3 : n % (R2.length : Int) ≤ (c2 : Int) := by have : R2.length ≤ c2 := HC2.out; omega
  have hm4 := And.intro hm1 hm3
  go_wp2_with fail
  obtain ⟨k, hk⟩ : ∃ k : Nat, (n % (R2.length : Int)).toNat = k := ⟨_, rfl⟩
  have hkl : k < R2.length := by omega
  have hkc : k ≤ c2 := by have : R2.length ≤ c2 := HC2.out; omega
  rw [hk]
  have HKK := Lib.hid hk
  clear hk hm1 hm2 hm3 hm4
  have hRk : Rd Z0 (· < Z0.heap.size) A2 (R2.take k).length 1 (bv (R2.take k)) := (RD2.out).headN (by omega)
  have hlk : (R2.take k).length = k := by rw [List.length_take]; omega
  have hcall := parseBooks_c A2 c2 (R2.take k) Z0 hRk (by omega) (by omega)
  rw [hlk, parseBks_cut HP2.out k hkl] at hcall
  refine hcall.mono ?_
  rintro e Z1 ⟨cz, z, m, rfl, hz, hbz, hcase⟩
  obtain ⟨hm, hzx⟩ : m = 4 ∧ z = {} := by
    rcases hcase with ⟨q, hq, _⟩ | ⟨_, h1, h2⟩
    · cases hq
    · exact ⟨h1, h2⟩
  subst hm
  subst hzx
  have HCZ := Lib.hid (size67 hz.len)
  have HZS := Lib.hid (zsizeB hz)
  have HZO := Lib.hid hz.one
  clear hz hcase hcall hRk hlk HKK hkl hkc
  go_upto_region 15 with (refine wpList_store_fresh2 rfl 67 (.tmp 15) (.tmp 85) rfl rfl Z1 zBk.toArray 67 cz.toArray rfl rfl HCZ.out HZS.out HZO.out ?_; intro Z2 S1 S2 S3; clear S1)
  have hb2 := hbz.trans (S2.mono hbz.size)
  have RDB := Lib.hid ((RD2.out).keep hb2)
  clear hbz HCZ HZS HZO
  obtain ⟨Y, hY⟩ : ∃ Y, Y = Z2 := ⟨_, rfl⟩
  have hbY : Below Z0.heap.size Z0 Y := by rw [hY]; exact hb2
  rw [← hY]
  rw [← hY] at RDB
  have hcell0 : Fr (fun k => k < Y.heap.size) Y (Y.alloc (.cells #[] 5)) := (Fr.refl _ Y).alloc (fun _ h => h) _
  have HC0 := Lib.hid hcell0
  clear hY S2 S3 hb2 hcell0
  obtain ⟨B, hB⟩ : ∃ B : UInt8, (B.toNat : Int) = n % 256 := ⟨UInt8.ofNat (n % 256).toNat, by rw [UInt8.toNat_ofNat']; omega⟩
  have HBB := Lib.hid hB
  clear hB
  obtain ⟨M5, hM5⟩ : ∃ M5, R2 ++ [B] = M5 := ⟨_, rfl⟩
  have HM5 := Lib.hid hM5
  have hM5l := Lib.hid (show M5.length = R2.length + 1 by rw [← hM5]; simp)
  clear hM5
  go_wp2_with (first | (at_builtin; refine wpList_appB _ rfl (.tmp 88) (.tmp 89) rfl _ [] rfl (Bytes.new Y) (· < Y.heap.size) A2 c2 R2 rfl (RDB.out.fr HC0.out) (by unfold Lim; simp only [List.length_nil]; omega) ?_; intro v4 w4 hby4 hg4 hat4; have f4 : Fr (fun k => k < Y.heap.size) Y w4 := Fr.grown HC0.out hg4 (fun _ h => h) (fun k hk => by have hk2 : some Y.heap.size = some k := hk; injection hk2 with hk2; omega); obtain ⟨A4, n4, c4, rfl⟩ := hby4.shape; replace hby4 := Lib.hid hby4; replace hg4 := Lib.hid hg4; replace f4 := Lib.hid f4; replace hat4 := Lib.hid hat4; have hrow : Rd (w4.alloc (Obj.cells #[.int .u8 (n % 256)] 5)) (fun _ => True) (some ⟨w4.heap.size, 0, none⟩) [B].length 1 (bv [B]) := (by show Rd _ _ _ 1 1 [Value.int .u8 (B.toNat : Int)]; rw [HBB.out]; exact row1 w4 [.int .u8 (n % 256)] 5 1 rfl); replace hrow := Lib.hid hrow) | (at_builtin; go_loud (refine wpList_appB _ rfl (.tmp 90) (.tmp 93) rfl _ ([] ++ R2) rfl (World.ownsRow.alloc hby4.out _) (fun _ => True) (some ⟨w4.heap.size, 0, none⟩) 1 [B] rfl hrow.out (by unfold Lim; simp only [List.nil_append, List.length_cons, List.length_nil]; omega) ?_); intro v5 w5 hby5 hg5 hat5; rw [List.nil_append, HM5.out] at hby5; obtain ⟨A5, c5, rfl, hc5, _⟩ := hby5.form; replace hby5 := Lib.hid hby5; replace hg5 := Lib.hid hg5; replace hc5 := Lib.hid hc5; clear hat5))
  have hvo : ∀ j, (Value.slice A4 n4 c4).ownBlock = some j → Y.heap.size ≤ j := fun j hj => by
    rcases hat4.out with e | e
    · rw [e] at hj; have hk2 : some Y.heap.size = some j := hj; injection hk2 with hk2; omega
    · rw [e] at hj; injection hj with hj; simp at hj; omega
  have z4 := f4.out.size
  have f5 : Fr (fun k => k < Y.heap.size) (w4.alloc (Obj.cells #[.int .u8 (n % 256)] 5)) w5 := Fr.grown (Fr.refl _ _) hg5.out (fun k hk => by simp; omega) (fun k hk h => by have := hvo k hk; omega)
  have f45 : Below Y.heap.size Y w5 := (Fr.trans (Fr.trans f4.out ((Fr.refl _ w4).alloc (fun k (hk : k < Y.heap.size) => by omega) (Obj.cells #[.int .u8 (n % 256)] 5))) f5).below
  have hcall := parseBooks_c A5 c5 M5 w5 (hby5.out.rd (Q := fun k => k < w5.heap.size) (fun k hk => hby5.out.lt hk)).2 hc5.out (by have := hM5l.out; omega)
  have hnone : parseBks M5 = none := by rw [← HM5.out]; exact parseBks_more HP2.out B
  rw [hnone] at hcall
  refine hcall.mono ?_
  rintro e W5 ⟨cq, z, m, rfl, hz, hbz, hcase⟩
  obtain ⟨hm, hzx⟩ : m = 4 ∧ z = {} := by
    rcases hcase with ⟨q, hq, _⟩ | ⟨_, h1, h2⟩
    · cases hq
    · exact ⟨h1, h2⟩
  subst hm
  subst hzx
  have HCZ := Lib.hid (size67 hz.len)
  have HZS := Lib.hid (zsizeB hz)
  have HZO := Lib.hid hz.one
  have hbE := hbY.trans ((f45.trans (hbz.mono f45.size)).mono hbY.size)
  clear hz hcase hcall hnone hbz f45 f5 hvo hbY RDB HBB HM5 hM5l
  go_upto_region 16 with (refine wpList_store_fresh2 rfl 67 (.tmp 17) (.tmp 96) rfl rfl W5 zBk.toArray 67 cq.toArray rfl rfl HCZ.out HZS.out HZO.out ?_; intro W6 S1 S2 S3; clear S1)
  have hb6 := hbE.trans (S2.mono hbE.size)
  clear S2 S3 hbE HCZ HZS HZO
  go_wp2_with fail
  go_ret
  exact ⟨rfl, hbZ.trans (hb6.mono hbZ.size)⟩
set_option maxHeartbeats 4000000 in
set_option maxRecDepth 100000 in
theorem cut_no (x : XEvent) (y : XBooks) (cx cy : List Value) (n : Int) (w : World) (hx : EventC w (· < w.heap.size) cx x) (hy : BooksC w (· < w.heap.size) cy y) (hn0 : 0 ≤ n) (hn1 : n ≤ 65535) (hfx0 : fewB x = true) (R1 : List UInt8) (n1 : Int) (hnn1 : n1 ≠ 0) (hr : eventR x = (R1, n1)) :
    Calls Try.prog 10 #[.agg cx.toArray, .agg cy.toArray, .int .u16 n] w fun e w' => e = .returned (.bool true) ∧ Below w.heap.size w w' := by
  have HFX := Lib.hid hfx0
  have HR := Lib.hid hr
  have hfx := fewB_few hfx0
  have hLx1 : (encAll x).length + 100 ≤ Lim := by have := hfx.lenAll; unfold Lim; omega
  have hLe : (encEv x).length ≤ Lim := by have := hfx.lenEv; unfold Lim; omega
  have okx := Lib.hid (hx.ok hfx)
  have hnz := Lib.hid (show (n1 == 0) = false by simpa using hnn1)
  clear hfx0 hr hnn1
  have HX := Lib.hid hx
  have HY := Lib.hid hy
  have HCX := Lib.hid (size45 hx.len)
  have HCY := Lib.hid (size67 hy.len)
  clear hx hy
  go_enter Try.func10, Try.ntmps10
  go_upto_region 1 with fail
  have h2 := heap2 w (.cells cx.toArray 45) (.cells cy.toArray 67)
  generalize hW : (w.alloc (Obj.cells cx.toArray 45)).alloc (Obj.cells cy.toArray 67) = V at *
  obtain ⟨H0, H1, HS, HF⟩ := h2
  have hbV : Below w.heap.size w V := HF.below
  have hVs : w.heap.size + 1 < V.heap.size := by omega
  clear hW HF HS
  have HH0 := Lib.hid H0
  have HH1 := Lib.hid H1
  have VX := Lib.hid (HX.out.keep hbV)
  have VY := Lib.hid (HY.out.keep hbV)
  clear H0 H1
  go_wp2_with fail
  refine (awake_c V).mono ?_
  rintro e V1 ⟨rfl, hb1⟩
  have G0 := Lib.hid ((hb1.block w.heap.size (by omega)).trans HH0.out)
  have G1 := Lib.hid ((hb1.block (w.heap.size + 1) (by omega)).trans HH1.out)
  go_wp2_with (refine wpList_load_row rfl 45 (.tmp 3) rfl (w.heap.size) rfl 45 cx.toArray (0, 0) _ G0.out Try.underlying45 rfl HCX.out ?_)
  refine (rFew_c x cx V1 (VX.out.keep hb1)).mono ?_
  rintro e V2 ⟨rfl, hb2⟩
  rw [HFX.out]
  have G3 := Lib.hid ((hb2.block (w.heap.size + 1) (by have := hb1.size; omega)).trans G1.out)
  go_wp2_with (refine wpList_load_row_g rfl 67 (.tmp 4) rfl (w.heap.size + 1) rfl 67 cy.toArray (0, 0) _ G3.out Try.underlying67 rfl HCY.out ?_)
  refine (rFewBooks_c y cy V2 ((VY.out.keep hb1).keep hb2)).mono ?_
  rintro e V3 ⟨r2, rfl, hr2, hb3⟩
  have HFY := Lib.hid hr2
  clear hr2
  cases r2
  case false =>
    go_wp2_with fail
    go_ret
    exact ⟨rfl, hbV.trans ((hb1.trans ((hb2.trans (hb3.mono hb2.size)).mono hb1.size)).mono hbV.size)⟩
  case true =>
  have hfy := HFY.out (by trivial)
  have oky := Lib.hid (VY.out.ok hfy)
  have hly : (encBooks y).length ≤ 8000000 := hfy.len
  have hb13 := hb1.trans ((hb2.trans (hb3.mono hb2.size)).mono hb1.size)
  have G4 := Lib.hid ((hb13.block w.heap.size (by omega)).trans HH0.out)
  have X3 := Lib.hid (VX.out.keep hb13)
  clear hb1 hb2 hb3 G0 G1 G3 HFY
  go_wp2_with (refine wpList_load_row rfl 45 (.tmp 3) rfl (w.heap.size) rfl 45 cx.toArray (0, 0) _ G4.out Try.underlying45 rfl HCX.out ?_)
  refine (event_c x cx V3 X3.out hLx1 hLe).mono ?_
  rw [HR.out]
  rintro e W0 ⟨v4, rfl, hn4⟩
  obtain ⟨A1, c1, rfl, hc1, _⟩ := hn4.1.form
  have HC1 := Lib.hid hc1
  have hb4 := hb13.trans (hn4.2.2.mono hb13.size)
  have RD1 := Lib.hid ((hn4.1.rd (Q := (· < W0.heap.size)) (fun k hk => hn4.1.lt hk)).2)
  have hbW := hbV.trans (hb4.mono hbV.size)
  have GY := Lib.hid ((hb4.block (w.heap.size + 1) (by omega)).trans HH1.out)
  have EY := Lib.hid (VY.out.keep hb4)
  have hWs : w.heap.size + 1 < W0.heap.size := by have := hb4.size; omega
  clear hn4 hb4 hb13 X3 G4 hc1 HX HY VX VY HH0 HH1 hVs hbV
  obtain ⟨Q0, hQ0⟩ : ∃ Q0, Q0 = W0 := ⟨_, rfl⟩
  rw [← hQ0] at GY EY hbW
  rw [← hQ0]
  have GYQ := Lib.hid GY.out
  have EYQ := Lib.hid EY.out
  have hbQ := hbW
  clear hQ0 GY EY hbW RD1 HC1
  have hnz1 := hnz.out
  go_upto_region 11 with fail
  clear hnz1
  obtain ⟨R2, hR2⟩ : ∃ R, encBooks y = R := ⟨_, rfl⟩
  have HP2 := Lib.hid (show parseBks R2 = some y by rw [← hR2]; exact parseBks_enc oky.out (by omega))
  have PLEN := Lib.hid (books_len HP2.out)
  have hl2 : R2.length ≤ 8000000 := by rw [← hR2]; exact hly
  have HR2 := Lib.hid hR2
  clear hR2
  go_wp2_with (refine wpList_load_row rfl 67 (.tmp 4) rfl (w.heap.size + 1) rfl 67 cy.toArray (0, 0) _ GYQ.out Try.underlying67 rfl HCY.out ?_)
  refine (books_c y cy Q0 EYQ.out hly).mono ?_
  rw [HR2.out]
  rintro e Z0 ⟨v4, rfl, hn4⟩
  obtain ⟨A2, c2, rfl, hc2, _⟩ := hn4.1.form
  have HC2 := Lib.hid hc2
  have RD2 := Lib.hid ((hn4.1.rd (Q := (· < Z0.heap.size)) (fun k hk => hn4.1.lt hk)).2)
  have hbZ := hbQ.trans (hn4.2.2.mono hbQ.size)
  have hne0 := Lib.hid (show ((R2.length : Int) == 0) = false by have := PLEN.out; simp; intro h; rw [h] at this; exact absurd this (by simp))
  have hne1 := Lib.hid (show ¬ R2 = [] by have := PLEN.out; intro h; rw [h] at this; exact absurd this (by simp))
  clear hn4 hc2 EYQ GYQ hbQ
  have hne2 := hne0.out
  have hne3 := hne1.out
  go_upto_region 14 with fail
  clear hne2 hne3
  have hpos := PLEN.out
  have hlenI : (0 : Int) < (R2.length : Int) := by omega
  have hm1 : 0 ≤ n % (R2.length : Int) := Int.emod_nonneg _ (by omega)
  have hm2 : n % (R2.length : Int) < (R2.length : Int) := Int.emod_lt_of_pos _ hlenI
  have hm3 : n % (R2.length : Int) ≤ (c2 : Int) := by have : R2.length ≤ c2 := HC2.out; omega
  have hm4 := And.intro hm1 hm3
  go_wp2_with fail
  obtain ⟨k, hk⟩ : ∃ k : Nat, (n % (R2.length : Int)).toNat = k := ⟨_, rfl⟩
  have hkl : k < R2.length := by omega
  have hkc : k ≤ c2 := by have : R2.length ≤ c2 := HC2.out; omega
  rw [hk]
  have HKK := Lib.hid hk
  clear hk hm1 hm2 hm3 hm4
  have hRk : Rd Z0 (· < Z0.heap.size) A2 (R2.take k).length 1 (bv (R2.take k)) := (RD2.out).headN (by omega)
  have hlk : (R2.take k).length = k := by rw [List.length_take]; omega
  have hcall := parseBooks_c A2 c2 (R2.take k) Z0 hRk (by omega) (by omega)
  rw [hlk, parseBks_cut HP2.out k hkl] at hcall
  refine hcall.mono ?_
  rintro e Z1 ⟨cz, z, m, rfl, hz, hbz, hcase⟩
  obtain ⟨hm, hzx⟩ : m = 4 ∧ z = {} := by
    rcases hcase with ⟨q, hq, _⟩ | ⟨_, h1, h2⟩
    · cases hq
    · exact ⟨h1, h2⟩
  subst hm
  subst hzx
  have HCZ := Lib.hid (size67 hz.len)
  have HZS := Lib.hid (zsizeB hz)
  have HZO := Lib.hid hz.one
  clear hz hcase hcall hRk hlk HKK hkl hkc
  go_upto_region 15 with (refine wpList_store_fresh2 rfl 67 (.tmp 15) (.tmp 85) rfl rfl Z1 zBk.toArray 67 cz.toArray rfl rfl HCZ.out HZS.out HZO.out ?_; intro Z2 S1 S2 S3; clear S1)
  have hb2 := hbz.trans (S2.mono hbz.size)
  have RDB := Lib.hid ((RD2.out).keep hb2)
  clear hbz HCZ HZS HZO
  obtain ⟨Y, hY⟩ : ∃ Y, Y = Z2 := ⟨_, rfl⟩
  have hbY : Below Z0.heap.size Z0 Y := by rw [hY]; exact hb2
  rw [← hY]
  rw [← hY] at RDB
  have hcell0 : Fr (fun k => k < Y.heap.size) Y (Y.alloc (.cells #[] 5)) := (Fr.refl _ Y).alloc (fun _ h => h) _
  have HC0 := Lib.hid hcell0
  clear hY S2 S3 hb2 hcell0
  obtain ⟨B, hB⟩ : ∃ B : UInt8, (B.toNat : Int) = n % 256 := ⟨UInt8.ofNat (n % 256).toNat, by rw [UInt8.toNat_ofNat']; omega⟩
  have HBB := Lib.hid hB
  clear hB
  obtain ⟨M5, hM5⟩ : ∃ M5, R2 ++ [B] = M5 := ⟨_, rfl⟩
  have HM5 := Lib.hid hM5
  have hM5l := Lib.hid (show M5.length = R2.length + 1 by rw [← hM5]; simp)
  clear hM5
  go_wp2_with (first | (at_builtin; refine wpList_appB _ rfl (.tmp 88) (.tmp 89) rfl _ [] rfl (Bytes.new Y) (· < Y.heap.size) A2 c2 R2 rfl (RDB.out.fr HC0.out) (by unfold Lim; simp only [List.length_nil]; omega) ?_; intro v4 w4 hby4 hg4 hat4; have f4 : Fr (fun k => k < Y.heap.size) Y w4 := Fr.grown HC0.out hg4 (fun _ h => h) (fun k hk => by have hk2 : some Y.heap.size = some k := hk; injection hk2 with hk2; omega); obtain ⟨A4, n4, c4, rfl⟩ := hby4.shape; replace hby4 := Lib.hid hby4; replace hg4 := Lib.hid hg4; replace f4 := Lib.hid f4; replace hat4 := Lib.hid hat4; have hrow : Rd (w4.alloc (Obj.cells #[.int .u8 (n % 256)] 5)) (fun _ => True) (some ⟨w4.heap.size, 0, none⟩) [B].length 1 (bv [B]) := (by show Rd _ _ _ 1 1 [Value.int .u8 (B.toNat : Int)]; rw [HBB.out]; exact row1 w4 [.int .u8 (n % 256)] 5 1 rfl); replace hrow := Lib.hid hrow) | (at_builtin; go_loud (refine wpList_appB _ rfl (.tmp 90) (.tmp 93) rfl _ ([] ++ R2) rfl (World.ownsRow.alloc hby4.out _) (fun _ => True) (some ⟨w4.heap.size, 0, none⟩) 1 [B] rfl hrow.out (by unfold Lim; simp only [List.nil_append, List.length_cons, List.length_nil]; omega) ?_); intro v5 w5 hby5 hg5 hat5; rw [List.nil_append, HM5.out] at hby5; obtain ⟨A5, c5, rfl, hc5, _⟩ := hby5.form; replace hby5 := Lib.hid hby5; replace hg5 := Lib.hid hg5; replace hc5 := Lib.hid hc5; clear hat5))
  have hvo : ∀ j, (Value.slice A4 n4 c4).ownBlock = some j → Y.heap.size ≤ j := fun j hj => by
    rcases hat4.out with e | e
    · rw [e] at hj; have hk2 : some Y.heap.size = some j := hj; injection hk2 with hk2; omega
    · rw [e] at hj; injection hj with hj; simp at hj; omega
  have z4 := f4.out.size
  have f5 : Fr (fun k => k < Y.heap.size) (w4.alloc (Obj.cells #[.int .u8 (n % 256)] 5)) w5 := Fr.grown (Fr.refl _ _) hg5.out (fun k hk => by simp; omega) (fun k hk h => by have := hvo k hk; omega)
  have f45 : Below Y.heap.size Y w5 := (Fr.trans (Fr.trans f4.out ((Fr.refl _ w4).alloc (fun k (hk : k < Y.heap.size) => by omega) (Obj.cells #[.int .u8 (n % 256)] 5))) f5).below
  have hcall := parseBooks_c A5 c5 M5 w5 (hby5.out.rd (Q := fun k => k < w5.heap.size) (fun k hk => hby5.out.lt hk)).2 hc5.out (by have := hM5l.out; omega)
  have hnone : parseBks M5 = none := by rw [← HM5.out]; exact parseBks_more HP2.out B
  rw [hnone] at hcall
  refine hcall.mono ?_
  rintro e W5 ⟨cq, z, m, rfl, hz, hbz, hcase⟩
  obtain ⟨hm, hzx⟩ : m = 4 ∧ z = {} := by
    rcases hcase with ⟨q, hq, _⟩ | ⟨_, h1, h2⟩
    · cases hq
    · exact ⟨h1, h2⟩
  subst hm
  subst hzx
  have HCZ := Lib.hid (size67 hz.len)
  have HZS := Lib.hid (zsizeB hz)
  have HZO := Lib.hid hz.one
  have hbE := hbY.trans ((f45.trans (hbz.mono f45.size)).mono hbY.size)
  clear hz hcase hcall hnone hbz f45 f5 hvo hbY RDB HBB HM5 hM5l
  go_upto_region 16 with (refine wpList_store_fresh2 rfl 67 (.tmp 17) (.tmp 96) rfl rfl W5 zBk.toArray 67 cq.toArray rfl rfl HCZ.out HZS.out HZO.out ?_; intro W6 S1 S2 S3; clear S1)
  have hb6 := hbE.trans (S2.mono hbE.size)
  clear S2 S3 hbE HCZ HZS HZO
  go_wp2_with fail
  go_ret
  exact ⟨rfl, hbZ.trans (hb6.mono hbZ.size)⟩
theorem cut_c (x : XEvent) (y : XBooks) (cx cy : List Value) (n : Int) (w : World) (hx : EventC w (· < w.heap.size) cx x) (hy : BooksC w (· < w.heap.size) cy y) (hn0 : 0 ≤ n) (hn1 : n ≤ 65535) :
    Calls Try.prog 10 #[.agg cx.toArray, .agg cy.toArray, .int .u16 n] w fun e w' => e = .returned (.bool true) ∧ Below w.heap.size w w' := by
  by_cases h1 : fewB x = true
  · obtain ⟨⟨R1, n1⟩, hr⟩ : ∃ p, eventR x = p := ⟨_, rfl⟩
    by_cases hz : n1 = 0
    · subst hz
      exact cut_ok x y cx cy n w hx hy hn0 hn1 h1 R1 hr
    · exact cut_no x y cx cy n w hx hy hn0 hn1 h1 R1 n1 hz hr
  · exact cut_big x y cx cy n w hx hy hn0 hn1 (by simpa using h1)
end Go.Proofs.Ytgdibeegheddmaa
