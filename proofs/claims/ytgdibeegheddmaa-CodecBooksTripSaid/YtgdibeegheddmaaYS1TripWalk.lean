/- The walk of CodecBooksTrip. Written by gen_s1.py. -/
import Derived.Test.YtgdibeegheddmaaYR4RefBooks
import Derived.Test.YtgdibeegheddmaaYKWBooksWide
import Derived.Test.YtgdibeegheddmaaYPa
namespace Go.Proofs.Ytgdibeegheddmaa
open Go Go.RowKit
set_option linter.unusedVariables false
set_option linter.unusedSimpArgs false
attribute [local go_sem ↓] Go.wp_at_zero Go.wp_at_succ
set_option maxHeartbeats 8000000 in
set_option maxRecDepth 100000 in
theorem booksTrip_c (x : XBooks) (cx : List Value) (A : Option Addr) (cb : Nat) (L : List UInt8) (w : World) (hx : BooksC w (· < w.heap.size) cx x) (hb : Rd w (· < w.heap.size) A L.length 1 (bv L)) (hcb : L.length ≤ cb) :
    Calls Try.prog 9 #[.agg cx.toArray, .slice A L.length cb] w fun e w' => e = .returned (.bool true) ∧ Below w.heap.size w w' := by
  have HX := Lib.hid hx
  have HL := Lib.hid hb
  have HCX := Lib.hid (size67 hx.len)
  clear hx hb
  go_enter Try.func9, Try.ntmps9
  go_upto_region 1 with fail
  have H0 := heap_alloc_new w (.cells cx.toArray 67)
  have HF := below1 w (.cells cx.toArray 67)
  generalize hW : w.alloc (Obj.cells cx.toArray 67) = V at *
  have hVs : w.heap.size < V.heap.size := by rw [← hW]; simp
  clear hW
  have hbV : Below w.heap.size w V := HF
  have HH0 := Lib.hid H0
  have VX := Lib.hid (HX.out.keep hbV)
  have VL := Lib.hid (HL.out.keep hbV)
  clear H0 HF HX HL
  go_wp2_with fail
  refine (awake_c V).mono ?_
  rintro e V1 ⟨rfl, hb1⟩
  have G0 := Lib.hid ((hb1.block w.heap.size (by omega)).trans HH0.out)
  go_wp2_with (refine wpList_load_row rfl 67 (.tmp 2) rfl (w.heap.size) rfl 67 cx.toArray (0, 0) _ G0.out Try.underlying67 rfl HCX.out ?_)
  refine (rFewBooks_c x cx V1 (VX.out.keep hb1)).mono ?_
  rintro e V2 ⟨r2, rfl, hr2, hb2⟩
  have HFX := Lib.hid hr2
  clear hr2
  have hb12 := hb1.trans (hb2.mono hb1.size)
  cases r2
  case false =>
    go_wp2_with fail
    go_ret
    exact ⟨rfl, hbV.trans (hb12.mono hbV.size)⟩
  case true =>
  by_cases hl : L.length ≤ 20000
  case neg =>
    have hd : decide ((20000 : Int) < (L.length : Int)) = true := by simp; omega
    have hd' : (20000 : Int) < (L.length : Int) := by omega
    go_wp2_with fail
    go_ret
    exact ⟨rfl, hbV.trans (hb12.mono hbV.size)⟩
  case pos =>
  have hd' : ¬ (20000 : Int) < (L.length : Int) := by omega
  have hfx := HFX.out (by trivial)
  have okx := Lib.hid (VX.out.ok hfx)
  have hlx : (encBooks x).length ≤ 8000000 := hfx.len
  obtain ⟨R1, hR1⟩ : ∃ R, encBooks x = R := ⟨_, rfl⟩
  have HP1 := Lib.hid (show parseBks R1 = some x by rw [← hR1]; exact parseBks_enc okx.out (by omega))
  have hl1 : R1.length ≤ 8000000 := by rw [← hR1]; exact hlx
  have HR1 := Lib.hid hR1
  have G4 := Lib.hid ((hb12.block w.heap.size (by omega)).trans HH0.out)
  have X3 := Lib.hid (VX.out.keep hb12)
  have L3 := Lib.hid (VL.out.keep hb12)
  have hb2' := hbV.trans (hb12.mono hbV.size)
  have hV2s : w.heap.size < V2.heap.size := by have := hb12.size; omega
  clear hR1 hb1 hb2 hb12 G0 HFX VX VL HH0 hbV hVs
  go_wp2_with (refine wpList_load_row rfl 67 (.tmp 2) rfl (w.heap.size) rfl 67 cx.toArray (0, 0) _ G4.out Try.underlying67 rfl HCX.out ?_)
  refine (books_c x cx V2 X3.out hlx).mono ?_
  rw [HR1.out]
  rintro e V4 ⟨v4, rfl, hn4⟩
  obtain ⟨A1, c1, rfl, hc1, _⟩ := hn4.1.form
  have HC1 := Lib.hid hc1
  have RD1 := Lib.hid ((hn4.1.rd (Q := (· < V4.heap.size)) (fun k hk => hn4.1.lt hk)).2)
  have G5 := Lib.hid ((hn4.2.2.block w.heap.size hV2s).trans G4.out)
  have X4 := Lib.hid (X3.out.keep hn4.2.2)
  have L4 := Lib.hid (L3.out.keep hn4.2.2)
  have hb4 := hb2'.trans (hn4.2.2.mono hb2'.size)
  have hV4s : w.heap.size < V4.heap.size := by have := hn4.2.2.size; omega
  clear hn4 hc1 G4 X3 L3 hb2' hV2s
  go_wp2_with fail
  have hcall := parseBooks_c A1 c1 R1 V4 RD1.out HC1.out (by omega)
  rw [HP1.out] at hcall
  refine hcall.mono ?_
  rintro e V5 ⟨cz, z, m, rfl, hz, hbz, hcase⟩
  obtain ⟨hm, hzx⟩ : m = 0 ∧ z = x := by
    rcases hcase with ⟨q, hq, h1, h2⟩ | ⟨hq, _⟩
    · injection hq with hq; exact ⟨h1, h2.trans hq.symm⟩
    · cases hq
  subst hm
  subst hzx
  have HCZ := Lib.hid (size67 hz.len)
  have HZS := Lib.hid (zsizeB hz)
  have HZO := Lib.hid hz.one
  have HZ := Lib.hid (BooksC.mono hz (fun k hk => hk.2) : BooksC V5 (· < V5.heap.size) cz z)
  have G6 := Lib.hid ((hbz.block w.heap.size hV4s).trans G5.out)
  have X5 := Lib.hid (X4.out.keep hbz)
  have L5 := Lib.hid (L4.out.keep hbz)
  have hb5 := hb4.trans (hbz.mono hb4.size)
  have hV5s : w.heap.size < V5.heap.size := by have := hbz.size; omega
  clear hz hcase hcall hbz G5 X4 L4 RD1 hb4 hV4s
  go_upto_region 7 with (refine wpList_store_fresh2 rfl 67 (.tmp 7) (.tmp 33) rfl rfl V5 zBk.toArray 67 cz.toArray rfl rfl HCZ.out HZS.out HZO.out ?_; intro V6 S1 S2 S3; replace S1 := Lib.hid S1)
  have HZ6 := Lib.hid (HZ.out.keep S2)
  have X6 := Lib.hid (X5.out.keep S2)
  have L6 := Lib.hid (L5.out.keep S2)
  have G7 := Lib.hid ((S2.block w.heap.size hV5s).trans G6.out)
  have hb6 := hb5.trans (S2.mono hb5.size)
  have hV6s : w.heap.size < V6.heap.size := by have := S2.size; omega
  clear S2 HZ X5 L5 G6 hb5
  go_wp2_with (first | refine wpList_load_row_g (by rfl) 67 (.tmp 2) rfl (w.heap.size) rfl 67 cx.toArray (0, 0) _ G7.out Try.underlying67 rfl HCX.out ?_ | refine wpList_load_row_g (by rfl) 67 (.tmp 7) rfl (V5.heap.size) rfl 67 cz.toArray (0, 0) _ S1.out Try.underlying67 rfl HCZ.out ?_)
  refine (sameBooks_c z z cx cz V6 X6.out HZ6.out hlx hlx).mono ?_
  rintro e V7 ⟨rfl, hb7⟩
  rw [decide_eq_true (rfl : encBooks z = encBooks z)]
  have L7 := Lib.hid (L6.out.keep hb7)
  have hb77 := hb6.trans (hb7.mono hb6.size)
  clear S1 S3 HZ6 X6 L6 G7 hb6 hb7 HCZ HZS HZO HP1 HC1
  go_wp2_with fail
  refine (parseBooks_c A cb L V7 L7.out hcb (by omega)).mono ?_
  rintro e W1 ⟨cp, p, n, rfl, hp, hbp, hcase⟩
  have HCP := Lib.hid (size67 hp.len)
  have HPS := Lib.hid (zsizeB hp)
  have HPO := Lib.hid hp.one
  have HP := Lib.hid (BooksC.mono hp (fun k hk => hk.2) : BooksC W1 (· < W1.heap.size) cp p)
  have HCASE := Lib.hid hcase
  have L8 := Lib.hid (L7.out.keep hbp)
  have hb8 := hb77.trans (hbp.mono hb77.size)
  clear hp hcase hbp L7 hb77
  go_upto_region 10 with (refine wpList_store_fresh2 rfl 67 (.tmp 9) (.tmp 50) rfl rfl W1 zBk.toArray 67 cp.toArray rfl rfl HCP.out HPS.out HPO.out ?_; intro W2 S1 S2 S3; replace S1 := Lib.hid S1)
  have HP2 := Lib.hid (HP.out.keep S2)
  have L9 := Lib.hid (L8.out.keep S2)
  have hb9 := hb8.trans (S2.mono hb8.size)
  clear S2 HP L8 hb8
  go_wp2_with fail
  refine (rParseBooks_c A cb L W2 L9.out hcb (by omega)).mono ?_
  rintro e W3 ⟨cq, q, n2, rfl, hq, hbq, hcase2⟩
  have HCQ := Lib.hid (size67 hq.len)
  have HQS := Lib.hid (zsizeB hq)
  have HQO := Lib.hid hq.one
  have HQ := Lib.hid (BooksC.mono hq (fun k hk => hk.2) : BooksC W3 (· < W3.heap.size) cq q)
  have S4 := Lib.hid ((hbq.block W1.heap.size S3).trans S1.out)
  have HP3 := Lib.hid (HP2.out.keep hbq)
  have L10 := Lib.hid (L9.out.keep hbq)
  have hb10 := hb9.trans (hbq.mono hb9.size)
  have h13 : W1.heap.size < W3.heap.size := by have := hbq.size; omega
  have key : n2 = n ∧ q = p ∧ FewBksW p ∧ (encBooks p).length ≤ 8000000 ∧ (n = 0 → encBooks p = L) := by
    rcases HCASE.out with ⟨y, hy, h1, h2⟩ | ⟨hy, h1, h2⟩ <;> rcases hcase2 with ⟨y', hy', g1, g2⟩ | ⟨hy', g1, g2⟩
    · rw [hy] at hy'
      injection hy' with hy'
      subst h1 h2 g1 g2 hy'
      obtain ⟨k1, k2, _⟩ := parseBks_some hy
      exact ⟨rfl, rfl, fewBksW_of (by rw [← k1]; exact hl), by rw [← k1]; omega, fun _ => k1.symm⟩
    · rw [hy] at hy'; cases hy'
    · rw [hy] at hy'; cases hy'
    · subst h1 h2 g1 g2
      exact ⟨rfl, rfl, fewBksWZ, by decide +kernel, fun h => by omega⟩
  obtain ⟨hm, hyz, hfw, hlp, hpl⟩ := key
  subst hm
  subst hyz
  have HPL := Lib.hid hpl
  have hmm : (n2 == n2) = true := by simp
  have hmm' : (n2 != n2) = false := by simp
  clear hq hcase2 hbq S1 S3 HP2 L9 hb9 hpl
  go_upto_region 11 with (refine wpList_store_fresh2 rfl 67 (.tmp 11) (.tmp 55) rfl rfl W3 zBk.toArray 67 cq.toArray rfl rfl HCQ.out HQS.out HQO.out ?_; intro W4 S5 S6 S7; replace S5 := Lib.hid S5)
  have HP4 := Lib.hid (HP3.out.keep S6)
  have HQ4 := Lib.hid (HQ.out.keep S6)
  have L11 := Lib.hid (L10.out.keep S6)
  have S8 := Lib.hid ((S6.block W1.heap.size h13).trans S4.out)
  have hb11 := hb10.trans (S6.mono hb10.size)
  have h14 : W1.heap.size < W4.heap.size := by have := S6.size; omega
  clear S6 S4 HP3 HQ L10 hb10 h13 S7
  go_wp2_with (first | refine wpList_load_row_g (by rfl) 67 (.tmp 9) rfl (W1.heap.size) rfl 67 cp.toArray (0, 0) _ S8.out Try.underlying67 rfl HCP.out ?_ | refine wpList_load_row_g (by rfl) 67 (.tmp 11) rfl (W3.heap.size) rfl 67 cq.toArray (0, 0) _ S5.out Try.underlying67 rfl HCQ.out ?_)
  refine (rSameBooksW_c q q cp cq W4 HP4.out HQ4.out hfw hfw).mono ?_
  rintro e W5 ⟨rfl, hb12⟩
  rw [decide_eq_true (rfl : encBooks q = encBooks q)]
  have HP5 := Lib.hid (HP4.out.keep hb12)
  have L12 := Lib.hid (L11.out.keep hb12)
  have S9 := Lib.hid ((hb12.block W1.heap.size h14).trans S8.out)
  have hb13 := hb11.trans (hb12.mono hb11.size)
  clear S5 S8 HP4 HQ4 L11 hb11 hb12 h14 hmm hmm'
  go_wp2_with (refine wpList_load_row rfl 67 (.tmp 9) rfl (W1.heap.size) rfl 67 cp.toArray (0, 0) _ S9.out Try.underlying67 rfl HCP.out ?_)
  refine (books_c q cp W5 HP5.out hlp).mono ?_
  obtain ⟨R2, hR2⟩ : ∃ R, encBooks q = R := ⟨_, rfl⟩
  rw [hR2]
  have HR2 := Lib.hid hR2
  rintro e W6 ⟨v6, rfl, hn6⟩
  obtain ⟨A6, c6, rfl, hc6, _⟩ := hn6.1.form
  have hb14 := hb13.trans (hn6.2.2.mono hb13.size)
  have hcv1 : (convert 22 9 (.slice A6 R2.length c6)).run Try.prog W6 = .ok (.string (bstr R2)) W6 := run_str (hn6.1.rd (Q := (· < W6.heap.size)) (fun k hk => hn6.1.lt hk)).2
  have hcv2 : (convert 22 9 (.slice A L.length cb)).run Try.prog W6 = .ok (.string (bstr L)) W6 := run_str (L12.out.keep hn6.2.2)
  clear hn6 hc6 hR2
  by_cases hn : n2 = 0
  · subst hn
    have hbe := bstr_beq R2 L
    rw [decide_eq_true (show R2 = L from by rw [← HR2.out]; exact HPL.out rfl)] at hbe
    go_wp2_with fail
    go_ret
    exact ⟨rfl, hb14⟩
  · have hn1 : (n2 == 0) = false := by simpa using hn
    have hn2 : (n2 != 0) = true := by simpa using hn
    go_wp2_with fail
    go_ret
    exact ⟨rfl, hb14⟩
end Go.Proofs.Ytgdibeegheddmaa
