/- The walk of the law EntryReversal. Written by gen_h3.py. -/
import Derived.Test.YtnigokmjehemaaaJE8E9
import Derived.Test.YtnigokmjehemaaaKF8Order
import Derived.Test.YtnigokmjehemaaaKH1Reverse
import Derived.Test.YtnigokmjehemaaaKH2RevPlain
import Derived.Test.YtnigokmjehemaaaProg
namespace Go.Proofs.Ytnigokmjehemaaa
open Go Go.RowKit
set_option linter.unusedVariables false
set_option linter.unusedSimpArgs false
set_option maxRecDepth 4000
attribute [local go_sem ↓] Go.wp_at_zero Go.wp_at_succ
theorem wpList_app_g {P : Program} {w : World} {ops : Array Oper} {rest : List Oper} {o : Oper} {a : Act} {Q' : Exit → Act → World → Prop} (hw : Region.wanted o (yielded ops a.tmps) = true) (s x : Operand) (t : TypeId)
    (ho : o.op = .call { callee := .builtin .append, args := #[s, x], argTypes := #[t, t] })
    (base : Nat) (e : TypeId) (i : TypeInfo) (z : Value) (size bytes : Nat) (ht : P.underlying t = some (.slice e)) (hi : P.info? e = some i) (hz : i.zero = some z)
    (hsize : i.size = size) (hby : i.bytes = bytes) (hzs : z.cells.size = size) (hsz : 0 < size)
    (v : Value) (n : Nat) (xs : List Value) (hs : a.eval s = v) (hown : w.ownsRow base e size v n xs)
    (Q : Nat → Prop) (A : Option Addr) (m c : Nat) (news : List Value) (hx : a.eval x = .slice A m c) (hr : Rd w Q A m size news) (h1 : ∀ u ∈ news, u.oneCell' = true)
    (h63 : n + m ≤ maxLen) (hbytes : (n + m) * bytes ≤ 140737488355328) (hbase : base ≤ w.heap.size)
    (h : ∀ v' w', w'.ownsRow base e size v' (n + m) (xs ++ news) → w.grownBy w' v.ownBlock → (v'.ownBlock = v.ownBlock ∨ v'.ownBlock = some w.heap.size) → wpList P ops Q' rest (a.put o.dst v') w') : wpList P ops Q' (o :: rest) a w :=
  wpList_step fun K hK => by rw [if_pos hw]; exact wp_app w s x t ho base e i z size bytes ht hi hz hsize hby hzs hsz v n xs hs hown Q A m c news hx hr h1 h63 hbytes hbase fun v' w' h2 h3 h4 => hK _ _ (h v' w' h2 h3 h4)
/-- An empty slice that was made. -/
def IsMade (W : World) (v : Value) (w : World) : Prop := ∃ g, v = .slice (some ⟨g, 0, none⟩) 0 0 ∧ W.heap.size ≤ g ∧ w.heap[g]? = some (.cells #[] 57 (0, 0))
theorem IsMade.keep (W : World) : ∀ v w w', Below w.heap.size w w' → IsMade W v w → IsMade W v w' := fun v w w' hb ⟨g, e, h1, h2⟩ => ⟨g, e, h1, (hb.block g (blk_lt h2)).trans h2⟩
theorem IsMade.made {W w : World} (h : W.heap.size ≤ w.heap.size) : IsMade W (.slice (some ⟨w.heap.size, 0, none⟩) 0 0) (w.alloc (.cells #[] 57)) := ⟨_, rfl, h, heap_alloc_new _ _⟩
def IsOwn (W : World) (n : Nat) (xs : List Value) (v : Value) (w : World) : Prop := w.ownsRow W.heap.size 57 3 v n xs
theorem IsOwn.keep (W : World) (n : Nat) (xs : List Value) : ∀ v w w', Below w.heap.size w w' → IsOwn W n xs v w → IsOwn W n xs v w' := fun v w w' hb h => own_below h hb
set_option maxHeartbeats 4000000 in
theorem law_reversal (g : XGroup) (x : XEntry) (gl ex : List Value) (b0 b1 : Int) (w : World) (hg : GroupC w (· < w.heap.size) gl g) (hsz : szG g) (hx : EntryC w (· < w.heap.size) ex x) (hts : x.text.size ≤ 140737488355327) (hb0 : intBd b0) (hb1 : intBd b1) : Calls Try.prog 13 #[.agg gl.toArray, .agg ex.toArray, .agg #[.int .i64 b0, .int .i64 b1]] w (Quiet w (.bool true)) := by
  obtain ⟨ia, hia, hzia, hsia, hbia⟩ := info_parts info_lineA
  have HF := Lib.hid (fun (w2 : World) (hb : Below w.heap.size w w2) => few11_c g x gl ex w2 (hg.keep hb) hsz (hx.keep hb) hts)
  have HCK := Lib.hid (fun (w2 : World) (hb : Below w.heap.size w w2) (hf : fewG g) => check_c g x gl ex w2 (hg.keep hb) hf.small (hx.keep hb) hts)
  have HCR := Lib.hid (fun (w2 : World) (hb : Below w.heap.size w w2) (hf : fewG g) (y : XEntry) (ey : List Value) (hy : EntryC w2 (· < w2.heap.size) ey y) (ht : y.text.size ≤ 140737488355327) => check_c g y gl ey w2 (hg.keep hb) hf.small hy ht)
  obtain ⟨R, hR⟩ : ∃ R, checkE g x = R := ⟨_, rfl⟩
  rw [hR] at HCK
  have HR := Lib.hid hR
  have hgl : gl.length = 21 := hg.len
  have HGS := Lib.hid (show gl.toArray.size = 21 by simpa using hgl)
  have HGI := Lib.hid (show (Try.prog.info? 29).map (·.size) = some gl.length by rw [info_group, hgl])
  obtain ⟨Ac, cc, Ae, ce, _, _, _, v1, v2, v3, _, _⟩ := hg.view
  obtain ⟨yy, hyy⟩ : ∃ y, g.calendar.year = y := ⟨_, rfl⟩
  obtain ⟨mm, hmm⟩ : ∃ y, g.calendar.month = y := ⟨_, rfl⟩
  obtain ⟨nn, hnn⟩ : ∃ y, g.calendar.periods = y := ⟨_, rfl⟩
  have VY := Lib.hid v1
  have VM := Lib.hid v2
  have VN := Lib.hid v3
  obtain ⟨Al, cl, hex, hxb, hl⟩ := hx.lit
  subst hex
  have HL := Lib.hid hl
  have HSM := Lib.hid (fun (w2 : World) (hb : Below w.heap.size w w2) => small11_c x.lines Al cl w2 (lines_keep hl hb))
  have HRV := Lib.hid (fun (w2 : World) (hb : Below w.heap.size w w2) (hs : smallL x.lines) => reverse_c x.id x.entity x.date x.kind x.of_ x.text x.lines Al cl b0 b1 w2 (lines_keep hl hb) (fun y hy => by have := hs.1 y hy; unfold midL; omega) (by have := hs.2; omega))
  obtain ⟨fwp, hfwp⟩ : ∃ p : Prop, (fewG g ∧ x.lines.length ≤ 60 ∧ x.text.size ≤ 200) = p := ⟨_, rfl⟩
  have HFG := Lib.hid (show fwp → fewG g from fun h => (hfwp ▸ h : fewG g ∧ _).1)
  rw [hfwp] at HF
  obtain ⟨smp, hsmp⟩ : ∃ p : Prop, smallL x.lines = p := ⟨_, rfl⟩
  have HSL := Lib.hid (show smp → smallL x.lines from fun h => hsmp ▸ h)
  rw [hsmp] at HSM HRV
  have HOPE := Lib.hid (show R = 0 → 1 ≤ b0 → checkE g (revE x b0 b1) = (if inCalB g.calendar.year g.calendar.month g.calendar.periods b1 = true then 0 else 2) from fun h h1 => checkE_rev b1 (hR.trans h) h1)
  have HCAL := Lib.hid (show R = 0 → calB g.calendar.year g.calendar.month g.calendar.periods = true from fun h => formed_cal (checkE_ok (hR.trans h)).1)
  have HFM := Lib.hid (show R = 0 → 2 ≤ x.lines.length from fun h => ((formB_iff _ _ _).1 (checkE_ok (hR.trans h)).1).2.2.2.2.2.2.2.2.2.1)
  rw [hyy, hmm, hnn] at HOPE HCAL
  rw [hyy] at VY
  rw [hmm] at VM
  rw [hnn] at VN
  clear hyy hmm hnn
  obtain ⟨IC, hIC⟩ : ∃ b, inCalB yy mm nn b1 = b := ⟨_, rfl⟩
  have HIC := Lib.hid hIC
  rw [hIC] at HOPE
  clear hIC
  obtain ⟨xi, xe, xd, xk, xo, xt, ls⟩ := x
  simp only at hxb hts HF HCK HSM HRV HSL HFM HL HOPE ⊢
  have HTS := Lib.hid hts
  have HXB := Lib.hid hxb
  obtain ⟨nl, hnl⟩ : ∃ n, ls.length = n := ⟨_, rfl⟩
  have HN := Lib.hid hnl
  rw [hnl] at HF HCK HSM HRV HFM HL ⊢
  have HBB := Lib.hid (And.intro hb0 hb1)
  clear hb0 hb1 hR hg hsz hx hts hgl hl hfwp hsmp hnl v1 v2 v3 hxb
  show Calls Try.prog 13 #[.agg gl.toArray, .agg #[.int .i64 xi, .int .i64 xe, .int .i64 xd, .int .i64 xk, .int .i64 xo, .string xt, .slice Al nl cl], .agg #[.int .i64 b0, .int .i64 b1]] w (Quiet w (.bool true))
  go_enter Try.func13, Try.ntmps13
  go_upto_region 1 with fail
  have H := heap_alloc_new w (.cells gl.toArray 29)
  have HB := below1 w (.cells gl.toArray 29)
  have HS : w.heap.size < (w.alloc (.cells gl.toArray 29)).heap.size := blk_lt H
  generalize hW : w.alloc (Obj.cells gl.toArray 29) = W at *
  have H2 := heap_alloc_new W (.cells #[.int .i64 xi, .int .i64 xe, .int .i64 xd, .int .i64 xk, .int .i64 xo, .string xt, .slice Al nl cl] 53)
  have HB2 := below1 W (.cells #[.int .i64 xi, .int .i64 xe, .int .i64 xd, .int .i64 xk, .int .i64 xo, .string xt, .slice Al nl cl] 53)
  have HS2 : W.heap.size < (W.alloc (.cells #[.int .i64 xi, .int .i64 xe, .int .i64 xd, .int .i64 xk, .int .i64 xo, .string xt, .slice Al nl cl] 53)).heap.size := blk_lt H2
  replace H := alloc_keep H (Obj.cells #[.int .i64 xi, .int .i64 xe, .int .i64 xd, .int .i64 xk, .int .i64 xo, .string xt, .slice Al nl cl] 53)
  generalize hW2 : W.alloc (Obj.cells #[.int .i64 xi, .int .i64 xe, .int .i64 xd, .int .i64 xk, .int .i64 xo, .string xt, .slice Al nl cl] 53) = W2 at *
  have HSZ2 : W2.heap.size = W.heap.size + 1 := by rw [← hW2]; simp
  clear hW2
  have eW : W.heap.size = w.heap.size + 1 := by rw [← hW]; simp
  rw [eW] at H2
  clear hW
  have hb2 := HB.trans (HB2.mono HB.size)
  have hs2 := HB2.size
  have LT1 := blk_lt H2
  have LT0 : w.heap.size < W2.heap.size := by omega
  have eW2 : W2.heap.size = w.heap.size + 1 + 1 := by have h := LT1; rw [show W2.heap.size = W.heap.size + 1 from HSZ2, eW]
  have H3 := heap_alloc_new W2 (.cells #[.int .i64 b0, .int .i64 b1] 96)
  have HB3 := below1 W2 (.cells #[.int .i64 b0, .int .i64 b1] 96)
  have HS3 : W2.heap.size < (W2.alloc (.cells #[.int .i64 b0, .int .i64 b1] 96)).heap.size := blk_lt H3
  replace H := alloc_keep H (Obj.cells #[.int .i64 b0, .int .i64 b1] 96)
  replace H2 := alloc_keep H2 (Obj.cells #[.int .i64 b0, .int .i64 b1] 96)
  generalize hW3 : W2.alloc (Obj.cells #[.int .i64 b0, .int .i64 b1] 96) = W3 at *
  clear hW3
  rw [eW2] at H3
  have hb3 := hb2.trans (HB3.mono hb2.size)
  have HH := Lib.hid H
  have HZ := Lib.hid H2
  have HT := Lib.hid H3
  have EW := Lib.hid eW
  have EW2 := Lib.hid eW2
  have LT2 := blk_lt H3
  replace LT1 := blk_lt H2
  replace LT0 := blk_lt H
  clear H H2 H3 eW eW2 HSZ2
  go_wp2_with fail
  refine (awake11_c W3).mono ?_
  rintro e w4 ⟨rfl, hb4⟩
  have hb03 := hb3
  have LT03 := LT0
  have LT13 := LT1
  have LT23 := LT2
  have HH3 := HH
  have HZ3 := HZ
  have HT3 := HT
  have hb04 := hb03.trans (hb4.mono hb03.size)
  have hs4 := hb4.size
  have LT04 := Nat.lt_of_lt_of_le LT03 hs4
  have LT14 := Nat.lt_of_lt_of_le LT13 hs4
  have HH4 := Lib.hid ((hb4.block _ LT03).trans HH3.out)
  have HZ4 := Lib.hid ((hb4.block _ LT13).trans HZ3.out)
  have LT24 := Nat.lt_of_lt_of_le LT23 hs4
  have HT4 := Lib.hid ((hb4.block _ LT23).trans HT3.out)
  go_wp2_with (first | (show wpList _ _ _ (Oper.mk (some 11) _ _ _ _ _ :: _) _ _; refine wpList_load_row_g rfl 29 (.tmp 3) rfl (w.heap.size) rfl _ _ _ _ HH4.out Try.underlying29 rfl (by rw [info_group]; exact congrArg some HGS.out.symm) ?_) | (show wpList _ _ _ (Oper.mk (some 12) _ _ _ _ _ :: _) _ _; refine wpList_load_row_g rfl 53 (.tmp 4) rfl (w.heap.size + 1) rfl _ _ _ _ HZ4.out Try.underlying53 rfl info_entry ?_))
  refine (HF.out w4 hb04).mono ?_
  rintro e w5 ⟨bf, rfl, hf, hb5⟩
  have hb05 := hb04.trans (hb5.mono hb04.size)
  have hs5 := hb5.size
  have LT05 := Nat.lt_of_lt_of_le LT04 hs5
  have LT15 := Nat.lt_of_lt_of_le LT14 hs5
  have HH5 := Lib.hid ((hb5.block _ LT04).trans HH4.out)
  have HZ5 := Lib.hid ((hb5.block _ LT14).trans HZ4.out)
  have LT25 := Nat.lt_of_lt_of_le LT24 hs5
  have HT5 := Lib.hid ((hb5.block _ LT24).trans HT4.out)
  cases bf with
  | false =>
    clear hf
    go_wp2_with fail
    go_ret
    exact ⟨rfl, hb05⟩
  | true =>
  have HFW := Lib.hid (HFG.out (hf rfl))
  clear hf
  have e6 := blk_cell HZ5.out 6
  go_wp2_with fail
  refine (HSM.out w5 hb05).mono ?_
  rintro e w6 ⟨bs, rfl, hs, hb6⟩
  have hb06 := hb05.trans (hb6.mono hb05.size)
  have hs6 := hb6.size
  have LT06 := Nat.lt_of_lt_of_le LT05 hs6
  have LT16 := Nat.lt_of_lt_of_le LT15 hs6
  have HH6 := Lib.hid ((hb6.block _ LT05).trans HH5.out)
  have HZ6 := Lib.hid ((hb6.block _ LT15).trans HZ5.out)
  have LT26 := Nat.lt_of_lt_of_le LT25 hs6
  have HT6 := Lib.hid ((hb6.block _ LT25).trans HT5.out)
  clear e6
  cases bs with
  | false =>
    clear hs
    go_wp2_with fail
    go_ret
    exact ⟨rfl, hb06⟩
  | true =>
  have HSMP := Lib.hid (hs rfl)
  clear hs
  go_wp2_with (first | (show wpList _ _ _ (Oper.mk (some 22) _ _ _ _ _ :: _) _ _; refine wpList_load_row_g rfl 29 (.tmp 3) rfl (w.heap.size) rfl _ _ _ _ HH6.out Try.underlying29 rfl (by rw [info_group]; exact congrArg some HGS.out.symm) ?_) | (show wpList _ _ _ (Oper.mk (some 23) _ _ _ _ _ :: _) _ _; refine wpList_load_row_g rfl 53 (.tmp 4) rfl (w.heap.size + 1) rfl _ _ _ _ HZ6.out Try.underlying53 rfl info_entry ?_))
  refine (HCK.out w6 hb06 HFW.out).mono ?_
  rintro e w7 ⟨rfl, hb7⟩
  have hb07 := hb06.trans (hb7.mono hb06.size)
  have hs7 := hb7.size
  have LT07 := Nat.lt_of_lt_of_le LT06 hs7
  have LT17 := Nat.lt_of_lt_of_le LT16 hs7
  have HH7 := Lib.hid ((hb7.block _ LT06).trans HH6.out)
  have HZ7 := Lib.hid ((hb7.block _ LT16).trans HZ6.out)
  have LT27 := Nat.lt_of_lt_of_le LT26 hs7
  have HT7 := Lib.hid ((hb7.block _ LT26).trans HT6.out)
  by_cases hR0 : R = 0
  case neg =>
    have hq : (R == 0) = false := by simp [hR0]
    have hq2 : (R != 0) = true := by simp [hR0]
    go_wp2_with fail
    go_ret
    exact ⟨rfl, hb07⟩
  case pos =>
  have HR0 := Lib.hid hR0
  have hq : (R == 0) = true := by simp [hR0]
  have hq2 : (R != 0) = false := by simp [hR0]
  clear hR0
  have d0 := blk_cell HT7.out 0
  by_cases h1 : b0 < 1
  case pos =>
    have h1d : decide (b0 < 1) = true := decide_eq_true h1
    go_wp2_with fail
    go_ret
    exact ⟨rfl, hb07⟩
  case neg =>
  have h1d : decide (b0 < 1) = false := decide_eq_false h1
  have d1 := blk_cell HT7.out 1
  go_wp2_with (show wpList _ _ _ (Oper.mk (some 32) _ _ _ _ _ :: _) _ _; refine wpList_load_row_g rfl 53 (.tmp 4) rfl (w.heap.size + 1) rfl _ _ _ _ HZ7.out Try.underlying53 rfl info_entry ?_)
  have HB1 := Lib.hid (show 1 ≤ b0 by omega)
  clear h1 h1d hq hq2 d0 d1
  refine (HRV.out w7 hb07 HSMP.out).mono ?_
  rintro e w8 hp
  obtain ⟨Ar, cr, he, hlr, hb8⟩ : ∃ Ar cr, e = .returned (.agg #[.int .i64 b0, .int .i64 xe, .int .i64 b1, .int .i64 3, .int .i64 xi, .string xt, .slice Ar ls.length cr]) ∧ ListC LineC 3 w8 (fun q => w7.heap.size ≤ q ∧ q < w8.heap.size) [.slice Ar ls.length cr] (ls.map negL) ∧ Below w7.heap.size w7 w8 := hp
  rw [HN.out] at he hlr
  subst he
  have hb08 := hb07.trans (hb8.mono hb07.size)
  have hs8 := hb8.size
  have LT08 := Nat.lt_of_lt_of_le LT07 hs8
  have LT18 := Nat.lt_of_lt_of_le LT17 hs8
  have HH8 := Lib.hid ((hb8.block _ LT07).trans HH7.out)
  have HZ8 := Lib.hid ((hb8.block _ LT17).trans HZ7.out)
  have LT28 := Nat.lt_of_lt_of_le LT27 hs8
  have HT8 := Lib.hid ((hb8.block _ LT27).trans HT7.out)
  have HLR := Lib.hid hlr
  clear hlr
  go_upto_region 6 with (show wpList _ _ _ (Oper.mk none (Op.store _ (Operand.tmp 7) _) _ _ _ _ :: _) _ _; refine wpList_store_fresh3 rfl 53 (.tmp 7) (.tmp 37) rfl rfl w8 #[.int .i64 0, .int .i64 0, .int .i64 0, .int .i64 0, .int .i64 0, .string ⟨#[]⟩, .slice none 0 0] 53 #[.int .i64 b0, .int .i64 xe, .int .i64 b1, .int .i64 3, .int .i64 xi, .string xt, .slice Ar nl cr] rfl rfl rfl info_entry rfl (by simp [Value.oneCell']) ?_; intro w9 hr9 hb9 hlt9)
  have hb09 := hb08.trans (hb9.mono hb08.size)
  have hs9 := hb9.size
  have LT09 := Nat.lt_of_lt_of_le LT08 hs9
  have LT19 := Nat.lt_of_lt_of_le LT18 hs9
  have HH9 := Lib.hid ((hb9.block _ LT08).trans HH8.out)
  have HZ9 := Lib.hid ((hb9.block _ LT18).trans HZ8.out)
  have LT29 := Nat.lt_of_lt_of_le LT28 hs9
  have HT9 := Lib.hid ((hb9.block _ LT28).trans HT8.out)
  have HR9 := Lib.hid hr9
  clear hr9
  have HCR9 := Lib.hid (cal_range HH9.out VY.out VM.out VN.out)
  have hcall := inCal_c yy mm nn b1 w9 (HCAL.out HR0.out)
  rw [HIC.out] at hcall
  have HCALL := Lib.hid hcall
  clear hcall
  have d1 := blk_cell HT9.out 1
  go_upto_region 7 with fail
  go_upto_if 43 with (show wpList _ _ _ (Oper.mk (some 39) _ _ _ _ _ :: _) _ _; refine wpList_load_mid rfl 23 (.tmp 38) rfl w.heap.size 1 rfl [.int .i64 yy, .int .i64 mm, .int .i64 nn] _ HCR9.out Try.underlying23 rfl info_cal ?_)
  refine HCALL.out.mono ?_
  rintro e w10 ⟨rfl, hb10⟩
  have hb010 := hb09.trans (hb10.mono hb09.size)
  have hs10 := hb10.size
  have LT010 := Nat.lt_of_lt_of_le LT09 hs10
  have LT110 := Nat.lt_of_lt_of_le LT19 hs10
  have HH10 := Lib.hid ((hb10.block _ LT09).trans HH9.out)
  have HZ10 := Lib.hid ((hb10.block _ LT19).trans HZ9.out)
  have LT210 := Nat.lt_of_lt_of_le LT29 hs10
  have HT10 := Lib.hid ((hb10.block _ LT29).trans HT9.out)
  have HR10 := Lib.hid ((hb10.block _ hlt9).trans HR9.out)
  have hlt10 := Nat.lt_of_lt_of_le hlt9 hb10.size
  clear d1
  go_upto_if 43 with fail
  go_cut [8] from 8 to 9 (fun v wx => v = .int .i64 (if IC = true then 0 else 2) ∧ w10 = wx)
  case first =>
    cases IC with
    | true =>
      go_wp2_with fail
      go_meet
      exact ⟨rfl, rfl⟩
    | false =>
      go_wp2_with fail
      go_meet
      exact ⟨rfl, rfl⟩
  case rest =>
  obtain ⟨rfl, rfl⟩ := hcut
  obtain ⟨R2, hR2⟩ : ∃ R2 : Int, (if IC = true then 0 else 2) = R2 := ⟨_, rfl⟩
  rw [hR2] at HOPE ⊢
  clear hR2
  have HBW := Lib.hid hb010
  have HLR10 := Lib.hid (fun (w2 : World) (hb : Below w10.heap.size w10 w2) => lines_keep (HLR.out.mono (fun h => LineC.mono h (fun q hq => hq.2)) (fun q hq => hq.2)) (hb9.trans ((hb10.trans (hb.mono hb10.size)).mono hb9.size)))
  have HLX10 := Lib.hid (fun (w2 : World) (hb : Below w10.heap.size w10 w2) => lines_keep HL.out (hb010.trans (hb.mono hb010.size)))
  have HCK9 := Lib.hid (fun (w2 : World) (hb : Below w10.heap.size w10 w2) => show Calls Try.prog 59 #[.agg gl.toArray, .agg #[.int .i64 b0, .int .i64 xe, .int .i64 b1, .int .i64 3, .int .i64 xi, .string xt, .slice Ar nl cr]] w2 (Quiet w2 (.int .i64 R2)) by
    have h := HCR.out w2 (hb010.trans (hb.mono hb010.size)) HFW.out ⟨b0, xe, b1, 3, xi, xt, ls.map negL⟩ [.int .i64 b0, .int .i64 xe, .int .i64 b1, .int .i64 3, .int .i64 xi, .string xt, .slice Ar nl cr] ⟨[_], [_], [_], [_], [_], [_], [_], rfl, ⟨rfl, HBB.out.1⟩, ⟨rfl, HXB.out.2.1⟩, ⟨rfl, HBB.out.2⟩, ⟨rfl, by show intBd 3; unfold intBd; omega⟩, ⟨rfl, HXB.out.1⟩, rfl, HLR10.out w2 hb⟩ HTS.out
    rw [show checkE g ⟨b0, xe, b1, 3, xi, xt, ls.map negL⟩ = R2 from HOPE.out HR0.out HB1.out] at h
    exact h)
  have HOP9 := Lib.hid (fun (w2 : World) (hb : Below w10.heap.size w10 w2) => show Calls Try.prog 43 #[.slice Ar nl cr, .slice Al nl cl] w2 (Quiet w2 (.bool true)) by
    have h := opp_c (ls.map negL) ls Ar Al cr cl w2 (by rw [List.length_map, HN.out]; exact HLR10.out w2 hb) (by rw [HN.out]; exact HLX10.out w2 hb) (fun y hy => by have := (HSL.out HSMP.out).1 y hy; unfold midL; omega)
    rw [List.length_map, HN.out, show oppB (ls.map negL) ls = true by simp [oppB]] at h
    exact h)
  have HRD1 := Lib.hid (fun (w2 : World) (hb : Below w10.heap.size w10 w2) => show Rd w2 (· < w2.heap.size) Al nl 3 (ls.flatMap lineL) by
    have h := rd_lines (HLX10.out w2 hb) nl (by rw [HN.out]; exact Nat.le_refl _)
    rw [List.take_of_length_le (by rw [HN.out]; exact Nat.le_refl _)] at h
    exact h)
  have HRD2 := Lib.hid (fun (w2 : World) (hb : Below w10.heap.size w10 w2) => show Rd w2 (· < w2.heap.size) Ar nl 3 ((ls.map negL).flatMap lineL) by
    have h := rd_lines (HLR10.out w2 hb) nl (by rw [List.length_map, HN.out]; exact Nat.le_refl _)
    rw [List.take_of_length_le (by rw [List.length_map, HN.out]; exact Nat.le_refl _)] at h
    exact h)
  have hn100 : nl ≤ 100 := by rw [← HN.out]; exact (HSL.out HSMP.out).2
  have hn2 : 2 ≤ nl := HFM.out HR0.out
  obtain ⟨F1, hF1⟩ : ∃ F, ls.flatMap lineL = F := ⟨_, rfl⟩
  have HF1 := Lib.hid hF1
  rw [hF1] at HRD1
  have HONE := Lib.hid (show ∀ u ∈ F1, u.oneCell' = true from hF1 ▸ flat_one ls)
  have HATG := Lib.hid (box_at (cs := gl) HH10.out)
  have HATR := Lib.hid (box_at (cs := [.int .i64 b0, .int .i64 xe, .int .i64 b1, .int .i64 3, .int .i64 xi, .string xt, .slice Ar nl cr]) HR10.out)
  have HV8 := Lib.hid hlt10
  have HV1 := Lib.hid LT110
  have D8 := Lib.hid (blk_cell HR10.out 6)
  have D1 := Lib.hid (blk_cell HZ10.out 6)
  clear hF1 hlt9 hlt10
  go_wp2_with fail
  refine wp_region_inv3 19 (Ks w10 [.val (.agg gl.toArray), .val (.agg #[.int .i64 b0, .int .i64 xe, .int .i64 b1, .int .i64 3, .int .i64 xi, .string xt, .slice Ar nl cr]), .val (.int .i64 R2), .val (.int .i64 R2), .val (.bool true), .val (.bool true), .val (.pointer (some ⟨w8.heap.size, 6, none⟩)), .val (.slice Ar nl cr), .val (.pointer (some ⟨(w.heap.size + 1), 6, none⟩)), .val (.slice Al nl cl), .val (.bool true), .val (.bool true), .val (.bool true), .own (IsMade w10) (IsMade.keep _), .val (.pointer (some ⟨(w.heap.size + 1), 6, none⟩)), .val (.slice Al nl cl), .own (IsOwn w10 nl F1) (IsOwn.keep _ _ _), .val (.pointer (some ⟨w8.heap.size, 6, none⟩)), .val (.slice Ar nl cr)])
    (fun w' => Below w10.heap.size w10 w') (by kernel_rfl) (by kernel_rfl) (by kernel_rfl) (by decide) (by kernel_rfl) (by kernel_rfl) (by kernel_rfl) (Below.refl _ _).drew ?_ ?_
  · refine ⟨?_, ?_, ?_, ?_, ?_, ?_, ?_, ?_, ?_, ?_, ?_, ?_, ?_, ?_, ?_, ?_, ?_, ?_, ?_, trivial⟩
    · intro listed A0 w2 hI hd hnd K hK
      have e0 := hI.slot hnd 3 _ rfl (by kernel_rfl)
      have hS := hI.world
      have hrange : w2.rangeAt w.heap.size 0 gl := (HATG.out.fr (Fr.ofBelow hS)).range
      have hisize := HGI.out
      refine wanted_go rfl ?_
      clear hI hd hnd
      refine wp_load_mid 29 (.tmp 3) rfl _ _ (by simpa [Act.eval, Array.getD_eq_getD_getElem?] using e0) _ _ hrange Try.underlying29 rfl hisize ?_
      exact hK.out _ _ hS (Ks.of rfl rfl) (fun _ _ h => h)
    · intro listed A0 w2 hI hd hnd K hK
      have e0 := hI.slot hnd 7 _ rfl (by kernel_rfl)
      have hS := hI.world
      have hrange : w2.rangeAt w8.heap.size 0 [.int .i64 b0, .int .i64 xe, .int .i64 b1, .int .i64 3, .int .i64 xi, .string xt, .slice Ar nl cr] := (HATR.out.fr (Fr.ofBelow hS)).range
      have hisize := info_entry
      refine wanted_go rfl ?_
      clear hI hd hnd
      refine wp_load_mid 53 (.tmp 7) rfl _ _ (by simpa [Act.eval, Array.getD_eq_getD_getElem?] using e0) _ _ hrange Try.underlying53 rfl hisize ?_
      exact hK.out _ _ hS (Ks.of rfl rfl) (fun _ _ h => h)
    · intro listed A0 w2 hI hd hnd K hK
      have e0 := hI.depv hd 0 44 _ rfl rfl rfl (by kernel_rfl)
      have e1 := hI.depv hd 1 45 _ rfl rfl rfl (by kernel_rfl)
      have hS := hI.world
      refine wanted_go rfl ?_
      clear hI hd hnd
      go_simp
      go_at_call 59
      refine (HCK9.out w2 hS).mono ?_
      rintro e w3 ⟨rfl, h3⟩
      exact hK.out _ _ (hS.trans (h3.mono hS.size)) (Ks.of rfl rfl) (Ks.keep h3)
    · intro listed A0 w2 hI hd hnd K hK
      have e0 := hI.slot hnd 8 _ rfl (by kernel_rfl)
      have hS := hI.world
      refine wanted_go rfl ?_
      clear hI hd hnd
      go_simp
      exact hK.out _ _ hS (Ks.of rfl rfl) (fun _ _ h => h)
    · intro listed A0 w2 hI hd hnd K hK
      have e0 := hI.depv hd 2 46 _ rfl rfl rfl (by kernel_rfl)
      have e1 := hI.depv hd 3 47 _ rfl rfl rfl (by kernel_rfl)
      have hS := hI.world
      refine wanted_go rfl ?_
      clear hI hd hnd
      go_simp
      exact hK.out _ _ hS (Ks.of rfl rfl) (fun _ _ h => h)
    · intro listed A0 w2 hI hd hnd K hK
      have e0 := hI.depv hd 4 48 _ rfl rfl rfl (by kernel_rfl)
      have hS := hI.world
      refine wanted_go rfl ?_
      clear hI hd hnd
      go_simp
      exact hK.out _ _ hS (Ks.of rfl rfl) (fun _ _ h => h)
    · intro listed A0 w2 hI hd hnd K hK
      have e0 := hI.slot hnd 7 _ rfl (by kernel_rfl)
      have hS := hI.world
      refine wanted_yes rfl (hI.yield hd 5 49 true rfl rfl rfl (by kernel_rfl)) ?_
      clear hI hd hnd
      go_simp
      exact hK.out _ _ hS (Ks.of rfl rfl) (fun _ _ h => h)
    · intro listed A0 w2 hI hd hnd K hK
      have e0 := hI.depv hd 6 50 _ rfl rfl rfl (by kernel_rfl)
      have hS := hI.world
      have hcc : w2.cell? ⟨w8.heap.size, 6, none⟩ = _ := (hS.cell (p := ⟨w8.heap.size, 6, none⟩) HV8.out).trans D8.out
      refine wanted_yes rfl (hI.yield hd 5 49 true rfl rfl rfl (by kernel_rfl)) ?_
      clear hI hd hnd
      go_simp
      exact hK.out _ _ hS (Ks.of rfl rfl) (fun _ _ h => h)
    · intro listed A0 w2 hI hd hnd K hK
      have e0 := hI.slot hnd 4 _ rfl (by kernel_rfl)
      have hS := hI.world
      refine wanted_yes rfl (hI.yield hd 5 49 true rfl rfl rfl (by kernel_rfl)) ?_
      clear hI hd hnd
      go_simp
      exact hK.out _ _ hS (Ks.of rfl rfl) (fun _ _ h => h)
    · intro listed A0 w2 hI hd hnd K hK
      have e0 := hI.depv hd 8 52 _ rfl rfl rfl (by kernel_rfl)
      have hS := hI.world
      have hcc : w2.cell? ⟨(w.heap.size + 1), 6, none⟩ = _ := (hS.cell (p := ⟨(w.heap.size + 1), 6, none⟩) HV1.out).trans D1.out
      refine wanted_yes rfl (hI.yield hd 5 49 true rfl rfl rfl (by kernel_rfl)) ?_
      clear hI hd hnd
      go_simp
      exact hK.out _ _ hS (Ks.of rfl rfl) (fun _ _ h => h)
    · intro listed A0 w2 hI hd hnd K hK
      have e0 := hI.depv hd 7 51 _ rfl rfl rfl (by kernel_rfl)
      have e1 := hI.depv hd 9 53 _ rfl rfl rfl (by kernel_rfl)
      have hS := hI.world
      refine wanted_yes rfl (hI.yield hd 5 49 true rfl rfl rfl (by kernel_rfl)) ?_
      clear hI hd hnd
      go_simp
      go_at_call 43
      refine (HOP9.out w2 hS).mono ?_
      rintro e w3 ⟨rfl, h3⟩
      exact hK.out _ _ (hS.trans (h3.mono hS.size)) (Ks.of rfl rfl) (Ks.keep h3)
    · intro listed A0 w2 hI hd hnd K hK
      have e0 := hI.depv hd 5 49 _ rfl rfl rfl (by kernel_rfl)
      have e1 := hI.depv hd 10 54 _ rfl rfl rfl (by kernel_rfl)
      have hS := hI.world
      refine wanted_go rfl ?_
      clear hI hd hnd
      go_simp
      exact hK.out _ _ hS (Ks.of rfl rfl) (fun _ _ h => h)
    · intro listed A0 w2 hI hd hnd K hK
      have e0 := hI.depv hd 11 55 _ rfl rfl rfl (by kernel_rfl)
      have hS := hI.world
      refine wanted_go rfl ?_
      clear hI hd hnd
      go_simp
      exact hK.out _ _ hS (Ks.of rfl rfl) (fun _ _ h => h)
    · intro listed A0 w2 hI hd hnd K hK
      have hS := hI.world
      refine wanted_yes rfl (hI.yield hd 12 56 true rfl rfl rfl (by kernel_rfl)) ?_
      clear hI hd hnd
      go_simp
      exact hK.out _ _ (hS.alloc hS.size _) (Ks.of rfl (IsMade.made hS.size)) (Ks.keep (below1 w2 _))
    · intro listed A0 w2 hI hd hnd K hK
      have e0 := hI.slot hnd 4 _ rfl (by kernel_rfl)
      have hS := hI.world
      refine wanted_yes rfl (hI.yield hd 12 56 true rfl rfl rfl (by kernel_rfl)) ?_
      clear hI hd hnd
      go_simp
      exact hK.out _ _ hS (Ks.of rfl rfl) (fun _ _ h => h)
    · intro listed A0 w2 hI hd hnd K hK
      have e0 := hI.depv hd 14 58 _ rfl rfl rfl (by kernel_rfl)
      have hS := hI.world
      have hcc : w2.cell? ⟨(w.heap.size + 1), 6, none⟩ = _ := (hS.cell (p := ⟨(w.heap.size + 1), 6, none⟩) HV1.out).trans D1.out
      refine wanted_yes rfl (hI.yield hd 12 56 true rfl rfl rfl (by kernel_rfl)) ?_
      clear hI hd hnd
      go_simp
      exact hK.out _ _ hS (Ks.of rfl rfl) (fun _ _ h => h)
    · intro listed A0 w2 hI hd hnd K hK
      obtain ⟨x0, e0, h0⟩ := hI.dep hd 13 57 rfl rfl rfl (by kernel_rfl)
      have e1 := hI.depv hd 15 59 _ rfl rfl rfl (by kernel_rfl)
      have hS := hI.world
      obtain ⟨g5, rfl, hg1, hg2⟩ := h0
      refine wanted_yes rfl (hI.yield hd 12 56 true rfl rfl rfl (by kernel_rfl)) ?_
      clear hI hd hnd
      refine wp_app_made (w := w2) (.tmp 57) (.tmp 59) 51 rfl w10.heap.size 57 ia _ 3 24 lines_uty hia hzia hsia hbia rfl (by decide) g5 (by simpa [Act.eval, Array.getD_eq_getD_getElem?] using e0) hg2 hg1 (· < w2.heap.size) Al nl cl F1 (by simpa [Act.eval, Array.getD_eq_getD_getElem?] using e1) (HRD1.out w2 hS) HONE.out (by omega) (by simp only [maxLen]; omega) (by omega) hS.size ?_
      intro v9 w9 hown9 hb9
      exact hK.out _ _ (hS.trans (hb9.mono hS.size)) (Ks.of rfl hown9) (Ks.keep hb9)
    · intro listed A0 w2 hI hd hnd K hK
      have e0 := hI.slot hnd 7 _ rfl (by kernel_rfl)
      have hS := hI.world
      refine wanted_yes rfl (hI.yield hd 12 56 true rfl rfl rfl (by kernel_rfl)) ?_
      clear hI hd hnd
      go_simp
      exact hK.out _ _ hS (Ks.of rfl rfl) (fun _ _ h => h)
    · intro listed A0 w2 hI hd hnd K hK
      have e0 := hI.depv hd 17 61 _ rfl rfl rfl (by kernel_rfl)
      have hS := hI.world
      have hcc : w2.cell? ⟨w8.heap.size, 6, none⟩ = _ := (hS.cell (p := ⟨w8.heap.size, 6, none⟩) HV8.out).trans D8.out
      refine wanted_yes rfl (hI.yield hd 12 56 true rfl rfl rfl (by kernel_rfl)) ?_
      clear hI hd hnd
      go_simp
      exact hK.out _ _ hS (Ks.of rfl rfl) (fun _ _ h => h)
  · intro A0 w2 hI
    obtain ⟨x0, g0, h0⟩ := hI.got 0 _ 44 rfl rfl rfl
    obtain ⟨x1, g1, h1⟩ := hI.got 1 _ 45 rfl rfl rfl
    obtain ⟨x2, g2, h2⟩ := hI.got 2 _ 46 rfl rfl rfl
    obtain ⟨x3, g3, h3⟩ := hI.got 3 _ 47 rfl rfl rfl
    obtain ⟨x4, g4, h4⟩ := hI.got 4 _ 48 rfl rfl rfl
    obtain ⟨x5, g5, h5⟩ := hI.got 5 _ 49 rfl rfl rfl
    obtain ⟨x6, g6, h6⟩ := hI.got 6 _ 50 rfl rfl rfl
    obtain ⟨x7, g7, h7⟩ := hI.got 7 _ 51 rfl rfl rfl
    obtain ⟨x8, g8, h8⟩ := hI.got 8 _ 52 rfl rfl rfl
    obtain ⟨x9, g9, h9⟩ := hI.got 9 _ 53 rfl rfl rfl
    obtain ⟨x10, g10, h10⟩ := hI.got 10 _ 54 rfl rfl rfl
    obtain ⟨x11, g11, h11⟩ := hI.got 11 _ 55 rfl rfl rfl
    obtain ⟨x12, g12, h12⟩ := hI.got 12 _ 56 rfl rfl rfl
    obtain ⟨x13, g13, h13⟩ := hI.got 13 _ 57 rfl rfl rfl
    obtain ⟨x14, g14, h14⟩ := hI.got 14 _ 58 rfl rfl rfl
    obtain ⟨x15, g15, h15⟩ := hI.got 15 _ 59 rfl rfl rfl
    obtain ⟨x16, g16, h16⟩ := hI.got 16 _ 60 rfl rfl rfl
    obtain ⟨x17, g17, h17⟩ := hI.got 17 _ 61 rfl rfl rfl
    obtain ⟨x18, g18, h18⟩ := hI.got 18 _ 62 rfl rfl rfl
    have hS := hI.world
    obtain ⟨y63, o63⟩ : ∃ v, A0.tmps[63]? = some v := ⟨_, hI.oldHead 63 (by kernel_rfl)⟩
    obtain ⟨y64, o64⟩ : ∃ v, A0.tmps[64]? = some v := ⟨_, hI.oldHead 64 (by kernel_rfl)⟩
    obtain ⟨y65, o65⟩ : ∃ v, A0.tmps[65]? = some v := ⟨_, hI.oldHead 65 (by kernel_rfl)⟩
    obtain ⟨y66, o66⟩ : ∃ v, A0.tmps[66]? = some v := ⟨_, hI.oldHead 66 (by kernel_rfl)⟩
    obtain ⟨y67, o67⟩ : ∃ v, A0.tmps[67]? = some v := ⟨_, hI.oldHead 67 (by kernel_rfl)⟩
    obtain ⟨y6, o6⟩ : ∃ v, A0.tmps[6]? = some v := ⟨_, hI.oldHead 6 (by kernel_rfl)⟩
    have hA : A0 = _ := hI.tmps [(44, x0), (45, x1), (46, x2), (47, x3), (48, x4), (49, x5), (50, x6), (51, x7), (52, x8), (53, x9), (54, x10), (55, x11), (56, x12), (57, x13), (58, x14), (59, x15), (60, x16), (61, x17), (62, x18), (63, y63), (64, y64), (65, y65), (66, y66), (67, y67), (6, y6)] (by simp only [List.mem_cons, List.not_mem_nil, or_false, forall_eq_or_imp, forall_eq]; exact ⟨g0, g1, g2, g3, g4, g5, g6, g7, g8, g9, g10, g11, g12, g13, g14, g15, g16, g17, g18, o63, o64, o65, o66, o67, o6⟩) (by kernel_rfl)
    obtain rfl : x0 = .agg gl.toArray := h0 _ rfl
    obtain rfl : x1 = .agg #[.int .i64 b0, .int .i64 xe, .int .i64 b1, .int .i64 3, .int .i64 xi, .string xt, .slice Ar nl cr] := h1 _ rfl
    obtain rfl : x2 = .int .i64 R2 := h2 _ rfl
    obtain rfl : x3 = .int .i64 R2 := h3 _ rfl
    obtain rfl : x4 = .bool true := h4 _ rfl
    obtain rfl : x5 = .bool true := h5 _ rfl
    obtain rfl : x6 = .pointer (some ⟨w8.heap.size, 6, none⟩) := h6 _ rfl
    obtain rfl : x7 = .slice Ar nl cr := h7 _ rfl
    obtain rfl : x8 = .pointer (some ⟨(w.heap.size + 1), 6, none⟩) := h8 _ rfl
    obtain rfl : x9 = .slice Al nl cl := h9 _ rfl
    obtain rfl : x10 = .bool true := h10 _ rfl
    obtain rfl : x11 = .bool true := h11 _ rfl
    obtain rfl : x12 = .bool true := h12 _ rfl
    have k13 : (IsMade w10) x13 w2 := h13 _ rfl
    obtain rfl : x14 = .pointer (some ⟨(w.heap.size + 1), 6, none⟩) := h14 _ rfl
    obtain rfl : x15 = .slice Al nl cl := h15 _ rfl
    have k16 : (IsOwn w10 nl F1) x16 w2 := h16 _ rfl
    obtain rfl : x17 = .pointer (some ⟨w8.heap.size, 6, none⟩) := h17 _ rfl
    obtain rfl : x18 = .slice Ar nl cr := h18 _ rfl
    clear h0 g0 h1 g1 h2 g2 h3 g3 h4 g4 h5 g5 h6 g6 h7 g7 h8 g8 h9 g9 h10 g10 h11 g11 h12 g12 h13 g13 h14 g14 h15 g15 h16 g16 h17 g17 h18 g18 o63 o64 o65 o66 o67 o6 hI
    simp only [setAll, List.foldl, List.setIfInBounds_toArray, List.set_cons_zero, List.set_cons_succ] at hA
    rw [hA]
    clear hA
    simp only [List.drop_succ_cons, List.drop_zero]
    have hbd : ∀ y ∈ ls ++ ls.map negL, lineBd y := fun y hy => by
      rcases List.mem_append.1 hy with hy | hy
      · obtain ⟨j, hj, rfl⟩ := List.getElem_of_mem hy
        exact line_bd HL.out hj
      · obtain ⟨z, hz, rfl⟩ := List.mem_map.1 hy
        have hm := (HSL.out HSMP.out).1 z hz
        obtain ⟨j, hj, rfl⟩ := List.getElem_of_mem hz
        have h3 := line_bd HL.out hj
        exact ⟨h3.1, by show intBd (-ls[j].amount); unfold intBd; omega, h3.2.2⟩
    have hlen2 : (ls ++ ls.map negL).length = nl + nl := by rw [List.length_append, List.length_map, HN.out]
    have HBD := Lib.hid hbd
    have HL2 := Lib.hid hlen2
    have K16 := Lib.hid k16
    clear hbd hlen2 k16 k13
    refine wpList_app_g (by rfl) (.tmp 60) (.tmp 62) 51 rfl w10.heap.size 57 ia _ 3 24 lines_uty hia hzia hsia hbia rfl (by decide) x16 nl F1 rfl K16.out (· < w2.heap.size) Ar nl cr ((ls.map negL).flatMap lineL) rfl (HRD2.out w2 hS) (flat_one _) (by simp only [maxLen]; omega) (by omega) hS.size ?_
    intro v9 w11 hown9 hg9 _
    have HB11 := Lib.hid (below_grown (HBW.out.trans (hS.mono HBW.out.size)) hg9 (fun q hq => by have h1 := (K16.out.lt _ hq).1; have h2 := HBW.out.size; omega) (Nat.le_refl _))
    rw [← HF1.out, ← List.flatMap_append, ← HL2.out] at hown9
    have hL9 := own_listC (El := LineC) (f := lineL) (fun _ => rfl) hown9 (Q := (· < w11.heap.size)) (fun y hy => ⟨[_], [_], [_], rfl, ⟨rfl, (HBD.out y hy).1⟩, ⟨rfl, (HBD.out y hy).2.1⟩, ⟨rfl, (HBD.out y hy).2.2⟩⟩) (fun q hq => (hown9.lt _ hq).2) (by rw [HL2.out]; omega)
    obtain ⟨A9, c9, rfl⟩ : ∃ A9 c9, v9 = .slice A9 (nl + nl) c9 := by
      obtain ⟨A9, c9, e, _⟩ := hL9
      rw [HL2.out] at e
      exact ⟨A9, c9, by simpa using e⟩
    rw [← HL2.out] at hL9
    have HNRM := Lib.hid (normal_n HL2.out hL9 (by rw [absL_app, absL_neg]; have := (HSL.out HSMP.out).abs; omega) (by rw [HL2.out]; omega))
    clear hown9 hg9 hL9
    go_wp2_with fail
    refine HNRM.out.mono ?_
    rintro e w12 ⟨B1, o1, c1, rfl, hn1, _, _, hb12⟩
    have ho := norm_rev hn1
    subst ho
    clear hn1
    go_wp2_with fail
    go_ret
    exact ⟨rfl, HB11.out.trans (hb12.mono HB11.out.size)⟩
end Go.Proofs.Ytnigokmjehemaaa
