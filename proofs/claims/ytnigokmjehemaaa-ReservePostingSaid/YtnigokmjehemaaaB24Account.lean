/- Groups: the reference's Account and books. Written by gen_b24.py. -/
import Derived.Test.YtnigokmjehemaaaProg
import Derived.Test.YtnigokmjehemaaaB22Accounts
import Derived.Test.YtnigokmjehemaaaB23Chain
namespace Go.Proofs.Ytnigokmjehemaaa
open Go Go.RowKit
set_option linter.unusedVariables false
set_option linter.unusedSimpArgs false
set_option maxRecDepth 4000
attribute [local go_sem ↓] Go.wp_at_zero Go.wp_at_succ
set_option maxHeartbeats 2000000 in
theorem rAccount_c (g : XGroup) (cs : List Value) (code : Int) (w : World) (hg : GroupC w (· < w.heap.size) cs g) (hc : intBd code) (hn : g.chart.length ≤ 1000) : Calls Try.prog 129 #[.agg cs.toArray, .int .i64 code] w (Quiet w (findV g.chart code)) := by
  obtain ⟨Ac, cc, Ae, ce, rfl, hch, hen, hcal, hro⟩ := hg.lit
  clear hg
  obtain ⟨cur, ⟨y, m, p⟩, ch, ⟨r0, r1, r2, r3, r4, r5, r6, r7, r8, r9, r10, r11, r12, r13, r14⟩, es⟩ := g
  simp only at hch hen hro hcal hn ⊢
  have hcall0 := fun (w2 : World) (hb : Below w.heap.size w w2) => rfind_c ch Ac cc code w2 (chart_keep hch hb) hc hn
  obtain ⟨n, hnl⟩ : ∃ n, ch.length = n := ⟨_, rfl⟩
  obtain ⟨ne, hne⟩ : ∃ ne, es.length = ne := ⟨_, rfl⟩
  rw [hnl] at hcall0
  rw [hnl, hne]
  obtain ⟨o, hoo⟩ : ∃ o, accO (findA ch code) = o := ⟨_, rfl⟩
  obtain ⟨s, hss⟩ : ∃ s, (findA ch code).isSome = s := ⟨_, rfl⟩
  have e0 : findV ch code = .tuple #[.agg (accL o).toArray, .bool s] := by rw [← hoo, ← hss]; rfl
  rw [e0] at hcall0 ⊢
  have HC := Lib.hid hcall0
  clear hcall0 hnl hne hch hen hro hcal hn hoo hss e0
  show Calls Try.prog 129 #[.agg #[.string cur, .int .i64 y, .int .i64 m, .int .i64 p, .slice Ac n cc, .int .i64 r0, .int .i64 r1, .int .i64 r2, .int .i64 r3, .int .i64 r4, .int .i64 r5, .int .i64 r6, .int .i64 r7, .int .i64 r8, .int .i64 r9, .int .i64 r10, .int .i64 r11, .int .i64 r12, .int .i64 r13, .int .i64 r14, .slice Ae ne ce], .int .i64 code] w (Quiet w _)
  go_enter Try.func129, Try.ntmps129
  go_upto_region 1 with fail
  have H := heap_alloc_new w (.cells #[.string cur, .int .i64 y, .int .i64 m, .int .i64 p, .slice Ac n cc, .int .i64 r0, .int .i64 r1, .int .i64 r2, .int .i64 r3, .int .i64 r4, .int .i64 r5, .int .i64 r6, .int .i64 r7, .int .i64 r8, .int .i64 r9, .int .i64 r10, .int .i64 r11, .int .i64 r12, .int .i64 r13, .int .i64 r14, .slice Ae ne ce] 29)
  have HB := below1 w (.cells #[.string cur, .int .i64 y, .int .i64 m, .int .i64 p, .slice Ac n cc, .int .i64 r0, .int .i64 r1, .int .i64 r2, .int .i64 r3, .int .i64 r4, .int .i64 r5, .int .i64 r6, .int .i64 r7, .int .i64 r8, .int .i64 r9, .int .i64 r10, .int .i64 r11, .int .i64 r12, .int .i64 r13, .int .i64 r14, .slice Ae ne ce] 29)
  have HS : w.heap.size < (w.alloc (.cells #[.string cur, .int .i64 y, .int .i64 m, .int .i64 p, .slice Ac n cc, .int .i64 r0, .int .i64 r1, .int .i64 r2, .int .i64 r3, .int .i64 r4, .int .i64 r5, .int .i64 r6, .int .i64 r7, .int .i64 r8, .int .i64 r9, .int .i64 r10, .int .i64 r11, .int .i64 r12, .int .i64 r13, .int .i64 r14, .slice Ae ne ce] 29)).heap.size := blk_lt H
  generalize hW : w.alloc (Obj.cells #[.string cur, .int .i64 y, .int .i64 m, .int .i64 p, .slice Ac n cc, .int .i64 r0, .int .i64 r1, .int .i64 r2, .int .i64 r3, .int .i64 r4, .int .i64 r5, .int .i64 r6, .int .i64 r7, .int .i64 r8, .int .i64 r9, .int .i64 r10, .int .i64 r11, .int .i64 r12, .int .i64 r13, .int .i64 r14, .slice Ae ne ce] 29) = W at *
  have H2 := heap_alloc_new W (.cells #[.int .i64 0, .int .i64 0, .int .i64 0, .int .i64 0] 157)
  have HB2 := below1 W (.cells #[.int .i64 0, .int .i64 0, .int .i64 0, .int .i64 0] 157)
  have H3 := alloc_keep H (Obj.cells #[.int .i64 0, .int .i64 0, .int .i64 0, .int .i64 0] 157)
  have HSS := HB.trans (HB2.mono HB.size)
  generalize hW2 : W.alloc (Obj.cells #[.int .i64 0, .int .i64 0, .int .i64 0, .int .i64 0] 157) = W2 at *
  have eW : W.heap.size = w.heap.size + 1 := by rw [← hW]; simp
  rw [eW] at H2
  clear hW hW2
  have d4 := blk_cell H3 4
  have HLT := blk_lt H2
  have HH2 := Lib.hid H2
  clear H H2 H3
  go_wp2_with fail
  refine (HC.out W2 HSS).mono ?_
  rintro e w3 ⟨rfl, hb3⟩
  have hbb := HSS.trans (hb3.mono HSS.size)
  have G0 := (hb3.block _ HLT).trans HH2.out
  obtain ⟨o1, o2, o3, o4⟩ := o
  have HG := Lib.hid G0
  clear G0
  go_wp2_with (show wpList _ _ _ (Oper.mk none (Op.store _ (Operand.tmp 4) _) _ _ _ _ :: _) _ _; refine wpList_store_row rfl 157 (.tmp 4) (.tmp 10) rfl (w.heap.size + 1) (accL ⟨o1, o2, o3, o4⟩).toArray rfl rfl 157 (accL {}).toArray HG.out (info_accS _) (accZ _) (accL_one _) ?_)
  refine bodyPost_ret (v := .tuple #[.agg (accL ⟨o1, o2, o3, o4⟩).toArray, .bool s]) (results_cell_tmp rfl _ _ (w.heap.size + 1) 157 _ (0, 0) _ rfl (heap_setRow HG.out _) Try.underlying157 rfl (info_accS _) _ rfl) rfl ⟨rfl, below_setRow hbb (by omega) _⟩
end Go.Proofs.Ytnigokmjehemaaa
