/- The walk of the law JournalPosts. Written by gen_j6.py. -/
import Derived.Test.YtebdajkknkapcaaGreatG10xB0B2
import Derived.Test.YtebdajkknkapcaaGreatG10xB3B8
import Derived.Test.YtebdajkknkapcaaGreatG10xB14
import Derived.Test.YtebdajkknkapcaaGreatG10xB16
import Derived.Test.YtebdajkknkapcaaGreatG10xB17B24
import Derived.Test.YtebdajkknkapcaaGreatG10xB29B32
import Derived.Test.YtebdajkknkapcaaGreatG10xE6F6
import Derived.Test.YtebdajkknkapcaaGreatG10xF4I7
import Derived.Test.YtebdajkknkapcaaGreatG10xI8I11
import Derived.Test.YtebdajkknkapcaaGreatG10xI12
import Derived.Test.YtebdajkknkapcaaGreatG10xI13I15
import Derived.Test.YtebdajkknkapcaaGreatG10xI16I18
import Derived.Test.YtebdajkknkapcaaGreatG10xI19Q2
import Derived.Test.YtebdajkknkapcaaGreatG10xK1J3
import Derived.Test.YtebdajkknkapcaaGreatG10xJ4J5
import Derived.Test.YtebdajkknkapcaaGreatProg
set_option linter.unusedVariables false
set_option linter.unusedSimpArgs false
set_option maxRecDepth 4000
attribute [local go_sem ↓] Go.wp_at_zero Go.wp_at_succ
namespace Go.Proofs.YtebdajkknkapcaaGreat
open Go Go.RowKit
set_option maxHeartbeats 8000000 in
theorem law_journalPosts (g : XGroup) (l : List XEntry) (gl : List Value) (A : Option Addr) (c : Nat) (re rl : Int) (w : World) (hg : GroupC w (· < w.heap.size) gl g) (hsz : szG g) (hl : ListC EntryC 7 w (· < w.heap.size) [.slice A l.length c] l) (hts : ∀ x ∈ l, x.text.size ≤ 140737488355327) (hid : intBd re) :
 Calls Tryz.prog 4 #[.agg gl.toArray, .slice A l.length c, .agg #[.int .i64 re, .int .i64 rl]] w (Quiet w (.bool true)) := by
 have HFEW := Lib.hid (fun (w2 : World) (hb : Below w.heap.size w w2) => few12_c g l gl A c w2 (hg.keep hb) hsz (entries_keep hl hb) hts); have HPST := Lib.hid (fun (w2 : World) (hb : Below w.heap.size w w2) (hf : fewJ g l) => posted_c g l gl A c w2 (hg.keep hb) (entries_keep hl hb) hf); have HGS := Lib.hid (show gl.toArray.size = 21 by have := hg.len; simpa using this)
 have HID := Lib.hid hid; obtain ⟨n, hnl⟩ : ∃ n, l.length = n := ⟨_, rfl⟩; rw [hnl] at HFEW HPST ⊢
 have HFW := Lib.hid (show fewJ g l → (accJ g l).length ≤ 100000 ∧ ∀ x ∈ accJ g l, x.lines.length ≤ 100000 from fun hf => by
  obtain ⟨_, h2, h3⟩ := accJ_ok g _ l rfl
  exact ⟨by have := hf.2.1; omega, fun x hx => by have := (hf.1 x (h3 x hx)).1; omega⟩)
 obtain ⟨fw, hfw⟩ : ∃ p : Prop, fewJ g l = p := ⟨_, rfl⟩; rw [hfw] at HFEW HPST HFW
 unfold PostedPost at HPST
 obtain ⟨es, hes⟩ : ∃ es, accJ g l = es := ⟨_, rfl⟩; rw [hes] at HPST HFW; clear hg hsz hl hts hnl hfw hes hid
 go_enter Tryz.func4, Tryz.ntmps4
 go_upto_region 1 with fail
 have H := heap_alloc_new w (.cells gl.toArray 29); have HB := below1 w (.cells gl.toArray 29); have HS := blk_lt H; generalize hW : w.alloc (Obj.cells gl.toArray 29) = W at *; have H2 := heap_alloc_new W (.cells #[.int .i64 re, .int .i64 rl] 45); have HB2 := below1 W (.cells #[.int .i64 re, .int .i64 rl] 45); have HS2 := blk_lt H2; replace H := alloc_keep H (Obj.cells #[.int .i64 re, .int .i64 rl] 45); generalize hW2 : W.alloc (Obj.cells #[.int .i64 re, .int .i64 rl] 45) = W2 at *; clear hW2; have eW : W.heap.size = w.heap.size + 1 := by rw [← hW]; simp
 rw [eW] at H2; clear hW; have hb2 := HB.trans (HB2.mono HB.size); have hs2 := HB2.size; have LT1 := blk_lt H2; have LT0 : w.heap.size < W2.heap.size := by omega
 have HH := Lib.hid H; have HZ := Lib.hid H2; have EW := Lib.hid eW; clear H H2 eW; have hb02 := hb2; have LT02 := LT0; have LT12 := LT1; have HH2 := HH; have HZ2 := HZ
 go_wp2_with fail
 refine (awake12_c W2).mono ?_; rintro e w3 ⟨rfl, hb3⟩; have hb03 := hb02.trans (hb3.mono hb02.size); have hs3 := hb3.size; have LT03 := Nat.lt_of_lt_of_le LT02 hs3; have LT13 := Nat.lt_of_lt_of_le LT12 hs3; have HH3 := Lib.hid ((hb3.block _ LT02).trans HH2.out); have HZ3 := Lib.hid ((hb3.block _ LT12).trans HZ2.out)
 go_wp2_with (show wpList _ _ _ (Oper.mk (some 12) _ _ _ _ _ :: _) _ _; refine wpList_load_row_g rfl 29 (.tmp 3) rfl (w.heap.size) rfl _ _ _ _ HH3.out Tryz.underlying29 rfl (by rw [info_group]; exact congrArg some HGS.out.symm) ?_)
 refine (HFEW.out w3 hb03).mono ?_; rintro e w4 ⟨bf, rfl, hf, hb4⟩; have hb04 := hb03.trans (hb4.mono hb03.size); have hs4 := hb4.size; have LT04 := Nat.lt_of_lt_of_le LT03 hs4; have LT14 := Nat.lt_of_lt_of_le LT13 hs4; have HH4 := Lib.hid ((hb4.block _ LT03).trans HH3.out); have HZ4 := Lib.hid ((hb4.block _ LT13).trans HZ3.out); cases bf with
 | false =>
  clear hf
  go_wp2_with fail
  go_ret
  exact ⟨rfl, hb04⟩
 | true =>
 have HFP := Lib.hid (hf rfl); clear hf
 go_wp2_with (show wpList _ _ _ (Oper.mk (some 17) _ _ _ _ _ :: _) _ _; refine wpList_load_row_g rfl 29 (.tmp 3) rfl (w.heap.size) rfl _ _ _ _ HH4.out Tryz.underlying29 rfl (by rw [info_group]; exact congrArg some HGS.out.symm) ?_)
 refine (HPST.out w4 hb04 HFP.out).mono ?_; rintro e w5 ⟨hb5, hcase⟩; have hb05 := hb04.trans (hb5.mono hb04.size); have hs5 := hb5.size; have LT05 := Nat.lt_of_lt_of_le LT04 hs5; have LT15 := Nat.lt_of_lt_of_le LT14 hs5; have HH5 := Lib.hid ((hb5.block _ LT04).trans HH4.out); have HZ5 := Lib.hid ((hb5.block _ LT14).trans HZ4.out)
 rcases hcase with ⟨hF, rfl⟩ | ⟨hT, J, D, O, A9, c9, rfl, hJC, hDO, hout⟩
 case inl =>
  clear hF
  go_wp2_with fail
  go_ret
  exact ⟨rfl, hb05⟩
 case inr =>
 obtain ⟨hle, hln⟩ := HFW.out HFP.out; have HSJ := Lib.hid (sameJ_c D O J g es A9 c9 re rl w5 hJC (hout.mono (Q' := (· < w5.heap.size)) (fun h => EntryC.mono h (fun q hq => hq.1)) (fun q hq => hq.1)) HID.out hln hle); obtain ⟨n9, hn9⟩ : ∃ n, es.length = n := ⟨_, rfl⟩; rw [hn9] at HSJ ⊢; clear hT hJC hDO hout hle hln hn9
 go_wp2_with (show wpList _ _ _ (Oper.mk (some 30) _ _ _ _ _ :: _) _ _; refine wpList_load_row_g rfl 45 (.tmp 5) rfl (w.heap.size + 1) rfl _ _ _ _ HZ5.out Tryz.underlying45 rfl info_ref ?_)
 refine HSJ.out.mono ?_; rintro e w6 ⟨rfl, hb6⟩
 go_wp2_with fail
 go_ret
 exact ⟨rfl, hb05.trans (hb6.mono hb05.size)⟩
end Go.Proofs.YtebdajkknkapcaaGreat
