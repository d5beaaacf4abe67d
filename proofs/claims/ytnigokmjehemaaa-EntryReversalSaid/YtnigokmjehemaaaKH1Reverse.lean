/- The reversal of an entry. Written by gen_h1.py. -/
import Derived.Test.YtnigokmjehemaaaJF1F7
import Derived.Test.YtnigokmjehemaaaKF9Opposite
import Derived.Test.YtnigokmjehemaaaProg
namespace Go.Proofs.Ytnigokmjehemaaa
open Go Go.RowKit
set_option linter.unusedVariables false
set_option linter.unusedSimpArgs false
set_option maxRecDepth 4000
attribute [local go_sem ↓] Go.wp_at_zero Go.wp_at_succ
/-- What Reverse leaves. -/
def RevPost (nid nd : Int) (x : XEntry) (w : World) (e : Ending) (w' : World) : Prop := ∃ A c, e = .returned (.agg #[.int .i64 nid, .int .i64 x.entity, .int .i64 nd, .int .i64 3, .int .i64 x.id, .string x.text, .slice A x.lines.length c]) ∧
  ListC LineC 3 w' (fun q => w.heap.size ≤ q ∧ q < w'.heap.size) [.slice A x.lines.length c] (x.lines.map negL) ∧ Below w.heap.size w w'
theorem neg_step {l : List XLine} {k : Nat} (hk : k < l.length) : ((l.take (k + 1)).map negL).flatMap lineL = ((l.take k).map negL).flatMap lineL ++ lineL (negL l[k]) := by
  rw [List.take_add_one, List.getElem?_eq_getElem hk, List.map_append, List.flatMap_append]
  simp
set_option maxHeartbeats 4000000 in
theorem reverse_c (xi xe xd xk xo : Int) (xt : ByteArray) (ls : List XLine) (Al : Option Addr) (cl : Nat) (nid nd : Int) (w : World) (hl : ListC LineC 3 w (· < w.heap.size) [.slice Al ls.length cl] ls) (hm : ∀ x ∈ ls, midL x) (hn : ls.length ≤ 1000) : Calls Try.prog 61 #[.agg #[.int .i64 xi, .int .i64 xe, .int .i64 xd, .int .i64 xk, .int .i64 xo, .string xt, .slice Al ls.length cl], .int .i64 nid, .int .i64 nd] w (RevPost nid nd ⟨xi, xe, xd, xk, xo, xt, ls⟩ w) := by
  obtain ⟨ia, hia, hzia, hsia, hbia⟩ := info_parts info_lineA
  have HL := Lib.hid hl
  have HMD := Lib.hid hm
  obtain ⟨nl, hnl⟩ : ∃ n, ls.length = n := ⟨_, rfl⟩
  have HN := Lib.hid hnl
  rw [hnl] at hn ⊢
  clear hl hm hnl
  go_enter Try.func61, Try.ntmps61
  go_upto_region 1 with fail
  have H := heap_alloc_new w (.cells #[.int .i64 xi, .int .i64 xe, .int .i64 xd, .int .i64 xk, .int .i64 xo, .string xt, .slice Al nl cl] 53)
  have HB := below1 w (.cells #[.int .i64 xi, .int .i64 xe, .int .i64 xd, .int .i64 xk, .int .i64 xo, .string xt, .slice Al nl cl] 53)
  have HS : w.heap.size < (w.alloc (.cells #[.int .i64 xi, .int .i64 xe, .int .i64 xd, .int .i64 xk, .int .i64 xo, .string xt, .slice Al nl cl] 53)).heap.size := blk_lt H
  generalize hW : w.alloc (Obj.cells #[.int .i64 xi, .int .i64 xe, .int .i64 xd, .int .i64 xk, .int .i64 xo, .string xt, .slice Al nl cl] 53) = W at *
  have H2 := heap_alloc_new W (.cells #[.int .i64 0, .int .i64 0, .int .i64 0, .int .i64 0, .int .i64 0, .string ⟨#[]⟩, .slice none 0 0] 53)
  have HB2 := below1 W (.cells #[.int .i64 0, .int .i64 0, .int .i64 0, .int .i64 0, .int .i64 0, .string ⟨#[]⟩, .slice none 0 0] 53)
  have HS2 : W.heap.size < (W.alloc (.cells #[.int .i64 0, .int .i64 0, .int .i64 0, .int .i64 0, .int .i64 0, .string ⟨#[]⟩, .slice none 0 0] 53)).heap.size := blk_lt H2
  replace H := alloc_keep H (Obj.cells #[.int .i64 0, .int .i64 0, .int .i64 0, .int .i64 0, .int .i64 0, .string ⟨#[]⟩, .slice none 0 0] 53)
  generalize hW2 : W.alloc (Obj.cells #[.int .i64 0, .int .i64 0, .int .i64 0, .int .i64 0, .int .i64 0, .string ⟨#[]⟩, .slice none 0 0] 53) = W2 at *
  clear hW2
  have eW : W.heap.size = w.heap.size + 1 := by rw [← hW]; simp
  rw [eW] at H2
  clear hW
  have hb2 := HB.trans (HB2.mono HB.size)
  have hs2 := HB2.size
  have LT1 := blk_lt H2
  have LT0 : w.heap.size < W2.heap.size := by omega
  have HH := Lib.hid H
  have HZ := Lib.hid H2
  have EW := Lib.hid eW
  clear H H2 eW
  have c0 := blk_cell HH.out 0
  have c1 := blk_cell HH.out 1
  have c5 := blk_cell HH.out 5
  go_upto_region 2 with (show wpList _ _ _ (Oper.mk none (Op.store _ (Operand.tmp 7) _) _ _ _ _ :: _) _ _; refine wpList_store_fresh3 rfl 53 (.tmp 7) (.tmp 18) rfl rfl W2 #[.int .i64 0, .int .i64 0, .int .i64 0, .int .i64 0, .int .i64 0, .string ⟨#[]⟩, .slice none 0 0] 53 #[.int .i64 nid, .int .i64 xe, .int .i64 nd, .int .i64 3, .int .i64 xi, .string xt, .slice none 0 0] rfl rfl rfl info_entry rfl (by simp [Value.oneCell']) ?_; intro W3 H3 HB3 HS3)
  have HE3 := Lib.hid H3
  have HH3 := Lib.hid ((HB3.block _ LT0).trans HH.out)
  have HZ3 := Lib.hid ((HB3.block _ LT1).trans HZ.out)
  have hb03 := hb2.trans (HB3.mono hb2.size)
  have c6 := blk_cell HH3.out 6
  clear H3 c0 c1 c5
  go_wp2_with fail
  clear c6
  go_loopw [22] (fun i wr => ∃ (k : Nat) (v : Value), k ≤ nl ∧ i = .int .i64 (k : Int) ∧ Fr (QX W3.heap.size W2.heap.size) W3 wr ∧ wr.heap[W2.heap.size]? = some (.cells #[.int .i64 nid, .int .i64 xe, .int .i64 nd, .int .i64 3, .int .i64 xi, .string xt, v] 53 (0, 0)) ∧ wr.ownsRow W3.heap.size 57 3 v k (((ls.take k).map negL).flatMap lineL)) (fun i _ => nl - (intOf i).toNat)
  case atStart => exact ⟨0, _, by omega, rfl, Fr.refl _ _, HE3.out, World.ownsRow_nil _ _ _ _⟩
  case round =>
    obtain ⟨k, v, hk, rfl, hfr, hE, how⟩ := hrel
    have HF := Lib.hid hfr
    have HEW := Lib.hid hE
    have HOW := Lib.hid how
    have hsz := hfr.size
    by_cases hlt : k < nl
    case pos =>
      have hltI : (k : Int) < (nl : Int) := by omega
      have hkl : k < ls.length := by rw [HN.out]; exact hlt
      obtain ⟨b, o, es, hAe, hbw, hes, hat⟩ := ListC.get HL.out k hkl
      subst hAe
      have hes1 := (LineC.lit hes).1
      rw [hes1] at hat
      have hmd := HMD.out _ (List.getElem_mem hkl)
      have HST := Lib.hid (neg_step hkl)
      obtain ⟨x, hx⟩ : ∃ x, ls[k] = x := ⟨_, rfl⟩
      rw [hx] at hat hmd HST
      obtain ⟨la, lm, lp⟩ := x
      obtain ⟨hm1, hm2⟩ := hmd
      try simp only at hat hm1 hm2
      have hbl : b < W2.heap.size := by have := HB.size; have := HB2.size; have := LT0; show b < _; exact Nat.lt_of_lt_of_le hbw hb2.size
      have HAR := Lib.hid (((hat.fr (Fr.ofBelow hb03)).fr (HF.out.mono (fun q (hq : q < w.heap.size) => ⟨by have := hb03.size; omega, by have := hb2.size; omega⟩))).range)
      clear hes hes1 hat hx hfr
      go_upto_region 5 with (show wpList _ _ _ (Oper.mk (some 25) _ _ _ _ _ :: _) _ _; refine wpList_load_mid rfl 57 (.tmp 24) rfl b (o + k * 3) rfl [.int .i64 la, .int .i64 lm, .int .i64 lp] _ HAR.out Try.underlying57 rfl info_line ?_)
      have H6 := heap_alloc_new wr (.cells #[.int .i64 la, .int .i64 lm, .int .i64 lp] 57)
      have HB6 := below1 wr (.cells #[.int .i64 la, .int .i64 lm, .int .i64 lp] 57)
      have HS6 : wr.heap.size < (wr.alloc (.cells #[.int .i64 la, .int .i64 lm, .int .i64 lp] 57)).heap.size := blk_lt H6
      have HE6 := alloc_keep hE (.cells #[.int .i64 la, .int .i64 lm, .int .i64 lp] 57)
      have HOX := how.alloc (.cells #[.int .i64 la, .int .i64 lm, .int .i64 lp] 57)
      generalize hW6 : wr.alloc (Obj.cells #[.int .i64 la, .int .i64 lm, .int .i64 lp] 57) = W6 at *
      clear hW6
      have q1 := blk_cell H6 1
      have q2 := blk_frozen H6 1
      have HEN := Lib.hid HE6
      have HOX6 := Lib.hid HOX
      have HK6 := Lib.hid H6
      have hb6 := HB6
      clear H6 hE how HE6 HOX
      go_upto_region 6 with fail
      have H7 := heap_setCell_same HK6.out 1 (.int .i64 (-lm))
      have HB7 : Below wr.heap.size wr (W6.setCell ⟨wr.heap.size, 1, none⟩ (.int .i64 (-lm))) := HB6.setCell (p := ⟨wr.heap.size, 1, none⟩) (Nat.le_refl _) _
      have HE7 := (Below.heap_setCell W6 ⟨wr.heap.size, 1, none⟩ (.int .i64 (-lm)) W2.heap.size (by show W2.heap.size ≠ wr.heap.size; omega)).trans HEN.out
      have HO7 := own_same (w' := W6.setCell ⟨wr.heap.size, 1, none⟩ (.int .i64 (-lm))) HOX6.out (fun g hg => Below.heap_setCell W6 ⟨wr.heap.size, 1, none⟩ _ g (by show g ≠ wr.heap.size; have := (HOW.out.lt _ hg).2; omega))
      generalize W6.setCell ⟨wr.heap.size, 1, none⟩ (.int .i64 (-lm)) = W7 at *
      have HK7 := Lib.hid (show W7.heap[wr.heap.size]? = some (.cells #[.int .i64 la, .int .i64 (-lm), .int .i64 lp] 57 (0, 0)) from H7)
      have HEN7 := Lib.hid HE7
      have HOW7 := Lib.hid HO7
      have HBB7 := Lib.hid HB7
      have hsz7 := HB7.size
      clear H7 HE7 HO7 HB7 q1 q2
      have d6 := blk_cell HEN7.out 6
      have NEO := Lib.hid (show some W2.heap.size ≠ v.ownBlock from fun e => by have := (HOW7.out.lt _ e.symm).1; omega)
      go_wp2_with (first | (show wpList _ _ _ (Oper.mk (some 32) _ _ _ _ _ :: _) _ _; refine wpList_load_row_g rfl 57 (.tmp 9) rfl wr.heap.size rfl _ _ _ _ HK7.out Try.underlying57 rfl info_line ?_) | (at_builtin; go_loud (refine wpList_app _ rfl (.tmp 31) (.tmp 33) 51 rfl W3.heap.size 57 ia _ 3 24 lines_uty hia hzia hsia hbia rfl (by decide) v k (((ls.take k).map negL).flatMap lineL) rfl (HOW7.out.alloc _) (fun _ => True) (some ⟨W7.heap.size, 0, none⟩) 1 1 [.int .i64 la, .int .i64 (-lm), .int .i64 lp] rfl (rd_new (heap_alloc_new _ _) rfl) (by simp [Value.oneCell']) (by simp only [maxLen]; omega) (by omega) (by simp; omega) ?_); intro v9 w9 hown9 hg9 hat9; obtain ⟨A9, n9, c9, rfl⟩ := own_shape hown9; have hE9 := (hg9.block W2.heap.size (by simp; omega) NEO.out).trans (alloc_keep HEN7.out _); have s6 := blk_cell hE9 6; have s7 := blk_frozen hE9 6))
      go_roundw
      case rel =>
        obtain ⟨a1, _, a3, _⟩ := ent_step (i := 6) (eB := 57) (sB := 3) (nB := 0) (xsB := []) (vB := .slice none 0 0) HS3 HF.out (HBB7.out.alloc (by omega) _) hg9 (fun g hg => (HOW7.out.lt _ hg).1) (World.ownsRow_nil _ _ _ _) (fun g _ h => by cases h) hat9 hown9
        refine ⟨k + 1, .slice A9 n9 c9, by omega, by go_num, a3, heap_setCell_same hE9 6 _, ?_⟩
        rw [HST.out]
        exact a1
      case measure => first | exact meas_v hlt | (simp only [intOf]; omega)
    case neg =>
      have hltI : ¬ (k : Int) < (nl : Int) := by omega
      have hkn : k = nl := by omega
      subst hkn
      have HZR := Lib.hid ((HF.out.block (w.heap.size + 1) ⟨by have := HB3.size; omega, by omega⟩).trans HZ3.out)
      have hbW : Below w.heap.size w wr := ((Fr.ofBelow hb03).trans (HF.out.mono (fun q (hq : q < w.heap.size) => ⟨by have := hb03.size; omega, by have := hb2.size; omega⟩))).below
      have HBW := Lib.hid hbW
      have hsw := hbW.size
      have hlen : ((ls.take k).map negL).length = k := by rw [List.length_map, List.length_take]; have := HN.out; omega
      have hall : (ls.take k) = ls := List.take_of_length_le (by rw [HN.out]; omega)
      have HLC := Lib.hid (own_listC (El := LineC) (f := lineL) (Q := fun q => w.heap.size ≤ q ∧ q < wr.heap.size) (xs := ls.map negL) (fun _ => rfl) (by rw [List.length_map, HN.out]; have h := HOW.out; rw [hall] at h; exact h) (fun x hx => by
        obtain ⟨y, hy, rfl⟩ := List.mem_map.1 hx
        obtain ⟨j, hj, rfl⟩ := List.getElem_of_mem hy
        have hb := line_bd HL.out hj
        have hm := HMD.out _ hy
        exact ⟨[_], [_], [_], rfl, ⟨rfl, hb.1⟩, ⟨rfl, by have h1 := hm.1; have h2 := hm.2; show intBd (-ls[j].amount); unfold intBd; omega⟩, ⟨rfl, hb.2.2⟩⟩) (fun g hg => ⟨by have := (HOW.out.lt _ hg).1; have := hb03.size; omega, (HOW.out.lt _ hg).2⟩) (by rw [List.length_map, HN.out]; exact hn))
      obtain ⟨A9, c9, rfl⟩ : ∃ A9 c9, v = .slice A9 k c9 := by
        obtain ⟨A9, c9, e, _⟩ := HLC.out
        rw [List.length_map, HN.out] at e
        exact ⟨A9, c9, by simpa using e⟩
      have hkE := Lib.hid hall
      clear hlen hall hfr hE how hbW
      go_wp2_with (first | (show wpList _ _ _ (Oper.mk (some 37) _ _ _ _ _ :: _) _ _; refine wpList_load_row_g rfl 53 (.tmp 7) rfl W2.heap.size rfl _ _ _ _ HEW.out Try.underlying53 rfl info_entry ?_) | (show wpList _ _ _ (Oper.mk none (Op.store _ (Operand.tmp 6) _) _ _ _ _ :: _) _ _; refine wpList_store_row rfl 53 (.tmp 6) (.tmp 37) rfl (w.heap.size + 1) #[.int .i64 nid, .int .i64 xe, .int .i64 nd, .int .i64 3, .int .i64 xi, .string xt, .slice A9 k c9] rfl rfl 53 #[.int .i64 0, .int .i64 0, .int .i64 0, .int .i64 0, .int .i64 0, .string ⟨#[]⟩, .slice none 0 0] HZR.out (by rw [info_entry]; rfl) rfl (by simp [Value.oneCell']) ?_))
      refine bodyPost_ret (v := _) (results_cell rfl _ _ (w.heap.size + 1) 53 _ (0, 0) _ rfl (heap_setRow HZR.out _) Try.underlying53 rfl info_entry) rfl ?_
      refine ⟨A9, c9, by rw [HN.out], ?_, below_setRow HBW.out (by omega) _⟩
      have hfr2 := fr_setRow wr (w.heap.size + 1) #[.int .i64 nid, .int .i64 xe, .int .i64 nd, .int .i64 3, .int .i64 xi, .string xt, .slice A9 k c9]
      have hss : (wr.setRow (w.heap.size + 1) #[.int .i64 nid, .int .i64 xe, .int .i64 nd, .int .i64 3, .int .i64 xi, .string xt, .slice A9 k c9]).heap.size = wr.heap.size := by simp
      have hk3 := own_same (w' := wr.setRow (w.heap.size + 1) #[.int .i64 nid, .int .i64 xe, .int .i64 nd, .int .i64 3, .int .i64 xi, .string xt, .slice A9 k c9]) HOW.out (fun g hg => hfr2.block g (by show g ≠ w.heap.size + 1; have := (HOW.out.lt _ hg).1; have := HB3.size; omega))
      rw [hkE.out] at hk3
      show ListC LineC 3 _ _ [.slice A9 ls.length c9] (ls.map negL)
      rw [HN.out]
      refine own_listC (El := LineC) (f := lineL) (xs := ls.map negL) (fun _ => rfl) (by rw [List.length_map, HN.out]; exact hk3) (fun x hx => by
        obtain ⟨y, hy, rfl⟩ := List.mem_map.1 hx
        obtain ⟨j, hj, rfl⟩ := List.getElem_of_mem hy
        have hb := line_bd HL.out hj
        have hm := HMD.out _ hy
        exact ⟨[_], [_], [_], rfl, ⟨rfl, hb.1⟩, ⟨rfl, by have h1 := hm.1; have h2 := hm.2; show intBd (-ls[j].amount); unfold intBd; omega⟩, ⟨rfl, hb.2.2⟩⟩) (fun g hg => ⟨by have := (HOW.out.lt _ hg).1; have := hb03.size; omega, by rw [hss]; exact (HOW.out.lt _ hg).2⟩) (by rw [List.length_map, HN.out]; exact hn)
end Go.Proofs.Ytnigokmjehemaaa
