/- The walk of journal.reverses. Written by gen_i13.py. -/
import Derived.Test.YtekelchdbkjjjaaGreatG17xB0B2
import Derived.Test.YtekelchdbkjjjaaGreatG17xB3B8
import Derived.Test.YtekelchdbkjjjaaGreatG17xB9B13
import Derived.Test.YtekelchdbkjjjaaGreatG17xB14
import Derived.Test.YtekelchdbkjjjaaGreatG17xB16
import Derived.Test.YtekelchdbkjjjaaGreatG17xB17B24
import Derived.Test.YtekelchdbkjjjaaGreatG17xB33S2
import Derived.Test.YtekelchdbkjjjaaGreatG17xC4E3
import Derived.Test.YtekelchdbkjjjaaGreatG17xE6F1
import Derived.Test.YtekelchdbkjjjaaGreatG17xF2I7
import Derived.Test.YtekelchdbkjjjaaGreatG17xI8I11
import Derived.Test.YtekelchdbkjjjaaGreatG17xI12
import Derived.Test.YtekelchdbkjjjaaGreatProg
set_option linter.unusedVariables false
set_option linter.unusedSimpArgs false
set_option maxRecDepth 4000
attribute [local go_sem ↓] Go.wp_at_zero Go.wp_at_succ
namespace Go.Proofs.YtekelchdbkjjjaaGreat
open Go Go.RowKit
theorem JAt.below {w w' : World} {D O : Nat → Prop} {J : Nat} {g : XGroup} {es : List XEntry} {gl : List Value} {css : List (List Value)} {v : Value} {bi br : Nat} (h : JAt w D O J g es gl css v bi br) (hb : Below w.heap.size w w') : JAt w' D O J g es gl css v bi br :=
 h.fr ((Fr.ofBelow hb).mono fun q hq => hq.elim (h.ltD q) (h.ltO q))
theorem JAt.cell {w : World} {D O : Nat → Prop} {J : Nat} {g : XGroup} {es : List XEntry} {gl : List Value} {css : List (List Value)} {v : Value} {bi br : Nat} (h : JAt w D O J g es gl css v bi br) : w.cell? ⟨J, 21, none⟩ = some v ∧ w.cell? ⟨J, 22, none⟩ = some (.map (some bi)) ∧ w.cell? ⟨J, 23, none⟩ = some (.map (some br)) := by
 have hl := h.glen
 refine ⟨(blk_cell h.blk 21).trans ?_, (blk_cell h.blk 22).trans ?_, (blk_cell h.blk 23).trans ?_⟩ <;> simp [List.getElem?_append, hl]
theorem revO_some {es : List XEntry} {id : Int} : ((revId es id = 0) ∧ revO es id = none) ∨ (revId es id ≠ 0 ∧ revO es id = some (revId es id)) := by
 unfold revO
 by_cases h : revId es id = 0
 · exact .inl ⟨h, by rw [if_pos h]⟩
 · exact .inr ⟨h, by rw [if_neg h]⟩
set_option maxHeartbeats 4000000 in
theorem reverses_c (D O : Nat → Prop) (J : Nat) (g : XGroup) (es : List XEntry) (gl : List Value) (css : List (List Value)) (v : Value) (bi br : Nat) (x : XEntry) (ex : List Value) (w : World) (hj : JAt w D O J g es gl css v bi br) (hx : EntryC w (· < w.heap.size) ex x) :
 Calls Tryz.prog 113 #[.pointer (some ⟨J, 0, none⟩), .agg ex.toArray] w (Quiet w (.int .i64 (rvsE es x))) := by
 obtain ⟨r, hr⟩ : ∃ r, rvsE es x = r := ⟨_, rfl⟩
 rw [hr]
 have HR := Lib.hid hr
 have HJ := Lib.hid hj
 obtain ⟨Al, cl, hex, hxb, hll⟩ := hx.lit
 subst hex
 have HLX := Lib.hid hll
 obtain ⟨xi, xe, xd, xk, xo, xt, ls⟩ := x
 simp only at hxb HLX ⊢
 have HXO := Lib.hid hxb.2.2.2.2
 obtain ⟨nl, hnl2⟩ : ∃ n, ls.length = n := ⟨_, rfl⟩
 have HNL := Lib.hid hnl2
 rw [hnl2]
 clear hx hr hll hxb hnl2 hj
 show Calls Tryz.prog 113 #[.pointer (some ⟨J, 0, none⟩), .agg #[.int .i64 xi, .int .i64 xe, .int .i64 xd, .int .i64 xk, .int .i64 xo, .string xt, .slice Al nl cl]] w (Quiet w (.int .i64 r))
 go_enter Tryz.func113, Tryz.ntmps113
 go_upto_region 1 with fail
 have H1 := heap_alloc_new w (.cells #[.int .i64 xi, .int .i64 xe, .int .i64 xd, .int .i64 xk, .int .i64 xo, .string xt, .slice Al nl cl] 46)
 have HB1 := below1 w (.cells #[.int .i64 xi, .int .i64 xe, .int .i64 xd, .int .i64 xk, .int .i64 xo, .string xt, .slice Al nl cl] 46)
 have HS1 := blk_lt H1
 generalize hW1 : w.alloc (Obj.cells #[.int .i64 xi, .int .i64 xe, .int .i64 xd, .int .i64 xk, .int .i64 xo, .string xt, .slice Al nl cl] 46) = W at *
 clear hW1
 have HK := Lib.hid H1
 clear H1
 have hj1 := HJ.out.below HB1
 have HJ1 := Lib.hid hj1
 have HIX := Lib.hid hj1.idx
 have F22 := Lib.hid hj1.cell.2.1
 have FX4 := Lib.hid (show W.cell? ⟨w.heap.size, 4, none⟩ = some (.int .i64 xo) from blk_cell HK.out 4)
 have HB1h := Lib.hid HB1
 clear hj1
 cases hix : idxE es xo with
 | none =>
  have HLKE := Lib.hid (show (idxE es xo).map (fun k : Nat => (k : Int)) = none by rw [hix]; rfl)
  have hf := Lib.hid (show r = 8 from HR.out.symm.trans (rvsE_none hix))
  clear hix
  refine wp_region_inv' (Ks W [.val (.pointer (some ⟨J, 0, none⟩)), .val (.pointer (some ⟨J, 0, none⟩)), .val (.pointer (some ⟨J, 22, none⟩)), .val (.map (some bi)), .val (.pointer (some ⟨w.heap.size, 4, none⟩)), .val (.int .i64 xo), .val (.tuple #[.int .i64 0, .bool false]), .val (.tuple #[.int .i64 0, .bool false]), .val (.int .i64 0), .val (.bool false), .val (.int .i64 0), .val (.bool false)])
   (fun w' => w' = W.drew) (by kernel_rfl) (by kernel_rfl) (by kernel_rfl) rfl ?_ ?_
  · refine ⟨?_, ?_, ?_, ?_, ?_, ?_, ?_, ?_, ?_, ?_, ?_, ?_, trivial⟩
    · intro _ A0 w2 hI hd hnd K hK; have e0 := hI.q hnd 0
      have hS := Lib.hid (show w2 = W.drew from hI.world)
      exact hI.z hK
    · intro _ A0 w2 hI hd hnd K hK; have e0 := hI.p hd 0 11
      have hS := Lib.hid (show w2 = W.drew from hI.world)
      exact hI.z hK
    · intro _ A0 w2 hI hd hnd K hK; have e0 := hI.p hd 1 12
      have hS := Lib.hid (show w2 = W.drew from hI.world)
      exact hI.z hK
    · intro _ A0 w2 hI hd hnd K hK; have e0 := hI.p hd 2 13
      have hS := Lib.hid (show w2 = W.drew from hI.world)
      have hcc : w2.cell? ⟨J, 22, none⟩ = some (.map (some bi)) := by rw [hS.out]; exact F22.out
      exact hI.z hK
    · intro _ A0 w2 hI hd hnd K hK; have e0 := hI.q hnd 3
      have hS := Lib.hid (show w2 = W.drew from hI.world)
      exact hI.z hK
    · intro _ A0 w2 hI hd hnd K hK; have e0 := hI.p hd 4 15
      have hS := Lib.hid (show w2 = W.drew from hI.world)
      have hcc : w2.cell? ⟨w.heap.size, 4, none⟩ = some (.int .i64 xo) := by rw [hS.out]; exact FX4.out
      exact hI.z hK
    · intro _ A0 w2 hI hd hnd K hK; have e0 := hI.p hd 3 14; have e1 := hI.p hd 5 16
      have hS := Lib.hid (show w2 = W.drew from hI.world)
      have hlk : (Instr.lookup 81 (.map (some bi)) (.int .i64 xo) true).run Tryz.prog w2 = .ok (.tuple #[.int .i64 0, .bool false]) w2 := by
       have h := (HIX.out.same (w' := w2) (by rw [hS.out]; rfl)).look HXO.out
       simp only [HLKE.out] at h
       exact h
      exact hI.z hK
    · intro _ A0 w2 hI hd hnd K hK; have e0 := hI.p hd 6 17
      have hS := Lib.hid (show w2 = W.drew from hI.world)
      exact hI.z hK
    · intro _ A0 w2 hI hd hnd K hK; have e0 := hI.p hd 7 10
      have hS := Lib.hid (show w2 = W.drew from hI.world)
      exact hI.z hK
    · intro _ A0 w2 hI hd hnd K hK; have e0 := hI.p hd 7 10
      have hS := Lib.hid (show w2 = W.drew from hI.world)
      exact hI.z hK
    · intro _ A0 w2 hI hd hnd K hK; have e0 := hI.p hd 8 18
      have hS := Lib.hid (show w2 = W.drew from hI.world)
      exact hI.z hK
    · intro _ A0 w2 hI hd hnd K hK; have e0 := hI.p hd 9 19
      have hS := Lib.hid (show w2 = W.drew from hI.world)
      exact hI.z hK
  · intro _ A0 w2 hI hall; obtain ⟨x0, g0, h0⟩ := hI.got 0 _ 11 rfl rfl (hall 0 (by decide)); obtain ⟨x1, g1, h1⟩ := hI.got 1 _ 12 rfl rfl (hall 1 (by decide)); obtain ⟨x2, g2, h2⟩ := hI.got 2 _ 13 rfl rfl (hall 2 (by decide)); obtain ⟨x3, g3, h3⟩ := hI.got 3 _ 14 rfl rfl (hall 3 (by decide)); obtain ⟨x4, g4, h4⟩ := hI.got 4 _ 15 rfl rfl (hall 4 (by decide)); obtain ⟨x5, g5, h5⟩ := hI.got 5 _ 16 rfl rfl (hall 5 (by decide)); obtain ⟨x6, g6, h6⟩ := hI.got 6 _ 17 rfl rfl (hall 6 (by decide)); obtain ⟨x7, g7, h7⟩ := hI.got 7 _ 10 rfl rfl (hall 7 (by decide)); obtain ⟨x8, g8, h8⟩ := hI.got 8 _ 18 rfl rfl (hall 8 (by decide)); obtain ⟨x9, g9, h9⟩ := hI.got 9 _ 19 rfl rfl (hall 9 (by decide)); obtain ⟨x10, g10, h10⟩ := hI.got 10 _ 5 rfl rfl (hall 10 (by decide)); obtain ⟨x11, g11, h11⟩ := hI.got 11 _ 6 rfl rfl (hall 11 (by decide))
    obtain rfl : w2 = W.drew := hI.world
    have hA : A0 = _ := hI.tmps [(11, x0), (12, x1), (13, x2), (14, x3), (15, x4), (16, x5), (17, x6), (10, x7), (18, x8), (19, x9), (5, x10), (6, x11)] (by simp only [List.mem_cons, List.not_mem_nil, or_false, forall_eq_or_imp, forall_eq]; exact ⟨g0, g1, g2, g3, g4, g5, g6, g7, g8, g9, g10, g11⟩) (by kernel_rfl)
    obtain rfl : x10 = .int .i64 0 := h10 _ rfl
    obtain rfl : x11 = .bool false := h11 _ rfl
    clear h0 g0 h1 g1 h2 g2 h3 g3 h4 g4 h5 g5 h6 g6 h7 g7 h8 g8 h9 g9 h10 g10 h11 g11 hI hall
    simp only [setAll, List.foldl, List.setIfInBounds_toArray, List.set_cons_zero, List.set_cons_succ] at hA
    rw [hA]
    clear hA
    have hb9 : Below w.heap.size w W.drew := HB1h.out.drew
    go_wp2_with fail
    go_ret
    exact ⟨by rw [hf.out]; first | done | rfl, hb9⟩
 | some k =>
  have HLKE := Lib.hid (show (idxE es xo).map (fun k : Nat => (k : Int)) = some (k : Int) by rw [hix]; rfl)
  have HIXE := Lib.hid hix
  clear hix
  refine wp_region_inv' (Ks W [.val (.pointer (some ⟨J, 0, none⟩)), .val (.pointer (some ⟨J, 0, none⟩)), .val (.pointer (some ⟨J, 22, none⟩)), .val (.map (some bi)), .val (.pointer (some ⟨w.heap.size, 4, none⟩)), .val (.int .i64 xo), .val (.tuple #[.int .i64 (k : Int), .bool true]), .val (.tuple #[.int .i64 (k : Int), .bool true]), .val (.int .i64 (k : Int)), .val (.bool true), .val (.int .i64 (k : Int)), .val (.bool true)])
   (fun w' => w' = W.drew) (by kernel_rfl) (by kernel_rfl) (by kernel_rfl) rfl ?_ ?_
  · refine ⟨?_, ?_, ?_, ?_, ?_, ?_, ?_, ?_, ?_, ?_, ?_, ?_, trivial⟩
    · intro _ A0 w2 hI hd hnd K hK; have e0 := hI.q hnd 0
      have hS := Lib.hid (show w2 = W.drew from hI.world)
      exact hI.z hK
    · intro _ A0 w2 hI hd hnd K hK; have e0 := hI.p hd 0 11
      have hS := Lib.hid (show w2 = W.drew from hI.world)
      exact hI.z hK
    · intro _ A0 w2 hI hd hnd K hK; have e0 := hI.p hd 1 12
      have hS := Lib.hid (show w2 = W.drew from hI.world)
      exact hI.z hK
    · intro _ A0 w2 hI hd hnd K hK; have e0 := hI.p hd 2 13
      have hS := Lib.hid (show w2 = W.drew from hI.world)
      have hcc : w2.cell? ⟨J, 22, none⟩ = some (.map (some bi)) := by rw [hS.out]; exact F22.out
      exact hI.z hK
    · intro _ A0 w2 hI hd hnd K hK; have e0 := hI.q hnd 3
      have hS := Lib.hid (show w2 = W.drew from hI.world)
      exact hI.z hK
    · intro _ A0 w2 hI hd hnd K hK; have e0 := hI.p hd 4 15
      have hS := Lib.hid (show w2 = W.drew from hI.world)
      have hcc : w2.cell? ⟨w.heap.size, 4, none⟩ = some (.int .i64 xo) := by rw [hS.out]; exact FX4.out
      exact hI.z hK
    · intro _ A0 w2 hI hd hnd K hK; have e0 := hI.p hd 3 14; have e1 := hI.p hd 5 16
      have hS := Lib.hid (show w2 = W.drew from hI.world)
      have hlk : (Instr.lookup 81 (.map (some bi)) (.int .i64 xo) true).run Tryz.prog w2 = .ok (.tuple #[.int .i64 (k : Int), .bool true]) w2 := by
       have h := (HIX.out.same (w' := w2) (by rw [hS.out]; rfl)).look HXO.out
       simp only [HLKE.out] at h
       exact h
      exact hI.z hK
    · intro _ A0 w2 hI hd hnd K hK; have e0 := hI.p hd 6 17
      have hS := Lib.hid (show w2 = W.drew from hI.world)
      exact hI.z hK
    · intro _ A0 w2 hI hd hnd K hK; have e0 := hI.p hd 7 10
      have hS := Lib.hid (show w2 = W.drew from hI.world)
      exact hI.z hK
    · intro _ A0 w2 hI hd hnd K hK; have e0 := hI.p hd 7 10
      have hS := Lib.hid (show w2 = W.drew from hI.world)
      exact hI.z hK
    · intro _ A0 w2 hI hd hnd K hK; have e0 := hI.p hd 8 18
      have hS := Lib.hid (show w2 = W.drew from hI.world)
      exact hI.z hK
    · intro _ A0 w2 hI hd hnd K hK; have e0 := hI.p hd 9 19
      have hS := Lib.hid (show w2 = W.drew from hI.world)
      exact hI.z hK
  · intro _ A0 w2 hI hall; obtain ⟨x0, g0, h0⟩ := hI.got 0 _ 11 rfl rfl (hall 0 (by decide)); obtain ⟨x1, g1, h1⟩ := hI.got 1 _ 12 rfl rfl (hall 1 (by decide)); obtain ⟨x2, g2, h2⟩ := hI.got 2 _ 13 rfl rfl (hall 2 (by decide)); obtain ⟨x3, g3, h3⟩ := hI.got 3 _ 14 rfl rfl (hall 3 (by decide)); obtain ⟨x4, g4, h4⟩ := hI.got 4 _ 15 rfl rfl (hall 4 (by decide)); obtain ⟨x5, g5, h5⟩ := hI.got 5 _ 16 rfl rfl (hall 5 (by decide)); obtain ⟨x6, g6, h6⟩ := hI.got 6 _ 17 rfl rfl (hall 6 (by decide)); obtain ⟨x7, g7, h7⟩ := hI.got 7 _ 10 rfl rfl (hall 7 (by decide)); obtain ⟨x8, g8, h8⟩ := hI.got 8 _ 18 rfl rfl (hall 8 (by decide)); obtain ⟨x9, g9, h9⟩ := hI.got 9 _ 19 rfl rfl (hall 9 (by decide)); obtain ⟨x10, g10, h10⟩ := hI.got 10 _ 5 rfl rfl (hall 10 (by decide)); obtain ⟨x11, g11, h11⟩ := hI.got 11 _ 6 rfl rfl (hall 11 (by decide))
    obtain rfl : w2 = W.drew := hI.world
    have hA : A0 = _ := hI.tmps [(11, x0), (12, x1), (13, x2), (14, x3), (15, x4), (16, x5), (17, x6), (10, x7), (18, x8), (19, x9), (5, x10), (6, x11)] (by simp only [List.mem_cons, List.not_mem_nil, or_false, forall_eq_or_imp, forall_eq]; exact ⟨g0, g1, g2, g3, g4, g5, g6, g7, g8, g9, g10, g11⟩) (by kernel_rfl)
    obtain rfl : x10 = .int .i64 (k : Int) := h10 _ rfl
    obtain rfl : x11 = .bool true := h11 _ rfl
    clear h0 g0 h1 g1 h2 g2 h3 g3 h4 g4 h5 g5 h6 g6 h7 g7 h8 g8 h9 g9 h10 g10 h11 g11 hI hall
    simp only [setAll, List.foldl, List.setIfInBounds_toArray, List.set_cons_zero, List.set_cons_succ] at hA
    rw [hA]
    clear hA; clear HLKE
    have hj2 := HJ1.out.below ((Below.refl W.heap.size W).drew)
    have hb2 : Below w.heap.size w W.drew := HB1h.out.drew
    have HK2 := Lib.hid (show W.drew.heap[w.heap.size]? = some (.cells #[.int .i64 xi, .int .i64 xe, .int .i64 xd, .int .i64 xk, .int .i64 xo, .string xt, .slice Al nl cl] 46 (0, 0)) from HK.out)
    have hsz2 : w.heap.size < W.drew.heap.size := HS1
    generalize W.drew = W2 at *
    obtain ⟨hkl, hyid⟩ := idxE_some HIXE.out
    obtain ⟨Av, nv, cv, rfl⟩ := own_shape hj2.row
    obtain rfl := own_val hj2.row
    obtain ⟨b, o, cs, hAe, hbw, hes, hat⟩ := ListC.get hj2.list k hkl
    subst hAe
    obtain ⟨y, hy⟩ : ∃ y, es[k] = y := ⟨_, rfl⟩
    have hok := okJ_check hj2.ok (List.getElem_mem hkl)
    rw [hy] at hes hok
    have HRS := Lib.hid (rvsE_some (x := ⟨xi, xe, xd, xk, xo, xt, ls⟩) HIXE.out ((List.getElem?_eq_getElem hkl).trans (congrArg some hy)))
    have HMID := Lib.hid (checkE_mid hok)
    obtain ⟨Aly, cly, hcs, _, hly⟩ := EntryC.lit hes
    subst hcs
    have HLY := Lib.hid (ListC.mono hly (fun h => LineC.mono h (fun q hq => hq.elim (hj2.ltD q) (hj2.ltO q))) (fun q hq => hq.elim (hj2.ltD q) (hj2.ltO q)))
    obtain ⟨yi, ye, yd, yk, yo, yt, ly⟩ := y
    simp only at hat HRS HMID HLY
    obtain ⟨nly, hnly⟩ : ∃ n, ly.length = n := ⟨_, rfl⟩
    have HNLY := Lib.hid hnly
    rw [hnly] at hat
    have HAT := Lib.hid hat.range
    have hkn : k < es.length := hkl
    obtain ⟨n, hn⟩ : ∃ n, es.length = n := ⟨_, rfl⟩
    have HN := Lib.hid hn
    have c21 := hj2.cell.1
    rw [hn] at hkn c21
    have hknI : (k : Int) < (n : Int) := by omega
    have hnz : 0 < n := by omega
    have HJ2 := Lib.hid hj2
    clear hj2 hes hat hy hly hnly hok hyid hkl hn hbw
    go_upto_region 5 with (first | (show wpList _ _ _ (Oper.mk (some 28) _ _ _ _ _ :: _) _ _; refine wpList_load_mid rfl 46 (.tmp 27) rfl b (o + k * 7) rfl [.int .i64 yi, .int .i64 ye, .int .i64 yd, .int .i64 yk, .int .i64 yo, .string yt, .slice Aly nly cly] _ HAT.out Tryz.underlying46 rfl info_entry ?_) | (show wpList _ _ _ (Oper.mk none (Op.store _ (Operand.tmp 7) _) _ _ _ _ :: _) _ _; refine wpList_store_fresh3 rfl 46 (.tmp 7) (.tmp 28) rfl rfl W2 #[.int .i64 0, .int .i64 0, .int .i64 0, .int .i64 0, .int .i64 0, .string ⟨#[]⟩, .slice none 0 0] 46 #[.int .i64 yi, .int .i64 ye, .int .i64 yd, .int .i64 yk, .int .i64 yo, .string yt, .slice Aly nly cly] rfl rfl rfl info_entry rfl (by simp [Value.oneCell']) ?_; intro W3 H3 HB3 HS3))
    have hb3 := hb2.trans (HB3.mono hb2.size)
    have hj3 := HJ2.out.below HB3
    have HJ3 := Lib.hid hj3
    have HRX := Lib.hid hj3.rev
    have F23 := Lib.hid hj3.cell.2.2
    have HK3 := Lib.hid ((HB3.block _ hsz2).trans HK2.out)
    have FX4 := Lib.hid (show W3.cell? ⟨w.heap.size, 4, none⟩ = some (.int .i64 xo) from blk_cell HK3.out 4)
    have HY3 := Lib.hid H3
    have HB3h := Lib.hid hb3
    have hsz3 : w.heap.size < W3.heap.size := Nat.lt_of_lt_of_le hsz2 HB3.size
    clear hj3 H3 c21
    rcases revO_some (es := es) (id := xo) with ⟨hv0, hrv⟩ | ⟨hv0, hrv⟩
    case inr =>
     have HLKE := Lib.hid hrv
     obtain ⟨rv, hrve⟩ : ∃ rv, revId es xo = rv := ⟨_, rfl⟩
     rw [hrve] at HLKE hv0 HRS
     have hf := Lib.hid (show r = 7 from HR.out.symm.trans (HRS.out.trans (if_pos (.inr hv0))))
     clear hv0 hrv hrve
     refine wp_region_inv' (Ks W3 [.val (.pointer (some ⟨J, 0, none⟩)), .val (.pointer (some ⟨J, 0, none⟩)), .val (.pointer (some ⟨J, 23, none⟩)), .val (.map (some br)), .val (.pointer (some ⟨w.heap.size, 4, none⟩)), .val (.int .i64 xo), .val (.tuple #[.int .i64 rv, .bool true]), .val (.tuple #[.int .i64 rv, .bool true]), .val (.int .i64 rv), .val (.bool true), .val (.int .i64 rv), .val (.bool true)])
      (fun w' => w' = W3.drew) (by kernel_rfl) (by kernel_rfl) (by kernel_rfl) rfl ?_ ?_
     · refine ⟨?_, ?_, ?_, ?_, ?_, ?_, ?_, ?_, ?_, ?_, ?_, ?_, trivial⟩
       · intro _ A0 w2 hI hd hnd K hK; have e0 := hI.q hnd 0
         have hS := Lib.hid (show w2 = W3.drew from hI.world)
         exact hI.z hK
       · intro _ A0 w2 hI hd hnd K hK; have e0 := hI.p hd 0 30
         have hS := Lib.hid (show w2 = W3.drew from hI.world)
         exact hI.z hK
       · intro _ A0 w2 hI hd hnd K hK; have e0 := hI.p hd 1 31
         have hS := Lib.hid (show w2 = W3.drew from hI.world)
         exact hI.z hK
       · intro _ A0 w2 hI hd hnd K hK; have e0 := hI.p hd 2 32
         have hS := Lib.hid (show w2 = W3.drew from hI.world)
         have hcc : w2.cell? ⟨J, 23, none⟩ = some (.map (some br)) := by rw [hS.out]; exact F23.out
         exact hI.z hK
       · intro _ A0 w2 hI hd hnd K hK; have e0 := hI.q hnd 3
         have hS := Lib.hid (show w2 = W3.drew from hI.world)
         exact hI.z hK
       · intro _ A0 w2 hI hd hnd K hK; have e0 := hI.p hd 4 34
         have hS := Lib.hid (show w2 = W3.drew from hI.world)
         have hcc : w2.cell? ⟨w.heap.size, 4, none⟩ = some (.int .i64 xo) := by rw [hS.out]; exact FX4.out
         exact hI.z hK
       · intro _ A0 w2 hI hd hnd K hK; have e0 := hI.p hd 3 33; have e1 := hI.p hd 5 35
         have hS := Lib.hid (show w2 = W3.drew from hI.world)
         have hlk : (Instr.lookup 81 (.map (some br)) (.int .i64 xo) true).run Tryz.prog w2 = .ok (.tuple #[.int .i64 rv, .bool true]) w2 := by
          have h := (HRX.out.same (w' := w2) (by rw [hS.out]; rfl)).look HXO.out
          simp only [HLKE.out] at h
          exact h
         exact hI.z hK
       · intro _ A0 w2 hI hd hnd K hK; have e0 := hI.p hd 6 36
         have hS := Lib.hid (show w2 = W3.drew from hI.world)
         exact hI.z hK
       · intro _ A0 w2 hI hd hnd K hK; have e0 := hI.p hd 7 29
         have hS := Lib.hid (show w2 = W3.drew from hI.world)
         exact hI.z hK
       · intro _ A0 w2 hI hd hnd K hK; have e0 := hI.p hd 7 29
         have hS := Lib.hid (show w2 = W3.drew from hI.world)
         exact hI.z hK
       · intro _ A0 w2 hI hd hnd K hK; have e0 := hI.p hd 8 37
         have hS := Lib.hid (show w2 = W3.drew from hI.world)
         exact hI.z hK
       · intro _ A0 w2 hI hd hnd K hK; have e0 := hI.p hd 9 38
         have hS := Lib.hid (show w2 = W3.drew from hI.world)
         exact hI.z hK
     · intro _ A0 w2 hI hall; obtain ⟨x0, g0, h0⟩ := hI.got 0 _ 30 rfl rfl (hall 0 (by decide)); obtain ⟨x1, g1, h1⟩ := hI.got 1 _ 31 rfl rfl (hall 1 (by decide)); obtain ⟨x2, g2, h2⟩ := hI.got 2 _ 32 rfl rfl (hall 2 (by decide)); obtain ⟨x3, g3, h3⟩ := hI.got 3 _ 33 rfl rfl (hall 3 (by decide)); obtain ⟨x4, g4, h4⟩ := hI.got 4 _ 34 rfl rfl (hall 4 (by decide)); obtain ⟨x5, g5, h5⟩ := hI.got 5 _ 35 rfl rfl (hall 5 (by decide)); obtain ⟨x6, g6, h6⟩ := hI.got 6 _ 36 rfl rfl (hall 6 (by decide)); obtain ⟨x7, g7, h7⟩ := hI.got 7 _ 29 rfl rfl (hall 7 (by decide)); obtain ⟨x8, g8, h8⟩ := hI.got 8 _ 37 rfl rfl (hall 8 (by decide)); obtain ⟨x9, g9, h9⟩ := hI.got 9 _ 38 rfl rfl (hall 9 (by decide)); obtain ⟨x10, g10, h10⟩ := hI.got 10 _ 8 rfl rfl (hall 10 (by decide)); obtain ⟨x11, g11, h11⟩ := hI.got 11 _ 9 rfl rfl (hall 11 (by decide))
       obtain rfl : w2 = W3.drew := hI.world
       have hA : A0 = _ := hI.tmps [(30, x0), (31, x1), (32, x2), (33, x3), (34, x4), (35, x5), (36, x6), (29, x7), (37, x8), (38, x9), (8, x10), (9, x11)] (by simp only [List.mem_cons, List.not_mem_nil, or_false, forall_eq_or_imp, forall_eq]; exact ⟨g0, g1, g2, g3, g4, g5, g6, g7, g8, g9, g10, g11⟩) (by kernel_rfl)
       obtain rfl : x10 = .int .i64 rv := h10 _ rfl
       obtain rfl : x11 = .bool true := h11 _ rfl
       clear h0 g0 h1 g1 h2 g2 h3 g3 h4 g4 h5 g5 h6 g6 h7 g7 h8 g8 h9 g9 h10 g10 h11 g11 hI hall
       simp only [setAll, List.foldl, List.setIfInBounds_toArray, List.set_cons_zero, List.set_cons_succ] at hA
       rw [hA]
       clear hA
       have hb9 : Below w.heap.size w W3.drew := HB3h.out.drew
       go_wp2_with fail
       go_ret
       exact ⟨by rw [hf.out]; first | done | rfl, hb9⟩
    case inl =>
     have HLKE := Lib.hid hrv
     have HV0 := Lib.hid hv0
     clear hv0 hrv
     refine wp_region_inv' (Ks W3 [.val (.pointer (some ⟨J, 0, none⟩)), .val (.pointer (some ⟨J, 0, none⟩)), .val (.pointer (some ⟨J, 23, none⟩)), .val (.map (some br)), .val (.pointer (some ⟨w.heap.size, 4, none⟩)), .val (.int .i64 xo), .val (.tuple #[.int .i64 0, .bool false]), .val (.tuple #[.int .i64 0, .bool false]), .val (.int .i64 0), .val (.bool false), .val (.int .i64 0), .val (.bool false)])
      (fun w' => w' = W3.drew) (by kernel_rfl) (by kernel_rfl) (by kernel_rfl) rfl ?_ ?_
     · refine ⟨?_, ?_, ?_, ?_, ?_, ?_, ?_, ?_, ?_, ?_, ?_, ?_, trivial⟩
       · intro _ A0 w2 hI hd hnd K hK; have e0 := hI.q hnd 0
         have hS := Lib.hid (show w2 = W3.drew from hI.world)
         exact hI.z hK
       · intro _ A0 w2 hI hd hnd K hK; have e0 := hI.p hd 0 30
         have hS := Lib.hid (show w2 = W3.drew from hI.world)
         exact hI.z hK
       · intro _ A0 w2 hI hd hnd K hK; have e0 := hI.p hd 1 31
         have hS := Lib.hid (show w2 = W3.drew from hI.world)
         exact hI.z hK
       · intro _ A0 w2 hI hd hnd K hK; have e0 := hI.p hd 2 32
         have hS := Lib.hid (show w2 = W3.drew from hI.world)
         have hcc : w2.cell? ⟨J, 23, none⟩ = some (.map (some br)) := by rw [hS.out]; exact F23.out
         exact hI.z hK
       · intro _ A0 w2 hI hd hnd K hK; have e0 := hI.q hnd 3
         have hS := Lib.hid (show w2 = W3.drew from hI.world)
         exact hI.z hK
       · intro _ A0 w2 hI hd hnd K hK; have e0 := hI.p hd 4 34
         have hS := Lib.hid (show w2 = W3.drew from hI.world)
         have hcc : w2.cell? ⟨w.heap.size, 4, none⟩ = some (.int .i64 xo) := by rw [hS.out]; exact FX4.out
         exact hI.z hK
       · intro _ A0 w2 hI hd hnd K hK; have e0 := hI.p hd 3 33; have e1 := hI.p hd 5 35
         have hS := Lib.hid (show w2 = W3.drew from hI.world)
         have hlk : (Instr.lookup 81 (.map (some br)) (.int .i64 xo) true).run Tryz.prog w2 = .ok (.tuple #[.int .i64 0, .bool false]) w2 := by
          have h := (HRX.out.same (w' := w2) (by rw [hS.out]; rfl)).look HXO.out
          simp only [HLKE.out] at h
          exact h
         exact hI.z hK
       · intro _ A0 w2 hI hd hnd K hK; have e0 := hI.p hd 6 36
         have hS := Lib.hid (show w2 = W3.drew from hI.world)
         exact hI.z hK
       · intro _ A0 w2 hI hd hnd K hK; have e0 := hI.p hd 7 29
         have hS := Lib.hid (show w2 = W3.drew from hI.world)
         exact hI.z hK
       · intro _ A0 w2 hI hd hnd K hK; have e0 := hI.p hd 7 29
         have hS := Lib.hid (show w2 = W3.drew from hI.world)
         exact hI.z hK
       · intro _ A0 w2 hI hd hnd K hK; have e0 := hI.p hd 8 37
         have hS := Lib.hid (show w2 = W3.drew from hI.world)
         exact hI.z hK
       · intro _ A0 w2 hI hd hnd K hK; have e0 := hI.p hd 9 38
         have hS := Lib.hid (show w2 = W3.drew from hI.world)
         exact hI.z hK
     · intro _ A0 w2 hI hall; obtain ⟨x0, g0, h0⟩ := hI.got 0 _ 30 rfl rfl (hall 0 (by decide)); obtain ⟨x1, g1, h1⟩ := hI.got 1 _ 31 rfl rfl (hall 1 (by decide)); obtain ⟨x2, g2, h2⟩ := hI.got 2 _ 32 rfl rfl (hall 2 (by decide)); obtain ⟨x3, g3, h3⟩ := hI.got 3 _ 33 rfl rfl (hall 3 (by decide)); obtain ⟨x4, g4, h4⟩ := hI.got 4 _ 34 rfl rfl (hall 4 (by decide)); obtain ⟨x5, g5, h5⟩ := hI.got 5 _ 35 rfl rfl (hall 5 (by decide)); obtain ⟨x6, g6, h6⟩ := hI.got 6 _ 36 rfl rfl (hall 6 (by decide)); obtain ⟨x7, g7, h7⟩ := hI.got 7 _ 29 rfl rfl (hall 7 (by decide)); obtain ⟨x8, g8, h8⟩ := hI.got 8 _ 37 rfl rfl (hall 8 (by decide)); obtain ⟨x9, g9, h9⟩ := hI.got 9 _ 38 rfl rfl (hall 9 (by decide)); obtain ⟨x10, g10, h10⟩ := hI.got 10 _ 8 rfl rfl (hall 10 (by decide)); obtain ⟨x11, g11, h11⟩ := hI.got 11 _ 9 rfl rfl (hall 11 (by decide))
       obtain rfl : w2 = W3.drew := hI.world
       have hA : A0 = _ := hI.tmps [(30, x0), (31, x1), (32, x2), (33, x3), (34, x4), (35, x5), (36, x6), (29, x7), (37, x8), (38, x9), (8, x10), (9, x11)] (by simp only [List.mem_cons, List.not_mem_nil, or_false, forall_eq_or_imp, forall_eq]; exact ⟨g0, g1, g2, g3, g4, g5, g6, g7, g8, g9, g10, g11⟩) (by kernel_rfl)
       obtain rfl : x10 = .int .i64 0 := h10 _ rfl
       obtain rfl : x11 = .bool false := h11 _ rfl
       clear h0 g0 h1 g1 h2 g2 h3 g3 h4 g4 h5 g5 h6 g6 h7 g7 h8 g8 h9 g9 h10 g10 h11 g11 hI hall
       simp only [setAll, List.foldl, List.setIfInBounds_toArray, List.set_cons_zero, List.set_cons_succ] at hA
       rw [hA]
       clear hA; clear HLKE
       have hb4 : Below w.heap.size w W3.drew := HB3h.out.drew
       have HK4 := Lib.hid (show W3.drew.heap[w.heap.size]? = some (.cells #[.int .i64 xi, .int .i64 xe, .int .i64 xd, .int .i64 xk, .int .i64 xo, .string xt, .slice Al nl cl] 46 (0, 0)) from HK3.out)
       have HY4 := Lib.hid (show W3.drew.heap[W2.heap.size]? = some (.cells #[.int .i64 yi, .int .i64 ye, .int .i64 yd, .int .i64 yk, .int .i64 yo, .string yt, .slice Aly nly cly] 46 (0, 0)) from HY3.out)
       have hsz4 : w.heap.size < W3.drew.heap.size := hsz3
       have hss4 : W2.heap.size ≤ W3.drew.heap.size := HB3.size
       have hbw24 : Below W2.heap.size W2 W3.drew := HB3.drew
       have HBW24 := Lib.hid hbw24
       clear hbw24
       generalize W3.drew = W4 at *
       have y3 := blk_cell HY4.out 3
       by_cases hyk : yk = 3
       case pos =>
        have hykb : (yk == 3) = true := by simpa using hyk
        have hf := Lib.hid (show r = 7 from HR.out.symm.trans (HRS.out.trans (if_pos (.inl hyk))))
        clear hyk
        go_wp2_with fail
        go_ret
        exact ⟨by rw [hf.out]; first | done | rfl, hb4⟩
       case neg =>
       have hykb : (yk == 3) = false := by simpa using hyk
       have HRS2 := Lib.hid (HRS.out.trans (if_neg (fun h => h.elim hyk (fun h => h HV0.out))))
       clear hyk
       have y1 := blk_cell HY4.out 1
       have e1 := blk_cell HK4.out 1
       by_cases hye : ye = xe
       case neg =>
        have hyeb : (ye != xe) = true := by simpa using hye
        have hf := Lib.hid (show r = 18 from HR.out.symm.trans (HRS2.out.trans (if_pos (.inl hye))))
        clear hye
        go_wp2_with fail
        go_ret
        exact ⟨by rw [hf.out]; first | done | rfl, hb4⟩
       case pos =>
       have hyeb : (ye != xe) = false := by simpa using hye
       have HYE := Lib.hid hye
       clear hye
       have y2 := blk_cell HY4.out 2
       have e2 := blk_cell HK4.out 2
       by_cases hyd : xd < yd
       case pos =>
        have hydb : decide (xd < yd) = true := decide_eq_true hyd
        have hf := Lib.hid (show r = 18 from HR.out.symm.trans (HRS2.out.trans (if_pos (.inr (.inl hyd)))))
        clear hyd
        go_wp2_with fail
        go_ret
        exact ⟨by rw [hf.out]; first | done | rfl, hb4⟩
       case neg =>
       have hydb : decide (xd < yd) = false := decide_eq_false hyd
       have HYD := Lib.hid hyd
       clear hyd
       have y6 := blk_cell HY4.out 6
       have e6 := blk_cell HK4.out 6
       go_wp2_with fail
       have hop := opp_c ls ly Al Aly cl cly W4 (lines_keep HLX.out hb4) (lines_keep HLY.out HBW24.out) HMID.out
       rw [HNL.out, HNLY.out] at hop
       obtain ⟨ob, hob⟩ : ∃ ob, oppB ls ly = ob := ⟨_, rfl⟩
       rw [hob] at hop HRS2
       have HOB := Lib.hid hop
       clear hob hop y1 y2 y3 y6 e1 e2 e6
       refine HOB.out.mono ?_
       rintro e w5 ⟨rfl, hb5⟩
       have hb05 := hb4.trans (hb5.mono hb4.size)
       cases ob with
       | false =>
        have hf := Lib.hid (show r = 18 from HR.out.symm.trans (HRS2.out.trans (if_pos (.inr (.inr rfl)))))
        go_wp2_with fail
        go_ret
        exact ⟨by rw [hf.out]; first | done | rfl, hb05⟩
       | true =>
        have hf := Lib.hid (show r = 0 from HR.out.symm.trans (HRS2.out.trans (if_neg (fun h => by
         rcases h with h | h | h
         · exact h HYE.out
         · have := HYD.out; omega
         · cases h))))
        go_wp2_with fail
        go_ret
        exact ⟨by rw [hf.out]; first | done | rfl, hb05⟩
theorem Inv.stepW {md : Region.Mode} {ops : Array Oper} {V : Nat → Value → World → Prop} {S : World → Prop} {a0 : Act} {listed : Array Bool} {a : Act} {w w' : World} {i : Nat} {o : Oper} {v : Value} (hI : Inv md ops V S a0 listed a w)
 (hdst : ∀ (i j : Nat) (oi oj : Oper) (d : Nat), ops[i]? = some oi → ops[j]? = some oj → oi.dst = some d → oj.dst = some d → i = j)
 (hlt : ∀ (i : Nat) (o : Oper) (d : Nat), ops[i]? = some o → o.dst = some d → d < a0.tmps.size)
 (h2 : ops[i]? = some o) (h3 : ∀ e ∈ o.after, Region.binds md e = true → Done listed e.on) (hS : S w') (hv : V i v w') (hst : ∀ j u, j ≠ i → V j u w → V j u w') :
 Inv md ops V S a0 (listed.setIfInBounds i true) (a.put o.dst v) w' := by
 have hsz : i < ops.size := (Array.getElem?_eq_some_iff.1 h2).1
 refine ⟨by simpa using hI.lsize, hS, ?_, ?_, ?_, ?_, ?_⟩
 · cases o.dst <;> exact hI.defers
 · cases ho : o.dst <;> simp [Act.put, hI.size]
 · intro j oj hj hd e he hb
   rcases hd.inv with rfl | hd
   · rw [h2] at hj
     cases hj
     exact Done.set (h3 e he hb)
   · exact Done.set (hI.closed j oj hj hd e he hb)
 · intro j oj d hj hjd hd
   by_cases hji : j = i
   · subst hji
     rw [h2] at hj
     cases hj
     refine ⟨v, ?_, hv⟩
     have := hlt j o d h2 hjd
     simp [Act.put, hjd, hI.size, this]
   · rcases hd.inv with h | hd
     · exact absurd h hji
     · obtain ⟨u, hu, hV⟩ := hI.got j oj d hj hjd hd
       refine ⟨u, ?_, hst j u hji hV⟩
       cases ho : o.dst with
       | none => simpa [Act.put, ho] using hu
       | some d' =>
        have hne : d' ≠ d := fun e => hji (hdst j i oj o d hj h2 hjd (by rw [ho, e]))
        simpa [Act.put, Array.getElem?_setIfInBounds, hne] using hu
 · intro j hj
   have h4 := hI.old j (fun k ok hk hkd hd => hj k ok hk hkd hd.set)
   cases ho : o.dst with
   | none => simpa [Act.put] using h4
   | some d' =>
    have hne : d' ≠ j := fun e => hj i o h2 (by rw [ho, e]) (Done.new (by rw [hI.lsize]; exact hsz))
    simpa [Act.put, Array.getElem?_setIfInBounds, hne] using h4
def OpStepW (P : Program) (md : Region.Mode) (ops : Array Oper) (Q : Exit → Act → World → Prop) (V : Nat → Value → World → Prop) (S : World → Prop) (a0 : Act) (i : Nat) (o : Oper) : Prop :=
 ∀ listed a w, Inv md ops V S a0 listed a w → (∀ e ∈ o.after, Region.binds md e = true → Done listed e.on) → ¬ Done listed i →
  ∀ K : Act → World → Prop, Shut (∀ v w', S w' → V i v w' → (∀ j u, j ≠ i → V j u w → V j u w') → K (a.put o.dst v) w') → if Region.wanted o (yielded ops a.tmps) = true then o.wp P a w K Q else K (a.put o.dst undef) w
theorem wpAny_invW {P : Program} {md : Region.Mode} {ops : Array Oper} {Q : Exit → Act → World → Prop} {V : Nat → Value → World → Prop} {S : World → Prop} {a0 : Act} {m : Nat}
 (hord : ∀ (i : Nat) (o : Oper), ops[i]? = some o → ∀ e ∈ o.after, Region.binds md e = true → e.on < i)
 (hdst : ∀ (i j : Nat) (oi oj : Oper) (d : Nat), ops[i]? = some oi → ops[j]? = some oj → oi.dst = some d → oj.dst = some d → i = j)
 (hlt : ∀ (i : Nat) (o : Oper) (d : Nat), ops[i]? = some o → o.dst = some d → d < a0.tmps.size)
 (hmn : m < ops.size) (hwait : waitsB md ops m = true) (hbeh : behindB md ops m = true)
 (hstep : ∀ i o, i < m → ops[i]? = some o → ∀ listed a w, Inv md ops V S a0 listed a w → (∀ e ∈ o.after, Region.binds md e = true → Done listed e.on) → ¬ Done listed i →
  ∀ K : Act → World → Prop, (∀ v w', S w' → V i v w' → (∀ j u, j ≠ i → V j u w → V j u w') → K (a.put o.dst v) w') → if Region.wanted o (yielded ops a.tmps) = true then o.wp P a w K Q else K (a.put o.dst undef) w)
 (hmid : ∀ f a w, Inv md ops V S a0 (headDone m ops.size) a w → wpAny P md ops Q (f + (ops.size - m)) (headDone m ops.size) a w) :
 ∀ fuel listed a w, Inv md ops V S a0 listed a w → (∀ i, m ≤ i → i < ops.size → ¬ Done listed i) → left ops.size listed ≤ fuel → wpAny P md ops Q fuel listed a w := by
 intro fuel
 induction fuel with
 | zero =>
  intro listed a w hI hno hf
  have hr : Region.ready md ops listed = [] := by
   rw [List.eq_nil_iff_forall_not_mem]
   intro i hi
   obtain ⟨h1, o, h2, _⟩ := mem_ready.1 hi
   have := left_set hI.lsize (Array.getElem?_eq_some_iff.1 h2).1 h1
   omega
  exact absurd (all_done' hI.lsize hord hr (m + 1) m (by omega) hmn) (hno m (by omega) hmn)
 | succ fuel ih =>
  intro listed a w hI hno hf
  by_cases hall : ∀ i, i < m → Done listed i
  · have hl := eq_headDone hI.lsize (fun i hi _ => hall i hi) hno
    subst hl
    have h1 := left_head m ops.size ops.size (Nat.le_refl _)
    unfold left at hf
    have h2 := hmid (fuel + 1 - (ops.size - m)) a w hI
    rwa [show fuel + 1 - (ops.size - m) + (ops.size - m) = fuel + 1 from by omega] at h2
  · refine ⟨fun hr => absurd (all_done' hI.lsize hord hr (m + 1) m (by omega) hmn) (hno m (by omega) hmn), fun i hi => ?_⟩
    obtain ⟨h1, o, h2, h3⟩ := mem_ready.1 hi
    have hsz : i < ops.size := (Array.getElem?_eq_some_iff.1 h2).1
    have him : i < m := by
     refine Nat.lt_of_not_le fun hle => ?_
     by_cases he : i = m
     · subst he
       exact hall fun j hj => waits_spec hI hwait h2 h3 (i - j) j hj (Nat.le_refl _)
     · simp only [behindB, List.all_eq_true] at hbeh
       have h4 := hbeh i (by rw [List.mem_drop_iff_getElem]; exact ⟨i - (m + 1), by simp; omega, by simp; omega⟩)
       rw [h2] at h4
       simp only [List.any_eq_true, Bool.and_eq_true, decide_eq_true_eq] at h4
       obtain ⟨e, hem, ⟨hb, hme⟩, hei⟩ := h4
       exact hno e.on hme (by omega) (h3 e (by simpa using hem) hb)
    have hnd : ¬ Done listed i := by
     unfold Done
     rw [← getD_tf (by rw [hI.lsize]; exact hsz), h1]
     simp
    refine wpOp_step h2 (fun K hK => hstep i o him h2 listed a w hI h3 hnd K (fun v w' hS hv hst => hK _ _ ?_))
    refine ih _ _ _ (hI.stepW hdst hlt h2 h3 hS hv hst) (fun j hj hjs hdj => ?_) ?_
    · rcases hdj.inv with rfl | hdj
      · omega
      · exact hno j hj hjs hdj
    · have := left_set hI.lsize hsz h1
      omega
theorem wp_region_invW2 {P : Program} {ops : Array Oper} {Q : Exit → Act → World → Prop} (m : Nat) (V : Nat → Value → World → Prop) (S : World → Prop) {id : Nat} {a : Act} {w : World}
 (hm : P.follows .mixedOrders = true) (ho : ordB' .any ops = true) (hd : dstB ops a.tmps.size = true) (hmn : m < ops.size) (hwait : waitsB .any ops m = true) (hbeh : behindB .any ops m = true) (hS : S w.drew)
 (hstep : AllOps (OpStepW P .any ops Q V S a) 0 (ops.toList.take m))
 (hmid : ∀ f a' w', Inv .any ops V S a (headDone m ops.size) a' w' → wpAny P .any ops Q (f + (ops.size - m)) (headDone m ops.size) a' w') : (Code.region id ops true).wp P Q a w := by
 have hno : ∀ i, ¬ Done (Array.replicate ops.size false) i := fun i h => by
  unfold Done at h
  by_cases hi : i < ops.size <;> simp [Array.getD_eq_getD_getElem?, hi] at h
 refine wp_region_any hm (wpAny_invW (V := V) (S := S) (a0 := a) (m := m) (ordB_spec' ho) (fun i j oi oj d hi hj hid hjd => (dstB_spec hd i oi d hi hid).2 j oj hj hjd) (fun i o d hi hid => (dstB_spec hd i o d hi hid).1) hmn hwait hbeh
  (fun i o him hi listed a' w' hI hdn hnd K hK => ?_) hmid _ _ _ _ ?_ (fun i _ _ => hno i) ?_)
 · have := AllOps.get hstep (i := i) (o := o) (by rw [List.getElem?_take_of_lt him]; simpa using hi)
   rw [Nat.zero_add] at this
   exact this listed a' w' hI hdn hnd K hK
 · exact ⟨by simp, hS, rfl, rfl, fun i _ _ h => absurd h (hno i), fun i _ _ _ _ h => absurd h (hno i), fun _ _ => rfl⟩
 · unfold left
   exact Nat.le_trans (List.length_filter_le _ _) (by simp)
theorem wp_region_invW {P : Program} {ops : Array Oper} {Q : Exit → Act → World → Prop} (m : Nat) (V : Nat → Value → World → Prop) (S : World → Prop) {id : Nat} {a : Act} {w : World}
 (hm : P.follows .mixedOrders = true) (ho : ordB' .any ops = true) (hd : dstB ops a.tmps.size = true) (hmn : m < ops.size) (hwait : waitsB .any ops m = true) (hbeh : behindB .any ops m = true) (hch : chainB .any ops m = true) (hS : S w.drew)
 (hstep : AllOps (OpStepW P .any ops Q V S a) 0 (ops.toList.take m))
 (hmid : ∀ a' w', Inv .any ops V S a (headDone m ops.size) a' w' → wpList P ops Q (ops.toList.drop m) a' w') : (Code.region id ops true).wp P Q a w :=
 wp_region_invW2 m V S hm ho hd hmn hwait hbeh hS hstep (fun f a' w' hI => wpAny_chain hch hmn (hmid a' w' hI))
theorem Ks.keepW {W w w' : World} {ks : List Kind} {i : Nat} (hb : Below w.heap.size w w') (j : Nat) (v : Value) (_ : j ≠ i) (h : Ks W ks j v w) : Ks W ks j v w' := Ks.keep hb j v h
section
variable {P : Program} (w : World)
theorem run_app_old (base : Nat) (t ty e : TypeId) (i : TypeInfo) (z : Value) (size bytes : Nat) (ht : P.underlying t = some (.slice e)) (hi : P.info? e = some i) (hz : i.zero = some z)
 (hsize : i.size = size) (hby : i.bytes = bytes) (hzs : z.cells.size = size) (hsz : 0 < size)
 (v : Value) (n : Nat) (xs : List Value) (hown : w.ownsRow base e size v n xs)
 (Q : Nat → Prop) (A : Option Addr) (m c : Nat) (news : List Value) (hr : Rd w Q A m size news) (h1 : ∀ u ∈ news, u.oneCell' = true)
 (h63 : n + m ≤ maxLen) (hbytes : (n + m) * bytes ≤ 140737488355328) (hbase : base ≤ w.heap.size) (hm : 0 < m) {v' : Value} {w' : World} (hrun : (Builtin.append_ #[t, t] ty #[v, .slice A m c]).run P w = .ok v' w') : w'.ownsRow base e size v n xs := by
 obtain ⟨ad, rfl, hc⟩ := hr.2 hm
 rcases hown.2 with ⟨rfl, rfl⟩ | ⟨g, cap, cur, rfl, hbg, hg, hnc, hcm, hcs, htk⟩
 · have hx : xs = [] := List.eq_nil_of_length_eq_zero (by simpa using hown.1)
   subst hx
   exact World.ownsRow_nil _ _ _ _
 · by_cases hroom : n + m ≤ cap
   · obtain ⟨w2, hrun2, h2, _⟩ := run_append_fits (P := P) w base t ty e i size ht hi hsize g n cap xs hown ad m c news hr.1 (fun j u hu => (hc.2 j u hu).1) h1 hroom
     rw [hrun] at hrun2
     simp only [Result.ok.injEq] at hrun2
     obtain ⟨rfl, rfl⟩ := hrun2
     rcases h2.2 with ⟨h3, _⟩ | ⟨g', cap', cur', h3, _, hg', _, _, hcs', htk'⟩
     · simp at h3
     · simp only [Value.slice.injEq, Option.some.injEq, Addr.mk.injEq, and_true, true_and] at h3
       obtain ⟨rfl, rfl⟩ := h3
       refine ⟨hown.1, .inr ⟨g, cap, cur', rfl, hbg, hg', hnc, hcm, hcs', ?_⟩⟩
       have hxl := hown.1
       have : cur'.toList.take (n * size) = (cur'.toList.take ((n + m) * size)).take (n * size) := by
        rw [List.take_take, Nat.min_eq_left (Nat.mul_le_mul_right _ (by omega))]
       rw [this, htk', ← hxl, List.take_left]
   · have hgrow := run_append_grow (P := P) w t ty e i z ht hi hz ⟨g, 0, none⟩ n cap xs (by rw [hsize]; exact hown.1) (fun j u hu => hown.cells (g := g) rfl j u hu) ad m c news (by rw [hsize]; exact hr.1) (fun j u hu => (hc.2 j u hu).1) (by omega) (by unfold maxLen at h63; omega) (by rw [hby]; exact growslice_fits (by omega) (by simpa using hbytes))
     obtain ⟨ob, hw⟩ : ∃ ob, w' = w.drew.alloc ob := by
      have := hrun.symm.trans hgrow
      simp only [Result.ok.injEq] at this
      exact ⟨_, this.2⟩
     have hb : Below w.heap.size w w' := by rw [hw]; exact ((Below.refl _ _).drew).alloc (Nat.le_refl _) _
     exact own_below hown hb
theorem wp_app2 {o : Oper} {a : Act} {K : Act → World → Prop} {Q' : Exit → Act → World → Prop} (s x : Operand) (t : TypeId)
 (ho : o.op = .call { callee := .builtin .append, args := #[s, x], argTypes := #[t, t] })
 (base : Nat) (e : TypeId) (i : TypeInfo) (z : Value) (size bytes : Nat) (ht : P.underlying t = some (.slice e)) (hi : P.info? e = some i) (hz : i.zero = some z)
 (hsize : i.size = size) (hby : i.bytes = bytes) (hzs : z.cells.size = size) (hsz : 0 < size)
 (v : Value) (n : Nat) (xs : List Value) (hs : a.eval s = v) (hown : w.ownsRow base e size v n xs)
 (Q : Nat → Prop) (A : Option Addr) (m c : Nat) (news : List Value) (hx : a.eval x = .slice A m c) (hr : Rd w Q A m size news) (h1 : ∀ u ∈ news, u.oneCell' = true)
 (h63 : n + m ≤ maxLen) (hbytes : (n + m) * bytes ≤ 140737488355328) (hbase : base ≤ w.heap.size) (hm : 0 < m)
 (h : ∀ v' w', w'.ownsRow base e size v' (n + m) (xs ++ news) → w'.ownsRow base e size v n xs → w.grownBy w' v.ownBlock → (v'.ownBlock = v.ownBlock ∨ v'.ownBlock = some w.heap.size) → K (a.put o.dst v') w') : o.wp P a w K Q' := by
 obtain ⟨v', w', hrun, h2, h3, h4⟩ := run_app (P := P) w base t o.type e i z size bytes ht hi hz hsize hby hzs hsz v n xs hown Q A m c news hr h1 h63 hbytes hbase
 have h5 := run_app_old (P := P) w base t o.type e i z size bytes ht hi hz hsize hby hzs hsz v n xs hown Q A m c news hr h1 h63 hbytes hbase hm hrun
 unfold Oper.wp execOp
 simp only [ho, resolve, invoke, builtin, Sem.run_bind, Sem.run_pure, Result.andThen_ok, List.map_toArray, List.map_cons, List.map_nil, hs, hx, hrun]
 exact h v' w' h2 h5 h3 h4
end
theorem JAt.mono {w : World} {D O D' O' : Nat → Prop} {J : Nat} {g : XGroup} {es : List XEntry} {gl : List Value} {css : List (List Value)} {v : Value} {bi br : Nat} (h : JAt w D O J g es gl css v bi br) (hD : ∀ q, D q → D' q) (hO : ∀ q, O q → O' q) (hdis : ∀ q, D' q → ¬ O' q) (hD2 : ∀ q, D' q → q < w.heap.size) (hO2 : ∀ q, O' q → q < w.heap.size) : JAt w D' O' J g es gl css v bi br where
 blk := h.blk
 grp := GroupC.mono h.grp hD
 len := h.len
 row := h.row
 ent := fun i x hx => by
  obtain ⟨cs, h1, h2⟩ := h.ent i x hx
  exact ⟨cs, h1, EntryC.mono h2 hD⟩
 idx := h.idx
 rev := h.rev
 oj := hO _ h.oj
 oi := hO _ h.oi
 orr := hO _ h.orr
 ov := fun q hq => hO _ (h.ov q hq)
 ne1 := h.ne1
 ne2 := h.ne2
 ne3 := h.ne3
 ne4 := h.ne4
 dis := hdis
 ltD := hD2
 ltO := hO2
 ok := h.ok
theorem JAt.same {w w' : World} {D O : Nat → Prop} {J : Nat} {g : XGroup} {es : List XEntry} {gl : List Value} {css : List (List Value)} {v : Value} {bi br : Nat} (h : JAt w D O J g es gl css v bi br) (hb : Below w.heap.size w w') : JPost D O J g es es w w' := by
 have h2 := h.below hb
 refine ⟨w'.heap.size, hb.size, Nat.le_refl _, ⟨gl, css, v, bi, br, h2.mono (fun q hq => .inl hq) (fun q hq => .inl hq) (fun q hq => ?_) (fun q hq => ?_) (fun q hq => ?_)⟩, (Fr.ofBelow hb).mono (fun q hq => hq.1)⟩
 · rintro (ho | ho)
   · rcases hq with hq | hq
     · exact h.dis q hq ho
     · have := h.ltO q ho; omega
   · omega
 · rcases hq with hq | hq
   · exact h2.ltD q hq
   · exact hq.2
 · rcases hq with hq | hq
   · exact h2.ltO q hq
   · exact hq.2
theorem set21 {gl : List Value} (hl : gl.length = 21) (a b c d : Value) : (gl ++ [a, b, c]).toArray.setIfInBounds 21 d = (gl ++ [d, b, c]).toArray := by
 simp [List.set_append, hl]
theorem JAt.post_ok {V V2 W3 W4 W5 : World} {D O : Nat → Prop} {J : Nat} {g : XGroup} {es : List XEntry} {gl : List Value} {css : List (List Value)} {v v9 : Value} {bi br : Nat} {x : XEntry} {cs : List Value} (h : JAt V D O J g es gl css v bi br) (hp : postE g es x = 0)
 (hf2 : Fr (fun q => q ≠ bi ∧ q ≠ br) V V2) (hi : MapO V2 bi (es.length + 1) (fun id => if id = x.id then some (es.length : Int) else Option.map (fun k : Nat => (k : Int)) (idxE es id))) (hr : MapO V2 br (es.length + 1) (revO (es ++ [x])))
 (hf3 : Fr (fun q => q < V2.heap.size ∧ v.ownBlock ≠ some q) V2 W3) (hx : EntryC W3 (fun q => V2.heap.size ≤ q ∧ q < W3.heap.size) cs x)
 (hrow : W4.ownsRow 0 46 7 v9 (es.length + 1) (css.flatten ++ cs)) (hg : W3.grownBy W4 v.ownBlock) (hat : v9.ownBlock = v.ownBlock ∨ v9.ownBlock = some W3.heap.size)
 (hW5 : W5 = W4.setCell ⟨J, 21, none⟩ v9) :
 JAt W5 (fun q => D q ∨ (V.heap.size ≤ q ∧ q < W3.heap.size)) (fun q => O q ∨ (W3.heap.size ≤ q ∧ q < W5.heap.size)) J g (es ++ [x]) gl (css ++ [cs]) v9 bi br ∧ Fr (fun q => q < V.heap.size ∧ ¬ O q) V W5 ∧ V.heap.size ≤ W3.heap.size ∧ W3.heap.size ≤ W5.heap.size := by
 have s2 := hf2.size
 have s3 := hf3.size
 have s4 := hg.size
 have s5 : W5.heap.size = W4.heap.size := by rw [hW5]; simp
 have f5 : Fr (fun q => q ≠ J) W4 W5 := by rw [hW5]; exact (Fr.refl _ _).setCell (p := ⟨J, 21, none⟩) (by simp) _
 have hJ := h.ltO J h.oj
 have hbi := h.ltO bi h.oi
 have hbr := h.ltO br h.orr
 have f4 : ∀ q, q < W3.heap.size → v.ownBlock ≠ some q → W4.heap[q]? = W3.heap[q]? := fun q h1 h2 => hg.block q h1 (fun e => h2 e.symm)
 have fall : ∀ q, q < V.heap.size → q ≠ bi → q ≠ br → v.ownBlock ≠ some q → q ≠ J → W5.heap[q]? = V.heap[q]? := fun q h1 h2 h3 h4 h5 =>
  (f5.block q h5).trans ((f4 q (by omega) h4).trans ((hf3.block q ⟨by omega, h4⟩).trans (hf2.block q ⟨h2, h3⟩)))
 have hos : W5.os = V.os := f5.os.trans (hg.os.trans (hf3.os.trans hf2.os))
 have htp : W5.tape = V.tape := f5.tape.trans (hg.tape.trans (hf3.tape.trans hf2.tape))
 have hou : W5.output = V.output := f5.output.trans (hg.output.trans (hf3.output.trans hf2.output))
 have hO : ∀ q, q < V.heap.size → ¬ O q → W5.heap[q]? = V.heap[q]? := fun q h1 h2 => fall q h1 (fun e => h2 (e ▸ h.oi)) (fun e => h2 (e ▸ h.orr)) (fun e => h2 (h.ov q e)) (fun e => h2 (e ▸ h.oj))
 have hD : Fr D V W5 := ⟨hos, htp, hou, by omega, fun q hq => hO q (h.ltD q hq) (h.dis q hq)⟩
 have hown9 : ∀ q, v9.ownBlock = some q → q ≠ J ∧ q ≠ bi ∧ q ≠ br := fun q hq => by
  rcases hat with e | e
  · exact h.ne4 q (by rw [← e]; exact hq)
  · rw [e] at hq
    injection hq with hq
    omega
 have hmapN : ∀ q, q = bi ∨ q = br → W5.heap[q]? = V2.heap[q]? := fun q hq => by
  have h1 : q < V.heap.size := by rcases hq with rfl | rfl <;> assumption
  have h2 : v.ownBlock ≠ some q := fun e => by
   have := h.ne4 q e
   rcases hq with rfl | rfl
   · exact this.2.1 rfl
   · exact this.2.2 rfl
  have h3 : q ≠ J := by
   rcases hq with rfl | rfl
   · exact fun e => h.ne1 e.symm
   · exact fun e => h.ne2 e.symm
  exact (f5.block q h3).trans ((f4 q (by omega) h2).trans (hf3.block q ⟨by omega, h2⟩))
 have hlen : (es ++ [x]).length = es.length + 1 := by simp
 have hp2 := postE_ok hp
 refine ⟨?_, ⟨hos, htp, hou, by omega, fun q hq => hO q hq.1 hq.2⟩, by omega, by omega⟩
 exact {
  blk := by
   have e2 := (hf2.block J ⟨h.ne1, h.ne2⟩).trans h.blk
   have hvJ : v.ownBlock ≠ some J := fun e => (h.ne4 J e).1 rfl
   have e3 := (f4 J (by omega) hvJ).trans ((hf3.block J ⟨by omega, hvJ⟩).trans e2)
   have e4 := heap_setCell_same e3 21 v9
   rw [hW5, e4, set21 h.glen]
  grp := GroupC.mono (GroupC.fr h.grp hD) (fun q hq => .inl hq)
  len := by simp [h.len]
  row := by
   rw [hlen, List.flatten_append, List.flatten_singleton]
   exact own_same hrow (fun q hq => f5.block q (hown9 q hq).1)
  ent := fun i y hy => by
   rcases Nat.lt_or_ge i es.length with h1 | h1
   · rw [List.getElem?_append_left h1] at hy
     obtain ⟨c, h2, h3⟩ := h.ent i y hy
     exact ⟨c, by rw [List.getElem?_append_left (by rw [h.len]; exact h1)]; exact h2, EntryC.mono (EntryC.fr h3 hD) (fun q hq => .inl hq)⟩
   · have h2 : i = es.length := by
      have := (List.getElem?_eq_some_iff.1 hy).1
      simp at this
      omega
     subst h2
     simp at hy
     subst hy
     refine ⟨cs, by rw [← h.len]; simp, EntryC.mono (EntryC.fr hx ⟨f5.os.trans hg.os, f5.tape.trans hg.tape, f5.output.trans hg.output, by omega, fun q hq => (f5.block q (by omega)).trans (f4 q hq.2 (fun e => by have := h.ltO q (h.ov q e); omega))⟩) (fun q hq => .inr ⟨by omega, hq.2⟩)⟩
  idx := by
   rw [hlen]
   exact (hi.same (hmapN bi (.inl rfl))).eqv (fun c => by
    rw [idxE_snoc_new hp2.2.1]
    by_cases hc : c = x.id
    · rw [if_pos hc, if_pos hc]; rfl
    · rw [if_neg hc, if_neg hc])
  rev := by rw [hlen]; exact hr.same (hmapN br (.inr rfl))
  oj := .inl h.oj
  oi := .inl h.oi
  orr := .inl h.orr
  ov := fun q hq => by
   rcases hat with e | e
   · exact .inl (h.ov q (by rw [← e]; exact hq))
   · have h2 := (hrow.lt _ hq).2
     rw [e] at hq
     injection hq with hq
     exact .inr ⟨by omega, by omega⟩
  ne1 := h.ne1
  ne2 := h.ne2
  ne3 := h.ne3
  ne4 := hown9
  dis := fun q h1 h2 => by
   rcases h1 with h1 | h1
   · rcases h2 with h2 | h2
     · exact h.dis q h1 h2
     · have := h.ltD q h1; omega
   · rcases h2 with h2 | h2
     · have := h.ltO q h2; omega
     · omega
  ltD := fun q h1 => by
   rcases h1 with h1 | h1
   · have := h.ltD q h1; omega
   · omega
  ltO := fun q h1 => by
   rcases h1 with h1 | h1
   · have := h.ltO q h1; omega
   · exact h1.2
  ok := okJ_snoc h.ok hp }
end Go.Proofs.YtekelchdbkjjjaaGreat
