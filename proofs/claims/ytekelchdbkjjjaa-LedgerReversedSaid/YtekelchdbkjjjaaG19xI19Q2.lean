/- Few groups and entries. Written by gen_i19.py. -/
import Derived.Test.YtekelchdbkjjjaaG19xB0B3
import Derived.Test.YtekelchdbkjjjaaG19xB4B12
import Derived.Test.YtekelchdbkjjjaaG19xB13B14
import Derived.Test.YtekelchdbkjjjaaG19xB15S0
import Derived.Test.YtekelchdbkjjjaaG19xB21B27
import Derived.Test.YtekelchdbkjjjaaG19xB28S2
import Derived.Test.YtekelchdbkjjjaaG19xC4E3
import Derived.Test.YtekelchdbkjjjaaG19xE5H1
import Derived.Test.YtekelchdbkjjjaaG19xH2I7
import Derived.Test.YtekelchdbkjjjaaG19xI8I13
import Derived.Test.YtekelchdbkjjjaaG19xI14I15
import Derived.Test.YtekelchdbkjjjaaG19xI16
import Derived.Test.YtekelchdbkjjjaaProg
set_option linter.unusedVariables false
set_option linter.unusedSimpArgs false
set_option maxRecDepth 4000
attribute [local go_sem ↓] Go.wp_at_zero Go.wp_at_succ
namespace Go.Proofs.Ytekelchdbkjjjaa
open Go Go.RowKit
def fewX (x : XEntry) : Prop := x.lines.length ≤ 60 ∧ x.text.size ≤ 200 ∧ ∀ y ∈ x.lines, -1125899906842624 ≤ y.amount ∧ y.amount ≤ 1125899906842624
def fewJ (g : XGroup) (es : List XEntry) : Prop := (∀ x ∈ es, fewX x) ∧ es.length ≤ 61 ∧ fewG g
set_option maxHeartbeats 4000000 in
theorem few12_c (g : XGroup) (es : List XEntry) (gl : List Value) (A : Option Addr) (c : Nat) (w : World) (hg : GroupC w (· < w.heap.size) gl g) (hsz : szG g) (hl : ListC EntryC 7 w (· < w.heap.size) [.slice A es.length c] es) (hts : ∀ x ∈ es, x.text.size ≤ 140737488355327) :
 Calls Try.prog 6 #[.agg gl.toArray, .slice A es.length c] w (If (fewJ g es) w) := by
 have HF := Lib.hid (fun (w2 : World) (hb : Below w.heap.size w w2) => few_v hg hsz hb)
 have HGS := Lib.hid (show gl.toArray.size = 21 by have := hg.len; simpa using this)
 have hbn := hl.cap
 obtain ⟨n, hnl⟩ : ∃ n, es.length = n := ⟨_, rfl⟩
 have HL := Lib.hid hl
 have HN := Lib.hid hnl
 have HTS := Lib.hid hts
 rw [hnl] at hbn ⊢
 unfold maxLen at hbn
 have hn9 : n ≤ 9223372036854775807 := by omega
 obtain ⟨P, hP⟩ : ∃ P, fewJ g es = P := ⟨_, rfl⟩
 rw [hP]
 have HP := Lib.hid hP
 clear hg hsz hl hnl hts hbn hP
 go_enter Try.func6, Try.ntmps6
 go_upto_region 1 with fail
 have H1 := heap_alloc_new w (.cells gl.toArray 29)
 have HB1 := below1 w (.cells gl.toArray 29)
 have HS1 := blk_lt H1
 generalize hW1 : w.alloc (Obj.cells gl.toArray 29) = W at *
 clear hW1
 have HK := Lib.hid H1
 have HB1h := Lib.hid HB1
 clear H1
 go_wp2_with fail
 go_loopw [5] (fun i wr => ∃ k : Nat, k ≤ n ∧ i = .int .i64 (k : Int) ∧ Below W.heap.size W wr ∧ k ≤ 61 ∧ ∀ j (hj : j < es.length), j < k → fewX es[j]) (fun i _ => n - (intOf i).toNat)
 case atStart => exact ⟨0, by omega, rfl, Below.refl _ _, by omega, fun j hj h => by omega⟩
 case round =>
  obtain ⟨k, hk, rfl, hbW, hk61, hall⟩ := hrel
  have hb := HB1h.out.trans (hbW.mono HB1h.out.size)
  have HALL := Lib.hid hall
  have HBR := Lib.hid hb
  clear hall
  by_cases hlt : k < n
  case pos =>
   have hltI : (k : Int) < (n : Int) := by omega
   have hkl : k < es.length := by rw [HN.out]; exact hlt
   obtain ⟨b, o, cs, hAe, hbw, hes, hat⟩ := ListC.get HL.out k hkl
   subst hAe
   obtain ⟨Al, cl, hcs, _, hls⟩ := EntryC.lit hes
   subst hcs
   have hat2 := hat.fr (Fr.ofBelow hb)
   have c5 := hat2.c (j := 5) rfl
   have c6 := hat2.c (j := 6) rfl
   have htx := HTS.out _ (List.getElem_mem hkl)
   have hcl := hls.cap
   unfold maxLen at hcl
   obtain ⟨x, hx⟩ : ∃ x, es[k] = x := ⟨_, rfl⟩
   rw [hx] at c5 c6 htx hls hcl
   have HX := Lib.hid hx
   obtain ⟨xi, xe, xd, xk, xo, xt, ls⟩ := x
   simp only at c5 c6 htx hls hcl
   have HLS := Lib.hid hls
   obtain ⟨nl, hnl⟩ : ∃ n, ls.length = n := ⟨_, rfl⟩
   have HNL := Lib.hid hnl
   rw [hnl] at c6 hcl
   have hnz : 0 < n := by omega
   have hnl9 : nl ≤ 9223372036854775807 := by omega
   have HAT := Lib.hid (show At w (· < w.heap.size) ⟨b, o + k * 7, none⟩ [.int .i64 xi, .int .i64 xe, .int .i64 xd, .int .i64 xk, .int .i64 xo, .string xt, .slice Al nl cl] by rw [HX.out] at hat; simp only [hnl] at hat; exact hat)
   clear hes hat hat2 hx hls hnl hcl
   by_cases h1 : nl ≤ 60
   case neg =>
    have h1d : decide ((60 : Int) < (nl : Int)) = true := decide_eq_true (by omega)
    clear h1
    go_wp2_with fail
    try rw [Exit.noGoto_ret]
    go_ret
    exact If.no hb
   case pos =>
   have h1d : decide ((60 : Int) < (nl : Int)) = false := decide_eq_false (by omega)
   by_cases h2 : xt.size ≤ 200
   case neg =>
    have h2d : decide ((200 : Int) < (xt.size : Int)) = true := decide_eq_true (by omega)
    clear h2
    go_wp2_with fail
    try rw [Exit.noGoto_ret]
    go_ret
    exact If.no hb
   case pos =>
   have h2d : decide ((200 : Int) < (xt.size : Int)) = false := decide_eq_false (by omega)
   by_cases h3 : k ≤ 60
   case neg =>
    have h3d : decide ((60 : Int) < (k : Int)) = true := decide_eq_true (by omega)
    clear h3
    go_wp2_with fail
    try rw [Exit.noGoto_ret]
    go_ret
    exact If.no hb
   case pos =>
   have h3d : decide ((60 : Int) < (k : Int)) = false := decide_eq_false (by omega)
   have HFX := Lib.hid (And.intro h1 (And.intro h2 h3))
   clear h1 h2 h3 htx
   go_wp2_with fail
   clear h1d h2d h3d c5
   go_loopw [6] (fun i wr2 => ∃ q : Nat, q ≤ nl ∧ i = .int .i64 (q : Int) ∧ Below W.heap.size W wr2 ∧ ∀ j (hj : j < ls.length), j < q → -1125899906842624 ≤ ls[j].amount ∧ ls[j].amount ≤ 1125899906842624) (fun i _ => nl - (intOf i).toNat)
   case atStart => exact ⟨0, by omega, rfl, hbW, fun j hj h => by omega⟩
   case round =>
    obtain ⟨q, hq, rfl, hbq, hall2⟩ := hrel
    have hb2 := HB1h.out.trans (hbq.mono HB1h.out.size)
    have HALL2 := Lib.hid hall2
    clear hall2
    have hat2 := HAT.out.fr (Fr.ofBelow hb2)
    have c6 := hat2.c (j := 6) rfl
    by_cases hq2 : q < nl
    case pos =>
     have hqI : (q : Int) < (nl : Int) := by omega
     have hql : q < ls.length := by rw [HNL.out]; exact hq2
     obtain ⟨b2, o2, cs2, hAe2, hbw2, hes2, hat3⟩ := ListC.get HLS.out q hql
     subst hAe2
     have he2 := (LineC.lit hes2).1
     subst he2
     have c1 := (hat3.fr (Fr.ofBelow hb2)).c (j := 1) rfl
     obtain ⟨lm, hlm⟩ : ∃ a, ls[q].amount = a := ⟨_, rfl⟩
     rw [hlm] at c1
     have HLM := Lib.hid hlm
     have hqz : 0 < nl := by omega
     have hb := hb2
     clear hes2 hat3 hat2 hlm
     by_cases h1 : 1125899906842624 < lm
     case pos =>
      have h1d : decide ((1125899906842624 : Int) < lm) = true := decide_eq_true h1
      clear h1
      go_wp2_with fail
      try rw [Exit.noGoto_ret]
      go_ret
      exact If.no hb
     case neg =>
     have h1d : decide ((1125899906842624 : Int) < lm) = false := decide_eq_false h1
     by_cases h2 : lm < -1125899906842624
     case pos =>
      have h2d : decide (lm < (-1125899906842624 : Int)) = true := decide_eq_true h2
      clear h1 h2
      go_wp2_with fail
      try rw [Exit.noGoto_ret]
      go_ret
      exact If.no hb
     case neg =>
     have h2d : decide (lm < (-1125899906842624 : Int)) = false := decide_eq_false h2
     have HIN := Lib.hid (show -1125899906842624 ≤ lm ∧ lm ≤ 1125899906842624 by omega)
     clear h1 h2
     go_wp2_with fail
     go_roundw
     case rel => exact ⟨q + 1, by omega, by go_num, hbq, fun j hj h => by
      rcases Nat.lt_or_ge j q with h1 | h1
      · exact HALL2.out j hj h1
      · have : j = q := by omega
        subst this
        rw [HLM.out]; exact HIN.out⟩
     case measure => first | exact meas_v hq2 | (simp only [intOf]; omega)
    case neg =>
     have hqI : ¬ (q : Int) < (nl : Int) := by omega
     have HAM := Lib.hid (show ∀ y ∈ ls, -1125899906842624 ≤ y.amount ∧ y.amount ≤ 1125899906842624 from fun y hy => by
      obtain ⟨j, hj, rfl⟩ := List.getElem_of_mem hy
      exact HALL2.out j hj (by have := HNL.out; omega))
     go_wp2_with fail
     go_roundw
     case rel => exact ⟨k + 1, by omega, by go_num, hbq, by have := HFX.out.2.2; omega, fun j hj h => by
      rcases Nat.lt_or_ge j k with h1 | h1
      · exact HALL.out j hj h1
      · have : j = k := by omega
        subst this
        rw [HX.out]
        exact ⟨by show ls.length ≤ 60; rw [HNL.out]; exact HFX.out.1, HFX.out.2.1, HAM.out⟩⟩
     case measure => first | exact meas_v hlt | (simp only [intOf]; omega)
  case neg =>
   have hltI : ¬ (k : Int) < (n : Int) := by omega
   have HY := Lib.hid (show (∀ x ∈ es, fewX x) ∧ es.length ≤ 61 from ⟨fun x hx => by
    obtain ⟨j, hj, rfl⟩ := List.getElem_of_mem hx
    exact HALL.out j hj (by have := HN.out; omega), by have := HN.out; omega⟩)
   have HKR := Lib.hid ((hbW.block _ HS1).trans HK.out)
   go_wp2_with (show wpList _ _ _ (Oper.mk (some 59) _ _ _ _ _ :: _) _ _; refine wpList_load_row_g rfl 29 (.tmp 2) rfl (w.heap.size) rfl _ _ _ _ HKR.out Try.underlying29 rfl (by rw [info_group]; exact congrArg some HGS.out.symm) ?_)
   refine (HF.out wr hb).mono ?_
   rintro e w3 ⟨bf, rfl, hf, hb3⟩
   have hb03 := HBR.out.trans (hb3.mono HBR.out.size)
   go_wp2_with fail
   go_ret
   exact ⟨_, by first | rfl | simp, fun e => by rw [← HP.out]; exact ⟨HY.out.1, HY.out.2, hf e⟩, hb03⟩
def accJ (g : XGroup) (l : List XEntry) : List XEntry := l.foldl (fun es x => if postE g es x = 0 then es ++ [x] else es) []
def PostedPost (g : XGroup) (l : List XEntry) (w : World) (e : Ending) (w' : World) : Prop := Below w.heap.size w w' ∧
 ((groupB g = false ∧ e = .returned (.tuple #[.pointer none, .slice none 0 0, .bool true])) ∨
  (groupB g = true ∧ ∃ (J : Nat) (D O : Nat → Prop) (A : Option Addr) (c : Nat), e = .returned (.tuple #[.pointer (some ⟨J, 0, none⟩), .slice A (accJ g l).length c, .bool true]) ∧ JC w' D O J g (accJ g l) ∧ (∀ q, D q ∨ O q → w.heap.size ≤ q) ∧
   ListC EntryC 7 w' (fun q => q < w'.heap.size ∧ ¬ (D q ∨ O q)) [.slice A (accJ g l).length c] (accJ g l)))
def OutAt (B : Nat) (es : List XEntry) (v : Value) (w : World) : Prop := ∃ css : List (List Value), css.length = es.length ∧ w.ownsRow B 36 7 v es.length css.flatten ∧ (∀ cs ∈ css, cs.length = 7) ∧ ∀ (i : Nat) x, es[i]? = some x → ∃ cs, css[i]? = some cs ∧ EntryC w (fun q => q < B) cs x
theorem OutAt.same {B : Nat} {es : List XEntry} {v : Value} {w w' : World} (h : OutAt B es v w) (hf : Fr (fun q => q < B) w w') (hb : ∀ q, v.ownBlock = some q → w'.heap[q]? = w.heap[q]?) : OutAt B es v w' := by
 obtain ⟨css, h1, h2, h3, h4⟩ := h
 refine ⟨css, h1, own_same h2 hb, h3, fun i x hx => ?_⟩
 obtain ⟨cs, k1, k2⟩ := h4 i x hx
 exact ⟨cs, k1, EntryC.fr k2 hf⟩
def RevOwn (nid nd : Int) (x : XEntry) (w : World) (e : Ending) (w' : World) : Prop := ∃ A c, e = .returned (.agg #[.int .i64 nid, .int .i64 x.entity, .int .i64 nd, .int .i64 3, .int .i64 x.id, .string x.text, .slice A x.lines.length c]) ∧
 w'.ownsRow w.heap.size 49 3 (.slice A x.lines.length c) x.lines.length ((x.lines.map negL).flatMap lineL) ∧ ListC LineC 3 w' (fun q => w.heap.size ≤ q ∧ q < w'.heap.size) [.slice A x.lines.length c] (x.lines.map negL) ∧ Below w.heap.size w w'
set_option maxHeartbeats 4000000 in
theorem rreverse_o (xi xe xd xk xo : Int) (xt : ByteArray) (ls : List XLine) (Al : Option Addr) (cl : Nat) (nid nd : Int) (w : World) (hl : ListC LineC 3 w (· < w.heap.size) [.slice Al ls.length cl] ls) (hm : ∀ x ∈ ls, midL x) (hn : ls.length ≤ 1000) : Calls Try.prog 10 #[.agg #[.int .i64 xi, .int .i64 xe, .int .i64 xd, .int .i64 xk, .int .i64 xo, .string xt, .slice Al ls.length cl], .int .i64 nid, .int .i64 nd] w (RevOwn nid nd ⟨xi, xe, xd, xk, xo, xt, ls⟩ w) := by
 obtain ⟨ia, hia, hzia, hsia, hbia⟩ := info_parts info_lineA
 have HL := Lib.hid hl
 have HMD := Lib.hid hm
 obtain ⟨nl, hnl⟩ : ∃ n, ls.length = n := ⟨_, rfl⟩
 have HN := Lib.hid hnl
 rw [hnl] at hn ⊢
 clear hl hm hnl
 go_enter Try.func10, Try.ntmps10
 go_upto_region 1 with fail
 have H := heap_alloc_new w (.cells #[.int .i64 xi, .int .i64 xe, .int .i64 xd, .int .i64 xk, .int .i64 xo, .string xt, .slice Al nl cl] 36)
 have HB := below1 w (.cells #[.int .i64 xi, .int .i64 xe, .int .i64 xd, .int .i64 xk, .int .i64 xo, .string xt, .slice Al nl cl] 36)
 have HS := blk_lt H
 generalize hW : w.alloc (Obj.cells #[.int .i64 xi, .int .i64 xe, .int .i64 xd, .int .i64 xk, .int .i64 xo, .string xt, .slice Al nl cl] 36) = W at *
 have H2 := heap_alloc_new W (.cells #[.int .i64 0, .int .i64 0, .int .i64 0, .int .i64 0, .int .i64 0, .string ⟨#[]⟩, .slice none 0 0] 36)
 have HB2 := below1 W (.cells #[.int .i64 0, .int .i64 0, .int .i64 0, .int .i64 0, .int .i64 0, .string ⟨#[]⟩, .slice none 0 0] 36)
 have HS2 := blk_lt H2
 replace H := alloc_keep H (Obj.cells #[.int .i64 0, .int .i64 0, .int .i64 0, .int .i64 0, .int .i64 0, .string ⟨#[]⟩, .slice none 0 0] 36)
 generalize hW2 : W.alloc (Obj.cells #[.int .i64 0, .int .i64 0, .int .i64 0, .int .i64 0, .int .i64 0, .string ⟨#[]⟩, .slice none 0 0] 36) = W2 at *
 clear hW2
 have eW : W.heap.size = w.heap.size + 1 := by rw [← hW]; simp
 rw [eW] at H2
 clear hW
 have hb2 := HB.trans (HB2.mono HB.size)
 have hs2 := HB2.size
 have LT1 := blk_lt H2
 have LT0 : w.heap.size < W2.heap.size := by omega
 have HH := Lib.hid H
 have HZ := Lib.hid H2
 have EW := Lib.hid eW
 clear H H2 eW
 have c0 := blk_cell HH.out 0
 have c1 := blk_cell HH.out 1
 have c5 := blk_cell HH.out 5
 go_upto_region 2 with (show wpList _ _ _ (Oper.mk none (Op.store _ (Operand.tmp 7) _) _ _ _ _ :: _) _ _; refine wpList_store_fresh3 rfl 36 (.tmp 7) (.tmp 18) rfl rfl W2 #[.int .i64 0, .int .i64 0, .int .i64 0, .int .i64 0, .int .i64 0, .string ⟨#[]⟩, .slice none 0 0] 36 #[.int .i64 nid, .int .i64 xe, .int .i64 nd, .int .i64 3, .int .i64 xi, .string xt, .slice none 0 0] rfl rfl rfl info_entry rfl (by simp [Value.oneCell']) ?_; intro W3 H3 HB3 HS3)
 have HE3 := Lib.hid H3
 have HH3 := Lib.hid ((HB3.block _ LT0).trans HH.out)
 have HZ3 := Lib.hid ((HB3.block _ LT1).trans HZ.out)
 have hb03 := hb2.trans (HB3.mono hb2.size)
 have c6 := blk_cell HH3.out 6
 clear H3 c0 c1 c5; clear c6
 go_wp2_with fail
 go_loopw [8] (fun i wr => ∃ (k : Nat) (v : Value), k ≤ nl ∧ i = .int .i64 (k : Int) ∧ Fr (QX W3.heap.size W2.heap.size) W3 wr ∧ wr.heap[W2.heap.size]? = some (.cells #[.int .i64 nid, .int .i64 xe, .int .i64 nd, .int .i64 3, .int .i64 xi, .string xt, v] 36 (0, 0)) ∧ wr.ownsRow W3.heap.size 49 3 v k (((ls.take k).map negL).flatMap lineL)) (fun i _ => nl - (intOf i).toNat)
 case atStart => exact ⟨0, _, by omega, rfl, Fr.refl _ _, HE3.out, World.ownsRow_nil _ _ _ _⟩
 case round =>
  obtain ⟨k, v, hk, rfl, hfr, hE, how⟩ := hrel
  have HF := Lib.hid hfr
  have HEW := Lib.hid hE
  have HOW := Lib.hid how
  have hsz := hfr.size
  have c6 := blk_cell ((HF.out.block w.heap.size ⟨by have := HB3.size; omega, by omega⟩).trans HH3.out) 6
  by_cases hlt : k < nl
  case pos =>
   have hltI : (k : Int) < (nl : Int) := by omega
   have hkl : k < ls.length := by rw [HN.out]; exact hlt
   obtain ⟨b, o, es, hAe, hbw, hes, hat⟩ := ListC.get HL.out k hkl
   subst hAe
   have hes1 := (LineC.lit hes).1
   rw [hes1] at hat
   have hmd := HMD.out _ (List.getElem_mem hkl)
   have HST := Lib.hid (neg_step hkl)
   obtain ⟨x, hx⟩ : ∃ x, ls[k] = x := ⟨_, rfl⟩
   rw [hx] at hat hmd HST
   obtain ⟨la, lm, lp⟩ := x
   obtain ⟨hm1, hm2⟩ := hmd
   try simp only at hat hm1 hm2
   have hbl : b < W2.heap.size := by have := HB.size; have := HB2.size; have := LT0; show b < _; exact Nat.lt_of_lt_of_le hbw hb2.size
   have HAR := Lib.hid (((hat.fr (Fr.ofBelow hb03)).fr (HF.out.mono (fun q (hq : q < w.heap.size) => ⟨by have := hb03.size; omega, by have := hb2.size; omega⟩))).range)
   clear hes hes1 hat hx hfr
   go_upto_region 6 with (show wpList _ _ _ (Oper.mk (some 30) _ _ _ _ _ :: _) _ _; refine wpList_load_mid rfl 49 (.tmp 29) rfl b (o + k * 3) rfl [.int .i64 la, .int .i64 lm, .int .i64 lp] _ HAR.out Try.underlying49 rfl info_line ?_)
   have H6 := heap_alloc_new wr (.cells #[.int .i64 la, .int .i64 lm, .int .i64 lp] 49)
   have HB6 := below1 wr (.cells #[.int .i64 la, .int .i64 lm, .int .i64 lp] 49)
   have HS6 := blk_lt H6
   have HE6 := alloc_keep hE (.cells #[.int .i64 la, .int .i64 lm, .int .i64 lp] 49)
   have HOX := how.alloc (.cells #[.int .i64 la, .int .i64 lm, .int .i64 lp] 49)
   generalize hW6 : wr.alloc (Obj.cells #[.int .i64 la, .int .i64 lm, .int .i64 lp] 49) = W6 at *
   clear hW6
   have q1 := blk_cell H6 1
   have q2 := blk_frozen H6 1
   have HEN := Lib.hid HE6
   have HOX6 := Lib.hid HOX
   have HK6 := Lib.hid H6
   have hb6 := HB6
   clear H6 hE how HE6 HOX
   go_upto_region 7 with fail
   have H7 := heap_setCell_same HK6.out 1 (.int .i64 (-lm))
   have HB7 : Below wr.heap.size wr (W6.setCell ⟨wr.heap.size, 1, none⟩ (.int .i64 (-lm))) := HB6.setCell (p := ⟨wr.heap.size, 1, none⟩) (Nat.le_refl _) _
   have HE7 := (Below.heap_setCell W6 ⟨wr.heap.size, 1, none⟩ (.int .i64 (-lm)) W2.heap.size (by show W2.heap.size ≠ wr.heap.size; omega)).trans HEN.out
   have HO7 := own_same (w' := W6.setCell ⟨wr.heap.size, 1, none⟩ (.int .i64 (-lm))) HOX6.out (fun g hg => Below.heap_setCell W6 ⟨wr.heap.size, 1, none⟩ _ g (by show g ≠ wr.heap.size; have := (HOW.out.lt _ hg).2; omega))
   generalize W6.setCell ⟨wr.heap.size, 1, none⟩ (.int .i64 (-lm)) = W7 at *
   have HK7 := Lib.hid (show W7.heap[wr.heap.size]? = some (.cells #[.int .i64 la, .int .i64 (-lm), .int .i64 lp] 49 (0, 0)) from H7)
   have HEN7 := Lib.hid HE7
   have HOW7 := Lib.hid HO7
   have HBB7 := Lib.hid HB7
   have hsz7 := HB7.size
   clear H7 HE7 HO7 HB7 q1 q2
   have d6 := blk_cell HEN7.out 6
   have NEO := Lib.hid (show some W2.heap.size ≠ v.ownBlock from fun e => by have := (HOW7.out.lt _ e.symm).1; omega)
   go_wp2_with (first | (show wpList _ _ _ (Oper.mk (some 37) _ _ _ _ _ :: _) _ _; refine wpList_load_row_g rfl 49 (.tmp 9) rfl wr.heap.size rfl _ _ _ _ HK7.out Try.underlying49 rfl info_line ?_) | (at_builtin; go_loud (refine wpList_app _ rfl (.tmp 36) (.tmp 38) 34 rfl W3.heap.size 49 ia _ 3 24 lines_uty hia hzia hsia hbia rfl (by decide) v k (((ls.take k).map negL).flatMap lineL) rfl (HOW7.out.alloc _) (fun _ => True) (some ⟨W7.heap.size, 0, none⟩) 1 1 [.int .i64 la, .int .i64 (-lm), .int .i64 lp] rfl (rd_new (heap_alloc_new _ _) rfl) (by simp [Value.oneCell']) (by simp only [maxLen]; omega) (by omega) (by simp; omega) ?_); intro v9 w9 hown9 hg9 hat9; obtain ⟨A9, n9, c9, rfl⟩ := own_shape hown9; have hE9 := (hg9.block W2.heap.size (by simp; omega) NEO.out).trans (alloc_keep HEN7.out _); have s6 := blk_cell hE9 6; have s7 := blk_frozen hE9 6))
   go_roundw
   case rel =>
    obtain ⟨a1, _, a3, _⟩ := ent_step (i := 6) (eB := 49) (sB := 3) (nB := 0) (xsB := []) (vB := .slice none 0 0) HS3 HF.out (HBB7.out.alloc (by omega) _) hg9 (fun g hg => (HOW7.out.lt _ hg).1) (World.ownsRow_nil _ _ _ _) (fun g _ h => by cases h) hat9 hown9
    refine ⟨k + 1, .slice A9 n9 c9, by omega, by go_num, a3, heap_setCell_same hE9 6 _, ?_⟩
    rw [HST.out]
    exact a1
   case measure => first | exact meas_v hlt | (simp only [intOf]; omega)
  case neg =>
   have hltI : ¬ (k : Int) < (nl : Int) := by omega
   have hkn : k = nl := by omega
   subst hkn
   have HZR := Lib.hid ((HF.out.block (w.heap.size + 1) ⟨by have := HB3.size; omega, by omega⟩).trans HZ3.out)
   have hbW : Below w.heap.size w wr := ((Fr.ofBelow hb03).trans (HF.out.mono (fun q (hq : q < w.heap.size) => ⟨by have := hb03.size; omega, by have := hb2.size; omega⟩))).below
   have HBW := Lib.hid hbW
   have hsw := hbW.size
   have hlen : ((ls.take k).map negL).length = k := by rw [List.length_map, List.length_take]; have := HN.out; omega
   have hall : (ls.take k) = ls := List.take_of_length_le (by rw [HN.out]; omega)
   have HLC := Lib.hid (own_listC (El := LineC) (f := lineL) (Q := fun q => w.heap.size ≤ q ∧ q < wr.heap.size) (xs := ls.map negL) (fun _ => rfl) (by rw [List.length_map, HN.out]; have h := HOW.out; rw [hall] at h; exact h) (fun x hx => by
    obtain ⟨y, hy, rfl⟩ := List.mem_map.1 hx
    obtain ⟨j, hj, rfl⟩ := List.getElem_of_mem hy
    have hb := line_bd HL.out hj
    have hm := HMD.out _ hy
    exact ⟨[_], [_], [_], rfl, ⟨rfl, hb.1⟩, ⟨rfl, by have h1 := hm.1; have h2 := hm.2; show intBd (-ls[j].amount); unfold intBd; omega⟩, ⟨rfl, hb.2.2⟩⟩) (fun g hg => ⟨by have := (HOW.out.lt _ hg).1; have := hb03.size; omega, (HOW.out.lt _ hg).2⟩) (by rw [List.length_map, HN.out]; exact hn))
   obtain ⟨A9, c9, rfl⟩ : ∃ A9 c9, v = .slice A9 k c9 := by
    obtain ⟨A9, c9, e, _⟩ := HLC.out
    rw [List.length_map, HN.out] at e
    exact ⟨A9, c9, by simpa using e⟩
   have hkE := Lib.hid hall
   clear hlen hall hfr hE how hbW
   go_wp2_with (first | (show wpList _ _ _ (Oper.mk (some 41) _ _ _ _ _ :: _) _ _; refine wpList_load_row_g rfl 36 (.tmp 7) rfl W2.heap.size rfl _ _ _ _ HEW.out Try.underlying36 rfl info_entry ?_) | (show wpList _ _ _ (Oper.mk none (Op.store _ (Operand.tmp 6) _) _ _ _ _ :: _) _ _; refine wpList_store_row rfl 36 (.tmp 6) (.tmp 41) rfl (w.heap.size + 1) #[.int .i64 nid, .int .i64 xe, .int .i64 nd, .int .i64 3, .int .i64 xi, .string xt, .slice A9 k c9] rfl rfl 36 #[.int .i64 0, .int .i64 0, .int .i64 0, .int .i64 0, .int .i64 0, .string ⟨#[]⟩, .slice none 0 0] HZR.out (by rw [info_entry]; rfl) rfl (by simp [Value.oneCell']) ?_))
   refine bodyPost_ret (v := _) (results_cell rfl _ _ (w.heap.size + 1) 36 _ (0, 0) _ rfl (heap_setRow HZR.out _) Try.underlying36 rfl info_entry) rfl ?_
   have hfr2 := fr_setRow wr (w.heap.size + 1) #[.int .i64 nid, .int .i64 xe, .int .i64 nd, .int .i64 3, .int .i64 xi, .string xt, .slice A9 k c9]
   have hss : (wr.setRow (w.heap.size + 1) #[.int .i64 nid, .int .i64 xe, .int .i64 nd, .int .i64 3, .int .i64 xi, .string xt, .slice A9 k c9]).heap.size = wr.heap.size := by simp
   have hk3 := own_same (w' := wr.setRow (w.heap.size + 1) #[.int .i64 nid, .int .i64 xe, .int .i64 nd, .int .i64 3, .int .i64 xi, .string xt, .slice A9 k c9]) HOW.out (fun g hg => hfr2.block g (by show g ≠ w.heap.size + 1; have := (HOW.out.lt _ hg).1; have := HB3.size; omega))
   rw [hkE.out] at hk3
   refine ⟨A9, c9, by rw [HN.out], (by
    show World.ownsRow _ _ _ 3 (.slice A9 ls.length c9) ls.length ((ls.map negL).flatMap lineL)
    rw [HN.out]
    exact own_base hk3 (by have := hb03.size; omega)), ?_, below_setRow HBW.out (by omega) _⟩
   show ListC LineC 3 _ _ [.slice A9 ls.length c9] (ls.map negL)
   rw [HN.out]
   refine own_listC (El := LineC) (f := lineL) (xs := ls.map negL) (fun _ => rfl) (by rw [List.length_map, HN.out]; exact hk3) (fun x hx => by
    obtain ⟨y, hy, rfl⟩ := List.mem_map.1 hx
    obtain ⟨j, hj, rfl⟩ := List.getElem_of_mem hy
    have hb := line_bd HL.out hj
    have hm := HMD.out _ hy
    exact ⟨[_], [_], [_], rfl, ⟨rfl, hb.1⟩, ⟨rfl, by have h1 := hm.1; have h2 := hm.2; show intBd (-ls[j].amount); unfold intBd; omega⟩, ⟨rfl, hb.2.2⟩⟩) (fun g hg => ⟨by have := (HOW.out.lt _ hg).1; have := hb03.size; omega, by rw [hss]; exact (HOW.out.lt _ hg).2⟩) (by rw [List.length_map, HN.out]; exact hn)
theorem pigeon (s : Nat) : ∀ (n : Nat) (es : List XEntry), (∀ j : Nat, s + 1 ≤ j → j ≤ s + n → ∃ x ∈ es, x.id = (j : Int)) → n ≤ es.length
 | 0, es, _ => Nat.zero_le _
 | n + 1, es, h => by
  obtain ⟨x, hx, hid⟩ := h (s + n + 1) (by omega) (by omega)
  obtain ⟨a, b, rfl⟩ := List.append_of_mem hx
  have := pigeon s n (a ++ b) (fun j h1 h2 => by
   obtain ⟨y, hy, hyd⟩ := h j h1 (by omega)
   rcases List.mem_append.1 hy with hy | hy
   · exact ⟨y, List.mem_append_left _ hy, hyd⟩
   · rcases List.mem_cons.1 hy with rfl | hy
     · rw [hyd] at hid; omega
     · exact ⟨y, List.mem_append_right _ hy, hyd⟩)
  simp at this ⊢
  omega
theorem getI_ge {es : List XEntry} {id : Int} : (0 ≤ getI es id ∧ ∃ x ∈ es, x.id = id) ∨ (getI es id < 0 ∧ idxE es id = none) := by
 unfold getI
 cases h : idxE es id with
 | none => exact .inr ⟨by show (-1 : Int) < 0; omega, rfl⟩
 | some k =>
  obtain ⟨hk, hid⟩ := idxE_some h
  exact .inl ⟨by show (0 : Int) ≤ (k : Int); omega, _, List.getElem_mem hk, hid⟩
theorem meas_m {m n : Nat} (h : m ≤ n) (h2 : n ≤ 61) : n + 2 - (intOf (.int .i64 ((m : Int) + 1 + 1))).toNat < n + 2 - (intOf (.int .i64 ((m : Int) + 1))).toNat := by
 simp only [intOf]
 omega
def IsLn (W : World) (cells : List Value) (v : Value) (w : World) : Prop := ∃ g, v = .slice (some ⟨g, 0, none⟩) 1 1 ∧ W.heap.size ≤ g ∧ w.heap[g]? = some (.cells cells.toArray 49 (0, 0))
theorem IsLn.keep (W : World) (cells : List Value) : ∀ v w w', Below w.heap.size w w' → IsLn W cells v w → IsLn W cells v w' := fun v w w' hb ⟨g, e, h1, h2⟩ => ⟨g, e, h1, (hb.block g (blk_lt h2)).trans h2⟩
theorem IsLn.grow {W w w' : World} {cells : List Value} {v : Value} {row : Option Nat} (h : IsLn W cells v w) (hg : w.grownBy w' row) (hr : ∀ q, row = some q → q < W.heap.size) : IsLn W cells v w' := by
 obtain ⟨g, e, h1, h2⟩ := h
 exact ⟨g, e, h1, (hg.block g (blk_lt h2) (fun e => by have := hr g e.symm; omega)).trans h2⟩
def PL (V : World) (base : Nat) (v0 : Value) (n : Nat) (cf : List Value) (v : Value) (w : World) : Prop := ∃ W3, Fr (fun q => q < V.heap.size ∧ v0.ownBlock ≠ some q) V W3 ∧ w.ownsRow base 49 3 v n cf ∧ W3.grownBy w v0.ownBlock ∧ (v.ownBlock = v0.ownBlock ∨ v.ownBlock = some W3.heap.size)
theorem PL.keep (V : World) (base : Nat) (v0 : Value) (n : Nat) (cf : List Value) : ∀ v w w', Below w.heap.size w w' → PL V base v0 n cf v w → PL V base v0 n cf v w' := fun v w w' hb ⟨W3, h1, h3, h4, h5⟩ => ⟨W3, h1, own_below h3 hb, h4.andThen ((grown_of_below hb).but _) (fun j hj => .inr hj), h5⟩
end Go.Proofs.Ytekelchdbkjjjaa
