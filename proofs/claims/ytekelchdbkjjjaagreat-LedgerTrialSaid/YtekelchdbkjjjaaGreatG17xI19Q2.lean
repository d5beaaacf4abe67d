/- Few groups and entries. Written by gen_i19.py. -/
import Derived.Test.YtekelchdbkjjjaaGreatG17xB0B2
import Derived.Test.YtekelchdbkjjjaaGreatG17xB3B8
import Derived.Test.YtekelchdbkjjjaaGreatG17xB9B13
import Derived.Test.YtekelchdbkjjjaaGreatG17xB14
import Derived.Test.YtekelchdbkjjjaaGreatG17xB16
import Derived.Test.YtekelchdbkjjjaaGreatG17xB17B24
import Derived.Test.YtekelchdbkjjjaaGreatG17xB29B32
import Derived.Test.YtekelchdbkjjjaaGreatG17xB33S2
import Derived.Test.YtekelchdbkjjjaaGreatG17xC4E3
import Derived.Test.YtekelchdbkjjjaaGreatG17xE6F1
import Derived.Test.YtekelchdbkjjjaaGreatG17xF2I7
import Derived.Test.YtekelchdbkjjjaaGreatG17xI8I11
import Derived.Test.YtekelchdbkjjjaaGreatG17xI13I15
import Derived.Test.YtekelchdbkjjjaaGreatG17xI16
import Derived.Test.YtekelchdbkjjjaaGreatProg
set_option linter.unusedVariables false
set_option linter.unusedSimpArgs false
set_option maxRecDepth 4000
attribute [local go_sem ↓] Go.wp_at_zero Go.wp_at_succ
namespace Go.Proofs.YtekelchdbkjjjaaGreat
open Go Go.RowKit
def fewX (x : XEntry) : Prop := x.lines.length ≤ 60 ∧ x.text.size ≤ 200 ∧ ∀ y ∈ x.lines, -1125899906842624 ≤ y.amount ∧ y.amount ≤ 1125899906842624
def fewJ (g : XGroup) (es : List XEntry) : Prop := (∀ x ∈ es, fewX x) ∧ es.length ≤ 61 ∧ fewG g
set_option maxHeartbeats 4000000 in
theorem few12_c (g : XGroup) (es : List XEntry) (gl : List Value) (A : Option Addr) (c : Nat) (w : World) (hg : GroupC w (· < w.heap.size) gl g) (hsz : szG g) (hl : ListC EntryC 7 w (· < w.heap.size) [.slice A es.length c] es) (hts : ∀ x ∈ es, x.text.size ≤ 140737488355327) :
 Calls Tryz.prog 6 #[.agg gl.toArray, .slice A es.length c] w (If (fewJ g es) w) := by
 have HF := Lib.hid (fun (w2 : World) (hb : Below w.heap.size w w2) => few_v hg hsz hb)
 have HGS := Lib.hid (show gl.toArray.size = 21 by have := hg.len; simpa using this)
 have hbn := hl.cap
 obtain ⟨n, hnl⟩ : ∃ n, es.length = n := ⟨_, rfl⟩
 have HL := Lib.hid hl
 have HN := Lib.hid hnl
 have HTS := Lib.hid hts
 rw [hnl] at hbn ⊢
 unfold maxLen at hbn
 have hn9 : n ≤ 9223372036854775807 := by omega
 obtain ⟨P, hP⟩ : ∃ P, fewJ g es = P := ⟨_, rfl⟩
 rw [hP]
 have HP := Lib.hid hP
 clear hg hsz hl hnl hts hbn hP
 go_enter Tryz.func6, Tryz.ntmps6
 go_upto_region 1 with fail
 have H1 := heap_alloc_new w (.cells gl.toArray 29)
 have HB1 := below1 w (.cells gl.toArray 29)
 have HS1 := blk_lt H1
 generalize hW1 : w.alloc (Obj.cells gl.toArray 29) = W at *
 clear hW1
 have HK := Lib.hid H1
 have HB1h := Lib.hid HB1
 clear H1
 go_wp2_with fail
 go_loopw [5] (fun i wr => ∃ k : Nat, k ≤ n ∧ i = .int .i64 (k : Int) ∧ Below W.heap.size W wr ∧ k ≤ 61 ∧ ∀ j (hj : j < es.length), j < k → fewX es[j]) (fun i _ => n - (intOf i).toNat)
 case atStart => exact ⟨0, by omega, rfl, Below.refl _ _, by omega, fun j hj h => by omega⟩
 case round =>
  obtain ⟨k, hk, rfl, hbW, hk61, hall⟩ := hrel
  have hb := HB1h.out.trans (hbW.mono HB1h.out.size)
  have HALL := Lib.hid hall
  have HBR := Lib.hid hb
  clear hall
  by_cases hlt : k < n
  case pos =>
   have hltI : (k : Int) < (n : Int) := by omega
   have hkl : k < es.length := by rw [HN.out]; exact hlt
   obtain ⟨b, o, cs, hAe, hbw, hes, hat⟩ := ListC.get HL.out k hkl
   subst hAe
   obtain ⟨Al, cl, hcs, _, hls⟩ := EntryC.lit hes
   subst hcs
   have hat2 := hat.fr (Fr.ofBelow hb)
   have c5 := hat2.c (j := 5) rfl
   have c6 := hat2.c (j := 6) rfl
   have htx := HTS.out _ (List.getElem_mem hkl)
   have hcl := hls.cap
   unfold maxLen at hcl
   obtain ⟨x, hx⟩ : ∃ x, es[k] = x := ⟨_, rfl⟩
   rw [hx] at c5 c6 htx hls hcl
   have HX := Lib.hid hx
   obtain ⟨xi, xe, xd, xk, xo, xt, ls⟩ := x
   simp only at c5 c6 htx hls hcl
   have HLS := Lib.hid hls
   obtain ⟨nl, hnl⟩ : ∃ n, ls.length = n := ⟨_, rfl⟩
   have HNL := Lib.hid hnl
   rw [hnl] at c6 hcl
   have hnz : 0 < n := by omega
   have hnl9 : nl ≤ 9223372036854775807 := by omega
   have HAT := Lib.hid (show At w (· < w.heap.size) ⟨b, o + k * 7, none⟩ [.int .i64 xi, .int .i64 xe, .int .i64 xd, .int .i64 xk, .int .i64 xo, .string xt, .slice Al nl cl] by rw [HX.out] at hat; simp only [hnl] at hat; exact hat)
   clear hes hat hat2 hx hls hnl hcl
   by_cases h1 : nl ≤ 60
   case neg =>
    have h1d : decide ((60 : Int) < (nl : Int)) = true := decide_eq_true (by omega)
    clear h1
    go_wp2_with fail
    try rw [Exit.noGoto_ret]
    go_ret
    exact If.no hb
   case pos =>
   have h1d : decide ((60 : Int) < (nl : Int)) = false := decide_eq_false (by omega)
   by_cases h2 : xt.size ≤ 200
   case neg =>
    have h2d : decide ((200 : Int) < (xt.size : Int)) = true := decide_eq_true (by omega)
    clear h2
    go_wp2_with fail
    try rw [Exit.noGoto_ret]
    go_ret
    exact If.no hb
   case pos =>
   have h2d : decide ((200 : Int) < (xt.size : Int)) = false := decide_eq_false (by omega)
   by_cases h3 : k ≤ 60
   case neg =>
    have h3d : decide ((60 : Int) < (k : Int)) = true := decide_eq_true (by omega)
    clear h3
    go_wp2_with fail
    try rw [Exit.noGoto_ret]
    go_ret
    exact If.no hb
   case pos =>
   have h3d : decide ((60 : Int) < (k : Int)) = false := decide_eq_false (by omega)
   have HFX := Lib.hid (And.intro h1 (And.intro h2 h3))
   clear h1 h2 h3 htx
   go_wp2_with fail
   clear h1d h2d h3d c5
   go_loopw [6] (fun i wr2 => ∃ q : Nat, q ≤ nl ∧ i = .int .i64 (q : Int) ∧ Below W.heap.size W wr2 ∧ ∀ j (hj : j < ls.length), j < q → -1125899906842624 ≤ ls[j].amount ∧ ls[j].amount ≤ 1125899906842624) (fun i _ => nl - (intOf i).toNat)
   case atStart => exact ⟨0, by omega, rfl, hbW, fun j hj h => by omega⟩
   case round =>
    obtain ⟨q, hq, rfl, hbq, hall2⟩ := hrel
    have hb2 := HB1h.out.trans (hbq.mono HB1h.out.size)
    have HALL2 := Lib.hid hall2
    clear hall2
    have hat2 := HAT.out.fr (Fr.ofBelow hb2)
    have c6 := hat2.c (j := 6) rfl
    by_cases hq2 : q < nl
    case pos =>
     have hqI : (q : Int) < (nl : Int) := by omega
     have hql : q < ls.length := by rw [HNL.out]; exact hq2
     obtain ⟨b2, o2, cs2, hAe2, hbw2, hes2, hat3⟩ := ListC.get HLS.out q hql
     subst hAe2
     have he2 := (LineC.lit hes2).1
     subst he2
     have c1 := (hat3.fr (Fr.ofBelow hb2)).c (j := 1) rfl
     obtain ⟨lm, hlm⟩ : ∃ a, ls[q].amount = a := ⟨_, rfl⟩
     rw [hlm] at c1
     have HLM := Lib.hid hlm
     have hqz : 0 < nl := by omega
     have hb := hb2
     clear hes2 hat3 hat2 hlm
     by_cases h1 : 1125899906842624 < lm
     case pos =>
      have h1d : decide ((1125899906842624 : Int) < lm) = true := decide_eq_true h1
      clear h1
      go_wp2_with fail
      try rw [Exit.noGoto_ret]
      go_ret
      exact If.no hb
     case neg =>
     have h1d : decide ((1125899906842624 : Int) < lm) = false := decide_eq_false h1
     by_cases h2 : lm < -1125899906842624
     case pos =>
      have h2d : decide (lm < (-1125899906842624 : Int)) = true := decide_eq_true h2
      clear h1 h2
      go_wp2_with fail
      try rw [Exit.noGoto_ret]
      go_ret
      exact If.no hb
     case neg =>
     have h2d : decide (lm < (-1125899906842624 : Int)) = false := decide_eq_false h2
     have HIN := Lib.hid (show -1125899906842624 ≤ lm ∧ lm ≤ 1125899906842624 by omega)
     clear h1 h2
     go_wp2_with fail
     go_roundw
     case rel => exact ⟨q + 1, by omega, by go_num, hbq, fun j hj h => by
      rcases Nat.lt_or_ge j q with h1 | h1
      · exact HALL2.out j hj h1
      · have : j = q := by omega
        subst this
        rw [HLM.out]; exact HIN.out⟩
     case measure => first | exact meas_v hq2 | (simp only [intOf]; omega)
    case neg =>
     have hqI : ¬ (q : Int) < (nl : Int) := by omega
     have HAM := Lib.hid (show ∀ y ∈ ls, -1125899906842624 ≤ y.amount ∧ y.amount ≤ 1125899906842624 from fun y hy => by
      obtain ⟨j, hj, rfl⟩ := List.getElem_of_mem hy
      exact HALL2.out j hj (by have := HNL.out; omega))
     go_wp2_with fail
     go_roundw
     case rel => exact ⟨k + 1, by omega, by go_num, hbq, by have := HFX.out.2.2; omega, fun j hj h => by
      rcases Nat.lt_or_ge j k with h1 | h1
      · exact HALL.out j hj h1
      · have : j = k := by omega
        subst this
        rw [HX.out]
        exact ⟨by show ls.length ≤ 60; rw [HNL.out]; exact HFX.out.1, HFX.out.2.1, HAM.out⟩⟩
     case measure => first | exact meas_v hlt | (simp only [intOf]; omega)
  case neg =>
   have hltI : ¬ (k : Int) < (n : Int) := by omega
   have HY := Lib.hid (show (∀ x ∈ es, fewX x) ∧ es.length ≤ 61 from ⟨fun x hx => by
    obtain ⟨j, hj, rfl⟩ := List.getElem_of_mem hx
    exact HALL.out j hj (by have := HN.out; omega), by have := HN.out; omega⟩)
   have HKR := Lib.hid ((hbW.block _ HS1).trans HK.out)
   go_wp2_with (show wpList _ _ _ (Oper.mk (some 59) _ _ _ _ _ :: _) _ _; refine wpList_load_row_g rfl 29 (.tmp 2) rfl (w.heap.size) rfl _ _ _ _ HKR.out Tryz.underlying29 rfl (by rw [info_group]; exact congrArg some HGS.out.symm) ?_)
   refine (HF.out wr hb).mono ?_
   rintro e w3 ⟨bf, rfl, hf, hb3⟩
   have hb03 := HBR.out.trans (hb3.mono HBR.out.size)
   go_wp2_with fail
   go_ret
   exact ⟨_, by first | rfl | simp, fun e => by rw [← HP.out]; exact ⟨HY.out.1, HY.out.2, hf e⟩, hb03⟩
def OutAt (B : Nat) (es : List XEntry) (v : Value) (w : World) : Prop := ∃ css : List (List Value), css.length = es.length ∧ w.ownsRow B 46 7 v es.length css.flatten ∧ (∀ cs ∈ css, cs.length = 7) ∧ ∀ (i : Nat) x, es[i]? = some x → ∃ cs, css[i]? = some cs ∧ EntryC w (fun q => q < B) cs x
theorem OutAt.same {B : Nat} {es : List XEntry} {v : Value} {w w' : World} (h : OutAt B es v w) (hf : Fr (fun q => q < B) w w') (hb : ∀ q, v.ownBlock = some q → w'.heap[q]? = w.heap[q]?) : OutAt B es v w' := by
 obtain ⟨css, h1, h2, h3, h4⟩ := h
 refine ⟨css, h1, own_same h2 hb, h3, fun i x hx => ?_⟩
 obtain ⟨cs, k1, k2⟩ := h4 i x hx
 exact ⟨cs, k1, EntryC.fr k2 hf⟩
def IsLn (W : World) (cells : List Value) (v : Value) (w : World) : Prop := ∃ g, v = .slice (some ⟨g, 0, none⟩) 1 1 ∧ W.heap.size ≤ g ∧ w.heap[g]? = some (.cells cells.toArray 76 (0, 0))
theorem IsLn.keep (W : World) (cells : List Value) : ∀ v w w', Below w.heap.size w w' → IsLn W cells v w → IsLn W cells v w' := fun v w w' hb ⟨g, e, h1, h2⟩ => ⟨g, e, h1, (hb.block g (blk_lt h2)).trans h2⟩
theorem IsLn.grow {W w w' : World} {cells : List Value} {v : Value} {row : Option Nat} (h : IsLn W cells v w) (hg : w.grownBy w' row) (hr : ∀ q, row = some q → q < W.heap.size) : IsLn W cells v w' := by
 obtain ⟨g, e, h1, h2⟩ := h
 exact ⟨g, e, h1, (hg.block g (blk_lt h2) (fun e => by have := hr g e.symm; omega)).trans h2⟩
def PL (V : World) (base : Nat) (v0 : Value) (n : Nat) (cf : List Value) (v : Value) (w : World) : Prop := ∃ W3, Fr (fun q => q < V.heap.size ∧ v0.ownBlock ≠ some q) V W3 ∧ w.ownsRow base 76 3 v n cf ∧ W3.grownBy w v0.ownBlock ∧ (v.ownBlock = v0.ownBlock ∨ v.ownBlock = some W3.heap.size)
theorem PL.keep (V : World) (base : Nat) (v0 : Value) (n : Nat) (cf : List Value) : ∀ v w w', Below w.heap.size w w' → PL V base v0 n cf v w → PL V base v0 n cf v w' := fun v w w' hb ⟨W3, h1, h3, h4, h5⟩ => ⟨W3, h1, own_below h3 hb, h4.andThen ((grown_of_below hb).but _) (fun j hj => .inr hj), h5⟩
end Go.Proofs.YtekelchdbkjjjaaGreat
