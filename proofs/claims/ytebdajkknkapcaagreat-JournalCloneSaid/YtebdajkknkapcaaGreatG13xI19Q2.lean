/- Few groups and entries. Written by gen_i19.py. -/
import Derived.Test.YtebdajkknkapcaaGreatG13xB0B2
import Derived.Test.YtebdajkknkapcaaGreatG13xB3B8
import Derived.Test.YtebdajkknkapcaaGreatG13xB9B13
import Derived.Test.YtebdajkknkapcaaGreatG13xB14
import Derived.Test.YtebdajkknkapcaaGreatG13xB16
import Derived.Test.YtebdajkknkapcaaGreatG13xB17B24
import Derived.Test.YtebdajkknkapcaaGreatG13xB29B32
import Derived.Test.YtebdajkknkapcaaGreatG13xB33S2
import Derived.Test.YtebdajkknkapcaaGreatG13xC4E3
import Derived.Test.YtebdajkknkapcaaGreatG13xE6F6
import Derived.Test.YtebdajkknkapcaaGreatG13xF4I7
import Derived.Test.YtebdajkknkapcaaGreatG13xI8I11
import Derived.Test.YtebdajkknkapcaaGreatG13xI12
import Derived.Test.YtebdajkknkapcaaGreatG13xI13I15
import Derived.Test.YtebdajkknkapcaaGreatG13xI16I18
import Derived.Test.YtebdajkknkapcaaGreatProg
set_option linter.unusedVariables false
set_option linter.unusedSimpArgs false
set_option maxRecDepth 4000
attribute [local go_sem ↓] Go.wp_at_zero Go.wp_at_succ
namespace Go.Proofs.YtebdajkknkapcaaGreat
open Go Go.RowKit
def fewX (x : XEntry) : Prop := x.lines.length ≤ 60 ∧ x.text.size ≤ 200 ∧ ∀ y ∈ x.lines, -1125899906842624 ≤ y.amount ∧ y.amount ≤ 1125899906842624
def fewJ (g : XGroup) (es : List XEntry) : Prop := (∀ x ∈ es, fewX x) ∧ es.length ≤ 61 ∧ fewG g
set_option maxHeartbeats 4000000 in
theorem few12_c (g : XGroup) (es : List XEntry) (gl : List Value) (A : Option Addr) (c : Nat) (w : World) (hg : GroupC w (· < w.heap.size) gl g) (hsz : szG g) (hl : ListC EntryC 7 w (· < w.heap.size) [.slice A es.length c] es) (hts : ∀ x ∈ es, x.text.size ≤ 140737488355327) :
 Calls Tryz.prog 12 #[.agg gl.toArray, .slice A es.length c] w (If (fewJ g es) w) := by
 have HF := Lib.hid (fun (w2 : World) (hb : Below w.heap.size w w2) => few_v hg hsz hb)
 have HGS := Lib.hid (show gl.toArray.size = 21 by have := hg.len; simpa using this)
 have hbn := hl.cap
 obtain ⟨n, hnl⟩ : ∃ n, es.length = n := ⟨_, rfl⟩
 have HL := Lib.hid hl
 have HN := Lib.hid hnl
 have HTS := Lib.hid hts
 rw [hnl] at hbn ⊢
 unfold maxLen at hbn
 have hn9 : n ≤ 9223372036854775807 := by omega
 obtain ⟨P, hP⟩ : ∃ P, fewJ g es = P := ⟨_, rfl⟩
 rw [hP]
 have HP := Lib.hid hP
 clear hg hsz hl hnl hts hbn hP
 go_enter Tryz.func12, Tryz.ntmps12
 go_upto_region 1 with fail
 have H1 := heap_alloc_new w (.cells gl.toArray 29)
 have HB1 := below1 w (.cells gl.toArray 29)
 have HS1 := blk_lt H1
 generalize hW1 : w.alloc (Obj.cells gl.toArray 29) = W at *
 clear hW1
 have HK := Lib.hid H1
 have HB1h := Lib.hid HB1
 clear H1
 go_wp2_with fail
 go_loopw [5] (fun i wr => ∃ k : Nat, k ≤ n ∧ i = .int .i64 (k : Int) ∧ Below W.heap.size W wr ∧ k ≤ 61 ∧ ∀ j (hj : j < es.length), j < k → fewX es[j]) (fun i _ => n - (intOf i).toNat)
 case atStart => exact ⟨0, by omega, rfl, Below.refl _ _, by omega, fun j hj h => by omega⟩
 case round =>
  obtain ⟨k, hk, rfl, hbW, hk61, hall⟩ := hrel
  have hb := HB1h.out.trans (hbW.mono HB1h.out.size)
  have HALL := Lib.hid hall
  have HBR := Lib.hid hb
  clear hall
  by_cases hlt : k < n
  case pos =>
   have hltI : (k : Int) < (n : Int) := by omega
   have hkl : k < es.length := by rw [HN.out]; exact hlt
   obtain ⟨b, o, cs, hAe, hbw, hes, hat⟩ := ListC.get HL.out k hkl
   subst hAe
   obtain ⟨Al, cl, hcs, _, hls⟩ := EntryC.lit hes
   subst hcs
   have hat2 := hat.fr (Fr.ofBelow hb)
   have c5 := hat2.c (j := 5) rfl
   have c6 := hat2.c (j := 6) rfl
   have htx := HTS.out _ (List.getElem_mem hkl)
   have hcl := hls.cap
   unfold maxLen at hcl
   obtain ⟨x, hx⟩ : ∃ x, es[k] = x := ⟨_, rfl⟩
   rw [hx] at c5 c6 htx hls hcl
   have HX := Lib.hid hx
   obtain ⟨xi, xe, xd, xk, xo, xt, ls⟩ := x
   simp only at c5 c6 htx hls hcl
   have HLS := Lib.hid hls
   obtain ⟨nl, hnl⟩ : ∃ n, ls.length = n := ⟨_, rfl⟩
   have HNL := Lib.hid hnl
   rw [hnl] at c6 hcl
   have hnz : 0 < n := by omega
   have hnl9 : nl ≤ 9223372036854775807 := by omega
   have HAT := Lib.hid (show At w (· < w.heap.size) ⟨b, o + k * 7, none⟩ [.int .i64 xi, .int .i64 xe, .int .i64 xd, .int .i64 xk, .int .i64 xo, .string xt, .slice Al nl cl] by rw [HX.out] at hat; simp only [hnl] at hat; exact hat)
   clear hes hat hat2 hx hls hnl hcl
   by_cases h1 : nl ≤ 60
   case neg =>
    have h1d : decide ((60 : Int) < (nl : Int)) = true := decide_eq_true (by omega)
    clear h1
    go_wp2_with fail
    try rw [Exit.noGoto_ret]
    go_ret
    exact If.no hb
   case pos =>
   have h1d : decide ((60 : Int) < (nl : Int)) = false := decide_eq_false (by omega)
   by_cases h2 : xt.size ≤ 200
   case neg =>
    have h2d : decide ((200 : Int) < (xt.size : Int)) = true := decide_eq_true (by omega)
    clear h2
    go_wp2_with fail
    try rw [Exit.noGoto_ret]
    go_ret
    exact If.no hb
   case pos =>
   have h2d : decide ((200 : Int) < (xt.size : Int)) = false := decide_eq_false (by omega)
   by_cases h3 : k ≤ 60
   case neg =>
    have h3d : decide ((60 : Int) < (k : Int)) = true := decide_eq_true (by omega)
    clear h3
    go_wp2_with fail
    try rw [Exit.noGoto_ret]
    go_ret
    exact If.no hb
   case pos =>
   have h3d : decide ((60 : Int) < (k : Int)) = false := decide_eq_false (by omega)
   have HFX := Lib.hid (And.intro h1 (And.intro h2 h3))
   clear h1 h2 h3 htx
   go_wp2_with fail
   clear h1d h2d h3d c5
   go_loopw [6] (fun i wr2 => ∃ q : Nat, q ≤ nl ∧ i = .int .i64 (q : Int) ∧ Below W.heap.size W wr2 ∧ ∀ j (hj : j < ls.length), j < q → -1125899906842624 ≤ ls[j].amount ∧ ls[j].amount ≤ 1125899906842624) (fun i _ => nl - (intOf i).toNat)
   case atStart => exact ⟨0, by omega, rfl, hbW, fun j hj h => by omega⟩
   case round =>
    obtain ⟨q, hq, rfl, hbq, hall2⟩ := hrel
    have hb2 := HB1h.out.trans (hbq.mono HB1h.out.size)
    have HALL2 := Lib.hid hall2
    clear hall2
    have hat2 := HAT.out.fr (Fr.ofBelow hb2)
    have c6 := hat2.c (j := 6) rfl
    by_cases hq2 : q < nl
    case pos =>
     have hqI : (q : Int) < (nl : Int) := by omega
     have hql : q < ls.length := by rw [HNL.out]; exact hq2
     obtain ⟨b2, o2, cs2, hAe2, hbw2, hes2, hat3⟩ := ListC.get HLS.out q hql
     subst hAe2
     have he2 := (LineC.lit hes2).1
     subst he2
     have c1 := (hat3.fr (Fr.ofBelow hb2)).c (j := 1) rfl
     obtain ⟨lm, hlm⟩ : ∃ a, ls[q].amount = a := ⟨_, rfl⟩
     rw [hlm] at c1
     have HLM := Lib.hid hlm
     have hqz : 0 < nl := by omega
     have hb := hb2
     clear hes2 hat3 hat2 hlm
     by_cases h1 : 1125899906842624 < lm
     case pos =>
      have h1d : decide ((1125899906842624 : Int) < lm) = true := decide_eq_true h1
      clear h1
      go_wp2_with fail
      try rw [Exit.noGoto_ret]
      go_ret
      exact If.no hb
     case neg =>
     have h1d : decide ((1125899906842624 : Int) < lm) = false := decide_eq_false h1
     by_cases h2 : lm < -1125899906842624
     case pos =>
      have h2d : decide (lm < (-1125899906842624 : Int)) = true := decide_eq_true h2
      clear h1 h2
      go_wp2_with fail
      try rw [Exit.noGoto_ret]
      go_ret
      exact If.no hb
     case neg =>
     have h2d : decide (lm < (-1125899906842624 : Int)) = false := decide_eq_false h2
     have HIN := Lib.hid (show -1125899906842624 ≤ lm ∧ lm ≤ 1125899906842624 by omega)
     clear h1 h2
     go_wp2_with fail
     go_roundw
     case rel => exact ⟨q + 1, by omega, by go_num, hbq, fun j hj h => by
      rcases Nat.lt_or_ge j q with h1 | h1
      · exact HALL2.out j hj h1
      · have : j = q := by omega
        subst this
        rw [HLM.out]; exact HIN.out⟩
     case measure => first | exact meas_v hq2 | (simp only [intOf]; omega)
    case neg =>
     have hqI : ¬ (q : Int) < (nl : Int) := by omega
     have HAM := Lib.hid (show ∀ y ∈ ls, -1125899906842624 ≤ y.amount ∧ y.amount ≤ 1125899906842624 from fun y hy => by
      obtain ⟨j, hj, rfl⟩ := List.getElem_of_mem hy
      exact HALL2.out j hj (by have := HNL.out; omega))
     go_wp2_with fail
     go_roundw
     case rel => exact ⟨k + 1, by omega, by go_num, hbq, by have := HFX.out.2.2; omega, fun j hj h => by
      rcases Nat.lt_or_ge j k with h1 | h1
      · exact HALL.out j hj h1
      · have : j = k := by omega
        subst this
        rw [HX.out]
        exact ⟨by show ls.length ≤ 60; rw [HNL.out]; exact HFX.out.1, HFX.out.2.1, HAM.out⟩⟩
     case measure => first | exact meas_v hlt | (simp only [intOf]; omega)
  case neg =>
   have hltI : ¬ (k : Int) < (n : Int) := by omega
   have HY := Lib.hid (show (∀ x ∈ es, fewX x) ∧ es.length ≤ 61 from ⟨fun x hx => by
    obtain ⟨j, hj, rfl⟩ := List.getElem_of_mem hx
    exact HALL.out j hj (by have := HN.out; omega), by have := HN.out; omega⟩)
   have HKR := Lib.hid ((hbW.block _ HS1).trans HK.out)
   go_wp2_with (show wpList _ _ _ (Oper.mk (some 59) _ _ _ _ _ :: _) _ _; refine wpList_load_row_g rfl 29 (.tmp 2) rfl (w.heap.size) rfl _ _ _ _ HKR.out Tryz.underlying29 rfl (by rw [info_group]; exact congrArg some HGS.out.symm) ?_)
   refine (HF.out wr hb).mono ?_
   rintro e w3 ⟨bf, rfl, hf, hb3⟩
   have hb03 := HBR.out.trans (hb3.mono HBR.out.size)
   go_wp2_with fail
   go_ret
   exact ⟨_, by first | rfl | simp, fun e => by rw [← HP.out]; exact ⟨HY.out.1, HY.out.2, hf e⟩, hb03⟩
def accJ (g : XGroup) (l : List XEntry) : List XEntry := l.foldl (fun es x => if postE g es x = 0 then es ++ [x] else es) []
theorem accJ_snoc (g : XGroup) (l : List XEntry) (x : XEntry) : accJ g (l ++ [x]) = if postE g (accJ g l) x = 0 then accJ g l ++ [x] else accJ g l := by
 unfold accJ
 rw [List.foldl_append]
 rfl
theorem accJ_succ {g : XGroup} {l : List XEntry} {k : Nat} (hk : k < l.length) : accJ g (l.take (k + 1)) = if postE g (accJ g (l.take k)) l[k] = 0 then accJ g (l.take k) ++ [l[k]] else accJ g (l.take k) := by
 rw [List.take_add_one, List.getElem?_eq_getElem hk]
 exact accJ_snoc g _ _
theorem accJ_ok (g : XGroup) : ∀ (n : Nat) (l : List XEntry), l.length = n → okJ g (accJ g l) ∧ (accJ g l).length ≤ l.length ∧ ∀ x ∈ accJ g l, x ∈ l
 | 0, l, h => by
  have : l = [] := List.eq_nil_of_length_eq_zero h
  subst this
  exact ⟨okJ_nil g, Nat.le_refl _, fun x hx => by simp [accJ] at hx⟩
 | n + 1, l, h => by
  obtain ⟨m, y, rfl⟩ : ∃ m y, l = m ++ [y] := by
   have hne : l ≠ [] := fun e => by rw [e] at h; simp at h
   exact ⟨l.dropLast, l.getLast hne, (List.dropLast_concat_getLast hne).symm⟩
  have hm : m.length = n := by simp at h; exact h
  obtain ⟨h1, h2, h3⟩ := accJ_ok g n m hm
  rw [accJ_snoc]
  by_cases hp : postE g (accJ g m) y = 0
  · rw [if_pos hp]
    refine ⟨okJ_snoc h1 hp, by simp; exact h2, fun x hx => ?_⟩
    rcases List.mem_append.1 hx with hx | hx
    · exact List.mem_append_left _ (h3 x hx)
    · exact List.mem_append_right _ hx
  · rw [if_neg hp]
    exact ⟨h1, by simp; omega, fun x hx => List.mem_append_left _ (h3 x hx)⟩
def PostedPost (g : XGroup) (l : List XEntry) (w : World) (e : Ending) (w' : World) : Prop := Below w.heap.size w w' ∧
 ((groupB g = false ∧ e = .returned (.tuple #[.pointer none, .slice none 0 0, .bool true])) ∨
  (groupB g = true ∧ ∃ (J : Nat) (D O : Nat → Prop) (A : Option Addr) (c : Nat), e = .returned (.tuple #[.pointer (some ⟨J, 0, none⟩), .slice A (accJ g l).length c, .bool true]) ∧ JC w' D O J g (accJ g l) ∧ (∀ q, D q ∨ O q → w.heap.size ≤ q) ∧
   ListC EntryC 7 w' (fun q => q < w'.heap.size ∧ ¬ (D q ∨ O q)) [.slice A (accJ g l).length c] (accJ g l)))
def OutAt (B : Nat) (es : List XEntry) (v : Value) (w : World) : Prop := ∃ css : List (List Value), css.length = es.length ∧ w.ownsRow B 42 7 v es.length css.flatten ∧ (∀ cs ∈ css, cs.length = 7) ∧ ∀ (i : Nat) x, es[i]? = some x → ∃ cs, css[i]? = some cs ∧ EntryC w (fun q => q < B) cs x
theorem OutAt.same {B : Nat} {es : List XEntry} {v : Value} {w w' : World} (h : OutAt B es v w) (hf : Fr (fun q => q < B) w w') (hb : ∀ q, v.ownBlock = some q → w'.heap[q]? = w.heap[q]?) : OutAt B es v w' := by
 obtain ⟨css, h1, h2, h3, h4⟩ := h
 refine ⟨css, h1, own_same h2 hb, h3, fun i x hx => ?_⟩
 obtain ⟨cs, k1, k2⟩ := h4 i x hx
 exact ⟨cs, k1, EntryC.fr k2 hf⟩
theorem JC.ltDO {w : World} {D O : Nat → Prop} {J : Nat} {g : XGroup} {es : List XEntry} (h : JC w D O J g es) : ∀ q, D q ∨ O q → q < w.heap.size := fun q hq => by
 obtain ⟨gl, css, v, bi, br, h⟩ := h
 exact hq.elim (h.ltD q) (h.ltO q)
set_option maxHeartbeats 8000000 in
theorem posted_c (g : XGroup) (l : List XEntry) (gl : List Value) (A : Option Addr) (c : Nat) (w : World) (hg : GroupC w (· < w.heap.size) gl g) (hl : ListC EntryC 7 w (· < w.heap.size) [.slice A l.length c] l) (hfew : fewJ g l) :
 Calls Tryz.prog 13 #[.agg gl.toArray, .slice A l.length c] w (PostedPost g l w) := by
 obtain ⟨ia, hia, hzia, hsia, hbia⟩ := info_parts info_entryA
 have hsm := hfew.2.2.small
 have HNEW := Lib.hid (fun (w2 : World) (hb : Below w.heap.size w w2) => new_c g gl w2 (hg.keep hb) hsm)
 have HVAL := Lib.hid (rgroup_v hg hsm)
 have HGI := Lib.hid (show (Tryz.prog.info? 29).map (·.size) = some gl.length by rw [info_group, hg.len])
 have HGS := Lib.hid (show gl.toArray.size = 21 by have := hg.len; simpa using this)
 have HG := Lib.hid hg
 have HL := Lib.hid hl
 have HFEW := Lib.hid hfew
 have hbn := hl.cap
 obtain ⟨n, hnl⟩ : ∃ n, l.length = n := ⟨_, rfl⟩
 have HN := Lib.hid hnl
 have hn61 : n ≤ 61 := by rw [← hnl]; exact hfew.2.1
 rw [hnl]
 obtain ⟨bg, hbg⟩ : ∃ b, groupB g = b := ⟨_, rfl⟩
 have HBG := Lib.hid hbg
 rw [hbg] at HVAL
 clear hg hl hfew hsm hnl hbn hbg
 go_enter Tryz.func13, Tryz.ntmps13
 go_upto_region 1 with fail
 have H1 := heap_alloc_new w (.cells gl.toArray 29)
 have HB1 := below1 w (.cells gl.toArray 29)
 have HS1 := blk_lt H1
 generalize hW1 : w.alloc (Obj.cells gl.toArray 29) = W at *
 clear hW1
 have HK := Lib.hid H1
 have HB1h := Lib.hid HB1
 clear H1
 go_wp2_with (show wpList _ _ _ (Oper.mk (some 13) _ _ _ _ _ :: _) _ _; refine wpList_load_row_g rfl 29 (.tmp 2) rfl (w.heap.size) rfl _ _ _ _ HK.out Tryz.underlying29 rfl (by rw [info_group]; exact congrArg some HGS.out.symm) ?_)
 refine (HNEW.out W HB1).mono ?_
 rintro e w2 ⟨hb2, hcase⟩
 have hb02 := HB1h.out.trans (hb2.mono HB1h.out.size)
 have HK2 := Lib.hid ((hb2.block _ HS1).trans HK.out)
 rcases hcase with ⟨hF, rfl⟩ | ⟨hT, J, D0, O0, rfl, hJC, hDO⟩
 case inl =>
  have HF := Lib.hid hF
  have hbgf : bg = false := HBG.out.symm.trans hF
  subst hbgf
  clear hF
  go_wp2_with (show wpList _ _ _ (Oper.mk (some 26) _ _ _ _ _ :: _) _ _; refine wpList_load_row_g rfl 29 (.tmp 2) rfl (w.heap.size) rfl _ _ _ _ HK2.out Tryz.underlying29 rfl (by rw [info_group]; exact congrArg some HGS.out.symm) ?_)
  refine (HVAL.out w2 hb02).mono ?_
  rintro e w3 ⟨rfl, hb3⟩
  go_wp2_with fail
  go_ret3
  exact ⟨hb02.trans (hb3.mono hb02.size), .inl ⟨HF.out, by first | rfl | simp⟩⟩
 case inr =>
 have HT := Lib.hid hT
 have HJC := Lib.hid hJC
 have HDO := Lib.hid hDO
 have HB02 := Lib.hid hb02
 clear hT hJC hDO HVAL HNEW
 go_wp2_with fail
 go_loopw [9, 10] (fun v i wr => ∃ (k : Nat) (D O : Nat → Prop), k ≤ n ∧ i = .int .i64 (k : Int) ∧ Below W.heap.size W wr ∧ JC wr D O J g (accJ g (l.take k)) ∧ (∀ q, D q ∨ O q → W.heap.size ≤ q) ∧ OutAt W.heap.size (accJ g (l.take k)) v wr ∧ ∀ q, v.ownBlock = some q → ¬ (D q ∨ O q)) (fun _ i _ => n - (intOf i).toNat)
 case atStart => exact ⟨0, D0, O0, by omega, rfl, hb2, HJC.out, HDO.out, ⟨[], rfl, World.ownsRow_nil _ _ _ _, by simp, fun i x hx => by simp [accJ] at hx⟩, fun q hq => by simp [Value.ownBlock] at hq⟩
 case round =>
  obtain ⟨k, D, O, hk, rfl, hbW, hJC, hDO, hout, hov⟩ := hrel
  have hb := HB1h.out.trans (hbW.mono HB1h.out.size)
  obtain ⟨Ao, no, co, rfl⟩ : ∃ Ao no co, u9 = .slice Ao no co := by
   obtain ⟨css, _, h, _⟩ := hout
   exact own_shape h
  have HBW := Lib.hid hbW
  have HBR := Lib.hid hb
  have HJC := Lib.hid hJC
  have HDO := Lib.hid hDO
  have HOUT := Lib.hid hout
  have HOV := Lib.hid hov
  have HKR := Lib.hid ((hbW.block _ HS1).trans HK.out)
  have hltw := Nat.lt_of_lt_of_le HS1 hbW.size
  by_cases hlt : k < n
  case pos =>
   have hltI : (k : Int) < (n : Int) := by omega
   have hkl : k < l.length := by rw [HN.out]; exact hlt
   have HACC := Lib.hid (accJ_succ (g := g) hkl)
   obtain ⟨b, o, cs, hAe, hbw, hes, hat⟩ := ListC.get HL.out k hkl
   subst hAe
   obtain ⟨Al, cl, hcs, hxb, hls⟩ := EntryC.lit hes
   have hfx := HFEW.out.1 _ (List.getElem_mem hkl)
   obtain ⟨x, hx⟩ : ∃ x, l[k] = x := ⟨_, rfl⟩
   rw [hx] at hcs hxb hls hfx HACC hes
   subst hcs
   obtain ⟨ES, hES⟩ : ∃ ES, accJ g (l.take k) = ES := ⟨_, rfl⟩
   rw [hES] at HACC HJC HOUT
   have hEL : ES.length ≤ 61 := by
    have h1 := (accJ_ok g _ (l.take k) rfl).2.1
    rw [hES, List.length_take] at h1
    omega
   have hno : no = ES.length := by
    obtain ⟨css, _, h, _⟩ := HOUT.out
    exact own_val h
   have HNO := Lib.hid hno
   have HEL := Lib.hid hEL
   have HFX := Lib.hid hfx
   have HXC := Lib.hid hes
   have HACC2 := Lib.hid HACC.out
   have hlistO : ListC EntryC 7 wr (· < wr.heap.size) [.slice Ao ES.length co] ES := by
    obtain ⟨css, h1, h2, h3, h4⟩ := HOUT.out
    rw [hno] at h2
    exact own_list h3 h2 (fun i x hx => by
     obtain ⟨cs, k1, k2⟩ := h4 i x hx
     exact ⟨cs, k1, EntryC.mono k2 (fun q hq => Nat.lt_of_lt_of_le hq HBW.out.size)⟩) (fun q hq => (h2.lt _ hq).2)
   have HLO := Lib.hid hlistO
   have HOKJ := Lib.hid HJC.out.ok
   obtain ⟨R, hR⟩ : ∃ R, postE g ES x = R := ⟨_, rfl⟩
   rw [hR] at HACC2
   have HRP := Lib.hid (fun (w2 : World) (hS : Below wr.heap.size wr w2) => show Calls Tryz.prog 22 #[.agg gl.toArray, .slice Ao no co, .agg #[.int .i64 x.id, .int .i64 x.entity, .int .i64 x.date, .int .i64 x.kind, .int .i64 x.of_, .string x.text, .slice Al x.lines.length cl]] w2 (Quiet w2 (.int .i64 R)) by
    have hb9 := HBR.out.trans (hS.mono HBR.out.size)
    have h := rpost_c g ES x gl _ Ao co w2 (HG.out.keep hb9) HFEW.out.2.2.small (entries_keep HLO.out hS) (HXC.out.keep hb9) (by have := HFX.out.2.1; omega) HOKJ.out
    rw [← HNO.out, hR] at h
    exact h)
   have HPC := Lib.hid (fun (w2 : World) (hS : Below wr.heap.size wr w2) => show Calls Tryz.prog 20 #[.pointer (some ⟨J, 0, none⟩), .agg #[.int .i64 x.id, .int .i64 x.entity, .int .i64 x.date, .int .i64 x.kind, .int .i64 x.of_, .string x.text, .slice Al x.lines.length cl]] w2 (fun e w' => e = .returned (.int .i64 R) ∧ JPost D O J g ES (if R = 0 then ES ++ [x] else ES) w2 w') by
    have hb9 := HBR.out.trans (hS.mono HBR.out.size)
    obtain ⟨gl2, css2, v2, bi2, br2, hJ2⟩ := HJC.out.below hS
    have h := post_c D O J g ES gl2 css2 v2 bi2 br2 x _ w2 hJ2 HFEW.out.2.2.small (EntryC.mono (EntryC.fr HXC.out (Fr.ofBelow hb9)) (fun q hq => ⟨Nat.lt_of_lt_of_le hq hb9.size, fun ho => by have h1 := HDO.out q (.inr ho); have h2 := HS1; omega⟩)) (by have := HFX.out.2.1; omega) (by have := HFX.out.1; omega) (by have := HEL.out; omega)
    rw [hR] at h
    exact h)
   have hat2 := hat.fr (Fr.ofBelow hb)
   have HXE := Lib.hid hx
   obtain ⟨xi, xe, xd, xk, xo, xt, ls⟩ := x
   have hat0 := hat
   simp only at hat2 hat0 HRP HPC
   obtain ⟨nl, hnl⟩ : ∃ n, ls.length = n := ⟨_, rfl⟩
   rw [hnl] at hat2 hat0 HRP HPC
   have HAT0 := Lib.hid hat0
   have HNL := Lib.hid hnl
   have HATX := Lib.hid (hat2.mono (Q' := (· < wr.heap.size)) (fun q hq => Nat.lt_of_lt_of_le hq hb.size))
   have HATG := Lib.hid (box_at (cs := gl) HKR.out)
   have HES := Lib.hid hES
   have HRE := Lib.hid hR
   have hnz : 0 < n := by omega
   have hoI : (no : Int) = (no : Int) := rfl
   clear hat hat0 hat2 hes hls hxb hfx hlistO hR hES hEL hno hnl hJC hDO hout hov hx hoI hbW hb
   go_upto_region 8 with fail
   refine wp_region_inv (Ks wr [.val (.agg gl.toArray), .val (.slice Ao no co), .val (.slice (some ⟨b, o, none⟩) n c), .val (.int .i64 (k : Int)), .val (.pointer (some ⟨b, o + k * 7, none⟩)), .val (.agg #[.int .i64 xi, .int .i64 xe, .int .i64 xd, .int .i64 xk, .int .i64 xo, .string xt, .slice Al nl cl]), .val (.int .i64 R), .val (.int .i64 R)])
    (fun w' => Below wr.heap.size wr w') (by kernel_rfl) (by kernel_rfl) (by kernel_rfl) (Below.refl _ _).drew ?_ ?_
   · refine ⟨?_, ?_, ?_, ?_, ?_, ?_, ?_, ?_, trivial⟩
     · intro _ A0 w2 hI hd hnd K hK; have e0 := hI.q hnd 2; have hS := hI.world; have hrange : w2.rangeAt w.heap.size 0 gl := (HATG.out.fr (Fr.ofBelow hS)).range
       have hisize := HGI.out
       refine wanted_go rfl ?_; clear hI hd hnd
       refine wp_load_mid 29 (.tmp 2) rfl _ _ (by simpa [Act.eval, Array.getD_eq_getD_getElem?] using e0) _ _ hrange Tryz.underlying29 rfl hisize ?_
       exact kq hK hS rfl
     · intro _ A0 w2 hI hd hnd K hK; have e0 := hI.q hnd 9; exact hI.z hK
     · intro _ A0 w2 hI hd hnd K hK; have e0 := hI.q hnd 1; exact hI.z hK
     · intro _ A0 w2 hI hd hnd K hK; have e0 := hI.q hnd 10; exact hI.z hK
     · intro _ A0 w2 hI hd hnd K hK; have e0 := hI.p hd 2 42; have e1 := hI.p hd 3 43; exact hI.z hK
     · intro _ A0 w2 hI hd hnd K hK; have e0 := hI.p hd 4 44; have hS := hI.world; have hrange : w2.rangeAt b (o + k * 7) [.int .i64 xi, .int .i64 xe, .int .i64 xd, .int .i64 xk, .int .i64 xo, .string xt, .slice Al nl cl] := (HATX.out.fr (Fr.ofBelow hS)).range; have hisize := info_entry; refine wanted_go rfl ?_; clear hI hd hnd
       refine wp_load_mid 42 (.tmp 44) rfl _ _ (by simpa [Act.eval, Array.getD_eq_getD_getElem?] using e0) _ _ hrange Tryz.underlying42 rfl hisize ?_
       exact kq hK hS rfl
     · intro _ A0 w2 hI hd hnd K hK; have e0 := hI.p hd 0 40; have e1 := hI.p hd 1 41; have e2 := hI.p hd 5 45; have hS := hI.world; refine wanted_go rfl ?_; clear hI hd hnd; go_simp
       go_at_call 22
       refine (HRP.out w2 hS).mono ?_
       rintro e w3 ⟨rfl, h3⟩
       exact hK.out _ _ (hS.trans (h3.mono hS.size)) (Ks.of rfl rfl) (Ks.keep h3)
     · intro _ A0 w2 hI hd hnd K hK; have e0 := hI.p hd 6 46; exact hI.z hK
   · intro _ A0 w2 hI hall; have hS := hI.world; obtain ⟨x0, -, x1, -, x2, -, x3, -, x4, -, x5, -, x6, -, x7, h7, hA⟩ := hI.ch hall [40, 41, 42, 43, 44, 45, 46, 11]
     obtain rfl : x7 = .int .i64 R := h7 _ rfl
     clear h7 hI hall
     simp only [Ch, setAll, List.foldl, List.setIfInBounds_toArray, List.set_cons_zero, List.set_cons_succ] at hA
     rw [hA]
     clear hA
     have hS8 := Lib.hid hS
     have HAR := Lib.hid ((HATX.out.fr (Fr.ofBelow hS)).range)
     have HPC2 := Lib.hid (HPC.out w2 hS)
     clear hS
     go_wp2_with (show wpList _ _ _ (Oper.mk (some 51) _ _ _ _ _ :: _) _ _; refine wpList_load_mid rfl 42 (.tmp 50) rfl b (o + k * 7) rfl [.int .i64 xi, .int .i64 xe, .int .i64 xd, .int .i64 xk, .int .i64 xo, .string xt, .slice Al nl cl] _ HAR.out Tryz.underlying42 rfl info_entry ?_)
     refine HPC2.out.mono ?_
     rintro e w3 ⟨rfl, m, hm1, hm2, hJ3, hf3⟩
     have HJ3 := Lib.hid hJ3
     have HF3 := Lib.hid hf3
     have HM := Lib.hid (And.intro hm1 hm2)
     have hfB : Fr (fun q => q < W.heap.size) wr w3 := ((Fr.ofBelow hS8.out).mono (fun q hq => Nat.lt_of_lt_of_le hq HBW.out.size)).trans (hf3.mono (fun q hq => ⟨Nat.lt_of_lt_of_le (Nat.lt_of_lt_of_le hq HBW.out.size) hS8.out.size, fun ho => by have := HDO.out q (.inr ho); omega⟩))
     have HFB := Lib.hid hfB
     have hbW3 : Below W.heap.size W w3 := ((Fr.ofBelow HBW.out).trans hfB).below
     have HBW3 := Lib.hid hbW3
     have hout3 : OutAt W.heap.size ES (.slice Ao no co) w3 := HOUT.out.same hfB (fun q hq => by
      obtain ⟨css, _, h2, _⟩ := HOUT.out
      have hlt := (h2.lt _ hq).2
      exact (hf3.block q ⟨Nat.lt_of_lt_of_le hlt hS8.out.size, fun ho => HOV.out q hq (.inr ho)⟩).trans ((hS8.out.block q hlt)))
     have HOUT3 := Lib.hid hout3
     have HDO3 := Lib.hid (show ∀ q, (D q ∨ (w2.heap.size ≤ q ∧ q < m)) ∨ (O q ∨ (m ≤ q ∧ q < w3.heap.size)) → W.heap.size ≤ q from fun q hq => by
      have h1 := HBW.out.size
      have h2 := hS8.out.size
      have h3 := HM.out.1
      rcases hq with (hq | hq) | (hq | hq)
      · exact HDO.out q (.inl hq)
      · omega
      · exact HDO.out q (.inr hq)
      · omega)
     have HOV3 := Lib.hid (show ∀ q, Value.ownBlock (.slice Ao no co) = some q → ¬ ((D q ∨ (w2.heap.size ≤ q ∧ q < m)) ∨ (O q ∨ (m ≤ q ∧ q < w3.heap.size))) from fun q hq hh => by
      obtain ⟨css, _, h2, _⟩ := HOUT.out
      have hlt := (h2.lt _ hq).2
      have h3 := HM.out.1
      have h4 := hS8.out.size
      rcases hh with (hh | hh) | (hh | hh)
      · exact HOV.out q hq (.inl hh)
      · omega
      · exact HOV.out q hq (.inr hh)
      · omega)
     clear hJ3 hf3 hm1 hm2 hfB hout3 hbW3
     by_cases hR0 : R = 0
     case neg =>
      have hRb : (R == 0) = false := by simpa using hR0
      have hRc : (R != R) = false := by simp
      have HJ4 := Lib.hid (show JC w3 _ _ J g ES from by have h := HJ3.out; rw [if_neg hR0] at h; exact h)
      have HA3 := Lib.hid (show accJ g (l.take (k + 1)) = ES from HACC2.out.trans (if_neg hR0))
      clear hR0
      go_wp2_with fail
      go_roundw
      case rel => exact ⟨k + 1, _, _, by omega, by go_num, HBW3.out, by rw [HA3.out]; exact HJ4.out, HDO3.out, by rw [HA3.out]; exact HOUT3.out, HOV3.out⟩
      case measure => first | exact meas_v hlt | (simp only [intOf]; omega)
     case pos =>
      have hRb : (R == 0) = true := by simpa using hR0
      have hRc : (R != R) = false := by simp
      have HJ4 := Lib.hid (show JC w3 _ _ J g (ES ++ [⟨xi, xe, xd, xk, xo, xt, ls⟩]) from by have h := HJ3.out; rw [if_pos hR0] at h; exact h)
      have HA3 := Lib.hid (show accJ g (l.take (k + 1)) = ES ++ [⟨xi, xe, xd, xk, xo, xt, ls⟩] from HACC2.out.trans (if_pos hR0))
      have hbw3 := HB1h.out.trans (HBW3.out.mono HB1h.out.size)
      have HAR3 := Lib.hid ((HAT0.out.fr (Fr.ofBelow hbw3)).range)
      obtain ⟨css, hc1, hc2, hc3, hc4⟩ := HOUT3.out
      have HC2 := Lib.hid hc2
      have HEL2 := HEL.out
      have hszW := HBW3.out.size
      clear hR0
      obtain ⟨eln, heln⟩ : ∃ e, ES.length = e := ⟨_, rfl⟩
      rw [heln] at HC2 HEL2
      have HELN := Lib.hid heln
      clear heln hc2
      go_wp2_with (first | (show wpList _ _ _ (Oper.mk (some 63) _ _ _ _ _ :: _) _ _; refine wpList_load_mid rfl 42 (.tmp 62) rfl b (o + k * 7) rfl [.int .i64 xi, .int .i64 xe, .int .i64 xd, .int .i64 xk, .int .i64 xo, .string xt, .slice Al nl cl] _ HAR3.out Tryz.underlying42 rfl info_entry ?_) | (at_builtin; go_loud (refine wpList_app _ rfl (.tmp 59) (.tmp 64) 30 rfl W.heap.size 42 ia _ 7 80 entries_uty hia hzia hsia hbia rfl (by decide) (.slice Ao no co) eln css.flatten rfl (HC2.out.alloc _) (fun _ => True) (some ⟨w3.heap.size, 0, none⟩) 1 1 [.int .i64 xi, .int .i64 xe, .int .i64 xd, .int .i64 xk, .int .i64 xo, .string xt, .slice Al nl cl] rfl (rd_new (heap_alloc_new _ _) rfl) (by simp [Value.oneCell']) (by simp only [maxLen]; omega) (by omega) (by simp; omega) ?_); intro v9 w9 hown9 hg9 hat9))
      go_roundw
      case rel =>
       have hfr9 : Fr (fun q => q < w3.heap.size ∧ Value.ownBlock (.slice Ao no co) ≠ some q) w3 w9 := ((Fr.refl _ w3).alloc (fun q hq => hq.1) _).grown hg9 (fun q hq => hq.1) (fun q h1 h2 => h2.2 h1)
       have hlt4 := HJ4.out.ltDO
       have hoB : ∀ q, Value.ownBlock (.slice Ao no co) = some q → W.heap.size ≤ q := fun q hq => (HC2.out.lt _ hq).1
       have hfB9 : Fr (fun q => q < W.heap.size) w3 w9 := hfr9.mono (fun q hq => ⟨by omega, fun e => by have := hoB q e; omega⟩)
       refine ⟨k + 1, _, _, by omega, by go_num, ((Fr.ofBelow HBW3.out).trans hfB9).below, by rw [HA3.out]; exact HJ4.out.fr (hfr9.mono (fun q hq => ⟨hlt4 q hq, fun e => HOV3.out q e hq⟩)), HDO3.out, ?_, fun q hq hh => ?_⟩
       · rw [HA3.out]
         refine ⟨css ++ [[.int .i64 xi, .int .i64 xe, .int .i64 xd, .int .i64 xk, .int .i64 xo, .string xt, .slice Al nl cl]], by simp [hc1], by rw [List.length_append, HELN.out, List.flatten_append, List.flatten_singleton]; exact hown9, fun cs hc => ?_, fun i y hy => ?_⟩
         · rcases List.mem_append.1 hc with hc | hc
           · exact hc3 cs hc
           · simp at hc
             subst hc
             rfl
         · rcases Nat.lt_or_ge i ES.length with h1 | h1
           · rw [List.getElem?_append_left h1] at hy
             obtain ⟨cs, k1, k2⟩ := hc4 i y hy
             exact ⟨cs, by rw [List.getElem?_append_left (by omega)]; exact k1, EntryC.fr k2 hfB9⟩
           · have h2 : i = ES.length := by
              have := (List.getElem?_eq_some_iff.1 hy).1
              simp at this
              omega
             subst h2
             simp at hy
             subst hy
             refine ⟨[.int .i64 xi, .int .i64 xe, .int .i64 xd, .int .i64 xk, .int .i64 xo, .string xt, .slice Al nl cl], by rw [← hc1]; simp, ?_⟩
             have hxc := EntryC.mono (EntryC.fr HXC.out ((Fr.ofBelow hbw3).trans (hfB9.mono (fun q hq => by have := HS1; omega)))) (Q' := fun q => q < W.heap.size) (fun q hq => by have := HS1; omega)
             simp only [HNL.out] at hxc
             exact hxc
       · rcases hat9 with e | e
         · exact HOV3.out q (by rw [← e]; exact hq) hh
         · rw [e] at hq
           injection hq with hq
           have h1 := hlt4 q hh
           simp at hq
           omega
      case measure => first | exact meas_v hlt | (simp only [intOf]; omega)
  case neg =>
   have hltI : ¬ (k : Int) < (n : Int) := by omega
   have hta : l.take k = l := List.take_of_length_le (by rw [HN.out]; omega)
   rw [hta] at HJC HOUT
   obtain ⟨css, hc1, hc2, hc3, hc4⟩ := HOUT.out
   obtain rfl := own_val hc2
   have hlt4 := HJC.out.ltDO
   have hL : ListC EntryC 7 wr (fun q => q < wr.heap.size ∧ ¬ (D q ∨ O q)) [.slice Ao (accJ g l).length co] (accJ g l) := own_list hc3 hc2 (fun i x hx => by
    obtain ⟨cs, k1, k2⟩ := hc4 i x hx
    exact ⟨cs, k1, EntryC.mono k2 (fun q hq => ⟨Nat.lt_of_lt_of_le hq hbW.size, fun hh => by have := HDO.out q hh; omega⟩)⟩) (fun q hq => ⟨(hc2.lt _ hq).2, HOV.out q hq⟩)
   have HLL := Lib.hid hL
   have HHH := Lib.hid hbW
   clear hL hlt4 hc1 hc2 hc3 hc4 hta hJC hout hov hDO hbW
   obtain ⟨na, hna⟩ : ∃ na, (accJ g l).length = na := ⟨_, rfl⟩
   have HNA := Lib.hid hna
   rw [hna]
   clear hna
   go_wp2_with fail
   go_ret3
   refine ⟨HBR.out, .inr ⟨HT.out, J, D, O, Ao, co, by rw [HNA.out]; first | done | rfl | simp, HJC.out, fun q hq => ?_, HLL.out⟩⟩
   have := HDO.out q hq
   have := HS1
   omega
set_option maxHeartbeats 1000000 in
theorem reversal_c (D O : Nat → Prop) (J : Nat) (g : XGroup) (es : List XEntry) (id : Int) (w : World) (hj : JC w D O J g es) (hid : intBd id) : Calls Tryz.prog 61 #[.pointer (some ⟨J, 0, none⟩), .int .i64 id] w (Quiet w (.tuple #[.int .i64 (revId es id), .bool (decide (revId es id ≠ 0))])) := by
 obtain ⟨gl, css, v, bi, br, hj⟩ := hj
 have c23 := hj.cell.2.2
 have HRX := Lib.hid hj.rev
 obtain ⟨rv, hrv⟩ : ∃ rv, revId es id = rv := ⟨_, rfl⟩
 have HRO := Lib.hid (show revO es id = if rv = 0 then none else some rv by unfold revO; rw [hrv])
 rw [hrv]
 have HID := Lib.hid hid
 clear hj hrv hid
 go_enter Tryz.func61, Tryz.ntmps61
 by_cases h0 : rv = 0
 case pos =>
  have hf := Lib.hid (show revO es id = none from HRO.out.trans (if_pos h0))
  subst h0
  go_wp2_with (at_lookup; refine wpList_look_o rfl _ _ rfl br _ (revO es) rfl HRX.out id rfl HID.out ?_; rw [hf.out])
  go_ret2
  exact ⟨by first | rfl | simp, Below.refl _ _⟩
 case neg =>
  have hf := Lib.hid (show revO es id = some rv from HRO.out.trans (if_neg h0))
  have h1 := Lib.hid h0
  clear h0
  go_wp2_with (at_lookup; refine wpList_look_o rfl _ _ rfl br _ (revO es) rfl HRX.out id rfl HID.out ?_; rw [hf.out])
  go_ret2
  exact ⟨by simp [h1.out], Below.refl _ _⟩
def IsLn (W : World) (cells : List Value) (v : Value) (w : World) : Prop := ∃ g, v = .slice (some ⟨g, 0, none⟩) 1 1 ∧ W.heap.size ≤ g ∧ w.heap[g]? = some (.cells cells.toArray 52 (0, 0))
theorem IsLn.keep (W : World) (cells : List Value) : ∀ v w w', Below w.heap.size w w' → IsLn W cells v w → IsLn W cells v w' := fun v w w' hb ⟨g, e, h1, h2⟩ => ⟨g, e, h1, (hb.block g (blk_lt h2)).trans h2⟩
theorem IsLn.grow {W w w' : World} {cells : List Value} {v : Value} {row : Option Nat} (h : IsLn W cells v w) (hg : w.grownBy w' row) (hr : ∀ q, row = some q → q < W.heap.size) : IsLn W cells v w' := by
 obtain ⟨g, e, h1, h2⟩ := h
 exact ⟨g, e, h1, (hg.block g (blk_lt h2) (fun e => by have := hr g e.symm; omega)).trans h2⟩
def PL (V : World) (base : Nat) (v0 : Value) (n : Nat) (cf : List Value) (v : Value) (w : World) : Prop := ∃ W3, Fr (fun q => q < V.heap.size ∧ v0.ownBlock ≠ some q) V W3 ∧ w.ownsRow base 52 3 v n cf ∧ W3.grownBy w v0.ownBlock ∧ (v.ownBlock = v0.ownBlock ∨ v.ownBlock = some W3.heap.size)
theorem PL.keep (V : World) (base : Nat) (v0 : Value) (n : Nat) (cf : List Value) : ∀ v w w', Below w.heap.size w w' → PL V base v0 n cf v w → PL V base v0 n cf v w' := fun v w w' hb ⟨W3, h1, h3, h4, h5⟩ => ⟨W3, h1, own_below h3 hb, h4.andThen ((grown_of_below hb).but _) (fun j hj => .inr hj), h5⟩
end Go.Proofs.YtebdajkknkapcaaGreat
