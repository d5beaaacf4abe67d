/- Few groups and entries. Written by gen_i19.py. -/
import Derived.Test.YtebdajkknkapcaaG5xB0B2
import Derived.Test.YtebdajkknkapcaaG5xB3B8
import Derived.Test.YtebdajkknkapcaaG5xB14
import Derived.Test.YtebdajkknkapcaaG5xB16
import Derived.Test.YtebdajkknkapcaaG5xB17B24
import Derived.Test.YtebdajkknkapcaaG5xB29B32
import Derived.Test.YtebdajkknkapcaaG5xB33S2
import Derived.Test.YtebdajkknkapcaaG5xS3C3
import Derived.Test.YtebdajkknkapcaaG5xC4E3
import Derived.Test.YtebdajkknkapcaaG5xE4E5
import Derived.Test.YtebdajkknkapcaaG5xE6F6
import Derived.Test.YtebdajkknkapcaaG5xF4I7
import Derived.Test.YtebdajkknkapcaaG5xI8I11
import Derived.Test.YtebdajkknkapcaaG5xI12
import Derived.Test.YtebdajkknkapcaaG5xI13I15
import Derived.Test.YtebdajkknkapcaaG5xI16I17
import Derived.Test.YtebdajkknkapcaaProg
set_option linter.unusedVariables false
set_option linter.unusedSimpArgs false
set_option maxRecDepth 4000
attribute [local go_sem ↓] Go.wp_at_zero Go.wp_at_succ
namespace Go.Proofs.Ytebdajkknkapcaa
open Go Go.RowKit
def fewX (x : XEntry) : Prop := x.lines.length ≤ 60 ∧ x.text.size ≤ 200 ∧ ∀ y ∈ x.lines, -1125899906842624 ≤ y.amount ∧ y.amount ≤ 1125899906842624
def fewJ (g : XGroup) (es : List XEntry) : Prop := (∀ x ∈ es, fewX x) ∧ es.length ≤ 61 ∧ fewG g
set_option maxHeartbeats 4000000 in
theorem few12_c (g : XGroup) (es : List XEntry) (gl : List Value) (A : Option Addr) (c : Nat) (w : World) (hg : GroupC w (· < w.heap.size) gl g) (hsz : szG g) (hl : ListC EntryC 7 w (· < w.heap.size) [.slice A es.length c] es) (hts : ∀ x ∈ es, x.text.size ≤ 140737488355327) :
 Calls Try.prog 18 #[.agg gl.toArray, .slice A es.length c] w (If (fewJ g es) w) := by
 have HF := Lib.hid (fun (w2 : World) (hb : Below w.heap.size w w2) => few_v hg hsz hb)
 have HGS := Lib.hid (show gl.toArray.size = 21 by have := hg.len; simpa using this)
 have hbn := hl.cap
 obtain ⟨n, hnl⟩ : ∃ n, es.length = n := ⟨_, rfl⟩
 have HL := Lib.hid hl
 have HN := Lib.hid hnl
 have HTS := Lib.hid hts
 rw [hnl] at hbn ⊢
 unfold maxLen at hbn
 have hn9 : n ≤ 9223372036854775807 := by omega
 obtain ⟨P, hP⟩ : ∃ P, fewJ g es = P := ⟨_, rfl⟩
 rw [hP]
 have HP := Lib.hid hP
 clear hg hsz hl hnl hts hbn hP
 go_enter Try.func18, Try.ntmps18
 go_upto_region 1 with fail
 have H1 := heap_alloc_new w (.cells gl.toArray 29)
 have HB1 := below1 w (.cells gl.toArray 29)
 have HS1 : w.heap.size < (w.alloc (.cells gl.toArray 29)).heap.size := blk_lt H1
 generalize hW1 : w.alloc (Obj.cells gl.toArray 29) = W at *
 clear hW1
 have HK := Lib.hid H1
 have HB1h := Lib.hid HB1
 clear H1
 go_wp2_with fail
 go_loopw [5] (fun i wr => ∃ k : Nat, k ≤ n ∧ i = .int .i64 (k : Int) ∧ Below W.heap.size W wr ∧ k ≤ 61 ∧ ∀ j (hj : j < es.length), j < k → fewX es[j]) (fun i _ => n - (intOf i).toNat)
 case atStart => exact ⟨0, by omega, rfl, Below.refl _ _, by omega, fun j hj h => by omega⟩
 case round =>
  obtain ⟨k, hk, rfl, hbW, hk61, hall⟩ := hrel
  have hb := HB1h.out.trans (hbW.mono HB1h.out.size)
  have HALL := Lib.hid hall
  have HBR := Lib.hid hb
  clear hall
  by_cases hlt : k < n
  case pos =>
   have hltI : (k : Int) < (n : Int) := by omega
   have hkl : k < es.length := by rw [HN.out]; exact hlt
   obtain ⟨b, o, cs, hAe, hbw, hes, hat⟩ := ListC.get HL.out k hkl
   subst hAe
   obtain ⟨Al, cl, hcs, _, hls⟩ := EntryC.lit hes
   subst hcs
   have hat2 := hat.fr (Fr.ofBelow hb)
   have c5 := hat2.c (j := 5) rfl
   have c6 := hat2.c (j := 6) rfl
   have htx := HTS.out _ (List.getElem_mem hkl)
   have hcl := hls.cap
   unfold maxLen at hcl
   obtain ⟨x, hx⟩ : ∃ x, es[k] = x := ⟨_, rfl⟩
   rw [hx] at c5 c6 htx hls hcl
   have HX := Lib.hid hx
   obtain ⟨xi, xe, xd, xk, xo, xt, ls⟩ := x
   simp only at c5 c6 htx hls hcl
   have HLS := Lib.hid hls
   obtain ⟨nl, hnl⟩ : ∃ n, ls.length = n := ⟨_, rfl⟩
   have HNL := Lib.hid hnl
   rw [hnl] at c6 hcl
   have hnz : 0 < n := by omega
   have hnl9 : nl ≤ 9223372036854775807 := by omega
   have HAT := Lib.hid (show At w (· < w.heap.size) ⟨b, o + k * 7, none⟩ [.int .i64 xi, .int .i64 xe, .int .i64 xd, .int .i64 xk, .int .i64 xo, .string xt, .slice Al nl cl] by rw [HX.out] at hat; simp only [hnl] at hat; exact hat)
   clear hes hat hat2 hx hls hnl hcl
   by_cases h1 : nl ≤ 60
   case neg =>
    have h1d : decide ((60 : Int) < (nl : Int)) = true := decide_eq_true (by omega)
    clear h1
    go_wp2_with fail
    try rw [Exit.noGoto_ret]
    go_ret
    exact If.no hb
   case pos =>
   have h1d : decide ((60 : Int) < (nl : Int)) = false := decide_eq_false (by omega)
   by_cases h2 : xt.size ≤ 200
   case neg =>
    have h2d : decide ((200 : Int) < (xt.size : Int)) = true := decide_eq_true (by omega)
    clear h2
    go_wp2_with fail
    try rw [Exit.noGoto_ret]
    go_ret
    exact If.no hb
   case pos =>
   have h2d : decide ((200 : Int) < (xt.size : Int)) = false := decide_eq_false (by omega)
   by_cases h3 : k ≤ 60
   case neg =>
    have h3d : decide ((60 : Int) < (k : Int)) = true := decide_eq_true (by omega)
    clear h3
    go_wp2_with fail
    try rw [Exit.noGoto_ret]
    go_ret
    exact If.no hb
   case pos =>
   have h3d : decide ((60 : Int) < (k : Int)) = false := decide_eq_false (by omega)
   have HFX := Lib.hid (And.intro h1 (And.intro h2 h3))
   clear h1 h2 h3 htx
   go_wp2_with fail
   clear h1d h2d h3d c5
   go_loopw [6] (fun i wr2 => ∃ q : Nat, q ≤ nl ∧ i = .int .i64 (q : Int) ∧ Below W.heap.size W wr2 ∧ ∀ j (hj : j < ls.length), j < q → -1125899906842624 ≤ ls[j].amount ∧ ls[j].amount ≤ 1125899906842624) (fun i _ => nl - (intOf i).toNat)
   case atStart => exact ⟨0, by omega, rfl, hbW, fun j hj h => by omega⟩
   case round =>
    obtain ⟨q, hq, rfl, hbq, hall2⟩ := hrel
    have hb2 := HB1h.out.trans (hbq.mono HB1h.out.size)
    have HALL2 := Lib.hid hall2
    clear hall2
    have hat2 := HAT.out.fr (Fr.ofBelow hb2)
    have c6 := hat2.c (j := 6) rfl
    by_cases hq2 : q < nl
    case pos =>
     have hqI : (q : Int) < (nl : Int) := by omega
     have hql : q < ls.length := by rw [HNL.out]; exact hq2
     obtain ⟨b2, o2, cs2, hAe2, hbw2, hes2, hat3⟩ := ListC.get HLS.out q hql
     subst hAe2
     have he2 := (LineC.lit hes2).1
     subst he2
     have c1 := (hat3.fr (Fr.ofBelow hb2)).c (j := 1) rfl
     obtain ⟨lm, hlm⟩ : ∃ a, ls[q].amount = a := ⟨_, rfl⟩
     rw [hlm] at c1
     have HLM := Lib.hid hlm
     have hqz : 0 < nl := by omega
     have hb := hb2
     clear hes2 hat3 hat2 hlm
     by_cases h1 : 1125899906842624 < lm
     case pos =>
      have h1d : decide ((1125899906842624 : Int) < lm) = true := decide_eq_true h1
      clear h1
      go_wp2_with fail
      try rw [Exit.noGoto_ret]
      go_ret
      exact If.no hb
     case neg =>
     have h1d : decide ((1125899906842624 : Int) < lm) = false := decide_eq_false h1
     by_cases h2 : lm < -1125899906842624
     case pos =>
      have h2d : decide (lm < (-1125899906842624 : Int)) = true := decide_eq_true h2
      clear h1 h2
      go_wp2_with fail
      try rw [Exit.noGoto_ret]
      go_ret
      exact If.no hb
     case neg =>
     have h2d : decide (lm < (-1125899906842624 : Int)) = false := decide_eq_false h2
     have HIN := Lib.hid (show -1125899906842624 ≤ lm ∧ lm ≤ 1125899906842624 by omega)
     clear h1 h2
     go_wp2_with fail
     go_roundw
     case rel => exact ⟨q + 1, by omega, by go_num, hbq, fun j hj h => by
      rcases Nat.lt_or_ge j q with h1 | h1
      · exact HALL2.out j hj h1
      · have : j = q := by omega
        subst this
        rw [HLM.out]; exact HIN.out⟩
     case measure => first | exact meas_v hq2 | (simp only [intOf]; omega)
    case neg =>
     have hqI : ¬ (q : Int) < (nl : Int) := by omega
     have HAM := Lib.hid (show ∀ y ∈ ls, -1125899906842624 ≤ y.amount ∧ y.amount ≤ 1125899906842624 from fun y hy => by
      obtain ⟨j, hj, rfl⟩ := List.getElem_of_mem hy
      exact HALL2.out j hj (by have := HNL.out; omega))
     go_wp2_with fail
     go_roundw
     case rel => exact ⟨k + 1, by omega, by go_num, hbq, by have := HFX.out.2.2; omega, fun j hj h => by
      rcases Nat.lt_or_ge j k with h1 | h1
      · exact HALL.out j hj h1
      · have : j = k := by omega
        subst this
        rw [HX.out]
        exact ⟨by show ls.length ≤ 60; rw [HNL.out]; exact HFX.out.1, HFX.out.2.1, HAM.out⟩⟩
     case measure => first | exact meas_v hlt | (simp only [intOf]; omega)
  case neg =>
   have hltI : ¬ (k : Int) < (n : Int) := by omega
   have HY := Lib.hid (show (∀ x ∈ es, fewX x) ∧ es.length ≤ 61 from ⟨fun x hx => by
    obtain ⟨j, hj, rfl⟩ := List.getElem_of_mem hx
    exact HALL.out j hj (by have := HN.out; omega), by have := HN.out; omega⟩)
   have HKR := Lib.hid ((hbW.block _ HS1).trans HK.out)
   go_wp2_with (show wpList _ _ _ (Oper.mk (some 59) _ _ _ _ _ :: _) _ _; refine wpList_load_row_g rfl 29 (.tmp 2) rfl (w.heap.size) rfl _ _ _ _ HKR.out Try.underlying29 rfl (by rw [info_group]; exact congrArg some HGS.out.symm) ?_)
   refine (HF.out wr hb).mono ?_
   rintro e w3 ⟨bf, rfl, hf, hb3⟩
   have hb03 := HBR.out.trans (hb3.mono HBR.out.size)
   go_wp2_with fail
   go_ret
   exact ⟨_, by first | rfl | simp, fun e => by rw [← HP.out]; exact ⟨HY.out.1, HY.out.2, hf e⟩, hb03⟩
end Go.Proofs.Ytebdajkknkapcaa
namespace Go.Proofs.Ytebdajkknkapcaa
open Go Go.RowKit
def accJ (g : XGroup) (l : List XEntry) : List XEntry := l.foldl (fun es x => if postE g es x = 0 then es ++ [x] else es) []
theorem accJ_snoc (g : XGroup) (l : List XEntry) (x : XEntry) : accJ g (l ++ [x]) = if postE g (accJ g l) x = 0 then accJ g l ++ [x] else accJ g l := by
 unfold accJ
 rw [List.foldl_append]
 rfl
theorem accJ_succ {g : XGroup} {l : List XEntry} {k : Nat} (hk : k < l.length) : accJ g (l.take (k + 1)) = if postE g (accJ g (l.take k)) l[k] = 0 then accJ g (l.take k) ++ [l[k]] else accJ g (l.take k) := by
 rw [List.take_add_one, List.getElem?_eq_getElem hk]
 exact accJ_snoc g _ _
theorem accJ_ok (g : XGroup) : ∀ (n : Nat) (l : List XEntry), l.length = n → okJ g (accJ g l) ∧ (accJ g l).length ≤ l.length ∧ ∀ x ∈ accJ g l, x ∈ l
 | 0, l, h => by
  have : l = [] := List.eq_nil_of_length_eq_zero h
  subst this
  exact ⟨okJ_nil g, Nat.le_refl _, fun x hx => by simp [accJ] at hx⟩
 | n + 1, l, h => by
  obtain ⟨m, y, rfl⟩ : ∃ m y, l = m ++ [y] := by
   have hne : l ≠ [] := fun e => by rw [e] at h; simp at h
   exact ⟨l.dropLast, l.getLast hne, (List.dropLast_concat_getLast hne).symm⟩
  have hm : m.length = n := by simp at h; exact h
  obtain ⟨h1, h2, h3⟩ := accJ_ok g n m hm
  rw [accJ_snoc]
  by_cases hp : postE g (accJ g m) y = 0
  · rw [if_pos hp]
    refine ⟨okJ_snoc h1 hp, by simp; exact h2, fun x hx => ?_⟩
    rcases List.mem_append.1 hx with hx | hx
    · exact List.mem_append_left _ (h3 x hx)
    · exact List.mem_append_right _ hx
  · rw [if_neg hp]
    exact ⟨h1, by simp; omega, fun x hx => List.mem_append_left _ (h3 x hx)⟩
def PostedPost (g : XGroup) (l : List XEntry) (w : World) (e : Ending) (w' : World) : Prop := Below w.heap.size w w' ∧
 ((groupB g = false ∧ e = .returned (.tuple #[.pointer none, .slice none 0 0, .bool true])) ∨
  (groupB g = true ∧ ∃ (J : Nat) (D O : Nat → Prop) (A : Option Addr) (c : Nat), e = .returned (.tuple #[.pointer (some ⟨J, 0, none⟩), .slice A (accJ g l).length c, .bool true]) ∧ JC w' D O J g (accJ g l) ∧ (∀ q, D q ∨ O q → w.heap.size ≤ q) ∧
   ListC EntryC 7 w' (fun q => q < w'.heap.size ∧ ¬ (D q ∨ O q)) [.slice A (accJ g l).length c] (accJ g l)))
def OutAt (B : Nat) (es : List XEntry) (v : Value) (w : World) : Prop := ∃ css : List (List Value), css.length = es.length ∧ w.ownsRow B 42 7 v es.length css.flatten ∧ (∀ cs ∈ css, cs.length = 7) ∧ ∀ (i : Nat) x, es[i]? = some x → ∃ cs, css[i]? = some cs ∧ EntryC w (fun q => q < B) cs x
theorem OutAt.same {B : Nat} {es : List XEntry} {v : Value} {w w' : World} (h : OutAt B es v w) (hf : Fr (fun q => q < B) w w') (hb : ∀ q, v.ownBlock = some q → w'.heap[q]? = w.heap[q]?) : OutAt B es v w' := by
 obtain ⟨css, h1, h2, h3, h4⟩ := h
 refine ⟨css, h1, own_same h2 hb, h3, fun i x hx => ?_⟩
 obtain ⟨cs, k1, k2⟩ := h4 i x hx
 exact ⟨cs, k1, EntryC.fr k2 hf⟩
theorem JC.ltDO {w : World} {D O : Nat → Prop} {J : Nat} {g : XGroup} {es : List XEntry} (h : JC w D O J g es) : ∀ q, D q ∨ O q → q < w.heap.size := fun q hq => by
 obtain ⟨gl, css, v, bi, br, h⟩ := h
 exact hq.elim (h.ltD q) (h.ltO q)
set_option maxHeartbeats 8000000 in
theorem posted_c (g : XGroup) (l : List XEntry) (gl : List Value) (A : Option Addr) (c : Nat) (w : World) (hg : GroupC w (· < w.heap.size) gl g) (hl : ListC EntryC 7 w (· < w.heap.size) [.slice A l.length c] l) (hfew : fewJ g l) :
 Calls Try.prog 19 #[.agg gl.toArray, .slice A l.length c] w (PostedPost g l w) := by
 obtain ⟨ia, hia, hzia, hsia, hbia⟩ := info_parts info_entryA
 have hsm := hfew.2.2.small
 have HNEW := Lib.hid (fun (w2 : World) (hb : Below w.heap.size w w2) => new_c g gl w2 (hg.keep hb) hsm)
 have HVAL := Lib.hid (rgroup_v hg hsm)
 have HGI := Lib.hid (show (Try.prog.info? 29).map (·.size) = some gl.length by rw [info_group, hg.len])
 have HGS := Lib.hid (show gl.toArray.size = 21 by have := hg.len; simpa using this)
 have HG := Lib.hid hg
 have HL := Lib.hid hl
 have HFEW := Lib.hid hfew
 have hbn := hl.cap
 obtain ⟨n, hnl⟩ : ∃ n, l.length = n := ⟨_, rfl⟩
 have HN := Lib.hid hnl
 have hn61 : n ≤ 61 := by rw [← hnl]; exact hfew.2.1
 rw [hnl]
 obtain ⟨bg, hbg⟩ : ∃ b, groupB g = b := ⟨_, rfl⟩
 have HBG := Lib.hid hbg
 rw [hbg] at HVAL
 clear hg hl hfew hsm hnl hbn hbg
 go_enter Try.func19, Try.ntmps19
 go_upto_region 1 with fail
 have H1 := heap_alloc_new w (.cells gl.toArray 29)
 have HB1 := below1 w (.cells gl.toArray 29)
 have HS1 : w.heap.size < (w.alloc (.cells gl.toArray 29)).heap.size := blk_lt H1
 generalize hW1 : w.alloc (Obj.cells gl.toArray 29) = W at *
 clear hW1
 have HK := Lib.hid H1
 have HB1h := Lib.hid HB1
 clear H1
 go_wp2_with (show wpList _ _ _ (Oper.mk (some 13) _ _ _ _ _ :: _) _ _; refine wpList_load_row_g rfl 29 (.tmp 2) rfl (w.heap.size) rfl _ _ _ _ HK.out Try.underlying29 rfl (by rw [info_group]; exact congrArg some HGS.out.symm) ?_)
 refine (HNEW.out W HB1).mono ?_
 rintro e w2 ⟨hb2, hcase⟩
 have hb02 := HB1h.out.trans (hb2.mono HB1h.out.size)
 have HK2 := Lib.hid ((hb2.block _ HS1).trans HK.out)
 rcases hcase with ⟨hF, rfl⟩ | ⟨hT, J, D0, O0, rfl, hJC, hDO⟩
 case inl =>
  have HF := Lib.hid hF
  have hbgf : bg = false := HBG.out.symm.trans hF
  subst hbgf
  clear hF
  go_wp2_with (show wpList _ _ _ (Oper.mk (some 26) _ _ _ _ _ :: _) _ _; refine wpList_load_row_g rfl 29 (.tmp 2) rfl (w.heap.size) rfl _ _ _ _ HK2.out Try.underlying29 rfl (by rw [info_group]; exact congrArg some HGS.out.symm) ?_)
  refine (HVAL.out w2 hb02).mono ?_
  rintro e w3 ⟨rfl, hb3⟩
  go_wp2_with fail
  go_ret3
  exact ⟨hb02.trans (hb3.mono hb02.size), .inl ⟨HF.out, by first | rfl | simp⟩⟩
 case inr =>
 have HT := Lib.hid hT
 have HJC := Lib.hid hJC
 have HDO := Lib.hid hDO
 have HB02 := Lib.hid hb02
 clear hT hJC hDO HVAL HNEW
 go_wp2_with fail
 go_loopw [9, 10] (fun v i wr => ∃ (k : Nat) (D O : Nat → Prop), k ≤ n ∧ i = .int .i64 (k : Int) ∧ Below W.heap.size W wr ∧ JC wr D O J g (accJ g (l.take k)) ∧ (∀ q, D q ∨ O q → W.heap.size ≤ q) ∧ OutAt W.heap.size (accJ g (l.take k)) v wr ∧ ∀ q, v.ownBlock = some q → ¬ (D q ∨ O q)) (fun _ i _ => n - (intOf i).toNat)
 case atStart => exact ⟨0, D0, O0, by omega, rfl, hb2, HJC.out, HDO.out, ⟨[], rfl, World.ownsRow_nil _ _ _ _, by simp, fun i x hx => by simp [accJ] at hx⟩, fun q hq => by simp [Value.ownBlock] at hq⟩
 case round =>
  obtain ⟨k, D, O, hk, rfl, hbW, hJC, hDO, hout, hov⟩ := hrel
  have hb := HB1h.out.trans (hbW.mono HB1h.out.size)
  obtain ⟨Ao, no, co, rfl⟩ : ∃ Ao no co, u9 = .slice Ao no co := by
   obtain ⟨css, _, h, _⟩ := hout
   exact own_shape h
  have HBW := Lib.hid hbW
  have HBR := Lib.hid hb
  have HJC := Lib.hid hJC
  have HDO := Lib.hid hDO
  have HOUT := Lib.hid hout
  have HOV := Lib.hid hov
  have HKR := Lib.hid ((hbW.block _ HS1).trans HK.out)
  have hltw := Nat.lt_of_lt_of_le HS1 hbW.size
  by_cases hlt : k < n
  case pos =>
   have hltI : (k : Int) < (n : Int) := by omega
   have hkl : k < l.length := by rw [HN.out]; exact hlt
   have HACC := Lib.hid (accJ_succ (g := g) hkl)
   obtain ⟨b, o, cs, hAe, hbw, hes, hat⟩ := ListC.get HL.out k hkl
   subst hAe
   obtain ⟨Al, cl, hcs, hxb, hls⟩ := EntryC.lit hes
   have hfx := HFEW.out.1 _ (List.getElem_mem hkl)
   obtain ⟨x, hx⟩ : ∃ x, l[k] = x := ⟨_, rfl⟩
   rw [hx] at hcs hxb hls hfx HACC hes
   subst hcs
   obtain ⟨ES, hES⟩ : ∃ ES, accJ g (l.take k) = ES := ⟨_, rfl⟩
   rw [hES] at HACC HJC HOUT
   have hEL : ES.length ≤ 61 := by
    have h1 := (accJ_ok g _ (l.take k) rfl).2.1
    rw [hES, List.length_take] at h1
    omega
   have hno : no = ES.length := by
    obtain ⟨css, _, h, _⟩ := HOUT.out
    exact own_val h
   have HNO := Lib.hid hno
   have HEL := Lib.hid hEL
   have HFX := Lib.hid hfx
   have HXC := Lib.hid hes
   have HACC2 := Lib.hid HACC.out
   have hlistO : ListC EntryC 7 wr (· < wr.heap.size) [.slice Ao ES.length co] ES := by
    obtain ⟨css, h1, h2, h3, h4⟩ := HOUT.out
    rw [hno] at h2
    exact own_list h3 h2 (fun i x hx => by
     obtain ⟨cs, k1, k2⟩ := h4 i x hx
     exact ⟨cs, k1, EntryC.mono k2 (fun q hq => Nat.lt_of_lt_of_le hq HBW.out.size)⟩) (fun q hq => (h2.lt _ hq).2)
   have HLO := Lib.hid hlistO
   have HOKJ := Lib.hid HJC.out.ok
   obtain ⟨R, hR⟩ : ∃ R, postE g ES x = R := ⟨_, rfl⟩
   rw [hR] at HACC2
   have HRP := Lib.hid (fun (w2 : World) (hS : Below wr.heap.size wr w2) => show Calls Try.prog 62 #[.agg gl.toArray, .slice Ao no co, .agg #[.int .i64 x.id, .int .i64 x.entity, .int .i64 x.date, .int .i64 x.kind, .int .i64 x.of_, .string x.text, .slice Al x.lines.length cl]] w2 (Quiet w2 (.int .i64 R)) by
    have hb9 := HBR.out.trans (hS.mono HBR.out.size)
    have h := rpost_c g ES x gl _ Ao co w2 (HG.out.keep hb9) HFEW.out.2.2.small (entries_keep HLO.out hS) (HXC.out.keep hb9) (by have := HFX.out.2.1; omega) HOKJ.out
    rw [← HNO.out, hR] at h
    exact h)
   have HPC := Lib.hid (fun (w2 : World) (hS : Below wr.heap.size wr w2) => show Calls Try.prog 23 #[.pointer (some ⟨J, 0, none⟩), .agg #[.int .i64 x.id, .int .i64 x.entity, .int .i64 x.date, .int .i64 x.kind, .int .i64 x.of_, .string x.text, .slice Al x.lines.length cl]] w2 (fun e w' => e = .returned (.int .i64 R) ∧ JPost D O J g ES (if R = 0 then ES ++ [x] else ES) w2 w') by
    have hb9 := HBR.out.trans (hS.mono HBR.out.size)
    obtain ⟨gl2, css2, v2, bi2, br2, hJ2⟩ := HJC.out.below hS
    have h := post_c D O J g ES gl2 css2 v2 bi2 br2 x _ w2 hJ2 HFEW.out.2.2.small (EntryC.mono (EntryC.fr HXC.out (Fr.ofBelow hb9)) (fun q hq => ⟨Nat.lt_of_lt_of_le hq hb9.size, fun ho => by have h1 := HDO.out q (.inr ho); have h2 := HS1; omega⟩)) (by have := HFX.out.2.1; omega) (by have := HFX.out.1; omega) (by have := HEL.out; omega)
    rw [hR] at h
    exact h)
   have hat2 := hat.fr (Fr.ofBelow hb)
   have HXE := Lib.hid hx
   obtain ⟨xi, xe, xd, xk, xo, xt, ls⟩ := x
   have hat0 := hat
   simp only at hat2 hat0 HRP HPC
   obtain ⟨nl, hnl⟩ : ∃ n, ls.length = n := ⟨_, rfl⟩
   rw [hnl] at hat2 hat0 HRP HPC
   have HAT0 := Lib.hid hat0
   have HNL := Lib.hid hnl
   have HATX := Lib.hid (hat2.mono (Q' := (· < wr.heap.size)) (fun q hq => Nat.lt_of_lt_of_le hq hb.size))
   have HATG := Lib.hid (box_at (cs := gl) HKR.out)
   have HES := Lib.hid hES
   have HRE := Lib.hid hR
   have hnz : 0 < n := by omega
   have hoI : (no : Int) = (no : Int) := rfl
   clear hat hat0 hat2 hes hls hxb hfx hlistO hR hES hEL hno hnl hJC hDO hout hov hx hoI hbW hb
   go_upto_region 8 with fail
   refine wp_region_inv (Ks wr [.val (.agg gl.toArray), .val (.slice Ao no co), .val (.slice (some ⟨b, o, none⟩) n c), .val (.int .i64 (k : Int)), .val (.pointer (some ⟨b, o + k * 7, none⟩)), .val (.agg #[.int .i64 xi, .int .i64 xe, .int .i64 xd, .int .i64 xk, .int .i64 xo, .string xt, .slice Al nl cl]), .val (.int .i64 R), .val (.int .i64 R)])
    (fun w' => Below wr.heap.size wr w') (by kernel_rfl) (by kernel_rfl) (by kernel_rfl) (Below.refl _ _).drew ?_ ?_
   · refine ⟨?_, ?_, ?_, ?_, ?_, ?_, ?_, ?_, trivial⟩
     · intro listed A0 w2 hI hd hnd K hK
       have e0 := hI.slot hnd 2 _ rfl (by kernel_rfl)
       have hS := hI.world
       have hrange : w2.rangeAt w.heap.size 0 gl := (HATG.out.fr (Fr.ofBelow hS)).range
       have hisize := HGI.out
       refine wanted_go rfl ?_
       clear hI hd hnd
       refine wp_load_mid 29 (.tmp 2) rfl _ _ (by simpa [Act.eval, Array.getD_eq_getD_getElem?] using e0) _ _ hrange Try.underlying29 rfl hisize ?_
       exact kq hK hS rfl
     · intro listed A0 w2 hI hd hnd K hK
       have e0 := hI.slot hnd 9 _ rfl (by kernel_rfl)
       have hS := hI.world
       refine wanted_go rfl ?_
       clear hI hd hnd
       go_simp
       exact kq hK hS rfl
     · intro listed A0 w2 hI hd hnd K hK
       have e0 := hI.slot hnd 1 _ rfl (by kernel_rfl)
       have hS := hI.world
       refine wanted_go rfl ?_
       clear hI hd hnd
       go_simp
       exact kq hK hS rfl
     · intro listed A0 w2 hI hd hnd K hK
       have e0 := hI.slot hnd 10 _ rfl (by kernel_rfl)
       have hS := hI.world
       refine wanted_go rfl ?_
       clear hI hd hnd
       go_simp
       exact kq hK hS rfl
     · intro listed A0 w2 hI hd hnd K hK
       have e0 := hI.depv hd 2 42 _ rfl rfl rfl (by kernel_rfl)
       have e1 := hI.depv hd 3 43 _ rfl rfl rfl (by kernel_rfl)
       have hS := hI.world
       refine wanted_go rfl ?_
       clear hI hd hnd
       go_simp
       exact kq hK hS rfl
     · intro listed A0 w2 hI hd hnd K hK
       have e0 := hI.depv hd 4 44 _ rfl rfl rfl (by kernel_rfl)
       have hS := hI.world
       have hrange : w2.rangeAt b (o + k * 7) [.int .i64 xi, .int .i64 xe, .int .i64 xd, .int .i64 xk, .int .i64 xo, .string xt, .slice Al nl cl] := (HATX.out.fr (Fr.ofBelow hS)).range
       have hisize := info_entry
       refine wanted_go rfl ?_
       clear hI hd hnd
       refine wp_load_mid 42 (.tmp 44) rfl _ _ (by simpa [Act.eval, Array.getD_eq_getD_getElem?] using e0) _ _ hrange Try.underlying42 rfl hisize ?_
       exact kq hK hS rfl
     · intro listed A0 w2 hI hd hnd K hK
       have e0 := hI.depv hd 0 40 _ rfl rfl rfl (by kernel_rfl)
       have e1 := hI.depv hd 1 41 _ rfl rfl rfl (by kernel_rfl)
       have e2 := hI.depv hd 5 45 _ rfl rfl rfl (by kernel_rfl)
       have hS := hI.world
       refine wanted_go rfl ?_
       clear hI hd hnd
       go_simp
       go_at_call 62
       refine (HRP.out w2 hS).mono ?_
       rintro e w3 ⟨rfl, h3⟩
       exact hK.out _ _ (hS.trans (h3.mono hS.size)) (Ks.of rfl rfl) (Ks.keep h3)
     · intro listed A0 w2 hI hd hnd K hK
       have e0 := hI.depv hd 6 46 _ rfl rfl rfl (by kernel_rfl)
       have hS := hI.world
       refine wanted_go rfl ?_
       clear hI hd hnd
       go_simp
       exact kq hK hS rfl
   · intro listed A0 w2 hI hall
     obtain ⟨x0, g0, h0⟩ := hI.got 0 _ 40 rfl rfl (hall 0 (by decide))
     obtain ⟨x1, g1, h1⟩ := hI.got 1 _ 41 rfl rfl (hall 1 (by decide))
     obtain ⟨x2, g2, h2⟩ := hI.got 2 _ 42 rfl rfl (hall 2 (by decide))
     obtain ⟨x3, g3, h3⟩ := hI.got 3 _ 43 rfl rfl (hall 3 (by decide))
     obtain ⟨x4, g4, h4⟩ := hI.got 4 _ 44 rfl rfl (hall 4 (by decide))
     obtain ⟨x5, g5, h5⟩ := hI.got 5 _ 45 rfl rfl (hall 5 (by decide))
     obtain ⟨x6, g6, h6⟩ := hI.got 6 _ 46 rfl rfl (hall 6 (by decide))
     obtain ⟨x7, g7, h7⟩ := hI.got 7 _ 11 rfl rfl (hall 7 (by decide))
     have hS := hI.world
     have hA : A0 = _ := hI.tmps [(40, x0), (41, x1), (42, x2), (43, x3), (44, x4), (45, x5), (46, x6), (11, x7)] (by simp only [List.mem_cons, List.not_mem_nil, or_false, forall_eq_or_imp, forall_eq]; exact ⟨g0, g1, g2, g3, g4, g5, g6, g7⟩) (by kernel_rfl)
     obtain rfl : x7 = .int .i64 R := h7 _ rfl
     clear h0 g0 h1 g1 h2 g2 h3 g3 h4 g4 h5 g5 h6 g6 h7 g7 hI hall
     simp only [setAll, List.foldl, List.setIfInBounds_toArray, List.set_cons_zero, List.set_cons_succ] at hA
     rw [hA]
     clear hA
     have hS8 := Lib.hid hS
     have HAR := Lib.hid ((HATX.out.fr (Fr.ofBelow hS)).range)
     have HPC2 := Lib.hid (HPC.out w2 hS)
     clear hS
     go_wp2_with (show wpList _ _ _ (Oper.mk (some 51) _ _ _ _ _ :: _) _ _; refine wpList_load_mid rfl 42 (.tmp 50) rfl b (o + k * 7) rfl [.int .i64 xi, .int .i64 xe, .int .i64 xd, .int .i64 xk, .int .i64 xo, .string xt, .slice Al nl cl] _ HAR.out Try.underlying42 rfl info_entry ?_)
     refine HPC2.out.mono ?_
     rintro e w3 ⟨rfl, m, hm1, hm2, hJ3, hf3⟩
     have HJ3 := Lib.hid hJ3
     have HF3 := Lib.hid hf3
     have HM := Lib.hid (And.intro hm1 hm2)
     have hfB : Fr (fun q => q < W.heap.size) wr w3 := ((Fr.ofBelow hS8.out).mono (fun q hq => Nat.lt_of_lt_of_le hq HBW.out.size)).trans (hf3.mono (fun q hq => ⟨Nat.lt_of_lt_of_le (Nat.lt_of_lt_of_le hq HBW.out.size) hS8.out.size, fun ho => by have := HDO.out q (.inr ho); omega⟩))
     have HFB := Lib.hid hfB
     have hbW3 : Below W.heap.size W w3 := ((Fr.ofBelow HBW.out).trans hfB).below
     have HBW3 := Lib.hid hbW3
     have hout3 : OutAt W.heap.size ES (.slice Ao no co) w3 := HOUT.out.same hfB (fun q hq => by
      obtain ⟨css, _, h2, _⟩ := HOUT.out
      have hlt := (h2.lt _ hq).2
      exact (hf3.block q ⟨Nat.lt_of_lt_of_le hlt hS8.out.size, fun ho => HOV.out q hq (.inr ho)⟩).trans ((hS8.out.block q hlt)))
     have HOUT3 := Lib.hid hout3
     have HDO3 := Lib.hid (show ∀ q, (D q ∨ (w2.heap.size ≤ q ∧ q < m)) ∨ (O q ∨ (m ≤ q ∧ q < w3.heap.size)) → W.heap.size ≤ q from fun q hq => by
      have h1 := HBW.out.size
      have h2 := hS8.out.size
      have h3 := HM.out.1
      rcases hq with (hq | hq) | (hq | hq)
      · exact HDO.out q (.inl hq)
      · omega
      · exact HDO.out q (.inr hq)
      · omega)
     have HOV3 := Lib.hid (show ∀ q, Value.ownBlock (.slice Ao no co) = some q → ¬ ((D q ∨ (w2.heap.size ≤ q ∧ q < m)) ∨ (O q ∨ (m ≤ q ∧ q < w3.heap.size))) from fun q hq hh => by
      obtain ⟨css, _, h2, _⟩ := HOUT.out
      have hlt := (h2.lt _ hq).2
      have h3 := HM.out.1
      have h4 := hS8.out.size
      rcases hh with (hh | hh) | (hh | hh)
      · exact HOV.out q hq (.inl hh)
      · omega
      · exact HOV.out q hq (.inr hh)
      · omega)
     clear hJ3 hf3 hm1 hm2 hfB hout3 hbW3
     by_cases hR0 : R = 0
     case neg =>
      have hRb : (R == 0) = false := by simpa using hR0
      have hRc : (R != R) = false := by simp
      have HJ4 := Lib.hid (show JC w3 _ _ J g ES from by have h := HJ3.out; rw [if_neg hR0] at h; exact h)
      have HA3 := Lib.hid (show accJ g (l.take (k + 1)) = ES from HACC2.out.trans (if_neg hR0))
      clear hR0
      go_wp2_with fail
      go_roundw
      case rel => exact ⟨k + 1, _, _, by omega, by go_num, HBW3.out, by rw [HA3.out]; exact HJ4.out, HDO3.out, by rw [HA3.out]; exact HOUT3.out, HOV3.out⟩
      case measure => first | exact meas_v hlt | (simp only [intOf]; omega)
     case pos =>
      have hRb : (R == 0) = true := by simpa using hR0
      have hRc : (R != R) = false := by simp
      have HJ4 := Lib.hid (show JC w3 _ _ J g (ES ++ [⟨xi, xe, xd, xk, xo, xt, ls⟩]) from by have h := HJ3.out; rw [if_pos hR0] at h; exact h)
      have HA3 := Lib.hid (show accJ g (l.take (k + 1)) = ES ++ [⟨xi, xe, xd, xk, xo, xt, ls⟩] from HACC2.out.trans (if_pos hR0))
      have hbw3 := HB1h.out.trans (HBW3.out.mono HB1h.out.size)
      have HAR3 := Lib.hid ((HAT0.out.fr (Fr.ofBelow hbw3)).range)
      obtain ⟨css, hc1, hc2, hc3, hc4⟩ := HOUT3.out
      have HC2 := Lib.hid hc2
      have HEL2 := HEL.out
      have hszW := HBW3.out.size
      clear hR0
      obtain ⟨eln, heln⟩ : ∃ e, ES.length = e := ⟨_, rfl⟩
      rw [heln] at HC2 HEL2
      have HELN := Lib.hid heln
      clear heln hc2
      go_wp2_with (first | (show wpList _ _ _ (Oper.mk (some 63) _ _ _ _ _ :: _) _ _; refine wpList_load_mid rfl 42 (.tmp 62) rfl b (o + k * 7) rfl [.int .i64 xi, .int .i64 xe, .int .i64 xd, .int .i64 xk, .int .i64 xo, .string xt, .slice Al nl cl] _ HAR3.out Try.underlying42 rfl info_entry ?_) | (at_builtin; go_loud (refine wpList_app _ rfl (.tmp 59) (.tmp 64) 44 rfl W.heap.size 42 ia _ 7 80 entries_uty hia hzia hsia hbia rfl (by decide) (.slice Ao no co) eln css.flatten rfl (HC2.out.alloc _) (fun _ => True) (some ⟨w3.heap.size, 0, none⟩) 1 1 [.int .i64 xi, .int .i64 xe, .int .i64 xd, .int .i64 xk, .int .i64 xo, .string xt, .slice Al nl cl] rfl (rd_new (heap_alloc_new _ _) rfl) (by simp [Value.oneCell']) (by simp only [maxLen]; omega) (by omega) (by simp; omega) ?_); intro v9 w9 hown9 hg9 hat9))
      go_roundw
      case rel =>
       have hfr9 : Fr (fun q => q < w3.heap.size ∧ Value.ownBlock (.slice Ao no co) ≠ some q) w3 w9 := ((Fr.refl _ w3).alloc (fun q hq => hq.1) _).grown hg9 (fun q hq => hq.1) (fun q h1 h2 => h2.2 h1)
       have hlt4 := HJ4.out.ltDO
       have hoB : ∀ q, Value.ownBlock (.slice Ao no co) = some q → W.heap.size ≤ q := fun q hq => (HC2.out.lt _ hq).1
       have hfB9 : Fr (fun q => q < W.heap.size) w3 w9 := hfr9.mono (fun q hq => ⟨by omega, fun e => by have := hoB q e; omega⟩)
       refine ⟨k + 1, _, _, by omega, by go_num, ((Fr.ofBelow HBW3.out).trans hfB9).below, by rw [HA3.out]; exact HJ4.out.fr (hfr9.mono (fun q hq => ⟨hlt4 q hq, fun e => HOV3.out q e hq⟩)), HDO3.out, ?_, fun q hq hh => ?_⟩
       · rw [HA3.out]
         refine ⟨css ++ [[.int .i64 xi, .int .i64 xe, .int .i64 xd, .int .i64 xk, .int .i64 xo, .string xt, .slice Al nl cl]], by simp [hc1], by rw [List.length_append, HELN.out, List.flatten_append, List.flatten_singleton]; exact hown9, fun cs hc => ?_, fun i y hy => ?_⟩
         · rcases List.mem_append.1 hc with hc | hc
           · exact hc3 cs hc
           · simp at hc
             subst hc
             rfl
         · rcases Nat.lt_or_ge i ES.length with h1 | h1
           · rw [List.getElem?_append_left h1] at hy
             obtain ⟨cs, k1, k2⟩ := hc4 i y hy
             exact ⟨cs, by rw [List.getElem?_append_left (by omega)]; exact k1, EntryC.fr k2 hfB9⟩
           · have h2 : i = ES.length := by
              have := (List.getElem?_eq_some_iff.1 hy).1
              simp at this
              omega
             subst h2
             simp at hy
             subst hy
             refine ⟨[.int .i64 xi, .int .i64 xe, .int .i64 xd, .int .i64 xk, .int .i64 xo, .string xt, .slice Al nl cl], by rw [← hc1]; simp, ?_⟩
             have hxc := EntryC.mono (EntryC.fr HXC.out ((Fr.ofBelow hbw3).trans (hfB9.mono (fun q hq => by have := HS1; omega)))) (Q' := fun q => q < W.heap.size) (fun q hq => by have := HS1; omega)
             simp only [HNL.out] at hxc
             exact hxc
       · rcases hat9 with e | e
         · exact HOV3.out q (by rw [← e]; exact hq) hh
         · rw [e] at hq
           injection hq with hq
           have h1 := hlt4 q hh
           simp at hq
           omega
      case measure => first | exact meas_v hlt | (simp only [intOf]; omega)
  case neg =>
   have hltI : ¬ (k : Int) < (n : Int) := by omega
   have hta : l.take k = l := List.take_of_length_le (by rw [HN.out]; omega)
   rw [hta] at HJC HOUT
   obtain ⟨css, hc1, hc2, hc3, hc4⟩ := HOUT.out
   obtain rfl := own_val hc2
   have hlt4 := HJC.out.ltDO
   have hL : ListC EntryC 7 wr (fun q => q < wr.heap.size ∧ ¬ (D q ∨ O q)) [.slice Ao (accJ g l).length co] (accJ g l) := own_list hc3 hc2 (fun i x hx => by
    obtain ⟨cs, k1, k2⟩ := hc4 i x hx
    exact ⟨cs, k1, EntryC.mono k2 (fun q hq => ⟨Nat.lt_of_lt_of_le hq hbW.size, fun hh => by have := HDO.out q hh; omega⟩)⟩) (fun q hq => ⟨(hc2.lt _ hq).2, HOV.out q hq⟩)
   have HLL := Lib.hid hL
   have HHH := Lib.hid hbW
   clear hL hlt4 hc1 hc2 hc3 hc4 hta hJC hout hov hDO hbW
   obtain ⟨na, hna⟩ : ∃ na, (accJ g l).length = na := ⟨_, rfl⟩
   have HNA := Lib.hid hna
   rw [hna]
   clear hna
   go_wp2_with fail
   go_ret3
   refine ⟨HBR.out, .inr ⟨HT.out, J, D, O, Ao, co, by rw [HNA.out]; first | done | rfl | simp, HJC.out, fun q hq => ?_, HLL.out⟩⟩
   have := HDO.out q hq
   have := HS1
   omega
end Go.Proofs.Ytebdajkknkapcaa
namespace Go.Proofs.Ytebdajkknkapcaa
open Go Go.RowKit
set_option maxHeartbeats 1000000 in
theorem reversal_c (D O : Nat → Prop) (J : Nat) (g : XGroup) (es : List XEntry) (id : Int) (w : World) (hj : JC w D O J g es) (hid : intBd id) : Calls Try.prog 21 #[.pointer (some ⟨J, 0, none⟩), .int .i64 id] w (Quiet w (.tuple #[.int .i64 (revId es id), .bool (decide (revId es id ≠ 0))])) := by
 obtain ⟨gl, css, v, bi, br, hj⟩ := hj
 have c23 := hj.cell.2.2
 have HRX := Lib.hid hj.rev
 obtain ⟨rv, hrv⟩ : ∃ rv, revId es id = rv := ⟨_, rfl⟩
 have HRO := Lib.hid (show revO es id = if rv = 0 then none else some rv by unfold revO; rw [hrv])
 rw [hrv]
 have HID := Lib.hid hid
 clear hj hrv hid
 go_enter Try.func21, Try.ntmps21
 by_cases h0 : rv = 0
 case pos =>
  have hf := Lib.hid (show revO es id = none from HRO.out.trans (if_pos h0))
  subst h0
  go_wp2_with (at_lookup; refine wpList_look_o rfl _ _ rfl br _ (revO es) rfl HRX.out id rfl HID.out ?_; rw [hf.out])
  go_ret2
  exact ⟨by first | rfl | simp, Below.refl _ _⟩
 case neg =>
  have hf := Lib.hid (show revO es id = some rv from HRO.out.trans (if_neg h0))
  have h1 := Lib.hid h0
  clear h0
  go_wp2_with (at_lookup; refine wpList_look_o rfl _ _ rfl br _ (revO es) rfl HRX.out id rfl HID.out ?_; rw [hf.out])
  go_ret2
  exact ⟨by simp [h1.out], Below.refl _ _⟩
set_option maxHeartbeats 4000000 in
theorem rreverse_c (xi xe xd xk xo : Int) (xt : ByteArray) (ls : List XLine) (Al : Option Addr) (cl : Nat) (nid nd : Int) (w : World) (hl : ListC LineC 3 w (· < w.heap.size) [.slice Al ls.length cl] ls) (hm : ∀ x ∈ ls, midL x) (hn : ls.length ≤ 1000) : Calls Try.prog 24 #[.agg #[.int .i64 xi, .int .i64 xe, .int .i64 xd, .int .i64 xk, .int .i64 xo, .string xt, .slice Al ls.length cl], .int .i64 nid, .int .i64 nd] w (RevPost nid nd ⟨xi, xe, xd, xk, xo, xt, ls⟩ w) := by
 obtain ⟨ia, hia, hzia, hsia, hbia⟩ := info_parts info_lineA
 have HL := Lib.hid hl
 have HMD := Lib.hid hm
 obtain ⟨nl, hnl⟩ : ∃ n, ls.length = n := ⟨_, rfl⟩
 have HN := Lib.hid hnl
 rw [hnl] at hn ⊢
 clear hl hm hnl
 go_enter Try.func24, Try.ntmps24
 go_upto_region 1 with fail
 have H := heap_alloc_new w (.cells #[.int .i64 xi, .int .i64 xe, .int .i64 xd, .int .i64 xk, .int .i64 xo, .string xt, .slice Al nl cl] 42)
 have HB := below1 w (.cells #[.int .i64 xi, .int .i64 xe, .int .i64 xd, .int .i64 xk, .int .i64 xo, .string xt, .slice Al nl cl] 42)
 have HS : w.heap.size < (w.alloc (.cells #[.int .i64 xi, .int .i64 xe, .int .i64 xd, .int .i64 xk, .int .i64 xo, .string xt, .slice Al nl cl] 42)).heap.size := blk_lt H
 generalize hW : w.alloc (Obj.cells #[.int .i64 xi, .int .i64 xe, .int .i64 xd, .int .i64 xk, .int .i64 xo, .string xt, .slice Al nl cl] 42) = W at *
 have H2 := heap_alloc_new W (.cells #[.int .i64 0, .int .i64 0, .int .i64 0, .int .i64 0, .int .i64 0, .string ⟨#[]⟩, .slice none 0 0] 42)
 have HB2 := below1 W (.cells #[.int .i64 0, .int .i64 0, .int .i64 0, .int .i64 0, .int .i64 0, .string ⟨#[]⟩, .slice none 0 0] 42)
 have HS2 : W.heap.size < (W.alloc (.cells #[.int .i64 0, .int .i64 0, .int .i64 0, .int .i64 0, .int .i64 0, .string ⟨#[]⟩, .slice none 0 0] 42)).heap.size := blk_lt H2
 replace H := alloc_keep H (Obj.cells #[.int .i64 0, .int .i64 0, .int .i64 0, .int .i64 0, .int .i64 0, .string ⟨#[]⟩, .slice none 0 0] 42)
 generalize hW2 : W.alloc (Obj.cells #[.int .i64 0, .int .i64 0, .int .i64 0, .int .i64 0, .int .i64 0, .string ⟨#[]⟩, .slice none 0 0] 42) = W2 at *
 clear hW2
 have eW : W.heap.size = w.heap.size + 1 := by rw [← hW]; simp
 rw [eW] at H2
 clear hW
 have hb2 := HB.trans (HB2.mono HB.size)
 have hs2 := HB2.size
 have LT1 := blk_lt H2
 have LT0 : w.heap.size < W2.heap.size := by omega
 have HH := Lib.hid H
 have HZ := Lib.hid H2
 have EW := Lib.hid eW
 clear H H2 eW
 have c0 := blk_cell HH.out 0
 have c1 := blk_cell HH.out 1
 have c5 := blk_cell HH.out 5
 go_upto_region 2 with (show wpList _ _ _ (Oper.mk none (Op.store _ (Operand.tmp 7) _) _ _ _ _ :: _) _ _; refine wpList_store_fresh3 rfl 42 (.tmp 7) (.tmp 18) rfl rfl W2 #[.int .i64 0, .int .i64 0, .int .i64 0, .int .i64 0, .int .i64 0, .string ⟨#[]⟩, .slice none 0 0] 42 #[.int .i64 nid, .int .i64 xe, .int .i64 nd, .int .i64 3, .int .i64 xi, .string xt, .slice none 0 0] rfl rfl rfl info_entry rfl (by simp [Value.oneCell']) ?_; intro W3 H3 HB3 HS3)
 have HE3 := Lib.hid H3
 have HH3 := Lib.hid ((HB3.block _ LT0).trans HH.out)
 have HZ3 := Lib.hid ((HB3.block _ LT1).trans HZ.out)
 have hb03 := hb2.trans (HB3.mono hb2.size)
 have c6 := blk_cell HH3.out 6
 clear H3 c0 c1 c5
 clear c6
 go_wp2_with fail
 go_loopw [8] (fun i wr => ∃ (k : Nat) (v : Value), k ≤ nl ∧ i = .int .i64 (k : Int) ∧ Fr (QX W3.heap.size W2.heap.size) W3 wr ∧ wr.heap[W2.heap.size]? = some (.cells #[.int .i64 nid, .int .i64 xe, .int .i64 nd, .int .i64 3, .int .i64 xi, .string xt, v] 42 (0, 0)) ∧ wr.ownsRow W3.heap.size 64 3 v k (((ls.take k).map negL).flatMap lineL)) (fun i _ => nl - (intOf i).toNat)
 case atStart => exact ⟨0, _, by omega, rfl, Fr.refl _ _, HE3.out, World.ownsRow_nil _ _ _ _⟩
 case round =>
  obtain ⟨k, v, hk, rfl, hfr, hE, how⟩ := hrel
  have HF := Lib.hid hfr
  have HEW := Lib.hid hE
  have HOW := Lib.hid how
  have hsz := hfr.size
  have c6 := blk_cell ((HF.out.block w.heap.size ⟨by have := HB3.size; omega, by omega⟩).trans HH3.out) 6
  by_cases hlt : k < nl
  case pos =>
   have hltI : (k : Int) < (nl : Int) := by omega
   have hkl : k < ls.length := by rw [HN.out]; exact hlt
   obtain ⟨b, o, es, hAe, hbw, hes, hat⟩ := ListC.get HL.out k hkl
   subst hAe
   have hes1 := (LineC.lit hes).1
   rw [hes1] at hat
   have hmd := HMD.out _ (List.getElem_mem hkl)
   have HST := Lib.hid (neg_step hkl)
   obtain ⟨x, hx⟩ : ∃ x, ls[k] = x := ⟨_, rfl⟩
   rw [hx] at hat hmd HST
   obtain ⟨la, lm, lp⟩ := x
   obtain ⟨hm1, hm2⟩ := hmd
   try simp only at hat hm1 hm2
   have hbl : b < W2.heap.size := by have := HB.size; have := HB2.size; have := LT0; show b < _; exact Nat.lt_of_lt_of_le hbw hb2.size
   have HAR := Lib.hid (((hat.fr (Fr.ofBelow hb03)).fr (HF.out.mono (fun q (hq : q < w.heap.size) => ⟨by have := hb03.size; omega, by have := hb2.size; omega⟩))).range)
   clear hes hes1 hat hx hfr
   go_upto_region 6 with (show wpList _ _ _ (Oper.mk (some 30) _ _ _ _ _ :: _) _ _; refine wpList_load_mid rfl 64 (.tmp 29) rfl b (o + k * 3) rfl [.int .i64 la, .int .i64 lm, .int .i64 lp] _ HAR.out Try.underlying64 rfl info_line ?_)
   have H6 := heap_alloc_new wr (.cells #[.int .i64 la, .int .i64 lm, .int .i64 lp] 64)
   have HB6 := below1 wr (.cells #[.int .i64 la, .int .i64 lm, .int .i64 lp] 64)
   have HS6 : wr.heap.size < (wr.alloc (.cells #[.int .i64 la, .int .i64 lm, .int .i64 lp] 64)).heap.size := blk_lt H6
   have HE6 := alloc_keep hE (.cells #[.int .i64 la, .int .i64 lm, .int .i64 lp] 64)
   have HOX := how.alloc (.cells #[.int .i64 la, .int .i64 lm, .int .i64 lp] 64)
   generalize hW6 : wr.alloc (Obj.cells #[.int .i64 la, .int .i64 lm, .int .i64 lp] 64) = W6 at *
   clear hW6
   have q1 := blk_cell H6 1
   have q2 := blk_frozen H6 1
   have HEN := Lib.hid HE6
   have HOX6 := Lib.hid HOX
   have HK6 := Lib.hid H6
   have hb6 := HB6
   clear H6 hE how HE6 HOX
   go_upto_region 7 with fail
   have H7 := heap_setCell_same HK6.out 1 (.int .i64 (-lm))
   have HB7 : Below wr.heap.size wr (W6.setCell ⟨wr.heap.size, 1, none⟩ (.int .i64 (-lm))) := HB6.setCell (p := ⟨wr.heap.size, 1, none⟩) (Nat.le_refl _) _
   have HE7 := (Below.heap_setCell W6 ⟨wr.heap.size, 1, none⟩ (.int .i64 (-lm)) W2.heap.size (by show W2.heap.size ≠ wr.heap.size; omega)).trans HEN.out
   have HO7 := own_same (w' := W6.setCell ⟨wr.heap.size, 1, none⟩ (.int .i64 (-lm))) HOX6.out (fun g hg => Below.heap_setCell W6 ⟨wr.heap.size, 1, none⟩ _ g (by show g ≠ wr.heap.size; have := (HOW.out.lt _ hg).2; omega))
   generalize W6.setCell ⟨wr.heap.size, 1, none⟩ (.int .i64 (-lm)) = W7 at *
   have HK7 := Lib.hid (show W7.heap[wr.heap.size]? = some (.cells #[.int .i64 la, .int .i64 (-lm), .int .i64 lp] 64 (0, 0)) from H7)
   have HEN7 := Lib.hid HE7
   have HOW7 := Lib.hid HO7
   have HBB7 := Lib.hid HB7
   have hsz7 := HB7.size
   clear H7 HE7 HO7 HB7 q1 q2
   have d6 := blk_cell HEN7.out 6
   have NEO := Lib.hid (show some W2.heap.size ≠ v.ownBlock from fun e => by have := (HOW7.out.lt _ e.symm).1; omega)
   go_wp2_with (first | (show wpList _ _ _ (Oper.mk (some 37) _ _ _ _ _ :: _) _ _; refine wpList_load_row_g rfl 64 (.tmp 9) rfl wr.heap.size rfl _ _ _ _ HK7.out Try.underlying64 rfl info_line ?_) | (at_builtin; go_loud (refine wpList_app _ rfl (.tmp 36) (.tmp 38) 40 rfl W3.heap.size 64 ia _ 3 24 lines_uty hia hzia hsia hbia rfl (by decide) v k (((ls.take k).map negL).flatMap lineL) rfl (HOW7.out.alloc _) (fun _ => True) (some ⟨W7.heap.size, 0, none⟩) 1 1 [.int .i64 la, .int .i64 (-lm), .int .i64 lp] rfl (rd_new (heap_alloc_new _ _) rfl) (by simp [Value.oneCell']) (by simp only [maxLen]; omega) (by omega) (by simp; omega) ?_); intro v9 w9 hown9 hg9 hat9; obtain ⟨A9, n9, c9, rfl⟩ := own_shape hown9; have hE9 := (hg9.block W2.heap.size (by simp; omega) NEO.out).trans (alloc_keep HEN7.out _); have s6 := blk_cell hE9 6; have s7 := blk_frozen hE9 6))
   go_roundw
   case rel =>
    obtain ⟨a1, _, a3, _⟩ := ent_step (i := 6) (eB := 64) (sB := 3) (nB := 0) (xsB := []) (vB := .slice none 0 0) HS3 HF.out (HBB7.out.alloc (by omega) _) hg9 (fun g hg => (HOW7.out.lt _ hg).1) (World.ownsRow_nil _ _ _ _) (fun g _ h => by cases h) hat9 hown9
    refine ⟨k + 1, .slice A9 n9 c9, by omega, by go_num, a3, heap_setCell_same hE9 6 _, ?_⟩
    rw [HST.out]
    exact a1
   case measure => first | exact meas_v hlt | (simp only [intOf]; omega)
  case neg =>
   have hltI : ¬ (k : Int) < (nl : Int) := by omega
   have hkn : k = nl := by omega
   subst hkn
   have HZR := Lib.hid ((HF.out.block (w.heap.size + 1) ⟨by have := HB3.size; omega, by omega⟩).trans HZ3.out)
   have hbW : Below w.heap.size w wr := ((Fr.ofBelow hb03).trans (HF.out.mono (fun q (hq : q < w.heap.size) => ⟨by have := hb03.size; omega, by have := hb2.size; omega⟩))).below
   have HBW := Lib.hid hbW
   have hsw := hbW.size
   have hlen : ((ls.take k).map negL).length = k := by rw [List.length_map, List.length_take]; have := HN.out; omega
   have hall : (ls.take k) = ls := List.take_of_length_le (by rw [HN.out]; omega)
   have HLC := Lib.hid (own_listC (El := LineC) (f := lineL) (Q := fun q => w.heap.size ≤ q ∧ q < wr.heap.size) (xs := ls.map negL) (fun _ => rfl) (by rw [List.length_map, HN.out]; have h := HOW.out; rw [hall] at h; exact h) (fun x hx => by
    obtain ⟨y, hy, rfl⟩ := List.mem_map.1 hx
    obtain ⟨j, hj, rfl⟩ := List.getElem_of_mem hy
    have hb := line_bd HL.out hj
    have hm := HMD.out _ hy
    exact ⟨[_], [_], [_], rfl, ⟨rfl, hb.1⟩, ⟨rfl, by have h1 := hm.1; have h2 := hm.2; show intBd (-ls[j].amount); unfold intBd; omega⟩, ⟨rfl, hb.2.2⟩⟩) (fun g hg => ⟨by have := (HOW.out.lt _ hg).1; have := hb03.size; omega, (HOW.out.lt _ hg).2⟩) (by rw [List.length_map, HN.out]; exact hn))
   obtain ⟨A9, c9, rfl⟩ : ∃ A9 c9, v = .slice A9 k c9 := by
    obtain ⟨A9, c9, e, _⟩ := HLC.out
    rw [List.length_map, HN.out] at e
    exact ⟨A9, c9, by simpa using e⟩
   have hkE := Lib.hid hall
   clear hlen hall hfr hE how hbW
   go_wp2_with (first | (show wpList _ _ _ (Oper.mk (some 41) _ _ _ _ _ :: _) _ _; refine wpList_load_row_g rfl 42 (.tmp 7) rfl W2.heap.size rfl _ _ _ _ HEW.out Try.underlying42 rfl info_entry ?_) | (show wpList _ _ _ (Oper.mk none (Op.store _ (Operand.tmp 6) _) _ _ _ _ :: _) _ _; refine wpList_store_row rfl 42 (.tmp 6) (.tmp 41) rfl (w.heap.size + 1) #[.int .i64 nid, .int .i64 xe, .int .i64 nd, .int .i64 3, .int .i64 xi, .string xt, .slice A9 k c9] rfl rfl 42 #[.int .i64 0, .int .i64 0, .int .i64 0, .int .i64 0, .int .i64 0, .string ⟨#[]⟩, .slice none 0 0] HZR.out (by rw [info_entry]; rfl) rfl (by simp [Value.oneCell']) ?_))
   refine bodyPost_ret (v := _) (results_cell rfl _ _ (w.heap.size + 1) 42 _ (0, 0) _ rfl (heap_setRow HZR.out _) Try.underlying42 rfl info_entry) rfl ?_
   refine ⟨A9, c9, by rw [HN.out], ?_, below_setRow HBW.out (by omega) _⟩
   have hfr2 := fr_setRow wr (w.heap.size + 1) #[.int .i64 nid, .int .i64 xe, .int .i64 nd, .int .i64 3, .int .i64 xi, .string xt, .slice A9 k c9]
   have hss : (wr.setRow (w.heap.size + 1) #[.int .i64 nid, .int .i64 xe, .int .i64 nd, .int .i64 3, .int .i64 xi, .string xt, .slice A9 k c9]).heap.size = wr.heap.size := by simp
   have hk3 := own_same (w' := wr.setRow (w.heap.size + 1) #[.int .i64 nid, .int .i64 xe, .int .i64 nd, .int .i64 3, .int .i64 xi, .string xt, .slice A9 k c9]) HOW.out (fun g hg => hfr2.block g (by show g ≠ w.heap.size + 1; have := (HOW.out.lt _ hg).1; have := HB3.size; omega))
   rw [hkE.out] at hk3
   show ListC LineC 3 _ _ [.slice A9 ls.length c9] (ls.map negL)
   rw [HN.out]
   refine own_listC (El := LineC) (f := lineL) (xs := ls.map negL) (fun _ => rfl) (by rw [List.length_map, HN.out]; exact hk3) (fun x hx => by
    obtain ⟨y, hy, rfl⟩ := List.mem_map.1 hx
    obtain ⟨j, hj, rfl⟩ := List.getElem_of_mem hy
    have hb := line_bd HL.out hj
    have hm := HMD.out _ hy
    exact ⟨[_], [_], [_], rfl, ⟨rfl, hb.1⟩, ⟨rfl, by have h1 := hm.1; have h2 := hm.2; show intBd (-ls[j].amount); unfold intBd; omega⟩, ⟨rfl, hb.2.2⟩⟩) (fun g hg => ⟨by have := (HOW.out.lt _ hg).1; have := hb03.size; omega, by rw [hss]; exact (HOW.out.lt _ hg).2⟩) (by rw [List.length_map, HN.out]; exact hn)
end Go.Proofs.Ytebdajkknkapcaa
namespace Go.Proofs.Ytebdajkknkapcaa
open Go Go.RowKit
theorem pigeon (s : Nat) : ∀ (n : Nat) (es : List XEntry), (∀ j : Nat, s + 1 ≤ j → j ≤ s + n → ∃ x ∈ es, x.id = (j : Int)) → n ≤ es.length
 | 0, es, _ => Nat.zero_le _
 | n + 1, es, h => by
  obtain ⟨x, hx, hid⟩ := h (s + n + 1) (by omega) (by omega)
  obtain ⟨a, b, rfl⟩ := List.append_of_mem hx
  have := pigeon s n (a ++ b) (fun j h1 h2 => by
   obtain ⟨y, hy, hyd⟩ := h j h1 (by omega)
   rcases List.mem_append.1 hy with hy | hy
   · exact ⟨y, List.mem_append_left _ hy, hyd⟩
   · rcases List.mem_cons.1 hy with rfl | hy
     · rw [hyd] at hid; omega
     · exact ⟨y, List.mem_append_right _ hy, hyd⟩)
  simp at this ⊢
  omega
theorem getI_ge {es : List XEntry} {id : Int} : (0 ≤ getI es id ∧ ∃ x ∈ es, x.id = id) ∨ (getI es id < 0 ∧ idxE es id = none) := by
 unfold getI
 cases h : idxE es id with
 | none => exact .inr ⟨by show (-1 : Int) < 0; omega, rfl⟩
 | some k =>
  obtain ⟨hk, hid⟩ := idxE_some h
  exact .inl ⟨by show (0 : Int) ≤ (k : Int); omega, _, List.getElem_mem hk, hid⟩
theorem okJ_idx {g : XGroup} {es : List XEntry} (h : okJ g es) {i : Nat} (hi : i < es.length) : idxE es es[i].id = some i := by
 unfold idxE
 rw [List.findIdx?_eq_some_iff_getElem]
 refine ⟨hi, by simp, fun j hj => ?_⟩
 have h1 := (postE_ok (h i hi)).2.1
 have h2 := idxE_none h1 es[j] (by
  rw [List.mem_take_iff_getElem]
  exact ⟨j, by omega, rfl⟩)
 simpa using h2
theorem okJ_mem {g : XGroup} {es : List XEntry} (h : okJ g es) {x : XEntry} (hx : x ∈ es) : ∃ k, idxE es x.id = some k ∧ es[k]? = some x := by
 obtain ⟨i, hi, rfl⟩ := List.getElem_of_mem hx
 exact ⟨i, okJ_idx h hi, List.getElem?_eq_getElem hi⟩
def wantB (g : XGroup) (es : List XEntry) (x : XEntry) (d : Int) : Bool := decide (x.kind ≠ 3) && decide (revId es x.id = 0) && inCalB g.calendar.year g.calendar.month g.calendar.periods d && decide (x.date ≤ d)
theorem oppB_rev (l : List XLine) : oppB (l.map negL) l = true := by unfold oppB; simp
theorem rvsE_rev {g : XGroup} {es : List XEntry} {x : XEntry} {id d : Int} (hok : okJ g es) (hx : x ∈ es) : rvsE es (revE x id d) = if x.kind = 3 ∨ revId es x.id ≠ 0 then 7 else if d < x.date then 18 else 0 := by
 obtain ⟨k, h1, h2⟩ := okJ_mem hok hx
 rw [rvsE_some (x := revE x id d) h1 h2]
 show (if x.kind = 3 ∨ revId es x.id ≠ 0 then 7 else if x.entity ≠ x.entity ∨ d < x.date ∨ oppB (x.lines.map negL) x.lines = false then 18 else 0) = _
 rw [oppB_rev]
 by_cases h3 : x.kind = 3 ∨ revId es x.id ≠ 0
 · rw [if_pos h3, if_pos h3]
 · rw [if_neg h3, if_neg h3]
   by_cases h4 : d < x.date
   · rw [if_pos (.inr (.inl h4)), if_pos h4]
   · rw [if_neg (fun h => by rcases h with h | h | h; exact h rfl; exact h4 h; cases h), if_neg h4]
theorem post_rev {g : XGroup} {es : List XEntry} {x : XEntry} {id : Int} (d : Int) (hok : okJ g es) (hx : x ∈ es) (hid : 1 ≤ id) (hnew : idxE es id = none) (hlen : es.length < 2000) : decide (postE g es (revE x id d) = 0) = wantB g es x d := by
 have hc := checkE_rev (nid := id) d (okJ_check hok hx) hid
 unfold wantB
 by_cases h1 : inCalB g.calendar.year g.calendar.month g.calendar.periods d = true
 · rw [if_pos h1] at hc
   rw [h1]
   by_cases h2 : rvsE es (revE x id d) = 0
   · rw [postE_4 hc hnew (fun _ => h2), if_neg (by omega)]
     rw [rvsE_rev hok hx] at h2
     split at h2
     · exact absurd h2 (by decide)
     · rename_i h3
       split at h2
       · exact absurd h2 (by decide)
       · rename_i h4
         have h5 : x.kind ≠ 3 := fun e => h3 (.inl e)
         have h6 : revId es x.id = 0 := Decidable.byContradiction fun e => h3 (.inr e)
         simp [h5, h6]
         omega
   · rw [postE_3 hc hnew rfl rfl h2]
     have h7 : decide (rvsE es (revE x id d) = 0) = false := decide_eq_false h2
     rw [h7]
     rw [rvsE_rev hok hx] at h2
     symm
     by_cases h3 : x.kind = 3 ∨ revId es x.id ≠ 0
     · rcases h3 with h3 | h3
       · simp [h3]
       · simp [h3]
     · rw [if_neg h3] at h2
       by_cases h4 : d < x.date
       · have : decide (x.date ≤ d) = false := decide_eq_false (by omega)
         rw [this, Bool.and_false]
       · rw [if_neg h4] at h2
         exact absurd rfl h2
 · rw [if_neg h1] at hc
   rw [postE_1 hc (by decide)]
   simp [h1]
theorem post_again {g : XGroup} {es : List XEntry} {x : XEntry} {id id2 d : Int} (hok : okJ g es) (hx : x ∈ es) (hp : postE g es (revE x id d) = 0) (hid : 1 ≤ id) (hid2 : id < id2) (hnew : idxE es id2 = none) : postE g (es ++ [revE x id d]) (revE x id2 x.date) = 7 ∧ revId (es ++ [revE x id d]) x.id = id := by
 have hok2 := okJ_snoc hok hp
 have hx2 : x ∈ es ++ [revE x id d] := List.mem_append_left _ hx
 have hc := checkE_rev (nid := id2) x.date (okJ_check hok hx) (by omega)
 rw [if_pos (checkE_ok (okJ_check hok hx)).2.2.1] at hc
 have h0 := rvsE_k ((postE_ok hp).2.2.1 rfl)
 have hr : revId (es ++ [revE x id d]) x.id = id := by
  rw [revId_snoc _ _ _ (fun y hy => checkE_id (okJ_check hok hy)), if_pos (show revId es x.id = 0 from h0), if_pos ⟨rfl, rfl⟩]
  rfl
 refine ⟨?_, hr⟩
 have hn : idxE (es ++ [revE x id d]) id2 = none := by
  rw [idxE_snoc, hnew]
  show (if id = id2 then _ else none) = none
  rw [if_neg (by omega)]
 refine postE_3 hc hn rfl ?_ (by decide)
 rw [rvsE_rev hok2 hx2, if_pos (.inr (by rw [hr]; omega))]
end Go.Proofs.Ytebdajkknkapcaa
namespace Go.Proofs.Ytebdajkknkapcaa
open Go Go.RowKit
theorem meas_m {m n : Nat} (h : m ≤ n) (h2 : n ≤ 61) : n + 2 - (intOf (.int .i64 ((m : Int) + 1 + 1))).toNat < n + 2 - (intOf (.int .i64 ((m : Int) + 1))).toNat := by
 simp only [intOf]
 omega
theorem meas_q {m q n : Nat} (h : q ≤ n) : n + m + 3 - (intOf (.int .i64 ((m : Int) + 2 + (q : Int) + 1))).toNat < n + m + 3 - (intOf (.int .i64 ((m : Int) + 2 + (q : Int)))).toNat := by
 simp only [intOf]
 omega
set_option maxHeartbeats 16000000 in
theorem law_journalReverse (g : XGroup) (l : List XEntry) (gl : List Value) (A : Option Addr) (c : Nat) (a0 a1 a2 : Int) (w : World) (hg : GroupC w (· < w.heap.size) gl g) (hsz : szG g) (hl : ListC EntryC 7 w (· < w.heap.size) [.slice A l.length c] l) (hts : ∀ x ∈ l, x.text.size ≤ 140737488355327) (hab : intBd a0 ∧ intBd a1 ∧ intBd a2) :
 Calls Try.prog 4 #[.agg gl.toArray, .slice A l.length c, .agg #[.int .i64 a0, .int .i64 a1, .int .i64 a2]] w (Quiet w (.bool true)) := by
 have HFEW := Lib.hid (fun (w2 : World) (hb : Below w.heap.size w w2) => few12_c g l gl A c w2 (hg.keep hb) hsz (entries_keep hl hb) hts)
 have HPST := Lib.hid (fun (w2 : World) (hb : Below w.heap.size w w2) (hf : fewJ g l) => posted_c g l gl A c w2 (hg.keep hb) (entries_keep hl hb) hf)
 have HGS := Lib.hid (show gl.toArray.size = 21 by have := hg.len; simpa using this)
 obtain ⟨Ac0, cc0, Ae0, ce0, _, _, _, v1, v2, v3, _, _⟩ := hg.view
 obtain ⟨yy, hyy⟩ : ∃ y, g.calendar.year = y := ⟨_, rfl⟩
 obtain ⟨mm, hmm⟩ : ∃ y, g.calendar.month = y := ⟨_, rfl⟩
 obtain ⟨pp, hpp⟩ : ∃ y, g.calendar.periods = y := ⟨_, rfl⟩
 have VY := Lib.hid v1
 have VM := Lib.hid v2
 have VN := Lib.hid v3
 have HYY := Lib.hid hyy
 have HMM := Lib.hid hmm
 have HPP := Lib.hid hpp
 rw [hyy] at VY
 rw [hmm] at VM
 rw [hpp] at VN
 have HAB := Lib.hid hab
 obtain ⟨n, hnl⟩ : ∃ n, l.length = n := ⟨_, rfl⟩
 rw [hnl] at HFEW HPST ⊢
 obtain ⟨fw, hfw⟩ : ∃ p : Prop, fewJ g l = p := ⟨_, rfl⟩
 have HFW := Lib.hid hfw
 rw [hfw] at HFEW HPST
 obtain ⟨es, hes⟩ : ∃ es, accJ g l = es := ⟨_, rfl⟩
 have HAC := Lib.hid (accJ_ok g _ l rfl)
 rw [hes] at HAC
 have HES := Lib.hid hes
 clear hg hsz hl hts hnl hfw hes v1 v2 v3 hyy hmm hpp hab
 go_enter Try.func4, Try.ntmps4
 go_upto_region 1 with fail
 have H := heap_alloc_new w (.cells gl.toArray 29)
 have HB := below1 w (.cells gl.toArray 29)
 have HS : w.heap.size < (w.alloc (.cells gl.toArray 29)).heap.size := blk_lt H
 generalize hW : w.alloc (Obj.cells gl.toArray 29) = W at *
 have H2 := heap_alloc_new W (.cells #[.int .i64 a0, .int .i64 a1, .int .i64 a2] 31)
 have HB2 := below1 W (.cells #[.int .i64 a0, .int .i64 a1, .int .i64 a2] 31)
 have HS2 : W.heap.size < (W.alloc (.cells #[.int .i64 a0, .int .i64 a1, .int .i64 a2] 31)).heap.size := blk_lt H2
 replace H := alloc_keep H (Obj.cells #[.int .i64 a0, .int .i64 a1, .int .i64 a2] 31)
 generalize hW2 : W.alloc (Obj.cells #[.int .i64 a0, .int .i64 a1, .int .i64 a2] 31) = W2 at *
 clear hW2
 have eW : W.heap.size = w.heap.size + 1 := by rw [← hW]; simp
 rw [eW] at H2
 clear hW
 have hb2 := HB.trans (HB2.mono HB.size)
 have hs2 := HB2.size
 have LT1 := blk_lt H2
 have LT0 : w.heap.size < W2.heap.size := by omega
 have HH := Lib.hid H
 have HZ := Lib.hid H2
 have EW := Lib.hid eW
 clear H H2 eW
 have hb02 := hb2
 have LT02 := LT0
 have LT12 := LT1
 have HH2 := HH
 have HZ2 := HZ
 go_wp2_with fail
 refine (awake12_c W2).mono ?_
 rintro e w3 ⟨rfl, hb3⟩
 have hb03 := hb02.trans (hb3.mono hb02.size)
 have hs3 := hb3.size
 have LT03 := Nat.lt_of_lt_of_le LT02 hs3
 have LT13 := Nat.lt_of_lt_of_le LT12 hs3
 have HH3 := Lib.hid ((hb3.block _ LT02).trans HH2.out)
 have HZ3 := Lib.hid ((hb3.block _ LT12).trans HZ2.out)
 go_wp2_with (show wpList _ _ _ (Oper.mk (some 22) _ _ _ _ _ :: _) _ _; refine wpList_load_row_g rfl 29 (.tmp 3) rfl (w.heap.size) rfl _ _ _ _ HH3.out Try.underlying29 rfl (by rw [info_group]; exact congrArg some HGS.out.symm) ?_)
 refine (HFEW.out w3 hb03).mono ?_
 rintro e w4 ⟨bf, rfl, hf, hb4⟩
 have hb04 := hb03.trans (hb4.mono hb03.size)
 have hs4 := hb4.size
 have LT04 := Nat.lt_of_lt_of_le LT03 hs4
 have LT14 := Nat.lt_of_lt_of_le LT13 hs4
 have HH4 := Lib.hid ((hb4.block _ LT03).trans HH3.out)
 have HZ4 := Lib.hid ((hb4.block _ LT13).trans HZ3.out)
 cases bf with
 | false =>
  clear hf
  go_wp2_with fail
  go_ret
  exact ⟨rfl, hb04⟩
 | true =>
 have HFP := Lib.hid (hf rfl)
 clear hf
 go_wp2_with (show wpList _ _ _ (Oper.mk (some 27) _ _ _ _ _ :: _) _ _; refine wpList_load_row_g rfl 29 (.tmp 3) rfl (w.heap.size) rfl _ _ _ _ HH4.out Try.underlying29 rfl (by rw [info_group]; exact congrArg some HGS.out.symm) ?_)
 refine (HPST.out w4 hb04 HFP.out).mono ?_
 rintro e w5 ⟨hb5, hcase⟩
 have hb05 := hb04.trans (hb5.mono hb04.size)
 have hs5 := hb5.size
 have LT05 := Nat.lt_of_lt_of_le LT04 hs5
 have LT15 := Nat.lt_of_lt_of_le LT14 hs5
 have HH5 := Lib.hid ((hb5.block _ LT04).trans HH4.out)
 have HZ5 := Lib.hid ((hb5.block _ LT14).trans HZ4.out)
 rcases hcase with ⟨hF, rfl⟩ | ⟨hT, J, D, O, A9, c9, rfl, hJC, hDO, hout⟩
 case inl =>
  clear hF
  go_wp2_with fail
  go_ret
  exact ⟨rfl, hb05⟩
 case inr =>
 rw [HES.out] at hJC hout ⊢
 have HJC := Lib.hid hJC
 have HDO := Lib.hid hDO
 have HOUT := Lib.hid hout
 obtain ⟨n9, hn9⟩ : ∃ n, es.length = n := ⟨_, rfl⟩
 have HN9 := Lib.hid hn9
 have h61 : n9 ≤ 61 := by
  have h1 := HAC.out.2.1
  have h2 := (HFW.out ▸ HFP.out : fewJ g l).2.1
  omega
 rw [hn9]
 clear hT hJC hDO hout hn9
 by_cases h0 : n9 = 0
 case pos =>
  have h01 : ((n9 : Int) == 0) = true := by simp; omega
  clear h0
  go_wp2_with fail
  go_ret
  exact ⟨rfl, hb05⟩
 case neg =>
 have h01 : ((n9 : Int) == 0) = false := by simp; omega
 have z0 : w5.cell? ⟨w.heap.size + 1, 0, none⟩ = some (.int .i64 a0) := blk_cell HZ5.out 0
 by_cases ha0 : a0 < 0
 case pos =>
  have ha0d : decide (a0 < 0) = true := decide_eq_true ha0
  clear ha0 h0
  go_wp2_with fail
  go_ret
  exact ⟨rfl, hb05⟩
 case neg =>
 have ha0d : decide (a0 < 0) = false := decide_eq_false ha0
 have ha0n : 0 ≤ a0 := by omega
 have hnpos : 0 < (n9 : Int) := by omega
 have hnne : (n9 : Int) ≠ 0 := by omega
 go_upto_region 8 with fail
 have hm0 := Int.emod_nonneg a0 hnne
 have hm1 := Int.emod_lt_of_pos a0 hnpos
 obtain ⟨kq, hkq⟩ : ∃ q : Nat, a0 % (n9 : Int) = (q : Int) := ⟨(a0 % (n9 : Int)).toNat, by omega⟩
 have htm : a0.tmod (n9 : Int) = (kq : Int) := by rw [Int.tmod_eq_emod_of_nonneg ha0n]; exact hkq
 rw [hkq] at hm1
 have hkn : kq < n9 := by omega
 have hkl : kq < es.length := by rw [HN9.out]; exact hkn
 obtain ⟨b, o, cs, hAe, hbw, hxc, hat⟩ := ListC.get (n := es.length) HOUT.out kq hkl
 subst hAe
 have hxm : es[kq] ∈ es := List.getElem_mem hkl
 obtain ⟨x, hx⟩ : ∃ x, es[kq] = x := ⟨_, rfl⟩
 rw [hx] at hxc hxm
 have HXM := Lib.hid hxm
 obtain ⟨Al, cl, hcs, hxb, hls⟩ := EntryC.lit hxc
 subst hcs
 have HXB := Lib.hid hxb
 have HLSQ := Lib.hid hls
 have HLS := Lib.hid (ListC.mono hls (fun h => LineC.mono h (fun q hq => hq.1)) (fun q hq => hq.1))
 obtain ⟨xi, xe, xd, xk, xo, xt, ls⟩ := x
 simp only at hat HXB HLS HLSQ
 obtain ⟨nl, hnl⟩ : ∃ n, ls.length = n := ⟨_, rfl⟩
 have HNL := Lib.hid hnl
 rw [hnl] at hat
 have HAR := Lib.hid hat.range
 have hbl : b < w5.heap.size := hbw.1
 clear hxc hls hxb hat hnl hx hxm hkq hm0 hbw
 go_upto_region 9 with (first | (show wpList _ _ _ (Oper.mk (some 57) _ _ _ _ _ :: _) _ _; refine wpList_load_mid rfl 42 (.tmp 56) rfl b (o + kq * 7) rfl [.int .i64 xi, .int .i64 xe, .int .i64 xd, .int .i64 xk, .int .i64 xo, .string xt, .slice Al nl cl] _ HAR.out Try.underlying42 rfl info_entry ?_) | (show wpList _ _ _ (Oper.mk none (Op.store _ (Operand.tmp 10) _) _ _ _ _ :: _) _ _; refine wpList_store_fresh3 rfl 42 (.tmp 10) (.tmp 57) rfl rfl w5 #[.int .i64 0, .int .i64 0, .int .i64 0, .int .i64 0, .int .i64 0, .string ⟨#[]⟩, .slice none 0 0] 42 #[.int .i64 xi, .int .i64 xe, .int .i64 xd, .int .i64 xk, .int .i64 xo, .string xt, .slice Al nl cl] rfl rfl rfl info_entry rfl (by simp [Value.oneCell']) ?_; intro w6 H6 hb6 HS6))
 have hc6 := hb6
 have LTX6 := HS6
 have HX6 := Lib.hid H6
 have hb06 := hb05.trans (hb6.mono hb05.size)
 have hs6 := hb6.size
 have LT06 := Nat.lt_of_lt_of_le LT05 hs6
 have LT16 := Nat.lt_of_lt_of_le LT15 hs6
 have HH6 := Lib.hid ((hb6.block _ LT05).trans HH5.out)
 have HZ6 := Lib.hid ((hb6.block _ LT15).trans HZ5.out)
 have HL5 := Lib.hid (show ListC EntryC 7 w5 (· < w5.heap.size) [.slice (some ⟨b, o, none⟩) es.length c9] es from HOUT.out.mono (fun h => EntryC.mono h (fun q hq => hq.1)) (fun q hq => hq.1))
 have HX5B := Lib.hid hbl
 clear H6 z0 h01 ha0d ha0n hnpos hnne htm hm1 h0 ha0 hkl hbl
 go_wp2_with fail
 go_loopw [11] (fun i wr => ∃ m : Nat, i = .int .i64 ((m : Int) + 1) ∧ Below w6.heap.size w6 wr ∧ ∀ j : Nat, 1 ≤ j → j ≤ m → ∃ y ∈ es, y.id = (j : Int)) (fun i _ => n9 + 2 - (intOf i).toNat)
 case atStart => exact ⟨0, rfl, Below.refl _ _, fun j h1 h2 => by omega⟩
 case round =>
  obtain ⟨m, rfl, hb7, hall⟩ := hrel
  have hmn : m ≤ n9 := by rw [← HN9.out]; exact pigeon 0 m es (fun j h1 h2 => hall j (by omega) (by omega))
  have HALL := Lib.hid hall
  have hc7 := hc6.trans (hb7.mono hc6.size)
  have hgt := rget_c es (some ⟨b, o, none⟩) c9 ((m : Int) + 1) wr (entries_keep HL5.out hc7)
  rw [HN9.out] at hgt
  obtain ⟨gi, hgi⟩ : ∃ gi, getI es ((m : Int) + 1) = gi := ⟨_, rfl⟩
  have HGE := Lib.hid (getI_ge (es := es) (id := (m : Int) + 1))
  rw [hgi] at hgt HGE
  have HGT := Lib.hid hgt
  clear hgt hgi hall hc7
  go_wp2_with fail
  refine HGT.out.mono ?_
  rintro e w8 ⟨rfl, hb8⟩
  replace hb8 := hb7.trans (hb8.mono hb7.size)
  rcases HGE.out with ⟨h1, hy⟩ | ⟨h1, hnew⟩
  case inl =>
   have HY := Lib.hid hy
   have h1d : decide (gi ≥ 0) = true := decide_eq_true h1
   have h1e : decide (0 ≤ gi) = true := decide_eq_true h1
   clear h1 hy
   go_wp2_with fail
   go_roundw
   case rel =>
    refine ⟨m + 1, congrArg (Value.int IntKind.i64) (show (m : Int) + 1 + 1 = ((m + 1 : Nat) : Int) + 1 by omega), hb8, fun j h1 h2 => ?_⟩
    rcases Nat.lt_or_ge j (m + 1) with h3 | h3
    · exact HALL.out j h1 (by omega)
    · have : j = m + 1 := by omega
      subst this
      obtain ⟨y, hy, hyd⟩ := HY.out
      exact ⟨y, hy, by rw [hyd]; omega⟩
   case measure =>
    exact meas_m hmn h61
  case inr =>
  have h1d : decide (gi ≥ 0) = false := decide_eq_false (by omega)
  have h1e : decide (0 ≤ gi) = false := decide_eq_false (by omega)
  have HNEW := Lib.hid hnew
  clear h1 hnew
  have hb08 := hb06.trans (hb8.mono hb06.size)
  have hs8 := hb8.size
  have LT08 := Nat.lt_of_lt_of_le LT06 hs8
  have LT18 := Nat.lt_of_lt_of_le LT16 hs8
  have HH8 := Lib.hid ((hb8.block _ LT06).trans HH6.out)
  have HZ8 := Lib.hid ((hb8.block _ LT16).trans HZ6.out)
  have hc8 := hc6.trans (hb8.mono hc6.size)
  have HX8 := Lib.hid ((hb8.block _ LTX6).trans HX6.out)
  have LTX8 := Nat.lt_of_lt_of_le LTX6 hs8
  have x0 : w8.cell? ⟨w5.heap.size, 0, none⟩ = some (.int .i64 xi) := blk_cell HX8.out 0
  have HRV := Lib.hid (reversal_c D O J g es xi w8 (HJC.out.below hc8) HXB.out.1)
  obtain ⟨rv, hrv⟩ : ∃ rv, revId es xi = rv := ⟨_, rfl⟩
  rw [hrv] at HRV
  have HRVE := Lib.hid hrv
  clear hrv
  go_wp2_with fail
  refine HRV.out.mono ?_
  rintro e w9 ⟨rfl, hb9⟩
  have hb09 := hb08.trans (hb9.mono hb08.size)
  have hs9 := hb9.size
  have LT09 := Nat.lt_of_lt_of_le LT08 hs9
  have LT19 := Nat.lt_of_lt_of_le LT18 hs9
  have HH9 := Lib.hid ((hb9.block _ LT08).trans HH8.out)
  have HZ9 := Lib.hid ((hb9.block _ LT18).trans HZ8.out)
  have hc9 := hc8.trans (hb9.mono hc8.size)
  have HX9 := Lib.hid ((hb9.block _ LTX8).trans HX8.out)
  have LTX9 := Nat.lt_of_lt_of_le LTX8 hs9
  clear x0 h1d h1e
  obtain ⟨WB, hWB⟩ : ∃ b, wantB g es ⟨xi, xe, xd, xk, xo, xt, ls⟩ a1 = b := ⟨_, rfl⟩
  have HWB := Lib.hid hWB
  obtain ⟨rb, hrb⟩ : ∃ b, decide (rv ≠ 0) = b := ⟨_, rfl⟩
  rw [hrb]
  have HRB := Lib.hid hrb
  have HWX := Lib.hid (show WB = (decide (xk ≠ 3) && !rb && inCalB yy mm pp a1 && decide (xd ≤ a1)) by
   rw [← hWB, ← hrb]
   unfold wantB
   show (decide (xk ≠ 3) && decide (revId es xi = 0) && inCalB g.calendar.year g.calendar.month g.calendar.periods a1 && decide (xd ≤ a1)) = _
   rw [HRVE.out, HYY.out, HMM.out, HPP.out]
   by_cases h : rv = 0 <;> simp [h])
  have HXOK := Lib.hid (okJ_check HAC.out.1 HXM.out)
  have hcalB := formed_cal (checkE_ok HXOK.out).1
  rw [HYY.out, HMM.out, HPP.out] at hcalB
  have HCAL := Lib.hid (inCal_c yy mm pp a1 w9 hcalB)
  obtain ⟨IC, hIC⟩ : ∃ b, inCalB yy mm pp a1 = b := ⟨_, rfl⟩
  rw [hIC] at HCAL HWX
  clear hIC hrb hWB hcalB
  have HCR9 := Lib.hid (cal_range HH9.out VY.out VM.out VN.out)
  go_upto_region 13 with fail
  go_cut [14] from 71 to 91 (fun v wx => v = .bool WB ∧ Below w9.heap.size w9 wx)
  case first =>
   have x3 : w9.cell? ⟨w5.heap.size, 3, none⟩ = some (.int .i64 xk) := blk_cell HX9.out 3
   by_cases hk3 : xk = 3
   case pos =>
    have hk3b : (xk != 3) = false := by simpa using hk3
    have hf := Lib.hid (show WB = false by rw [HWX.out]; simp [hk3])
    clear hk3
    go_wp2_with fail
    go_meet
    exact ⟨by rw [hf.out], Below.refl _ _⟩
   case neg =>
   have hk3b : (xk != 3) = true := by simpa using hk3
   have HK3 := Lib.hid hk3
   clear hk3
   cases rb with
   | true =>
    have hf := Lib.hid (show WB = false by rw [HWX.out]; simp)
    go_wp2_with fail
    go_meet
    exact ⟨by rw [hf.out], Below.refl _ _⟩
   | false =>
   have z1 : w9.cell? ⟨w.heap.size + 1, 1, none⟩ = some (.int .i64 a1) := blk_cell HZ9.out 1
   go_wp2_with (show wpList _ _ _ (Oper.mk (some 80) _ _ _ _ _ :: _) _ _; refine wpList_load_mid_g (by rfl) 23 (.tmp 79) rfl w.heap.size 1 rfl [.int .i64 yy, .int .i64 mm, .int .i64 pp] _ HCR9.out Try.underlying23 rfl info_cal ?_)
   refine HCAL.out.mono ?_
   rintro e w10 ⟨rfl, hb10⟩
   cases IC with
   | false =>
    have hf := Lib.hid (show WB = false by rw [HWX.out]; simp)
    go_wp2_with fail
    go_meet
    exact ⟨by rw [hf.out], hb10⟩
   | true =>
   have z1 : w10.cell? ⟨w.heap.size + 1, 1, none⟩ = some (.int .i64 a1) := blk_cell ((hb10.block _ LT19).trans HZ9.out) 1
   have x2 : w10.cell? ⟨w5.heap.size, 2, none⟩ = some (.int .i64 xd) := blk_cell ((hb10.block _ LTX9).trans HX9.out) 2
   by_cases hd : xd ≤ a1
   case pos =>
    have hdd : decide (xd ≤ a1) = true := decide_eq_true hd
    have hf := Lib.hid (show WB = true by rw [HWX.out]; simp [HK3.out, hd])
    clear hd
    go_wp2_with fail
    go_meet
    exact ⟨by rw [hf.out], hb10⟩
   case neg =>
    have hdd : decide (xd ≤ a1) = false := decide_eq_false hd
    have hf := Lib.hid (show WB = false by rw [HWX.out, hdd]; simp)
    clear hd
    go_wp2_with fail
    go_meet
    exact ⟨by rw [hf.out], hb10⟩
  case rest =>
  obtain ⟨hv, hbx⟩ := hcut
  subst hv
  generalize wc = w10 at *
  have hb10 := hbx
  have hb010 := hb09.trans (hb10.mono hb09.size)
  have hs10 := hb10.size
  have LT010 := Nat.lt_of_lt_of_le LT09 hs10
  have LT110 := Nat.lt_of_lt_of_le LT19 hs10
  have HH10 := Lib.hid ((hb10.block _ LT09).trans HH9.out)
  have HZ10 := Lib.hid ((hb10.block _ LT19).trans HZ9.out)
  have hc10 := hc9.trans (hb10.mono hc9.size)
  have HX10 := Lib.hid ((hb10.block _ LTX9).trans HX9.out)
  have LTX10 := Nat.lt_of_lt_of_le LTX9 hs10
  clear hbx
  have HR2 := Lib.hid (show intBd ((m : Int) + 1) by unfold intBd; omega)
  have HM1 := Lib.hid (show (1 : Int) ≤ (m : Int) + 1 by omega)
  have HEL2 := Lib.hid (show es.length < 2000 by rw [HN9.out]; omega)
  have HPR := Lib.hid (show decide (postE g es (revE ⟨xi, xe, xd, xk, xo, xt, ls⟩ ((m : Int) + 1) a1) = 0) = WB from (post_rev a1 HAC.out.1 HXM.out HM1.out HNEW.out HEL2.out).trans HWB.out)
  have HMID := Lib.hid (checkE_mid HXOK.out)
  have HLN := Lib.hid (checkE_lines HXOK.out)
  have HTX := Lib.hid (checkE_text HXOK.out)
  have hrv := rreverse_c xi xe xd xk xo xt ls Al cl ((m : Int) + 1) a1 w10 (lines_keep HLS.out hc10) HMID.out (by have : ls.length ≤ 40 := HLN.out; omega)
  rw [HNL.out] at hrv
  have HRC := Lib.hid hrv
  have z1 : w10.cell? ⟨w.heap.size + 1, 1, none⟩ = some (.int .i64 a1) := blk_cell HZ10.out 1
  clear hrv
  go_wp2_with (show wpList _ _ _ (Oper.mk (some 93) _ _ _ _ _ :: _) _ _; refine wpList_load_row_g rfl 42 (.tmp 10) rfl w5.heap.size rfl _ _ _ _ HX10.out Try.underlying42 rfl info_entry ?_)
  refine HRC.out.mono ?_
  rintro e w11 ⟨Ar, cr, he, hlr, hb11⟩
  simp only at he hlr
  rw [HNL.out] at he hlr
  subst he
  have hb011 := hb010.trans (hb11.mono hb010.size)
  have hs11 := hb11.size
  have LT011 := Nat.lt_of_lt_of_le LT010 hs11
  have LT111 := Nat.lt_of_lt_of_le LT110 hs11
  have HH11 := Lib.hid ((hb11.block _ LT010).trans HH10.out)
  have HZ11 := Lib.hid ((hb11.block _ LT110).trans HZ10.out)
  have hc11 := hc10.trans (hb11.mono hc10.size)
  have HX11 := Lib.hid ((hb11.block _ LTX10).trans HX10.out)
  have LTX11 := Nat.lt_of_lt_of_le LTX10 hs11
  clear z1
  have hOlt : ∀ q, O q → q < w5.heap.size ∧ w4.heap.size ≤ q := fun q hq => ⟨HJC.out.ltDO q (.inr hq), HDO.out q (.inr hq)⟩
  have HOLT := Lib.hid hOlt
  obtain ⟨gl2, css2, v2, bi2, br2, hJ11⟩ := HJC.out.below hc11
  have hxr : EntryC w11 (fun q => q < w11.heap.size ∧ ¬ O q) [.int .i64 ((m : Int) + 1), .int .i64 xe, .int .i64 a1, .int .i64 3, .int .i64 xi, .string xt, .slice Ar nl cr] ⟨(m : Int) + 1, xe, a1, 3, xi, xt, ls.map negL⟩ := by
   have h := EntryC.mk (w := w11) (Q := fun q => q < w11.heap.size ∧ ¬ O q) (x := ⟨(m : Int) + 1, xe, a1, 3, xi, xt, ls.map negL⟩) (A := Ar) (c := cr) ⟨HR2.out, HXB.out.2.1, HAB.out.2.1, by show intBd 3; unfold intBd; omega, HXB.out.1⟩ (by
    show ListC LineC 3 w11 _ [.slice Ar (ls.map negL).length cr] (ls.map negL)
    rw [List.length_map, HNL.out]
    exact hlr.mono (fun h => LineC.mono h (fun q hq => ⟨hq.2, fun ho => by have := (hOlt q ho).1; have := hc10.size; omega⟩)) (fun q hq => ⟨hq.2, fun ho => by have := (hOlt q ho).1; have := hc10.size; omega⟩))
   simp only [List.length_map, HNL.out] at h
   exact h
  have hpc := post_c D O J g es gl2 css2 v2 bi2 br2 ⟨(m : Int) + 1, xe, a1, 3, xi, xt, ls.map negL⟩ _ w11 hJ11 (HFW.out ▸ HFP.out : fewJ g l).2.2.small hxr (by show xt.size ≤ 140737488355327; have : xt.size ≤ 80 := HTX.out; omega) (by show (ls.map negL).length ≤ 100000; rw [List.length_map]; have : ls.length ≤ 40 := HLN.out; omega) (by rw [HN9.out]; omega)
  obtain ⟨pe, hpe⟩ : ∃ pe, postE g es ⟨(m : Int) + 1, xe, a1, 3, xi, xt, ls.map negL⟩ = pe := ⟨_, rfl⟩
  have HPE := Lib.hid hpe
  rw [hpe] at hpc
  obtain ⟨ES, hES⟩ : ∃ ES, (if pe = 0 then es ++ [⟨(m : Int) + 1, xe, a1, 3, xi, xt, ls.map negL⟩] else es) = ES := ⟨_, rfl⟩
  have HESE := Lib.hid hES
  rw [hES] at hpc
  have HPC := Lib.hid hpc
  have HGB := Lib.hid (show decide (pe = 0) = WB from by have h := HPR.out; rw [show postE g es (revE ⟨xi, xe, xd, xk, xo, xt, ls⟩ ((m : Int) + 1) a1) = pe from hpe] at h; exact h)
  have hgb : (pe == 0) = WB := by rw [← HGB.out]; by_cases h : pe = 0 <;> simp [h]
  have HGB2 := Lib.hid hgb
  have hww : (WB != WB) = false := by simp
  clear hpe hpc hES hxr hJ11 hlr hOlt
  go_wp2_with fail
  refine HPC.out.mono ?_
  rintro e w12 ⟨rfl, mq, hm1, hm2, hJ12, hf12⟩
  have HJ12 := Lib.hid hJ12
  have HM12 := Lib.hid (And.intro hm1 hm2)
  have hfr : Fr (fun q => q < w11.heap.size ∧ ¬ O q) w11 w12 := hf12
  have HFR := Lib.hid hfr
  have HH12 := Lib.hid ((hfr.block w.heap.size ⟨LT011, fun ho => by have := (HOLT.out _ ho).2; omega⟩).trans HH11.out)
  have HZ12 := Lib.hid ((hfr.block (w.heap.size + 1) ⟨LT111, fun ho => by have := (HOLT.out _ ho).2; omega⟩).trans HZ11.out)
  have HX12 := Lib.hid ((hfr.block w5.heap.size ⟨LTX11, fun ho => by have := (HOLT.out _ ho).1; omega⟩).trans HX11.out)
  have hs12 := hfr.size
  have LT012 := Nat.lt_of_lt_of_le LT011 hs12
  have LT112 := Nat.lt_of_lt_of_le LT111 hs12
  have LTX12 := Nat.lt_of_lt_of_le LTX11 hs12
  have hb012 : Below w.heap.size w w12 := ((Fr.ofBelow hb011).trans (hfr.mono (fun q hq => ⟨by have := hb011.size; omega, fun ho => by have := (HOLT.out _ ho).2; omega⟩))).below
  have hfall : Fr (fun q => q < w5.heap.size ∧ ¬ (D q ∨ O q)) w5 w12 := ((Fr.ofBelow hc11).mono (fun q hq => hq.1)).trans (hfr.mono (fun q hq => ⟨by have := hc11.size; omega, fun ho => hq.2 (.inr ho)⟩))
  have HL12 := Lib.hid (show ListC EntryC 7 w12 (· < w12.heap.size) [.slice (some ⟨b, o, none⟩) es.length c9] es from (HOUT.out.fr (fun h => EntryC.fr h hfall) hfall).mono (fun h => EntryC.mono h (fun q hq => Nat.lt_of_lt_of_le hq.1 hfall.size)) (fun q hq => Nat.lt_of_lt_of_le hq.1 hfall.size))
  have HLS12 := Lib.hid (show ListC LineC 3 w12 (· < w12.heap.size) [.slice Al ls.length cl] ls from (HLSQ.out.fr (fun h => LineC.fr h hfall) hfall).mono (fun h => LineC.mono h (fun q hq => Nat.lt_of_lt_of_le hq.1 hfall.size)) (fun q hq => Nat.lt_of_lt_of_le hq.1 hfall.size))
  have hDO12 : ∀ q, (D q ∨ w11.heap.size ≤ q ∧ q < mq) ∨ (O q ∨ mq ≤ q ∧ q < w12.heap.size) → w.heap.size ≤ q := fun q hq => by
   have h1 := HM12.out
   have h2 := hb011.size
   have h3 := hb04.size
   rcases hq with (hq | hq) | (hq | hq)
   · have := HDO.out q (.inl hq); omega
   · omega
   · have := HDO.out q (.inr hq); omega
   · omega
  have HDO12 := Lib.hid hDO12
  clear hJ12 hf12 hfr hfall hm1 hm2 hDO12
  go_wp2_with fail
  go_loopw [16] (fun i wr2 => ∃ q : Nat, i = .int .i64 ((m : Int) + 2 + (q : Int)) ∧ Below w12.heap.size w12 wr2 ∧ ∀ j : Nat, m + 2 ≤ j → j ≤ m + 1 + q → ∃ y ∈ es, y.id = (j : Int)) (fun i _ => n9 + m + 3 - (intOf i).toNat)
  case atStart => exact ⟨0, congrArg (Value.int IntKind.i64) (by omega), Below.refl _ _, fun j h1 h2 => by omega⟩
  case round =>
   obtain ⟨q, rfl, hb13, hall2⟩ := hrel
   have hqn : q ≤ n9 := by rw [← HN9.out]; exact pigeon (m + 1) q es (fun j h1 h2 => hall2 j (by omega) (by omega))
   have HALL2 := Lib.hid hall2
   have hgt := rget_c es (some ⟨b, o, none⟩) c9 ((m : Int) + 2 + (q : Int)) wr (entries_keep HL12.out hb13)
   rw [HN9.out] at hgt
   obtain ⟨gi2, hgi2⟩ : ∃ gi, getI es ((m : Int) + 2 + (q : Int)) = gi := ⟨_, rfl⟩
   have HGE2 := Lib.hid (getI_ge (es := es) (id := (m : Int) + 2 + (q : Int)))
   rw [hgi2] at hgt HGE2
   have HGT2 := Lib.hid hgt
   clear hgt hgi2 hall2
   go_wp2_with fail
   refine HGT2.out.mono ?_
   rintro e w14 ⟨rfl, hb14⟩
   replace hb14 := hb13.trans (hb14.mono hb13.size)
   rcases HGE2.out with ⟨h1, hy⟩ | ⟨h1, hnew⟩
   case inl =>
    have HY := Lib.hid hy
    have h1d : decide (gi2 ≥ 0) = true := decide_eq_true h1
    have h1e : decide (0 ≤ gi2) = true := decide_eq_true h1
    clear h1 hy
    go_wp2_with fail
    go_roundw
    case rel =>
     refine ⟨q + 1, congrArg (Value.int IntKind.i64) (show (m : Int) + 2 + (q : Int) + 1 = (m : Int) + 2 + ((q + 1 : Nat) : Int) by omega), hb14, fun j h1 h2 => ?_⟩
     rcases Nat.lt_or_ge j (m + 2 + q) with h3 | h3
     · exact HALL2.out j h1 (by omega)
     · have : j = m + 2 + q := by omega
       subst this
       obtain ⟨y, hy, hyd⟩ := HY.out
       exact ⟨y, hy, by rw [hyd]; omega⟩
    case measure => exact meas_q hqn
   case inr =>
   have h1d : decide (gi2 ≥ 0) = false := decide_eq_false (by omega)
   have h1e : decide (0 ≤ gi2) = false := decide_eq_false (by omega)
   have HNEW2 := Lib.hid hnew
   clear h1 hnew
   have hb014 := hb012.trans (hb14.mono hb012.size)
   have hs14 := hb14.size
   have LT014 := Nat.lt_of_lt_of_le LT012 hs14
   have LT114 := Nat.lt_of_lt_of_le LT112 hs14
   have HH14 := Lib.hid ((hb14.block _ LT012).trans HH12.out)
   have HZ14 := Lib.hid ((hb14.block _ LT112).trans HZ12.out)
   have HX14 := Lib.hid ((hb14.block _ LTX12).trans HX12.out)
   have LTX14 := Nat.lt_of_lt_of_le LTX12 hs14
   have x2 : w14.cell? ⟨w5.heap.size, 2, none⟩ = some (.int .i64 xd) := blk_cell HX14.out 2
   have hrv2 := rreverse_c xi xe xd xk xo xt ls Al cl ((m : Int) + 2 + (q : Int)) xd w14 (lines_keep HLS12.out hb14) HMID.out (by have : ls.length ≤ 40 := HLN.out; omega)
   rw [HNL.out] at hrv2
   have HRC2 := Lib.hid hrv2
   clear hrv2
   go_wp2_with (show wpList _ _ _ (Oper.mk (some 111) _ _ _ _ _ :: _) _ _; refine wpList_load_row_g rfl 42 (.tmp 10) rfl w5.heap.size rfl _ _ _ _ HX14.out Try.underlying42 rfl info_entry ?_)
   refine HRC2.out.mono ?_
   rintro e w15 ⟨Ar2, cr2, he, hlr2, hb15⟩
   simp only at he hlr2
   rw [HNL.out] at he hlr2
   subst he
   replace hb15 := hb14.trans (hb15.mono hb14.size)
   have hb015 := hb012.trans (hb15.mono hb012.size)
   have hs15 := hb15.size
   have LT015 := Nat.lt_of_lt_of_le LT012 hs15
   have LT115 := Nat.lt_of_lt_of_le LT112 hs15
   have HH15 := Lib.hid ((hb15.block _ LT012).trans HH12.out)
   have HZ15 := Lib.hid ((hb15.block _ LT112).trans HZ12.out)
   have HX15 := Lib.hid ((hb15.block _ LTX12).trans HX12.out)
   have HLR2 := Lib.hid hlr2
   clear x2 hlr2
   go_upto_region 21 with (show wpList _ _ _ (Oper.mk none (Op.store _ (Operand.tmp 17) _) _ _ _ _ :: _) _ _; refine wpList_store_fresh3 rfl 42 (.tmp 17) (.tmp 115) rfl rfl w15 #[.int .i64 0, .int .i64 0, .int .i64 0, .int .i64 0, .int .i64 0, .string ⟨#[]⟩, .slice none 0 0] 42 #[.int .i64 ((m : Int) + 2 + (q : Int)), .int .i64 xe, .int .i64 xd, .int .i64 3, .int .i64 xi, .string xt, .slice Ar2 nl cr2] rfl rfl rfl info_entry rfl (by simp [Value.oneCell']) ?_; intro w16 H16 hb16 HS16)
   have hbx16 := hb15.trans (hb16.mono hb15.size)
   have hb016 := hb012.trans (hbx16.mono hb012.size)
   have HX16 := Lib.hid ((hbx16.block _ LTX12).trans HX12.out)
   have HR16 := Lib.hid H16
   have x0 : w16.cell? ⟨w5.heap.size, 0, none⟩ = some (.int .i64 xi) := blk_cell HX16.out 0
   have HRV2 := Lib.hid (reversal_c _ _ J g ES xi w16 (HJ12.out.below hbx16) HXB.out.1)
   obtain ⟨rv2, hrv2⟩ : ∃ rv, revId ES xi = rv := ⟨_, rfl⟩
   rw [hrv2] at HRV2
   have HRV2E := Lib.hid hrv2
   clear hrv2 H16
   go_wp2_with fail
   refine HRV2.out.mono ?_
   rintro e w17 ⟨rfl, hb17⟩
   have HR17 := Lib.hid ((hb17.block _ HS16).trans HR16.out)
   replace hb17 := hb16.trans (hb17.mono hb16.size)
   have hbx17 := hb15.trans (hb17.mono hb15.size)
   have hb017 := hb012.trans (hbx17.mono hb012.size)
   clear x0
   cases WB with
   | false =>
    go_wp2_with fail
    go_ret
    exact ⟨rfl, hb017⟩
   | true =>
   have hpe0 : pe = 0 := of_decide_eq_true HGB.out
   have hES2 := HESE.out
   rw [if_pos hpe0] at hES2
   have hag := post_again (id2 := (m : Int) + 2 + (q : Int)) HAC.out.1 HXM.out (show postE g es (revE ⟨xi, xe, xd, xk, xo, xt, ls⟩ ((m : Int) + 1) a1) = 0 from HPE.out.trans hpe0) HM1.out (by omega) HNEW2.out
   rw [show es ++ [revE ⟨xi, xe, xd, xk, xo, xt, ls⟩ ((m : Int) + 1) a1] = ES from hES2] at hag
   obtain ⟨hag1, hag2⟩ := hag
   have hrv2e : rv2 = (m : Int) + 1 := HRV2E.out.symm.trans hag2
   obtain ⟨gl3, css3, v3, bi3, br3, hJ17⟩ := HJ12.out.below hbx17
   have hO17 : ∀ q2, (O q2 ∨ mq ≤ q2 ∧ q2 < w12.heap.size) → q2 < w12.heap.size := fun q2 hq => by
    rcases hq with hq | hq
    · have := (HOLT.out q2 hq).1; omega
    · exact hq.2
   have hxr : EntryC w17 (fun q2 => q2 < w17.heap.size ∧ ¬ (O q2 ∨ mq ≤ q2 ∧ q2 < w12.heap.size)) [.int .i64 ((m : Int) + 2 + (q : Int)), .int .i64 xe, .int .i64 xd, .int .i64 3, .int .i64 xi, .string xt, .slice Ar2 nl cr2] ⟨(m : Int) + 2 + (q : Int), xe, xd, 3, xi, xt, ls.map negL⟩ := by
    have hl17 := (HLR2.out.fr (fun h => LineC.fr h ((Fr.ofBelow hb17).mono (fun q2 hq => hq.2))) ((Fr.ofBelow hb17).mono (fun q2 hq => hq.2)))
    have h := EntryC.mk (w := w17) (Q := fun q2 => q2 < w17.heap.size ∧ ¬ (O q2 ∨ mq ≤ q2 ∧ q2 < w12.heap.size)) (x := ⟨(m : Int) + 2 + (q : Int), xe, xd, 3, xi, xt, ls.map negL⟩) (A := Ar2) (c := cr2) ⟨by show intBd ((m : Int) + 2 + (q : Int)); unfold intBd; omega, HXB.out.2.1, HXB.out.2.2.1, by show intBd 3; unfold intBd; omega, HXB.out.1⟩ (by
     show ListC LineC 3 w17 _ [.slice Ar2 (ls.map negL).length cr2] (ls.map negL)
     rw [List.length_map, HNL.out]
     exact hl17.mono (fun h => LineC.mono h (fun q2 hq => ⟨Nat.lt_of_lt_of_le hq.2 hb17.size, fun ho => by have := hO17 q2 ho; have := hb14.size; omega⟩)) (fun q2 hq => ⟨Nat.lt_of_lt_of_le hq.2 hb17.size, fun ho => by have := hO17 q2 ho; have := hb14.size; omega⟩))
    simp only [List.length_map, HNL.out] at h
    exact h
   have hlenES : ES.length ≤ 62 := by rw [← hES2, List.length_append, HN9.out]; simp; omega
   have hpc2 := post_c _ _ J g ES gl3 css3 v3 bi3 br3 ⟨(m : Int) + 2 + (q : Int), xe, xd, 3, xi, xt, ls.map negL⟩ _ w17 hJ17 (HFW.out ▸ HFP.out : fewJ g l).2.2.small hxr (by show xt.size ≤ 140737488355327; have : xt.size ≤ 80 := HTX.out; omega) (by show (ls.map negL).length ≤ 100000; rw [List.length_map]; have : ls.length ≤ 40 := HLN.out; omega) (by omega)
   rw [show postE g ES ⟨(m : Int) + 2 + (q : Int), xe, xd, 3, xi, xt, ls.map negL⟩ = 7 from hag1, if_neg (by decide)] at hpc2
   have HPC2 := Lib.hid hpc2
   have hrn : decide (rv2 ≠ 0) = true := decide_eq_true (by omega)
   have hre : (rv2 == (m : Int) + 1) = true := by simp [hrv2e]
   clear hpc2 hxr hJ17 hag1 hag2 hES2 hpe0 hlenES hrv2e
   rw [hrn]
   clear hrn
   go_wp2_with (show wpList _ _ _ (Oper.mk (some 127) _ _ _ _ _ :: _) _ _; refine wpList_load_row_g rfl 42 (.tmp 17) rfl w15.heap.size rfl _ _ _ _ HR17.out Try.underlying42 rfl info_entry ?_)
   refine HPC2.out.mono ?_
   rintro e w18 ⟨rfl, m18, hm1, hm2, _, hf18⟩
   have hb18 : Below w.heap.size w w18 := ((Fr.ofBelow hb017).trans (hf18.mono (fun q2 hq => ⟨by have := hb017.size; omega, fun ho => by have := HDO12.out q2 (.inr ho); omega⟩))).below
   have HB18 := Lib.hid hb18
   clear hf18 hm1 hm2
   go_wp2_with fail
   go_ret
   exact ⟨rfl, HB18.out⟩
end Go.Proofs.Ytebdajkknkapcaa
