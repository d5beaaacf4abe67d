/- Check of an entry. Written by gen_e6.py. -/
import Derived.Test.YtekelchdbkjjjaaGreatG17xB0B2
import Derived.Test.YtekelchdbkjjjaaGreatG17xB3B8
import Derived.Test.YtekelchdbkjjjaaGreatG17xB9B13
import Derived.Test.YtekelchdbkjjjaaGreatG17xB14
import Derived.Test.YtekelchdbkjjjaaGreatG17xB16
import Derived.Test.YtekelchdbkjjjaaGreatG17xB17B24
import Derived.Test.YtekelchdbkjjjaaGreatG17xB25B28
import Derived.Test.YtekelchdbkjjjaaGreatG17xB29B32
import Derived.Test.YtekelchdbkjjjaaGreatG17xB33S2
import Derived.Test.YtekelchdbkjjjaaGreatG17xC4E3
import Derived.Test.YtekelchdbkjjjaaGreatG17xE4E5
import Derived.Test.YtekelchdbkjjjaaGreatProg
import Derived.WideKeyEntry
import Derived.Maps.RangeWalk
set_option linter.unusedVariables false
set_option linter.unusedSimpArgs false
set_option maxRecDepth 4000
attribute [local go_sem ↓] Go.wp_at_zero Go.wp_at_succ
namespace Go.Proofs.YtekelchdbkjjjaaGreat
open Go Go.RowKit
theorem cal_range {w : World} {b : Nat} {gl : List Value} {T : TypeId} {y m n : Int} (h : w.heap[b]? = some (.cells gl.toArray T (0, 0))) (e1 : gl[1]? = some (.int .i64 y)) (e2 : gl[2]? = some (.int .i64 m)) (e3 : gl[3]? = some (.int .i64 n)) : w.rangeAt b 1 [.int .i64 y, .int .i64 m, .int .i64 n] := fun j v hj => by
 match j, hj with
 | 0, hj => rw [blk_cell h]; simp at hj; subst hj; simpa using e1
 | 1, hj => rw [blk_cell h]; simp at hj; subst hj; simpa using e2
 | 2, hj => rw [blk_cell h]; simp at hj; subst hj; simpa using e3
 | j + 3, hj => simp at hj
theorem lines_keep {w w' : World} {cs : List Value} {l : List XLine} (h : ListC LineC 3 w (· < w.heap.size) cs l) (hb : Below w.heap.size w w') : ListC LineC 3 w' (· < w'.heap.size) cs l :=
 (h.fr (fun h => LineC.fr h (Fr.ofBelow hb)) (Fr.ofBelow hb)).mono (fun h => LineC.mono h (fun k hk => by have := hb.size; omega)) (fun k hk => by have := hb.size; omega)
theorem EntryC.lit {w : World} {Q : Nat → Prop} {cs : List Value} {x : XEntry} (h : EntryC w Q cs x) : ∃ Al cl, cs = [.int .i64 x.id, .int .i64 x.entity, .int .i64 x.date, .int .i64 x.kind, .int .i64 x.of_, .string x.text, .slice Al x.lines.length cl] ∧ (intBd x.id ∧ intBd x.entity ∧ intBd x.date ∧ intBd x.kind ∧ intBd x.of_) ∧ ListC LineC 3 w Q [.slice Al x.lines.length cl] x.lines := by
 obtain ⟨c0, c1, c2, c3, c4, c5, c6, rfl, ⟨rfl, h0⟩, ⟨rfl, h1⟩, ⟨rfl, h2⟩, ⟨rfl, h3⟩, ⟨rfl, h4⟩, h5, h6⟩ := h
 have e5 : c5 = _ := h5
 subst e5
 obtain ⟨A, c, e, _⟩ := h6.form
 subst e
 exact ⟨A, c, rfl, ⟨h0, h1, h2, h3, h4⟩, h6⟩
theorem group_v {g : XGroup} {gl : List Value} {w : World} (hg : GroupC w (· < w.heap.size) gl g) (hsm : smallG g) : ∀ w2 : World, Below w.heap.size w w2 → Calls Tryz.prog 36 #[.agg gl.toArray] w2 (Quiet w2 (.bool (groupB g))) := fun w2 hb => by
 rw [← groupP_eq]
 exact group_c g gl w2 (hg.keep hb) hsm
theorem rgroup_v {g : XGroup} {gl : List Value} {w : World} (hg : GroupC w (· < w.heap.size) gl g) (hsm : smallG g) : ∀ w2 : World, Below w.heap.size w w2 → Calls Tryz.prog 37 #[.agg gl.toArray] w2 (Quiet w2 (.bool (groupB g))) := fun w2 hb =>
 rgroup_c g gl w2 (hg.keep hb) hsm
theorem formed_pre {gv : Bool} {ne : Int} {x : XEntry} (h : formB gv ne x = true) : preL x.lines := by
 have h' := (formB_iff _ _ _).1 h
 have hl := h'.2.2.2.2.2.2.2.2.2.2
 refine smallL.pre ⟨fun l hm => ?_, by omega⟩
 have := ((lineB_iff _ _ _).1 (hl.2 l hm)).2.1
 have := of_decide_eq_true this
 omega
theorem formed_cal {g : XGroup} {ne : Int} {x : XEntry} (h : formB (groupB g) ne x = true) : calB g.calendar.year g.calendar.month g.calendar.periods = true := by
 have h' := ((formB_iff _ _ _).1 h).1
 cases hc : calB g.calendar.year g.calendar.month g.calendar.periods with
 | true => rfl
 | false =>
  unfold groupB at h'
  simp [hc] at h'
def checkE (g : XGroup) (x : XEntry) : Int :=
 if formB (groupB g) g.entities.length x = true then (if chartedB (g.entities.getD x.entity.toNat {}).chart x.lines = true then (if inCalB g.calendar.year g.calendar.month g.calendar.periods x.date = true then (if sumL x.lines = 0 then 0 else 11) else 2) else 17) else 1
set_option maxHeartbeats 1000000 in
theorem dated_c (gl : List Value) (y m n : Int) (xi xe xd xk xo : Int) (xt : ByteArray) (nl : Nat) (Al : Option Addr) (cl : Nat) (w : World) (h1 : gl[1]? = some (.int .i64 y)) (h2 : gl[2]? = some (.int .i64 m)) (h3 : gl[3]? = some (.int .i64 n)) (hc : calB y m n = true) (hd : intBd xd) : Calls Tryz.prog 140 #[.agg gl.toArray, .agg #[.int .i64 xi, .int .i64 xe, .int .i64 xd, .int .i64 xk, .int .i64 xo, .string xt, .slice Al nl cl]] w (Quiet w (.int .i64 (if inCalB y m n xd = true then 0 else 2))) := by
 obtain ⟨R, hR⟩ : ∃ R : Int, (if inCalB y m n xd = true then (0 : Int) else 2) = R := ⟨_, rfl⟩
 have HPI := Lib.hid ((per_in (d := xd) hc).trans hR)
 have HPC := Lib.hid (fun w2 : World => period_c y m n xd w2 hc hd)
 have h0 := Lib.hid (show R = 0 ∨ R = 2 by rw [← hR]; split <;> simp)
 rw [hR]
 obtain ⟨⟨pp, pe⟩, hpe⟩ : ∃ p, calPer y m n xd = p := ⟨_, rfl⟩
 rw [hpe] at HPI HPC
 have HG1 := Lib.hid h1
 have HG2 := Lib.hid h2
 have HG3 := Lib.hid h3
 clear h1 h2 h3 hc hd hR hpe
 go_enter Tryz.func140, Tryz.ntmps140
 go_upto_region 1 with fail
 have H := heap_alloc_new w (.cells gl.toArray 29)
 have HB := below1 w (.cells gl.toArray 29)
 have HS := blk_lt H
 generalize hW : w.alloc (Obj.cells gl.toArray 29) = W at *
 have H2 := heap_alloc_new W (.cells #[.int .i64 xi, .int .i64 xe, .int .i64 xd, .int .i64 xk, .int .i64 xo, .string xt, .slice Al nl cl] 46)
 have HB2 := below1 W (.cells #[.int .i64 xi, .int .i64 xe, .int .i64 xd, .int .i64 xk, .int .i64 xo, .string xt, .slice Al nl cl] 46)
 have HS2 := blk_lt H2
 replace H := alloc_keep H (Obj.cells #[.int .i64 xi, .int .i64 xe, .int .i64 xd, .int .i64 xk, .int .i64 xo, .string xt, .slice Al nl cl] 46)
 generalize hW2 : W.alloc (Obj.cells #[.int .i64 xi, .int .i64 xe, .int .i64 xd, .int .i64 xk, .int .i64 xo, .string xt, .slice Al nl cl] 46) = W2 at *
 clear hW2
 have eW : W.heap.size = w.heap.size + 1 := by rw [← hW]; simp
 rw [eW] at H2
 clear hW
 have hb2 := HB.trans (HB2.mono HB.size)
 have hs2 := HB2.size
 have LT1 := blk_lt H2
 have LT0 : w.heap.size < W2.heap.size := by omega
 have HH := Lib.hid H
 have HZ := Lib.hid H2
 have EW := Lib.hid eW
 clear H H2 eW
 have HCR := Lib.hid (cal_range HH.out HG1.out HG2.out HG3.out)
 have e2 := blk_cell HZ.out 2
 go_wp2_with (show wpList _ _ _ (Oper.mk (some 9) _ _ _ _ _ :: _) _ _; refine wpList_load_mid rfl 23 (.tmp 8) rfl w.heap.size 1 rfl [.int .i64 y, .int .i64 m, .int .i64 n] _ HCR.out Tryz.underlying23 rfl info_cal ?_)
 refine (HPC.out W2).mono ?_
 rintro e w3 ⟨rfl, hb3⟩
 have hb03 := hb2.trans (hb3.mono hb2.size)
 clear e2
 by_cases hz : pe = 0
 case pos =>
  subst hz
  have hf := Lib.hid (show R = 0 by exact HPI.out.symm)
  go_wp2_with fail
  go_ret
  exact ⟨by rw [hf.out]; first | done | rfl, hb03⟩
 case neg =>
  have hz1 : (pe != 0) = true := by simpa using hz
  have hz2 : ¬ (pe = 0) := hz
  have HP2 := Lib.hid (show R = 2 by
   have h := HPI.out
   try simp only at h
   have hR2 := h0.out
   rcases hR2 with h' | h'
   · exact absurd (h.trans h') hz
   · exact h')
  clear hz hz2
  have hf := Lib.hid (show R = 2 by exact HP2.out)
  go_wp2_with fail
  go_ret
  exact ⟨by rw [hf.out]; first | done | rfl, hb03⟩
set_option maxHeartbeats 1000000 in
theorem balanced_c (gl : List Value) (xi xe xd xk xo : Int) (xt : ByteArray) (ls : List XLine) (Al : Option Addr) (cl : Nat) (w : World) (hl : ListC LineC 3 w (· < w.heap.size) [.slice Al ls.length cl] ls) (hp : preL ls) : Calls Tryz.prog 141 #[.agg gl.toArray, .agg #[.int .i64 xi, .int .i64 xe, .int .i64 xd, .int .i64 xk, .int .i64 xo, .string xt, .slice Al ls.length cl]] w (Quiet w (.int .i64 (if sumL ls = 0 then 0 else 11))) := by
 have HSC := Lib.hid (fun (w2 : World) (hb : Below w.heap.size w w2) => sumL_c ls Al cl w2 (lines_keep hl hb) hp)
 obtain ⟨S, hS⟩ : ∃ S, sumL ls = S := ⟨_, rfl⟩
 rw [hS] at HSC ⊢
 obtain ⟨nl, hnl⟩ : ∃ n, ls.length = n := ⟨_, rfl⟩
 rw [hnl] at HSC ⊢
 obtain ⟨R, hR⟩ : ∃ R : Int, (if S = 0 then (0 : Int) else 11) = R := ⟨_, rfl⟩
 rw [hR]
 have HR := Lib.hid hR
 clear hS hnl hl hp hR
 go_enter Tryz.func141, Tryz.ntmps141
 go_upto_region 1 with fail
 have H := heap_alloc_new w (.cells gl.toArray 29)
 have HB := below1 w (.cells gl.toArray 29)
 have HS := blk_lt H
 generalize hW : w.alloc (Obj.cells gl.toArray 29) = W at *
 have H2 := heap_alloc_new W (.cells #[.int .i64 xi, .int .i64 xe, .int .i64 xd, .int .i64 xk, .int .i64 xo, .string xt, .slice Al nl cl] 46)
 have HB2 := below1 W (.cells #[.int .i64 xi, .int .i64 xe, .int .i64 xd, .int .i64 xk, .int .i64 xo, .string xt, .slice Al nl cl] 46)
 have HS2 := blk_lt H2
 replace H := alloc_keep H (Obj.cells #[.int .i64 xi, .int .i64 xe, .int .i64 xd, .int .i64 xk, .int .i64 xo, .string xt, .slice Al nl cl] 46)
 generalize hW2 : W.alloc (Obj.cells #[.int .i64 xi, .int .i64 xe, .int .i64 xd, .int .i64 xk, .int .i64 xo, .string xt, .slice Al nl cl] 46) = W2 at *
 clear hW2
 have eW : W.heap.size = w.heap.size + 1 := by rw [← hW]; simp
 rw [eW] at H2
 clear hW
 have hb2 := HB.trans (HB2.mono HB.size)
 have hs2 := HB2.size
 have LT1 := blk_lt H2
 have LT0 : w.heap.size < W2.heap.size := by omega
 have HH := Lib.hid H
 have HZ := Lib.hid H2
 have EW := Lib.hid eW
 clear H H2 eW
 have e6 := blk_cell HZ.out 6
 go_wp2_with fail
 refine (HSC.out W2 hb2).mono ?_
 rintro e w3 ⟨rfl, hb3⟩
 have hb03 := hb2.trans (hb3.mono hb2.size)
 clear e6
 by_cases hz : S = 0
 case pos =>
  have hf := Lib.hid (show R = 0 by rw [← HR.out, if_pos hz])
  have hz1 : (S != 0) = false := by simpa using hz
  clear hz
  go_wp2_with fail
  go_ret
  exact ⟨by rw [hf.out]; first | done | rfl, hb03⟩
 case neg =>
  have hz1 : (S != 0) = true := by simpa using hz
  have hf := Lib.hid (show R = 11 by rw [← HR.out, if_neg hz])
  clear hz
  go_wp2_with fail
  go_ret
  exact ⟨by rw [hf.out]; first | done | rfl, hb03⟩
set_option maxRecDepth 100000 in
theorem run_fns (w : World) : Sem.run Tryz.prog (Instr.index 194 (.agg #[.func (Fn.func 138) #[] #[], .func (Fn.func 139) #[] #[], .func (Fn.func 140) #[] #[], .func (Fn.func 141) #[] #[]]) (.int .i64 0)) w = .ok (.func (Fn.func 138) #[] #[]) w ∧ Sem.run Tryz.prog (Instr.index 194 (.agg #[.func (Fn.func 138) #[] #[], .func (Fn.func 139) #[] #[], .func (Fn.func 140) #[] #[], .func (Fn.func 141) #[] #[]]) (.int .i64 1)) w = .ok (.func (Fn.func 139) #[] #[]) w ∧ Sem.run Tryz.prog (Instr.index 194 (.agg #[.func (Fn.func 138) #[] #[], .func (Fn.func 139) #[] #[], .func (Fn.func 140) #[] #[], .func (Fn.func 141) #[] #[]]) (.int .i64 2)) w = .ok (.func (Fn.func 140) #[] #[]) w ∧ Sem.run Tryz.prog (Instr.index 194 (.agg #[.func (Fn.func 138) #[] #[], .func (Fn.func 139) #[] #[], .func (Fn.func 140) #[] #[], .func (Fn.func 141) #[] #[]]) (.int .i64 3)) w = .ok (.func (Fn.func 141) #[] #[]) w := ⟨rfl, rfl, rfl, rfl⟩
theorem checkE_1 {g : XGroup} {x : XEntry} (h : formB (groupB g) g.entities.length x = false) : checkE g x = 1 := by unfold checkE; rw [if_neg (by rw [h]; decide)]
theorem checkE_2 {g : XGroup} {x : XEntry} (h : formB (groupB g) g.entities.length x = true) (h2 : chartedB (g.entities.getD x.entity.toNat {}).chart x.lines = false) : checkE g x = 17 := by unfold checkE; rw [if_pos h, if_neg (by rw [h2]; decide)]
theorem checkE_3 {g : XGroup} {x : XEntry} (h : formB (groupB g) g.entities.length x = true) (h2 : chartedB (g.entities.getD x.entity.toNat {}).chart x.lines = true) (h3 : inCalB g.calendar.year g.calendar.month g.calendar.periods x.date = false) : checkE g x = 2 := by unfold checkE; rw [if_pos h, if_pos h2, if_neg (by rw [h3]; decide)]
theorem checkE_4 {g : XGroup} {x : XEntry} (h : formB (groupB g) g.entities.length x = true) (h2 : chartedB (g.entities.getD x.entity.toNat {}).chart x.lines = true) (h3 : inCalB g.calendar.year g.calendar.month g.calendar.periods x.date = true) : checkE g x = if sumL x.lines = 0 then 0 else 11 := by unfold checkE; rw [if_pos h, if_pos h2, if_pos h3]
theorem form_v {g : XGroup} {x : XEntry} {gl ex : List Value} {w : World} (hg : GroupC w (· < w.heap.size) gl g) (hsm : smallG g) (hx : EntryC w (· < w.heap.size) ex x) (hts : x.text.size ≤ 140737488355327) (w2 : World) (hb : Below w.heap.size w w2) : Calls Tryz.prog 138 #[.agg gl.toArray, .agg ex.toArray] w2 (Quiet w2 (.int .i64 (if formB (groupB g) g.entities.length x = true then 0 else 1))) := by
 obtain ⟨Al, cl, rfl, hbd, hl⟩ := (EntryC.keep hx hb).lit
 obtain ⟨Ac, cc, Ae, ce, hl21, h20, _⟩ := (GroupC.keep hg hb).view
 exact formed_c gl.toArray Ae g.entities.length ce (groupB g) _ _ _ _ _ _ x.lines Al cl w2 (by simpa using hl21) (by simpa using h20) hsm.2.1 (group_v (hg.keep hb) hsm) hbd hts hl
theorem chart_v {g : XGroup} {x : XEntry} {gl ex : List Value} {w : World} (hg : GroupC w (· < w.heap.size) gl g) (hsm : smallG g) (hx : EntryC w (· < w.heap.size) ex x) (hf : formB (groupB g) g.entities.length x = true) (w2 : World) (hb : Below w.heap.size w w2) : Calls Tryz.prog 139 #[.agg gl.toArray, .agg ex.toArray] w2 (Quiet w2 (.int .i64 (if chartedB (g.entities.getD x.entity.toNat {}).chart x.lines = true then 0 else 17))) := by
 obtain ⟨Al, cl, rfl, hbd, hl⟩ := (EntryC.keep hx hb).lit
 have h' := (formB_iff _ _ _).1 hf
 have hq : x.entity.toNat < g.entities.length := by have := h'.2.2.1; have := h'.2.2.2.1; omega
 have hqe : x.entity = (x.entity.toNat : Int) := by have := h'.2.2.1; omega
 have := charted_c g gl x.entity.toNat x.id x.date x.kind x.of_ x.text x.lines Al cl w2 (hg.keep hb) hsm hq hl h'.2.2.2.2.2.2.2.2.2.2.1
 rw [← hqe] at this
 rw [List.getD_eq_getElem?_getD, List.getElem?_eq_getElem hq, Option.getD_some]
 exact this
theorem date_v {g : XGroup} {x : XEntry} {gl ex : List Value} {w : World} (hg : GroupC w (· < w.heap.size) gl g) (hx : EntryC w (· < w.heap.size) ex x) (hf : formB (groupB g) g.entities.length x = true) (w2 : World) (hb : Below w.heap.size w w2) : Calls Tryz.prog 140 #[.agg gl.toArray, .agg ex.toArray] w2 (Quiet w2 (.int .i64 (if inCalB g.calendar.year g.calendar.month g.calendar.periods x.date = true then 0 else 2))) := by
 obtain ⟨Al, cl, rfl, hbd, hl⟩ := (EntryC.keep hx hb).lit
 obtain ⟨Ac, cc, Ae, ce, hl21, h20, h4, h1, h2, h3, _⟩ := (GroupC.keep hg hb).view
 exact dated_c gl _ _ _ _ _ _ _ _ _ _ Al cl w2 h1 h2 h3 (formed_cal hf) hbd.2.2.1
theorem bal_v {g : XGroup} {x : XEntry} {gl ex : List Value} {w : World} (hx : EntryC w (· < w.heap.size) ex x) (hf : formB (groupB g) g.entities.length x = true) (w2 : World) (hb : Below w.heap.size w w2) : Calls Tryz.prog 141 #[.agg gl.toArray, .agg ex.toArray] w2 (Quiet w2 (.int .i64 (if sumL x.lines = 0 then 0 else 11))) := by
 obtain ⟨Al, cl, rfl, hbd, hl⟩ := (EntryC.keep hx hb).lit
 exact balanced_c gl _ _ _ _ _ _ x.lines Al cl w2 hl (formed_pre hf)
set_option maxHeartbeats 4000000 in
theorem check_c (g : XGroup) (x : XEntry) (gl ex : List Value) (w : World) (hg : GroupC w (· < w.heap.size) gl g) (hsm : smallG g) (hx : EntryC w (· < w.heap.size) ex x) (hts : x.text.size ≤ 140737488355327) : Calls Tryz.prog 112 #[.agg gl.toArray, .agg ex.toArray] w (Quiet w (.int .i64 (checkE g x))) := by
 obtain ⟨r, hr⟩ : ∃ r, checkE g x = r := ⟨_, rfl⟩
 rw [hr]
 have HR := Lib.hid hr
 have H1 := Lib.hid (form_v hg hsm hx hts)
 have HH2 := Lib.hid (fun hf => chart_v hg hsm hx hf)
 have H3 := Lib.hid (fun hf => date_v hg hx hf)
 have H4 := Lib.hid (fun hf => bal_v (g := g) (gl := gl) hx hf)
 obtain ⟨f1, hf1⟩ : ∃ b, formB (groupB g) g.entities.length x = b := ⟨_, rfl⟩
 obtain ⟨f2, hf2⟩ : ∃ b, chartedB (g.entities.getD x.entity.toNat {}).chart x.lines = b := ⟨_, rfl⟩
 obtain ⟨f3, hf3⟩ : ∃ b, inCalB g.calendar.year g.calendar.month g.calendar.periods x.date = b := ⟨_, rfl⟩
 have HF1 := Lib.hid hf1
 have HF2 := Lib.hid hf2
 have HF3 := Lib.hid hf3
 obtain ⟨S, hS⟩ : ∃ S, sumL x.lines = S := ⟨_, rfl⟩
 have HSS := Lib.hid hS
 rw [hf1] at H1 HH2 H3 H4
 rw [hf2] at HH2
 rw [hf3] at H3
 rw [hS] at H4
 have hgl : gl.toArray.size = 21 := by have := hg.len; simpa using this
 have hel : ex.toArray.size = 7 := by have := hx.len; simpa using this
 obtain ⟨G, hG⟩ : ∃ G, gl.toArray = G := ⟨_, rfl⟩
 obtain ⟨E, hE⟩ : ∃ E, ex.toArray = E := ⟨_, rfl⟩
 rw [hG] at H1 HH2 H3 H4 hgl ⊢
 rw [hE] at H1 HH2 H3 H4 hel ⊢
 have HGS := Lib.hid hgl
 have HES := Lib.hid hel
 clear hr hg hsm hx hts hf1 hf2 hf3 hS hgl hel hG hE
 go_enter Tryz.func112, Tryz.ntmps112
 go_upto_region 1 with fail
 have H := heap_alloc_new w (.cells G 29)
 have HB := below1 w (.cells G 29)
 have HS := blk_lt H
 generalize hW : w.alloc (Obj.cells G 29) = W at *
 have HZZ := heap_alloc_new W (.cells E 46)
 have HB2 := below1 W (.cells E 46)
 have HS2 := blk_lt HZZ
 replace H := alloc_keep H (Obj.cells E 46)
 generalize hW2 : W.alloc (Obj.cells E 46) = W2 at *
 clear hW2
 have eW : W.heap.size = w.heap.size + 1 := by rw [← hW]; simp
 rw [eW] at HZZ
 clear hW
 have hb2 := HB.trans (HB2.mono HB.size)
 have hs2 := HB2.size
 have LT1 := blk_lt HZZ
 have LT0 : w.heap.size < W2.heap.size := by omega
 have HHG := Lib.hid H
 have HZ := Lib.hid HZZ
 have EW := Lib.hid eW
 clear H HZZ eW
 have HHR := Lib.hid (fun (b : Bool) (h : b = true) => h)
 go_wp2_with fail
 go_loopw [9] (fun i wr => ∃ q : Int, i = .int .i64 q ∧ 0 ≤ q ∧ q ≤ 4 ∧ Below W2.heap.size W2 wr ∧ (1 ≤ q → f1 = true) ∧ (2 ≤ q → f2 = true) ∧ (3 ≤ q → f3 = true) ∧ (4 ≤ q → S = 0)) (fun i _ => (4 - intOf i).toNat)
 case atStart => exact ⟨0, rfl, by omega, by omega, Below.refl _ _, by omega, by omega, by omega, by omega⟩
 case round =>
  obtain ⟨q, rfl, hq0, hq4, hb, k1, k2, k3, k4⟩ := hrel
  have K1 := Lib.hid k1
  have K2 := Lib.hid k2
  have K3 := Lib.hid k3
  have K4 := Lib.hid k4
  clear k1 k2 k3 k4
  have hbw := hb2.trans (hb.mono hb2.size)
  have HGr := Lib.hid ((hb.block _ LT0).trans HHG.out)
  have HEr := Lib.hid ((hb.block _ LT1).trans HZ.out)
  by_cases hlt : q < 4
  case neg =>
   have hf := Lib.hid (show r = 0 by rw [← HR.out, checkE_4 (HF1.out.trans (K1.out (by omega))) (HF2.out.trans (K2.out (by omega))) (HF3.out.trans (K3.out (by omega))), HSS.out, if_pos (K4.out (by omega))])
   go_wp2_with fail
   go_ret
   exact ⟨by rw [hf.out]; first | done | rfl, hbw⟩
  case pos =>
  obtain rfl | rfl | rfl | rfl : q = 0 ∨ q = 1 ∨ q = 2 ∨ q = 3 := by omega
  case inl =>
   have hcall := H1.out wr hbw
   have hix := (run_fns wr).1
   go_wp2_with (first | (show wpList _ _ _ (Oper.mk (some 13) _ _ _ _ _ :: _) _ _; refine wpList_load_row_g rfl 29 (.tmp 2) rfl (w.heap.size) rfl _ _ _ _ HGr.out Tryz.underlying29 rfl (by rw [info_group]; exact congrArg some HGS.out.symm) ?_) | (show wpList _ _ _ (Oper.mk (some 14) _ _ _ _ _ :: _) _ _; refine wpList_load_row_g rfl 46 (.tmp 3) rfl (w.heap.size + 1) rfl _ _ _ _ HEr.out Tryz.underlying46 rfl (by rw [info_entry]; exact congrArg some HES.out.symm) ?_))
   refine hcall.mono ?_
   clear hcall hix
   rintro e w3 ⟨rfl, hb3⟩
   have hwE := hbw.trans (hb3.mono hbw.size)
   have hbE := hb.trans (hb3.mono hb.size)
   by_cases hz : f1 = true
   case neg =>
    have hf := Lib.hid (show r = 1 by rw [← HR.out]; exact checkE_1 (HF1.out.trans (by cases f1 with | false => rfl | true => exact absurd rfl hz)))
    rw [if_neg hz]
    clear hz
    go_wp2_with fail
    go_ret
    exact ⟨by rw [hf.out]; first | done | rfl, hwE⟩
   case pos =>
    rw [if_pos hz]
    have HZK := Lib.hid hz
    clear hz
    go_wp2_with fail
    go_roundw
    case rel => exact ⟨1, rfl, by omega, by omega, hbE, fun _ => HZK.out, by omega, by omega, by omega⟩
    case measure => simp only [intOf]; omega
  case inr.inl =>
   have hcall := HH2.out (K1.out (by omega)) wr hbw
   have hix := (run_fns wr).2.1
   go_wp2_with (first | (show wpList _ _ _ (Oper.mk (some 13) _ _ _ _ _ :: _) _ _; refine wpList_load_row_g rfl 29 (.tmp 2) rfl (w.heap.size) rfl _ _ _ _ HGr.out Tryz.underlying29 rfl (by rw [info_group]; exact congrArg some HGS.out.symm) ?_) | (show wpList _ _ _ (Oper.mk (some 14) _ _ _ _ _ :: _) _ _; refine wpList_load_row_g rfl 46 (.tmp 3) rfl (w.heap.size + 1) rfl _ _ _ _ HEr.out Tryz.underlying46 rfl (by rw [info_entry]; exact congrArg some HES.out.symm) ?_))
   refine hcall.mono ?_
   clear hcall hix
   rintro e w3 ⟨rfl, hb3⟩
   have hwE := hbw.trans (hb3.mono hbw.size)
   have hbE := hb.trans (hb3.mono hb.size)
   by_cases hz : f2 = true
   case neg =>
    have hf := Lib.hid (show r = 17 by rw [← HR.out]; exact checkE_2 (HF1.out.trans (K1.out (by omega))) (HF2.out.trans (by cases f2 with | false => rfl | true => exact absurd rfl hz)))
    rw [if_neg hz]
    clear hz
    go_wp2_with fail
    go_ret
    exact ⟨by rw [hf.out]; first | done | rfl, hwE⟩
   case pos =>
    rw [if_pos hz]
    have HZK := Lib.hid hz
    clear hz
    go_wp2_with fail
    go_roundw
    case rel => exact ⟨2, rfl, by omega, by omega, hbE, fun _ => K1.out (by omega), fun _ => HZK.out, by omega, by omega⟩
    case measure => simp only [intOf]; omega
  case inr.inr.inl =>
   have hcall := H3.out (K1.out (by omega)) wr hbw
   have hix := (run_fns wr).2.2.1
   go_wp2_with (first | (show wpList _ _ _ (Oper.mk (some 13) _ _ _ _ _ :: _) _ _; refine wpList_load_row_g rfl 29 (.tmp 2) rfl (w.heap.size) rfl _ _ _ _ HGr.out Tryz.underlying29 rfl (by rw [info_group]; exact congrArg some HGS.out.symm) ?_) | (show wpList _ _ _ (Oper.mk (some 14) _ _ _ _ _ :: _) _ _; refine wpList_load_row_g rfl 46 (.tmp 3) rfl (w.heap.size + 1) rfl _ _ _ _ HEr.out Tryz.underlying46 rfl (by rw [info_entry]; exact congrArg some HES.out.symm) ?_))
   refine hcall.mono ?_
   clear hcall hix
   rintro e w3 ⟨rfl, hb3⟩
   have hwE := hbw.trans (hb3.mono hbw.size)
   have hbE := hb.trans (hb3.mono hb.size)
   by_cases hz : f3 = true
   case neg =>
    have hf := Lib.hid (show r = 2 by rw [← HR.out]; exact checkE_3 (HF1.out.trans (K1.out (by omega))) (HF2.out.trans (K2.out (by omega))) (HF3.out.trans (by cases f3 with | false => rfl | true => exact absurd rfl hz)))
    rw [if_neg hz]
    clear hz
    go_wp2_with fail
    go_ret
    exact ⟨by rw [hf.out]; first | done | rfl, hwE⟩
   case pos =>
    rw [if_pos hz]
    have HZK := Lib.hid hz
    clear hz
    go_wp2_with fail
    go_roundw
    case rel => exact ⟨3, rfl, by omega, by omega, hbE, fun _ => K1.out (by omega), fun _ => K2.out (by omega), fun _ => HZK.out, by omega⟩
    case measure => simp only [intOf]; omega
  case inr.inr.inr =>
   have hcall := H4.out (K1.out (by omega)) wr hbw
   have hix := (run_fns wr).2.2.2
   go_wp2_with (first | (show wpList _ _ _ (Oper.mk (some 13) _ _ _ _ _ :: _) _ _; refine wpList_load_row_g rfl 29 (.tmp 2) rfl (w.heap.size) rfl _ _ _ _ HGr.out Tryz.underlying29 rfl (by rw [info_group]; exact congrArg some HGS.out.symm) ?_) | (show wpList _ _ _ (Oper.mk (some 14) _ _ _ _ _ :: _) _ _; refine wpList_load_row_g rfl 46 (.tmp 3) rfl (w.heap.size + 1) rfl _ _ _ _ HEr.out Tryz.underlying46 rfl (by rw [info_entry]; exact congrArg some HES.out.symm) ?_))
   refine hcall.mono ?_
   clear hcall hix
   rintro e w3 ⟨rfl, hb3⟩
   have hwE := hbw.trans (hb3.mono hbw.size)
   have hbE := hb.trans (hb3.mono hb.size)
   by_cases hz : S = 0
   case neg =>
    have hf := Lib.hid (show r = 11 by rw [← HR.out, checkE_4 (HF1.out.trans (K1.out (by omega))) (HF2.out.trans (K2.out (by omega))) (HF3.out.trans (K3.out (by omega))), HSS.out]; exact if_neg hz)
    rw [if_neg hz]
    clear hz
    go_wp2_with fail
    go_ret
    exact ⟨by rw [hf.out]; first | done | rfl, hwE⟩
   case pos =>
    rw [if_pos hz]
    have HZK := Lib.hid hz
    clear hz
    go_wp2_with fail
    go_roundw
    case rel => exact ⟨4, rfl, by omega, by omega, hbE, fun _ => K1.out (by omega), fun _ => K2.out (by omega), fun _ => K3.out (by omega), fun _ => HZK.out⟩
    case measure => simp only [intOf]; omega
theorem shape_v {g : XGroup} {x : XEntry} {gl ex : List Value} {w : World} (hg : GroupC w (· < w.heap.size) gl g) (hsm : smallG g) (hx : EntryC w (· < w.heap.size) ex x) (hts : x.text.size ≤ 140737488355327) (w2 : World) (hb : Below w.heap.size w w2) : Calls Tryz.prog 160 #[.agg gl.toArray, .agg ex.toArray] w2 (Quiet w2 (.bool (formB (groupB g) g.entities.length x))) := by
 obtain ⟨Al, cl, rfl, hbd, hl⟩ := (EntryC.keep hx hb).lit
 obtain ⟨Ac, cc, Ae, ce, hl21, h20, _⟩ := (GroupC.keep hg hb).view
 exact rshape_c gl.toArray Ae g.entities.length ce (groupB g) _ _ _ _ _ _ x.lines Al cl w2 (by simpa using hl21) (by simpa using h20) hsm.2.1 (rgroup_v (hg.keep hb) hsm) hbd hts hl
set_option maxHeartbeats 4000000 in
theorem rcheck_c (g : XGroup) (x : XEntry) (gl ex : List Value) (w : World) (hg : GroupC w (· < w.heap.size) gl g) (hsm : smallG g) (hx : EntryC w (· < w.heap.size) ex x) (hts : x.text.size ≤ 140737488355327) : Calls Tryz.prog 144 #[.agg gl.toArray, .agg ex.toArray] w (Quiet w (.int .i64 (checkE g x))) := by
 obtain ⟨r, hr⟩ : ∃ r, checkE g x = r := ⟨_, rfl⟩
 rw [hr]
 have HR := Lib.hid hr
 have HSH := Lib.hid (shape_v hg hsm hx hts)
 obtain ⟨f1, hf1⟩ : ∃ b, formB (groupB g) g.entities.length x = b := ⟨_, rfl⟩
 rw [hf1] at HSH
 have HF1 := Lib.hid hf1
 have hgl : gl.toArray.size = 21 := by have := hg.len; simpa using this
 have HGS := Lib.hid hgl
 have HGC := Lib.hid hg
 have HSM := Lib.hid hsm
 have HXC := Lib.hid hx
 obtain ⟨Al, cl, hex, ⟨hxi, hxe, hxd, hxk, hxo⟩, hl⟩ := hx.lit
 subst hex
 obtain ⟨xi, xe, xd, xk, xo, xt, ls⟩ := x
 simp only at HSH hl hxd ⊢
 have HL := Lib.hid hl
 have HXD := Lib.hid hxd
 obtain ⟨nl, hnl⟩ : ∃ n, ls.length = n := ⟨_, rfl⟩
 have HN := Lib.hid hnl
 rw [hnl] at HSH ⊢
 clear hr hf1 hg hsm hx hl hnl hts hgl hxi hxe hxd hxk hxo
 show Calls Tryz.prog 144 #[.agg gl.toArray, .agg #[.int .i64 xi, .int .i64 xe, .int .i64 xd, .int .i64 xk, .int .i64 xo, .string xt, .slice Al nl cl]] w (Quiet w (.int .i64 r))
 have HSH2 := Lib.hid (show ∀ (w2 : World), Below w.heap.size w w2 → Calls Tryz.prog 160 #[.agg gl.toArray, .agg #[.int .i64 xi, .int .i64 xe, .int .i64 xd, .int .i64 xk, .int .i64 xo, .string xt, .slice Al nl cl]] w2 (Quiet w2 (.bool f1)) from HSH.out)
 clear HSH
 go_enter Tryz.func144, Tryz.ntmps144
 go_upto_region 1 with fail
 have H := heap_alloc_new w (.cells gl.toArray 29)
 have HB := below1 w (.cells gl.toArray 29)
 have HS := blk_lt H
 generalize hW : w.alloc (Obj.cells gl.toArray 29) = W at *
 have H2 := heap_alloc_new W (.cells #[.int .i64 xi, .int .i64 xe, .int .i64 xd, .int .i64 xk, .int .i64 xo, .string xt, .slice Al nl cl] 46)
 have HB2 := below1 W (.cells #[.int .i64 xi, .int .i64 xe, .int .i64 xd, .int .i64 xk, .int .i64 xo, .string xt, .slice Al nl cl] 46)
 have HS2 := blk_lt H2
 replace H := alloc_keep H (Obj.cells #[.int .i64 xi, .int .i64 xe, .int .i64 xd, .int .i64 xk, .int .i64 xo, .string xt, .slice Al nl cl] 46)
 generalize hW2 : W.alloc (Obj.cells #[.int .i64 xi, .int .i64 xe, .int .i64 xd, .int .i64 xk, .int .i64 xo, .string xt, .slice Al nl cl] 46) = W2 at *
 clear hW2
 have eW : W.heap.size = w.heap.size + 1 := by rw [← hW]; simp
 rw [eW] at H2
 clear hW
 have hb2 := HB.trans (HB2.mono HB.size)
 have hs2 := HB2.size
 have LT1 := blk_lt H2
 have LT0 : w.heap.size < W2.heap.size := by omega
 have HH := Lib.hid H
 have HZ := Lib.hid H2
 have EW := Lib.hid eW
 clear H H2 eW
 go_wp2_with (first | (show wpList _ _ _ (Oper.mk (some 8) _ _ _ _ _ :: _) _ _; refine wpList_load_row_g rfl 29 (.tmp 2) rfl (w.heap.size) rfl _ _ _ _ HH.out Tryz.underlying29 rfl (by rw [info_group]; exact congrArg some HGS.out.symm) ?_) | (show wpList _ _ _ (Oper.mk (some 9) _ _ _ _ _ :: _) _ _; refine wpList_load_row_g rfl 46 (.tmp 3) rfl (w.heap.size + 1) rfl _ _ _ _ HZ.out Tryz.underlying46 rfl info_entry ?_))
 refine (HSH2.out W2 hb2).mono ?_
 rintro e w3 ⟨rfl, hb3⟩
 have hb02 := hb2
 have LT02 := LT0
 have LT12 := LT1
 have HH2 := HH
 have HZ2 := HZ
 have hb03 := hb02.trans (hb3.mono hb02.size)
 have hs3 := hb3.size
 have LT03 := Nat.lt_of_lt_of_le LT02 hs3
 have LT13 := Nat.lt_of_lt_of_le LT12 hs3
 have HH3 := Lib.hid ((hb3.block _ LT02).trans HH2.out)
 have HZ3 := Lib.hid ((hb3.block _ LT12).trans HZ2.out)
 cases f1 with
 | false =>
  have hf := Lib.hid (show r = 1 by exact HR.out.symm.trans (checkE_1 HF1.out))
  go_wp2_with fail
  go_ret
  exact ⟨by rw [hf.out]; first | done | rfl, hb03⟩
 | true =>
 have hfm := (formB_iff _ _ _).1 HF1.out
 have hq0 : 0 ≤ xe := hfm.2.2.1
 have hq1 : xe < (g.entities.length : Int) := hfm.2.2.2.1
 have hn4 : nl ≤ 40 := by rw [← HN.out]; exact hfm.2.2.2.2.2.2.2.2.2.2.1
 clear hfm
 obtain ⟨q, rfl⟩ : ∃ q : Nat, xe = (q : Int) := ⟨xe.toNat, by omega⟩
 have hq : q < g.entities.length := by omega
 obtain ⟨Ac, cc, Ae, ce, _, h20, _, hy, hm, hn, _, hen⟩ := HGC.out.view
 obtain ⟨be, oe, es, hAe, hbe, hes, hat⟩ := ListC.get hen q hq
 subst hAe
 obtain ⟨Ec, c2, Al2, cl2, hes1, hch, _⟩ := EntityC.lit hes
 have hn2 := (HSM.out.2.2.2 _ (List.getElem_mem hq)).1
 have HGE := Lib.hid (show (g.entities.getD (q : Int).toNat {}).chart = g.entities[q].chart by rw [show (q : Int).toNat = q from by omega, List.getD_eq_getElem?_getD, List.getElem?_eq_getElem hq]; rfl)
 obtain ⟨ec, hec⟩ : ∃ ec, g.entities[q].chart = ec := ⟨_, rfl⟩
 rw [hec] at hes1 hch hn2 HGE
 obtain ⟨n2, hn2'⟩ : ∃ n, ec.length = n := ⟨_, rfl⟩
 rw [hn2'] at hes1
 subst hes1
 obtain ⟨ne, hne⟩ : ∃ n, g.entities.length = n := ⟨_, rfl⟩
 rw [hne] at h20 hq
 have hne1 : ne ≤ 1000 := by rw [← hne]; exact HSM.out.2.1
 have HN2 := Lib.hid hn2'
 have HN3 := Lib.hid hn2
 have HCH := Lib.hid hch
 have HDE := Lib.hid (hat.c (j := 2) rfl)
 have HBE := Lib.hid hbe
 have HY := Lib.hid hy
 have HM := Lib.hid hm
 have HNP := Lib.hid hn
 have HCB := Lib.hid (formed_cal HF1.out)
 have HG20 := Lib.hid (show gl.toArray[20]? = some (.slice (some ⟨be, oe, none⟩) ne ce) by simpa using h20)
 clear hn2' hn2 hch hat hbe h20 hen hes hne hec hq0 hq1 hy hm hn
 have e6 := blk_cell HZ3.out 6
 go_wp2_with fail
 clear e6
 go_loopw [5] (fun i wr => ∃ k : Nat, k ≤ nl ∧ i = .int .i64 (k : Int) ∧ Below w3.heap.size w3 wr ∧ ∀ j (hj : j < ls.length), j < k → (findA ec ls[j].account).isSome = true) (fun i _ => nl - (intOf i).toNat)
 case atStart => exact ⟨0, by omega, rfl, Below.refl _ _, fun j hj h => by omega⟩
 case round =>
  obtain ⟨k, hk', rfl, hb, hall⟩ := hrel
  have HA := Lib.hid hall
  clear hall
  have hHr := (hb.block _ LT03).trans HH3.out
  have hZr := (hb.block _ LT13).trans HZ3.out
  have HV0 := Lib.hid (Nat.lt_of_lt_of_le LT03 hb.size)
  have HV1 := Lib.hid (Nat.lt_of_lt_of_le LT13 hb.size)
  have hbw0 := hb03.trans (hb.mono hb03.size)
  have d6 := blk_cell hZr 6
  by_cases hlt : k < nl
  case pos =>
   have hltI : (k : Int) < (nl : Int) := by omega
   have hkl : k < ls.length := by rw [HN.out]; exact hlt
   obtain ⟨b, o, es, hAe, hbw, hes, hat⟩ := ListC.get HL.out k hkl
   subst hAe
   have hes1 := (LineC.lit hes).1
   have hbd := (LineC.lit hes).2
   rw [hes1] at hat
   have HMEM := Lib.hid (List.getElem_mem hkl)
   obtain ⟨x, hx⟩ : ∃ x, ls[k] = x := ⟨_, rfl⟩
   rw [hx] at hat hbd HMEM
   have HX := Lib.hid hx
   obtain ⟨la, lm, lp⟩ := x
   try simp only at hat
   have HLA := Lib.hid (show intBd la from hbd.1)
   have hatw := hat.fr (Fr.ofBelow hbw0)
   obtain ⟨ao, hao⟩ : ∃ a, accO (findA ec la) = a := ⟨_, rfl⟩
   obtain ⟨p1, p2, p3, p4⟩ := ao
   have HFO := Lib.hid hao
   obtain ⟨fs, hfs⟩ : ∃ s, (findA ec la).isSome = s := ⟨_, rfl⟩
   have HFS := Lib.hid hfs
   clear hao hfs
   have HVB := Lib.hid (show b < wr.heap.size from Nat.lt_of_lt_of_le hbw hbw0.size)
   have HVE := Lib.hid (show be < wr.heap.size from Nat.lt_of_lt_of_le HBE.out hbw0.size)
   have C0 := Lib.hid (hatw.c (j := 0) rfl)
   have HBW := Lib.hid hbw0
   have D20 := Lib.hid ((blk_cell hHr 20).trans HG20.out)
   have D1 := Lib.hid (blk_cell hZr 1)
   have D6 := Lib.hid (blk_cell hZr 6)
   have DE := Lib.hid ((hbw0.cell (p := ⟨be, oe + q * 5 + 2, none⟩) HBE.out).trans HDE.out)
   clear hes hes1 hat hatw hx hbd hHr hZr hbw0
   have hqI : (q : Int) < (ne : Int) := by omega
   go_wp2_with fail
   clear d6
   cases fs with
   | false =>
    have hf := Lib.hid (show r = 17 from HR.out.symm.trans (checkE_2 HF1.out (by show chartedB (g.entities.getD (q : Int).toNat {}).chart ls = false; rw [HGE.out]; exact charted_no HMEM.out HFS.out)))
    refine wp_region_inv6 18 (fun i => i == 16) (Ks wr [.val (.pointer (some ⟨w.heap.size, 20, none⟩)), .val (.slice (some ⟨be, oe, none⟩) ne ce), .val (.pointer (some ⟨(w.heap.size + 1), 1, none⟩)), .val (.int .i64 (q : Int)), .val (.pointer (some ⟨be, oe + q * 5, none⟩)), .val (.pointer (some ⟨be, oe + q * 5 + 2, none⟩)), .val (.slice Ec n2 c2), .val (.pointer (some ⟨(w.heap.size + 1), 6, none⟩)), .val (.slice (some ⟨b, o, none⟩) nl cl), .val (.int .i64 (k : Int)), .val (.pointer (some ⟨b, o + k * 3, none⟩)), .val (.pointer (some ⟨b, o + k * 3, none⟩)), .val (.int .i64 la), .val (.tuple #[.agg #[.int .i64 p1, .int .i64 p2, .int .i64 p3, .int .i64 p4], .bool false]), .val (.tuple #[.agg #[.int .i64 p1, .int .i64 p2, .int .i64 p3, .int .i64 p4], .bool false]), .val (.agg #[.int .i64 p1, .int .i64 p2, .int .i64 p3, .int .i64 p4]), .val (.bool false), .own (IsNew wr #[.int .i64 0, .int .i64 0, .int .i64 0, .int .i64 0] 87) (IsNew.keep _ _ _)])
     (fun w' => Below wr.heap.size wr w') (Ks wr [.val (.pointer (some ⟨w.heap.size, 20, none⟩)), .val (.slice (some ⟨be, oe, none⟩) ne ce), .val (.pointer (some ⟨(w.heap.size + 1), 1, none⟩)), .val (.int .i64 (q : Int)), .val (.pointer (some ⟨be, oe + q * 5, none⟩)), .val (.pointer (some ⟨be, oe + q * 5 + 2, none⟩)), .val (.slice Ec n2 c2), .val (.pointer (some ⟨(w.heap.size + 1), 6, none⟩)), .val (.slice (some ⟨b, o, none⟩) nl cl), .val (.int .i64 (k : Int)), .val (.pointer (some ⟨b, o + k * 3, none⟩)), .val (.pointer (some ⟨b, o + k * 3, none⟩)), .val (.int .i64 la), .val (.tuple #[.agg #[.int .i64 p1, .int .i64 p2, .int .i64 p3, .int .i64 p4], .bool false]), .val (.tuple #[.agg #[.int .i64 p1, .int .i64 p2, .int .i64 p3, .int .i64 p4], .bool false]), .val (.agg #[.int .i64 p1, .int .i64 p2, .int .i64 p3, .int .i64 p4]), .val (.bool false), .own (IsNew wr #[.int .i64 p1, .int .i64 p2, .int .i64 p3, .int .i64 p4] 87) (IsNew.keep _ _ _)])
     (fun w' => Below wr.heap.size wr w') (by kernel_rfl) (by kernel_rfl) (by kernel_rfl) (by decide) (by kernel_rfl) (by kernel_rfl) (by kernel_rfl) (by kernel_rfl) rfl (by kernel_rfl) _ rfl rfl (Below.refl _ _).drew ?_ ?_ ?_ ?_
    · refine ⟨?_, ?_, ?_, ?_, ?_, ?_, ?_, ?_, ?_, ?_, ?_, ?_, ?_, ?_, ?_, ?_, ?_, ?_, trivial⟩
      · intro _ A0 w2 hI hd hnd K hK; have e0 := hI.q hnd 2; exact hI.z hK
      · intro _ A0 w2 hI hd hnd K hK; have e0 := hI.p hd 0 20; have hS := hI.world; have hcc : w2.cell? ⟨w.heap.size, 20, none⟩ = _ := (hS.cell (p := ⟨w.heap.size, 20, none⟩) HV0.out).trans D20.out; exact hI.z hK
      · intro _ A0 w2 hI hd hnd K hK; have e0 := hI.q hnd 3; exact hI.z hK
      · intro _ A0 w2 hI hd hnd K hK; have e0 := hI.p hd 2 22; have hS := hI.world; have hcc : w2.cell? ⟨(w.heap.size + 1), 1, none⟩ = _ := (hS.cell (p := ⟨(w.heap.size + 1), 1, none⟩) HV1.out).trans D1.out; exact hI.z hK
      · intro _ A0 w2 hI hd hnd K hK; have e0 := hI.p hd 1 21; have e1 := hI.p hd 3 23; exact hI.z hK
      · intro _ A0 w2 hI hd hnd K hK; have e0 := hI.p hd 4 24; exact hI.z hK
      · intro _ A0 w2 hI hd hnd K hK; have e0 := hI.p hd 5 25; have hS := hI.world; have hcc : w2.cell? ⟨be, oe + q * 5 + 2, none⟩ = _ := (hS.cell (p := ⟨be, oe + q * 5 + 2, none⟩) HVE.out).trans DE.out; exact hI.z hK
      · intro _ A0 w2 hI hd hnd K hK; have e0 := hI.q hnd 3; exact hI.z hK
      · intro _ A0 w2 hI hd hnd K hK; have e0 := hI.p hd 7 27; have hS := hI.world; have hcc : w2.cell? ⟨(w.heap.size + 1), 6, none⟩ = _ := (hS.cell (p := ⟨(w.heap.size + 1), 6, none⟩) HV1.out).trans D6.out; exact hI.z hK
      · intro _ A0 w2 hI hd hnd K hK; have e0 := hI.q hnd 5; exact hI.z hK
      · intro _ A0 w2 hI hd hnd K hK; have e0 := hI.p hd 8 28; have e1 := hI.p hd 9 29; exact hI.z hK
      · intro _ A0 w2 hI hd hnd K hK; have e0 := hI.p hd 10 30; exact hI.z hK
      · intro _ A0 w2 hI hd hnd K hK; have e0 := hI.p hd 11 31; have hS := hI.world; have hcc : w2.cell? ⟨b, o + k * 3, none⟩ = _ := (hS.cell (p := ⟨b, o + k * 3, none⟩) HVB.out).trans C0.out; exact hI.z hK
      · intro _ A0 w2 hI hd hnd K hK; have e0 := hI.p hd 6 26; have e1 := hI.p hd 12 32; have hS := hI.world; refine wanted_go rfl ?_; clear hI hd hnd; go_simp
        go_at_call 32
        refine (rfind_n HN2.out (chart_keep HCH.out (HBW.out.trans (hS.mono HBW.out.size))) HN3.out la HLA.out HFO.out HFS.out).mono ?_
        rintro e w3 ⟨rfl, h3⟩
        exact hK.out _ _ (hS.trans (h3.mono hS.size)) (Ks.of rfl rfl) (Ks.keep h3)
      · intro _ A0 w2 hI hd hnd K hK; have e0 := hI.p hd 13 33; exact hI.z hK
      iterate 2 (· intro _ A0 w2 hI hd hnd K hK; have e0 := hI.p hd 14 19; exact hI.z hK)
      · intro _ A0 w2 hI hd hnd K hK; have hS := hI.world; refine wanted_go rfl ?_; clear hI hd hnd; go_simp
        exact hK.out _ _ (hS.alloc hS.size _) (Ks.of rfl (IsNew.made hS.size _ _)) (Ks.keep (below1 w2 _))
    · intro _ A0 w2 hI hall K hK
      obtain ⟨xp, gp, hp⟩ := hI.got 17 _ 6 rfl rfl (hall 17 (by decide) rfl)
      obtain ⟨xv, gv, hv⟩ := hI.got 15 _ 34 rfl rfl (hall 15 (by decide) rfl)
      obtain ⟨g, rfl, hg1, hg2⟩ := hp _ rfl
      obtain rfl : xv = .agg #[.int .i64 p1, .int .i64 p2, .int .i64 p3, .int .i64 p4] := hv _ rfl
      have hS := hI.world; refine wanted_go rfl ?_
      refine wp_store_row 87 (.tmp 6) (.tmp 34) rfl g #[.int .i64 p1, .int .i64 p2, .int .i64 p3, .int .i64 p4] (by simp [Act.eval, Array.getD_eq_getD_getElem?, gp]) (by simp [Act.eval, Array.getD_eq_getD_getElem?, gv]) 87 #[.int .i64 0, .int .i64 0, .int .i64 0, .int .i64 0] hg2 (info_accS ⟨p1, p2, p3, p4⟩) rfl (by simp [Value.oneCell']) ?_
      refine hK _ (below_setRow hS hg1 _) ?_
      intro i o d u hi ho hd hu hV
      refine Ks.store (p := 17) (kn := _) rfl hV (fun hip => ?_)
      subst hip
      obtain rfl : _ = o := Option.some.inj ho
      obtain rfl : _ = d := Option.some.inj hd
      obtain rfl : _ = u := Option.some.inj (gp.symm.trans hu)
      exact ⟨g, rfl, hg1, heap_setRow hg2 _⟩
    · refine ⟨fun h => absurd h (by decide), fun h => absurd h (by decide), fun h => absurd h (by decide), fun h => absurd h (by decide), fun h => absurd h (by decide), fun h => absurd h (by decide), fun h => absurd h (by decide), fun h => absurd h (by decide), fun h => absurd h (by decide), fun h => absurd h (by decide), fun h => absurd h (by decide), fun h => absurd h (by decide), fun h => absurd h (by decide), fun h => absurd h (by decide), fun h => absurd h (by decide), fun h => absurd h (by decide), ?_, fun h => absurd h (by decide), fun h => absurd h (by decide), trivial⟩
      · intro _; intro _ A0 w2 hI hd hnd K hK; have e0 := hI.p hd 14 19; exact hI.z hK
    · intro A0 w2 hI
      obtain ⟨x0, g0, h0⟩ := hI.got 0 _ 20 rfl rfl rfl
      obtain ⟨x1, g1, h1⟩ := hI.got 1 _ 21 rfl rfl rfl
      obtain ⟨x2, g2, h2⟩ := hI.got 2 _ 22 rfl rfl rfl
      obtain ⟨x3, g3, h3⟩ := hI.got 3 _ 23 rfl rfl rfl
      obtain ⟨x4, g4, h4⟩ := hI.got 4 _ 24 rfl rfl rfl
      obtain ⟨x5, g5, h5⟩ := hI.got 5 _ 25 rfl rfl rfl
      obtain ⟨x6, g6, h6⟩ := hI.got 6 _ 26 rfl rfl rfl
      obtain ⟨x7, g7, h7⟩ := hI.got 7 _ 27 rfl rfl rfl
      obtain ⟨x8, g8, h8⟩ := hI.got 8 _ 28 rfl rfl rfl
      obtain ⟨x9, g9, h9⟩ := hI.got 9 _ 29 rfl rfl rfl
      obtain ⟨x10, g10, h10⟩ := hI.got 10 _ 30 rfl rfl rfl
      obtain ⟨x11, g11, h11⟩ := hI.got 11 _ 31 rfl rfl rfl
      obtain ⟨x12, g12, h12⟩ := hI.got 12 _ 32 rfl rfl rfl
      obtain ⟨x13, g13, h13⟩ := hI.got 13 _ 33 rfl rfl rfl
      obtain ⟨x14, g14, h14⟩ := hI.got 14 _ 19 rfl rfl rfl
      obtain ⟨x15, g15, h15⟩ := hI.got 15 _ 34 rfl rfl rfl
      obtain ⟨x16, g16, h16⟩ := hI.got 16 _ 35 rfl rfl rfl
      obtain ⟨x17, g17, h17⟩ := hI.got 17 _ 6 rfl rfl rfl
      have hS := hI.world
      obtain ⟨y7, o7⟩ : ∃ v, A0.tmps[7]? = some v := ⟨_, hI.oldHead 7 (by kernel_rfl)⟩
      have hA : A0 = _ := hI.tmps [(20, x0), (21, x1), (22, x2), (23, x3), (24, x4), (25, x5), (26, x6), (27, x7), (28, x8), (29, x9), (30, x10), (31, x11), (32, x12), (33, x13), (19, x14), (34, x15), (35, x16), (6, x17), (7, y7)] (by simp only [List.mem_cons, List.not_mem_nil, or_false, forall_eq_or_imp, forall_eq]; exact ⟨g0, g1, g2, g3, g4, g5, g6, g7, g8, g9, g10, g11, g12, g13, g14, g15, g16, g17, o7⟩) (by kernel_rfl)
      obtain rfl : x15 = .agg #[.int .i64 p1, .int .i64 p2, .int .i64 p3, .int .i64 p4] := h15 _ rfl
      obtain rfl : x16 = .bool false := h16 _ rfl
      obtain ⟨g, rfl, hg1, hg2⟩ := h17 _ rfl
      clear h0 g0 h1 g1 h2 g2 h3 g3 h4 g4 h5 g5 h6 g6 h7 g7 h8 g8 h9 g9 h10 g10 h11 g11 h12 g12 h13 g13 h14 g14 h15 g15 h16 g16 h17 g17 o7 hI
      simp only [setAll, List.foldl, List.setIfInBounds_toArray, List.set_cons_zero, List.set_cons_succ] at hA
      rw [hA]
      clear hA
      simp only [List.drop_succ_cons, List.drop_zero]
      have hwE := HBW.out.trans (hS.mono HBW.out.size)
      clear hg2
      go_wp2_with fail
      go_ret
      exact ⟨by rw [hf.out]; first | done | rfl, hwE⟩
   | true =>
    refine wp_region_inv6 18 (fun i => i == 16) (Ks wr [.val (.pointer (some ⟨w.heap.size, 20, none⟩)), .val (.slice (some ⟨be, oe, none⟩) ne ce), .val (.pointer (some ⟨(w.heap.size + 1), 1, none⟩)), .val (.int .i64 (q : Int)), .val (.pointer (some ⟨be, oe + q * 5, none⟩)), .val (.pointer (some ⟨be, oe + q * 5 + 2, none⟩)), .val (.slice Ec n2 c2), .val (.pointer (some ⟨(w.heap.size + 1), 6, none⟩)), .val (.slice (some ⟨b, o, none⟩) nl cl), .val (.int .i64 (k : Int)), .val (.pointer (some ⟨b, o + k * 3, none⟩)), .val (.pointer (some ⟨b, o + k * 3, none⟩)), .val (.int .i64 la), .val (.tuple #[.agg #[.int .i64 p1, .int .i64 p2, .int .i64 p3, .int .i64 p4], .bool true]), .val (.tuple #[.agg #[.int .i64 p1, .int .i64 p2, .int .i64 p3, .int .i64 p4], .bool true]), .val (.agg #[.int .i64 p1, .int .i64 p2, .int .i64 p3, .int .i64 p4]), .val (.bool true), .own (IsNew wr #[.int .i64 0, .int .i64 0, .int .i64 0, .int .i64 0] 87) (IsNew.keep _ _ _)])
     (fun w' => Below wr.heap.size wr w') (Ks wr [.val (.pointer (some ⟨w.heap.size, 20, none⟩)), .val (.slice (some ⟨be, oe, none⟩) ne ce), .val (.pointer (some ⟨(w.heap.size + 1), 1, none⟩)), .val (.int .i64 (q : Int)), .val (.pointer (some ⟨be, oe + q * 5, none⟩)), .val (.pointer (some ⟨be, oe + q * 5 + 2, none⟩)), .val (.slice Ec n2 c2), .val (.pointer (some ⟨(w.heap.size + 1), 6, none⟩)), .val (.slice (some ⟨b, o, none⟩) nl cl), .val (.int .i64 (k : Int)), .val (.pointer (some ⟨b, o + k * 3, none⟩)), .val (.pointer (some ⟨b, o + k * 3, none⟩)), .val (.int .i64 la), .val (.tuple #[.agg #[.int .i64 p1, .int .i64 p2, .int .i64 p3, .int .i64 p4], .bool true]), .val (.tuple #[.agg #[.int .i64 p1, .int .i64 p2, .int .i64 p3, .int .i64 p4], .bool true]), .val (.agg #[.int .i64 p1, .int .i64 p2, .int .i64 p3, .int .i64 p4]), .val (.bool true), .own (IsNew wr #[.int .i64 p1, .int .i64 p2, .int .i64 p3, .int .i64 p4] 87) (IsNew.keep _ _ _)])
     (fun w' => Below wr.heap.size wr w') (by kernel_rfl) (by kernel_rfl) (by kernel_rfl) (by decide) (by kernel_rfl) (by kernel_rfl) (by kernel_rfl) (by kernel_rfl) rfl (by kernel_rfl) _ rfl rfl (Below.refl _ _).drew ?_ ?_ ?_ ?_
    · refine ⟨?_, ?_, ?_, ?_, ?_, ?_, ?_, ?_, ?_, ?_, ?_, ?_, ?_, ?_, ?_, ?_, ?_, ?_, trivial⟩
      · intro _ A0 w2 hI hd hnd K hK; have e0 := hI.q hnd 2; exact hI.z hK
      · intro _ A0 w2 hI hd hnd K hK; have e0 := hI.p hd 0 20; have hS := hI.world; have hcc : w2.cell? ⟨w.heap.size, 20, none⟩ = _ := (hS.cell (p := ⟨w.heap.size, 20, none⟩) HV0.out).trans D20.out; exact hI.z hK
      · intro _ A0 w2 hI hd hnd K hK; have e0 := hI.q hnd 3; exact hI.z hK
      · intro _ A0 w2 hI hd hnd K hK; have e0 := hI.p hd 2 22; have hS := hI.world; have hcc : w2.cell? ⟨(w.heap.size + 1), 1, none⟩ = _ := (hS.cell (p := ⟨(w.heap.size + 1), 1, none⟩) HV1.out).trans D1.out; exact hI.z hK
      · intro _ A0 w2 hI hd hnd K hK; have e0 := hI.p hd 1 21; have e1 := hI.p hd 3 23; exact hI.z hK
      · intro _ A0 w2 hI hd hnd K hK; have e0 := hI.p hd 4 24; exact hI.z hK
      · intro _ A0 w2 hI hd hnd K hK; have e0 := hI.p hd 5 25; have hS := hI.world; have hcc : w2.cell? ⟨be, oe + q * 5 + 2, none⟩ = _ := (hS.cell (p := ⟨be, oe + q * 5 + 2, none⟩) HVE.out).trans DE.out; exact hI.z hK
      · intro _ A0 w2 hI hd hnd K hK; have e0 := hI.q hnd 3; exact hI.z hK
      · intro _ A0 w2 hI hd hnd K hK; have e0 := hI.p hd 7 27; have hS := hI.world; have hcc : w2.cell? ⟨(w.heap.size + 1), 6, none⟩ = _ := (hS.cell (p := ⟨(w.heap.size + 1), 6, none⟩) HV1.out).trans D6.out; exact hI.z hK
      · intro _ A0 w2 hI hd hnd K hK; have e0 := hI.q hnd 5; exact hI.z hK
      · intro _ A0 w2 hI hd hnd K hK; have e0 := hI.p hd 8 28; have e1 := hI.p hd 9 29; exact hI.z hK
      · intro _ A0 w2 hI hd hnd K hK; have e0 := hI.p hd 10 30; exact hI.z hK
      · intro _ A0 w2 hI hd hnd K hK; have e0 := hI.p hd 11 31; have hS := hI.world; have hcc : w2.cell? ⟨b, o + k * 3, none⟩ = _ := (hS.cell (p := ⟨b, o + k * 3, none⟩) HVB.out).trans C0.out; exact hI.z hK
      · intro _ A0 w2 hI hd hnd K hK; have e0 := hI.p hd 6 26; have e1 := hI.p hd 12 32; have hS := hI.world; refine wanted_go rfl ?_; clear hI hd hnd; go_simp
        go_at_call 32
        refine (rfind_n HN2.out (chart_keep HCH.out (HBW.out.trans (hS.mono HBW.out.size))) HN3.out la HLA.out HFO.out HFS.out).mono ?_
        rintro e w3 ⟨rfl, h3⟩
        exact hK.out _ _ (hS.trans (h3.mono hS.size)) (Ks.of rfl rfl) (Ks.keep h3)
      · intro _ A0 w2 hI hd hnd K hK; have e0 := hI.p hd 13 33; exact hI.z hK
      iterate 2 (· intro _ A0 w2 hI hd hnd K hK; have e0 := hI.p hd 14 19; exact hI.z hK)
      · intro _ A0 w2 hI hd hnd K hK; have hS := hI.world; refine wanted_go rfl ?_; clear hI hd hnd; go_simp
        exact hK.out _ _ (hS.alloc hS.size _) (Ks.of rfl (IsNew.made hS.size _ _)) (Ks.keep (below1 w2 _))
    · intro _ A0 w2 hI hall K hK
      obtain ⟨xp, gp, hp⟩ := hI.got 17 _ 6 rfl rfl (hall 17 (by decide) rfl)
      obtain ⟨xv, gv, hv⟩ := hI.got 15 _ 34 rfl rfl (hall 15 (by decide) rfl)
      obtain ⟨g, rfl, hg1, hg2⟩ := hp _ rfl
      obtain rfl : xv = .agg #[.int .i64 p1, .int .i64 p2, .int .i64 p3, .int .i64 p4] := hv _ rfl
      have hS := hI.world; refine wanted_go rfl ?_
      refine wp_store_row 87 (.tmp 6) (.tmp 34) rfl g #[.int .i64 p1, .int .i64 p2, .int .i64 p3, .int .i64 p4] (by simp [Act.eval, Array.getD_eq_getD_getElem?, gp]) (by simp [Act.eval, Array.getD_eq_getD_getElem?, gv]) 87 #[.int .i64 0, .int .i64 0, .int .i64 0, .int .i64 0] hg2 (info_accS ⟨p1, p2, p3, p4⟩) rfl (by simp [Value.oneCell']) ?_
      refine hK _ (below_setRow hS hg1 _) ?_
      intro i o d u hi ho hd hu hV
      refine Ks.store (p := 17) (kn := _) rfl hV (fun hip => ?_)
      subst hip
      obtain rfl : _ = o := Option.some.inj ho
      obtain rfl : _ = d := Option.some.inj hd
      obtain rfl : _ = u := Option.some.inj (gp.symm.trans hu)
      exact ⟨g, rfl, hg1, heap_setRow hg2 _⟩
    · refine ⟨fun h => absurd h (by decide), fun h => absurd h (by decide), fun h => absurd h (by decide), fun h => absurd h (by decide), fun h => absurd h (by decide), fun h => absurd h (by decide), fun h => absurd h (by decide), fun h => absurd h (by decide), fun h => absurd h (by decide), fun h => absurd h (by decide), fun h => absurd h (by decide), fun h => absurd h (by decide), fun h => absurd h (by decide), fun h => absurd h (by decide), fun h => absurd h (by decide), fun h => absurd h (by decide), ?_, fun h => absurd h (by decide), fun h => absurd h (by decide), trivial⟩
      · intro _; intro _ A0 w2 hI hd hnd K hK; have e0 := hI.p hd 14 19; exact hI.z hK
    · intro A0 w2 hI
      obtain ⟨x0, g0, h0⟩ := hI.got 0 _ 20 rfl rfl rfl
      obtain ⟨x1, g1, h1⟩ := hI.got 1 _ 21 rfl rfl rfl
      obtain ⟨x2, g2, h2⟩ := hI.got 2 _ 22 rfl rfl rfl
      obtain ⟨x3, g3, h3⟩ := hI.got 3 _ 23 rfl rfl rfl
      obtain ⟨x4, g4, h4⟩ := hI.got 4 _ 24 rfl rfl rfl
      obtain ⟨x5, g5, h5⟩ := hI.got 5 _ 25 rfl rfl rfl
      obtain ⟨x6, g6, h6⟩ := hI.got 6 _ 26 rfl rfl rfl
      obtain ⟨x7, g7, h7⟩ := hI.got 7 _ 27 rfl rfl rfl
      obtain ⟨x8, g8, h8⟩ := hI.got 8 _ 28 rfl rfl rfl
      obtain ⟨x9, g9, h9⟩ := hI.got 9 _ 29 rfl rfl rfl
      obtain ⟨x10, g10, h10⟩ := hI.got 10 _ 30 rfl rfl rfl
      obtain ⟨x11, g11, h11⟩ := hI.got 11 _ 31 rfl rfl rfl
      obtain ⟨x12, g12, h12⟩ := hI.got 12 _ 32 rfl rfl rfl
      obtain ⟨x13, g13, h13⟩ := hI.got 13 _ 33 rfl rfl rfl
      obtain ⟨x14, g14, h14⟩ := hI.got 14 _ 19 rfl rfl rfl
      obtain ⟨x15, g15, h15⟩ := hI.got 15 _ 34 rfl rfl rfl
      obtain ⟨x16, g16, h16⟩ := hI.got 16 _ 35 rfl rfl rfl
      obtain ⟨x17, g17, h17⟩ := hI.got 17 _ 6 rfl rfl rfl
      have hS := hI.world
      obtain ⟨y7, o7⟩ : ∃ v, A0.tmps[7]? = some v := ⟨_, hI.oldHead 7 (by kernel_rfl)⟩
      have hA : A0 = _ := hI.tmps [(20, x0), (21, x1), (22, x2), (23, x3), (24, x4), (25, x5), (26, x6), (27, x7), (28, x8), (29, x9), (30, x10), (31, x11), (32, x12), (33, x13), (19, x14), (34, x15), (35, x16), (6, x17), (7, y7)] (by simp only [List.mem_cons, List.not_mem_nil, or_false, forall_eq_or_imp, forall_eq]; exact ⟨g0, g1, g2, g3, g4, g5, g6, g7, g8, g9, g10, g11, g12, g13, g14, g15, g16, g17, o7⟩) (by kernel_rfl)
      obtain rfl : x15 = .agg #[.int .i64 p1, .int .i64 p2, .int .i64 p3, .int .i64 p4] := h15 _ rfl
      obtain rfl : x16 = .bool true := h16 _ rfl
      obtain ⟨g, rfl, hg1, hg2⟩ := h17 _ rfl
      clear h0 g0 h1 g1 h2 g2 h3 g3 h4 g4 h5 g5 h6 g6 h7 g7 h8 g8 h9 g9 h10 g10 h11 g11 h12 g12 h13 g13 h14 g14 h15 g15 h16 g16 h17 g17 o7 hI
      simp only [setAll, List.foldl, List.setIfInBounds_toArray, List.set_cons_zero, List.set_cons_succ] at hA
      rw [hA]
      clear hA
      simp only [List.drop_succ_cons, List.drop_zero]
      have hwE := hb.trans (hS.mono hb.size)
      clear hg2
      go_wp2_with fail
      go_roundw
      case rel => exact ⟨k + 1, by omega, by go_num, hwE, fun j hj hjk => by
       rcases Nat.lt_or_ge j k with h | h
       · exact HA.out j hj h
       · have : j = k := by omega
         subst this
         rw [HX.out]
         exact HFS.out⟩
      case measure => first | exact meas_v hlt | (simp only [intOf]; omega)
  case neg =>
   have hltI : ¬ (k : Int) < (nl : Int) := by omega
   have HCD := Lib.hid (show chartedB (g.entities.getD (q : Int).toNat {}).chart ls = true by
    rw [HGE.out]
    unfold chartedB
    rw [List.all_eq_true]
    intro x hx
    obtain ⟨j, hj, rfl⟩ := List.getElem_of_mem hx
    exact HA.out j hj (by have := HN.out; omega))
   have HCR := Lib.hid (cal_range hHr HY.out HM.out HNP.out)
   have HZR := Lib.hid hZr
   obtain ⟨ic, hic⟩ : ∃ b, inCalB g.calendar.year g.calendar.month g.calendar.periods xd = b := ⟨_, rfl⟩
   have HIC := Lib.hid hic
   have hcall := inCal_c g.calendar.year g.calendar.month g.calendar.periods xd wr HCB.out
   rw [hic] at hcall
   have HCALL := Lib.hid hcall
   obtain ⟨yy, hyy⟩ : ∃ y, g.calendar.year = y := ⟨_, rfl⟩
   obtain ⟨mm, hmm⟩ : ∃ y, g.calendar.month = y := ⟨_, rfl⟩
   obtain ⟨nn, hnn⟩ : ∃ y, g.calendar.periods = y := ⟨_, rfl⟩
   rw [hyy, hmm, hnn] at HCALL HCR
   clear hic hcall hHr hyy hmm hnn
   have e2 := blk_cell hZr 2
   go_wp2_with (show wpList _ _ _ (Oper.mk (some 40) _ _ _ _ _ :: _) _ _; refine wpList_load_mid rfl 23 (.tmp 39) rfl w.heap.size 1 rfl [.int .i64 yy, .int .i64 mm, .int .i64 nn] _ HCR.out Tryz.underlying23 rfl info_cal ?_)
   refine HCALL.out.mono ?_
   rintro e w5 ⟨rfl, hb5⟩
   have hwE := hbw0.trans (hb5.mono hbw0.size)
   clear e2 d6
   cases ic with
   | false =>
    have hf := Lib.hid (show r = 2 by exact HR.out.symm.trans (checkE_3 HF1.out HCD.out HIC.out))
    go_wp2_with fail
    go_ret
    exact ⟨by rw [hf.out]; first | done | rfl, hwE⟩
   | true =>
   have d6 := blk_cell ((hb5.block _ HV1.out).trans HZR.out) 6
   clear hZr
   have HSC := Lib.hid (rsumL_c ls Al cl w5 (lines_keep HL.out hwE) (formed_pre HF1.out))
   obtain ⟨S, hS⟩ : ∃ S, sumL ls = S := ⟨_, rfl⟩
   rw [hS, HN.out] at HSC
   have HSS := Lib.hid hS
   clear hS
   go_wp2_with fail
   refine HSC.out.mono ?_
   rintro e w6 ⟨rfl, hb6⟩
   have hwF := hwE.trans (hb6.mono hwE.size)
   by_cases hz : S = 0
   case pos =>
    have hz1 : (S != 0) = false := by simpa using hz
    have hf := Lib.hid (show r = 0 by rw [← HR.out, checkE_4 HF1.out HCD.out HIC.out]; simp only; rw [HSS.out, if_pos hz])
    clear hz
    go_wp2_with fail
    go_ret
    exact ⟨by rw [hf.out]; first | done | rfl, hwF⟩
   case neg =>
    have hz1 : (S != 0) = true := by simpa using hz
    have hf := Lib.hid (show r = 11 by rw [← HR.out, checkE_4 HF1.out HCD.out HIC.out]; simp only; rw [HSS.out, if_neg hz])
    clear hz
    go_wp2_with fail
    go_ret
    exact ⟨by rw [hf.out]; first | done | rfl, hwF⟩
set_option maxHeartbeats 2000000 in
theorem same_c (a b' : List XLine) (A B : Option Addr) (c c4 : Nat) (w : World) (ha : ListC LineC 3 w (· < w.heap.size) [.slice A a.length c] a) (hb' : ListC LineC 3 w (· < w.heap.size) [.slice B b'.length c4] b') : Calls Tryz.prog 163 #[.slice A a.length c, .slice B b'.length c4] w (Quiet w (.bool (decide (a = b')))) := by
 obtain ⟨r, hr⟩ : ∃ r, decide (a = b') = r := ⟨_, rfl⟩
 rw [hr]
 have HR := Lib.hid hr
 have hbn := ha.cap
 have hbn2 := hb'.cap
 obtain ⟨n, hnl⟩ : ∃ n, a.length = n := ⟨_, rfl⟩
 obtain ⟨m, hml⟩ : ∃ n, b'.length = n := ⟨_, rfl⟩
 have HA := Lib.hid ha
 have HB := Lib.hid hb'
 have HN := Lib.hid hnl
 have HM := Lib.hid hml
 rw [hnl] at hbn ⊢
 rw [hml] at hbn2 ⊢
 unfold maxLen at hbn hbn2
 have hn9 : n ≤ 9223372036854775807 := by omega
 have hm9 : m ≤ 9223372036854775807 := by omega
 clear hr ha hb' hnl hml hbn hbn2
 by_cases hl : n = m
 case neg =>
  have hf := Lib.hid (show r = false by rw [← HR.out]; exact decide_eq_false (fun e => hl (by rw [← HN.out, ← HM.out, e])))
  have hl1 : ((n : Int) != (m : Int)) = true := by simp; omega
  clear hl
  go_enter Tryz.func163, Tryz.ntmps163
  go_wp2_with fail
  go_ret
  exact ⟨by rw [hf.out]; first | done | rfl, Below.refl _ _⟩
 case pos =>
 subst hl
 go_enter Tryz.func163, Tryz.ntmps163
 go_wp2_with fail
 go_loopw [5] (fun i wr => ∃ k : Nat, k ≤ n ∧ i = .int .i64 (k : Int) ∧ Below w.heap.size w wr ∧ ∀ j, j < k → a[j]? = b'[j]?) (fun i _ => n - (intOf i).toNat)
 case atStart => exact ⟨0, by omega, rfl, Below.refl _ _, fun j h => by omega⟩
 case round =>
  obtain ⟨k, hk, rfl, hb, hall⟩ := hrel
  have HALL := Lib.hid hall
  clear hall
  by_cases hlt : k < n
  case pos =>
   have hltI : (k : Int) < (n : Int) := by omega
   have hkl : k < a.length := by rw [HN.out]; exact hlt
   have hkm : k < b'.length := by rw [HM.out]; exact hlt
   obtain ⟨b, o, es, hAe, hbw, hes, hat⟩ := ListC.get HA.out k hkl
   obtain ⟨b4, o4, es4, hAe4, hbw4, hes4, hat4⟩ := ListC.get HB.out k hkm
   subst hAe hAe4
   have hes1 := (LineC.lit hes).1
   have hes2 := (LineC.lit hes4).1
   rw [hes1] at hat
   rw [hes2] at hat4
   obtain ⟨x, hx⟩ : ∃ x, a[k] = x := ⟨_, rfl⟩
   obtain ⟨y, hy⟩ : ∃ x, b'[k] = x := ⟨_, rfl⟩
   rw [hx] at hat
   rw [hy] at hat4
   have HX := Lib.hid (show a[k]? = some x by rw [List.getElem?_eq_getElem hkl, hx])
   have HY := Lib.hid (show b'[k]? = some y by rw [List.getElem?_eq_getElem hkm, hy])
   have AT1 := Lib.hid ((hat.fr (Fr.ofBelow hb)).mono (fun q (hq : q < w.heap.size) => show q < wr.heap.size by have := hb.size; omega))
   have AT2 := Lib.hid ((hat4.fr (Fr.ofBelow hb)).mono (fun q (hq : q < w.heap.size) => show q < wr.heap.size by have := hb.size; omega))
   clear hes hes4 hes1 hes2 hat hat4 hx hy
   by_cases he : x = y
   case neg =>
    have hf := Lib.hid (show r = false by rw [← HR.out]; exact decide_eq_false (fun e => he (by have h1 := HX.out; rw [e, HY.out] at h1; exact (Option.some.inj h1).symm)))
    obtain ⟨a1, a2, a3⟩ := x
    obtain ⟨b1, b2, b3⟩ := y
    have HNEQ := Lib.hid (show ¬ (a1 = b1 ∧ a2 = b2 ∧ a3 = b3) from fun h => he (by rw [h.1, h.2.1, h.2.2]))
    try simp only at AT1 AT2
    clear he
    go_wp2_with fail
    refine wp_region_inv (Ks wr [.val (.slice (some ⟨b, o, none⟩) n c), .val (.int .i64 (k : Int)), .val (.pointer (some ⟨b, o + k * 3, none⟩)), .val (.agg #[.int .i64 a1, .int .i64 a2, .int .i64 a3]), .val (.slice (some ⟨b4, o4, none⟩) n c4), .val (.int .i64 (k : Int)), .val (.pointer (some ⟨b4, o4 + k * 3, none⟩)), .val (.agg #[.int .i64 b1, .int .i64 b2, .int .i64 b3]), .val (.bool true)])
     (fun w' => Below wr.heap.size wr w') (by kernel_rfl) (by kernel_rfl) (by kernel_rfl) (Below.refl _ _).drew ?_ ?_
    · refine ⟨?_, ?_, ?_, ?_, ?_, ?_, ?_, ?_, ?_, trivial⟩
      · intro _ A0 w2 hI hd hnd K hK; have e0 := hI.q hnd 0; exact hI.z hK
      · intro _ A0 w2 hI hd hnd K hK; have e0 := hI.q hnd 5; exact hI.z hK
      · intro _ A0 w2 hI hd hnd K hK; have e0 := hI.p hd 0 17; have e1 := hI.p hd 1 18; exact hI.z hK
      · intro _ A0 w2 hI hd hnd K hK; have e0 := hI.p hd 2 19; have hS := hI.world; have hrange : w2.rangeAt b (o + k * 3) [.int .i64 a1, .int .i64 a2, .int .i64 a3] := (AT1.out.fr (Fr.ofBelow hS)).range; have hisize := info_line; refine wanted_go rfl ?_; clear hI hd hnd
        refine wp_load_mid 76 (.tmp 19) rfl _ _ (by simpa [Act.eval, Array.getD_eq_getD_getElem?] using e0) _ _ hrange Tryz.underlying76 rfl hisize ?_
        exact kq hK hS rfl
      · intro _ A0 w2 hI hd hnd K hK; have e0 := hI.q hnd 1; exact hI.z hK
      · intro _ A0 w2 hI hd hnd K hK; have e0 := hI.q hnd 5; exact hI.z hK
      · intro _ A0 w2 hI hd hnd K hK; have e0 := hI.p hd 4 21; have e1 := hI.p hd 5 22; exact hI.z hK
      · intro _ A0 w2 hI hd hnd K hK; have e0 := hI.p hd 6 23; have hS := hI.world; have hrange : w2.rangeAt b4 (o4 + k * 3) [.int .i64 b1, .int .i64 b2, .int .i64 b3] := (AT2.out.fr (Fr.ofBelow hS)).range; have hisize := info_line; refine wanted_go rfl ?_; clear hI hd hnd
        refine wp_load_mid 76 (.tmp 23) rfl _ _ (by simpa [Act.eval, Array.getD_eq_getD_getElem?] using e0) _ _ hrange Tryz.underlying76 rfl hisize ?_
        exact kq hK hS rfl
      · intro _ A0 w2 hI hd hnd K hK; have e0 := hI.p hd 3 20; have e1 := hI.p hd 7 24; have hS := hI.world
        have hne := HNEQ.out
        refine wanted_go rfl ?_; clear hI hd hnd; go_simp
        by_cases e1 : a1 = b1
        · by_cases e2 : a2 = b2
          · by_cases e3 : a3 = b3
            · exact absurd ⟨e1, e2, e3⟩ hne
            · rw [if_pos e1, if_pos e2, if_neg e3]; exact kq hK hS rfl
          · rw [if_pos e1, if_neg e2]; exact kq hK hS rfl
        · rw [if_neg e1]; exact kq hK hS rfl
    · intro _ A0 w2 hI hall; have hS := hI.world; have c9 := hI.ch hall [17, 18, 19, 20, 21, 22, 23, 24, 25]; obtain ⟨x0, x1, x2, x3, x4, x5, x6, x7, x8, hA, hV⟩ := c9
      obtain rfl : x8 = .bool true := hV 8 _ _ rfl _ rfl
      clear hV hI hall
      simp only [setAll, List.foldl, List.setIfInBounds_toArray, List.set_cons_zero, List.set_cons_succ] at hA
      rw [hA]
      clear hA
      go_wp2_with fail
      go_ret
      exact ⟨by rw [hf.out]; first | done | rfl, hb.trans (hS.mono hb.size)⟩
   case pos =>
    subst he
    obtain ⟨a1, a2, a3⟩ := x
    try simp only at AT1 AT2
    go_wp2_with fail
    refine wp_region_inv (Ks wr [.val (.slice (some ⟨b, o, none⟩) n c), .val (.int .i64 (k : Int)), .val (.pointer (some ⟨b, o + k * 3, none⟩)), .val (.agg #[.int .i64 a1, .int .i64 a2, .int .i64 a3]), .val (.slice (some ⟨b4, o4, none⟩) n c4), .val (.int .i64 (k : Int)), .val (.pointer (some ⟨b4, o4 + k * 3, none⟩)), .val (.agg #[.int .i64 a1, .int .i64 a2, .int .i64 a3]), .val (.bool false)])
     (fun w' => Below wr.heap.size wr w') (by kernel_rfl) (by kernel_rfl) (by kernel_rfl) (Below.refl _ _).drew ?_ ?_
    · refine ⟨?_, ?_, ?_, ?_, ?_, ?_, ?_, ?_, ?_, trivial⟩
      · intro _ A0 w2 hI hd hnd K hK; have e0 := hI.q hnd 0; exact hI.z hK
      · intro _ A0 w2 hI hd hnd K hK; have e0 := hI.q hnd 5; exact hI.z hK
      · intro _ A0 w2 hI hd hnd K hK; have e0 := hI.p hd 0 17; have e1 := hI.p hd 1 18; exact hI.z hK
      · intro _ A0 w2 hI hd hnd K hK; have e0 := hI.p hd 2 19; have hS := hI.world; have hrange : w2.rangeAt b (o + k * 3) [.int .i64 a1, .int .i64 a2, .int .i64 a3] := (AT1.out.fr (Fr.ofBelow hS)).range; have hisize := info_line; refine wanted_go rfl ?_; clear hI hd hnd
        refine wp_load_mid 76 (.tmp 19) rfl _ _ (by simpa [Act.eval, Array.getD_eq_getD_getElem?] using e0) _ _ hrange Tryz.underlying76 rfl hisize ?_
        exact kq hK hS rfl
      · intro _ A0 w2 hI hd hnd K hK; have e0 := hI.q hnd 1; exact hI.z hK
      · intro _ A0 w2 hI hd hnd K hK; have e0 := hI.q hnd 5; exact hI.z hK
      · intro _ A0 w2 hI hd hnd K hK; have e0 := hI.p hd 4 21; have e1 := hI.p hd 5 22; exact hI.z hK
      · intro _ A0 w2 hI hd hnd K hK; have e0 := hI.p hd 6 23; have hS := hI.world; have hrange : w2.rangeAt b4 (o4 + k * 3) [.int .i64 a1, .int .i64 a2, .int .i64 a3] := (AT2.out.fr (Fr.ofBelow hS)).range; have hisize := info_line; refine wanted_go rfl ?_; clear hI hd hnd
        refine wp_load_mid 76 (.tmp 23) rfl _ _ (by simpa [Act.eval, Array.getD_eq_getD_getElem?] using e0) _ _ hrange Tryz.underlying76 rfl hisize ?_
        exact kq hK hS rfl
      · intro _ A0 w2 hI hd hnd K hK; have e0 := hI.p hd 3 20; have e1 := hI.p hd 7 24; exact hI.z hK
    · intro _ A0 w2 hI hall; have hS := hI.world; have c9 := hI.ch hall [17, 18, 19, 20, 21, 22, 23, 24, 25]; obtain ⟨x0, x1, x2, x3, x4, x5, x6, x7, x8, hA, hV⟩ := c9
      obtain rfl : x8 = .bool false := hV 8 _ _ rfl _ rfl
      clear hV hI hall
      simp only [setAll, List.foldl, List.setIfInBounds_toArray, List.set_cons_zero, List.set_cons_succ] at hA
      rw [hA]
      clear hA
      have hbE := hb.trans (hS.mono hb.size)
      clear hS
      go_wp2_with fail
      go_roundw
      case rel => exact ⟨k + 1, by omega, by go_num, hbE, fun j hj => by
       rcases Nat.lt_or_ge j k with h | h
       · exact HALL.out j h
       · have : j = k := by omega
         subst this
         rw [HX.out, HY.out]⟩
      case measure => first | exact meas_v hlt | (simp only [intOf]; omega)
  case neg =>
   have hltI : ¬ (k : Int) < (n : Int) := by omega
   have hf := Lib.hid (show r = true by
    rw [← HR.out]
    refine decide_eq_true (List.ext_getElem? (fun i => ?_))
    rcases Nat.lt_or_ge i k with h | h
    · exact HALL.out i h
    · rw [List.getElem?_eq_none (by rw [HN.out]; omega), List.getElem?_eq_none (by rw [HM.out]; omega)])
   go_wp2_with fail
   go_ret
   exact ⟨by rw [hf.out]; first | done | rfl, hb⟩
theorem few_v {g : XGroup} {gl : List Value} {w w2 : World} (hg : GroupC w (· < w.heap.size) gl g) (hsz : szG g) (hb : Below w.heap.size w w2) : Calls Tryz.prog 11 #[.agg gl.toArray] w2 (If (fewG g) w2) := few_c g gl w2 (hg.keep hb) hsz
end Go.Proofs.YtekelchdbkjjjaaGreat
namespace Go.Proofs.YtekelchdbkjjjaaGreat
open Go Go.RowKit Go.ChangeShapes Go.WideShapes Go.MapKept Go.ChangeMaps
open Go.WideElems (Fit rd rg pl rd_key findIdx_born findIdx_arr modify_last set_self)
open Go.Maps (Keyed)
theorem key_uniq {l : List MapEntry} (hn : (l.map (·.key)).Nodup) {i j : Nat} {a c : MapEntry} (hi : l[i]? = some a) (hj : l[j]? = some c) (h : a.key = c.key) : i = j := by
 obtain ⟨hi1, hi2⟩ := List.getElem?_eq_some_iff.1 hi
 obtain ⟨hj1, hj2⟩ := List.getElem?_eq_some_iff.1 hj
 rcases Nat.lt_trichotomy i j with h' | h' | h'
 · exfalso
   have hp := List.pairwise_iff_getElem.1 hn i j (by simpa using hi1) (by simpa using hj1) h'
   simp only [List.getElem_map] at hp
   rw [hi2, hj2] at hp
   exact hp h
 · exact h'
 · exfalso
   have hp := List.pairwise_iff_getElem.1 hn j i (by simpa using hj1) (by simpa using hi1) h'
   simp only [List.getElem_map] at hp
   rw [hi2, hj2] at hp
   exact hp h.symm
section
variable {H : Type} {P : Program} {w : World} {t k e : TypeId} {R : Value → Option (DataW H × List MemPlace)} {b : Nat} {es : Array MapEntry} {clock : Nat}
theorem op_assign (K : Keyed P k) (ht : P.underlying t = some (.map k e)) {z : Value} (hz : ∀ u : World, (zeroValue e).run P u = .ok z u) (hb : w.heap[b]? = some (.map es clock)) (F : Fit P k R es clock)
 {key : Value} {kl : Lit} (hkey : keyOf P k key = some kl) :
 ∃ (v0 : Value) (st : Nat) (es1 : Array MapEntry) (clock1 : Nat),
  (∀ u : World, (u.heap[b]? = some (.map es clock) ∨ u.heap[b]? = some (.map es1 clock1)) → (Instr.lookup t (.map (some b)) key false).run P u = .ok v0 u ∧ (Instr.mapEntry t (.map (some b)) key).run P u = .ok (.tuple #[v0, goInt st]) (setBlock u b (.map es1 clock1))) ∧
  ∀ val : Value, ∃ es' clock', (∀ u : World, u.heap[b]? = some (.map es1 clock1) → (Instr.entryStore t (.map (some b)) (goInt st) val).run P u = .ok () (setBlock u b (.map es' clock'))) ∧
   (Instr.mapUpdate t (.map (some b)) key val).run P w = .ok () (setBlock w b (.map es' clock')) := by
 obtain ⟨s1, s2, _⟩ := F.stamped
 rcases K.find w hkey es.toList F.keys with ⟨h1, h2⟩ | ⟨j, e0, h1, h2, h3⟩
 · have hself : (es.push ⟨key, z, clock⟩).modify es.size (fun e => { e with key := key }) = es.push ⟨key, z, clock⟩ := by
    apply Array.ext'
    rw [Array.toList_modify, Array.toList_push, ← Array.length_toList, modify_last]
   have hks : ∀ x ∈ (es.push (⟨key, z, clock⟩ : MapEntry)).toList, ∃ l, keyOf P k x.key = some l := fun x hx => by
    simp only [Array.toList_push, List.mem_append, List.mem_singleton] at hx
    rcases hx with hx | rfl
    · exact F.keys x hx
    · exact ⟨kl, hkey⟩
   refine ⟨z, clock, es.push ⟨key, z, clock⟩, clock + 1, fun u hu => ?_, fun val => ⟨es.push ⟨key, val, clock⟩, clock + 1, fun u hu => ?_, ?_⟩⟩
   · rcases hu with hu | hu
     · have h1u : (Instr.findKey k key es.toList).run P u = .ok none u := by
        rcases K.find u hkey es.toList F.keys with ⟨g1, _⟩ | ⟨j, e0, _, g2, g3⟩
        · exact g1
        · exact absurd g3 (h2 e0 (List.mem_of_getElem? g2))
       exact ⟨by simp [Instr.lookup, run_underlying ht, MapKept.run_getObj_map hu, K.check u _ hkey, h1u, hz, Result.andThen],
        by simp [Instr.mapEntry, run_underlying ht, MapKept.run_getObj_map hu, K.check u false hkey, h1u, hz, MapKept.run_setObj_map _ hu, Result.andThen, setBlock]⟩
     · rcases K.find u hkey (es.push (⟨key, z, clock⟩ : MapEntry)).toList hks with ⟨_, g2⟩ | ⟨j, e0, g1, g2, g3⟩
       · exact absurd rfl (g2 ⟨key, z, clock⟩ (by simp))
       · have hj : j = es.size ∧ e0 = ⟨key, z, clock⟩ := by
          rw [Array.toList_push] at g2
          rcases Nat.lt_or_ge j es.toList.length with hl | hl
          · rw [List.getElem?_append_left hl] at g2
            exact absurd g3 (h2 e0 (List.mem_of_getElem? g2))
          · rw [List.getElem?_append_right hl] at g2
            have hl1 := (List.getElem?_eq_some_iff.1 g2).1
            simp only [List.length_singleton] at hl1
            have h0 : j - es.toList.length = 0 := by omega
            rw [h0] at g2
            simp only [List.getElem?_cons_zero, Option.some.injEq] at g2
            exact ⟨by rw [Array.length_toList] at hl h0; omega, g2.symm⟩
         obtain ⟨rfl, rfl⟩ := hj
         simp only [Array.toList_push] at g1
         exact ⟨by simp [Instr.lookup, run_underlying ht, MapKept.run_getObj_map hu, K.check u _ hkey, g1, Result.andThen],
          by simp [Instr.mapEntry, run_underlying ht, MapKept.run_getObj_map hu, K.check u false hkey, g1, K.stays u hkey, hself, MapKept.run_setObj_map _ hu, Result.andThen, setBlock]⟩
   · have hidx : (es.push ⟨key, z, clock⟩).findIdx? (fun e => ((e.born : Nat) : Int) == ((clock : Nat) : Int)) = some es.size := by
      rw [findIdx_arr]
      exact findIdx_born (l := (es.push ⟨key, z, clock⟩).toList) (j := es.size) (e0 := ⟨key, z, clock⟩) (by
       simp only [Array.toList_push, List.map_append, List.map_cons, List.map_nil]
       refine List.nodup_append.2 ⟨s2, by simp, fun a ha c hc e1 => ?_⟩
       simp only [List.mem_singleton] at hc
       obtain ⟨x, hx, rfl⟩ := List.mem_map.1 ha
       have := s1 x hx
       omega) (by simp)
     have hmod : (es.push ⟨key, z, clock⟩).modify es.size (fun e => { e with val := val }) = es.push ⟨key, val, clock⟩ := by
      apply Array.ext'
      rw [Array.toList_modify, Array.toList_push, Array.toList_push, ← Array.length_toList, modify_last]
     simp [Instr.entryStore, MapKept.run_getObj_map hu, asInt, asIntOf, goInt, hidx, hmod, MapKept.run_setObj_map _ hu, Result.andThen, setBlock]
   · simp [Instr.mapUpdate, run_underlying ht, MapKept.run_getObj_map hb, K.check w false hkey, h1, MapKept.run_setObj_map _ hb, Result.andThen, setBlock]
 · have hj : es[j]? = some e0 := by simpa using h2
   have hsame : es.modify j (fun e => { e with key := key }) = es := by
    apply Array.ext'
    rw [Array.toList_modify, modify_eq_set _ _ _ _ h2]
    have : ({ e0 with key := key } : MapEntry) = e0 := by rw [← h3]
    rw [this]
    exact set_self _ _ _ h2
   have hu1 : ∀ u : World, (Instr.findKey k key es.toList).run P u = .ok (some (j, e0.val)) u := fun u => by
    rcases K.find u hkey es.toList F.keys with ⟨_, g2⟩ | ⟨j', e', g1, g2, g3⟩
    · exact absurd h3 (g2 e0 (List.mem_of_getElem? h2))
    · have hne : j' = j := key_uniq F.stamped.2.2 g2 h2 (g3.trans h3.symm)
      subst hne
      rw [h2] at g2
      cases g2
      exact g1
   refine ⟨e0.val, e0.born, es, clock, fun u hu => ?_, fun val => ⟨es.modify j (fun e' => { e' with key := key, val := val }), clock, fun u hu => ?_, ?_⟩⟩
   · have hu : u.heap[b]? = some (.map es clock) := hu.elim id id
     exact ⟨by simp [Instr.lookup, run_underlying ht, MapKept.run_getObj_map hu, K.check u _ hkey, hu1, Result.andThen],
      by simp [Instr.mapEntry, run_underlying ht, MapKept.run_getObj_map hu, K.check u false hkey, hu1, hj, h3, K.stays u hkey, hsame, MapKept.run_setObj_map _ hu, Result.andThen, setBlock]⟩
   · have hidx : es.findIdx? (fun e => ((e.born : Nat) : Int) == ((e0.born : Nat) : Int)) = some j := by
      rw [findIdx_arr]
      exact findIdx_born s2 h2
     have hmod : es.modify j (fun e => { e with val := val }) = es.modify j (fun e' => { e' with key := key, val := val }) := by
      apply Array.ext'
      rw [Array.toList_modify, Array.toList_modify, modify_eq_set _ _ _ _ h2, modify_eq_set _ _ _ _ h2, ← h3]
     simp [Instr.entryStore, MapKept.run_getObj_map hu, asInt, asIntOf, goInt, hidx, hmod, MapKept.run_setObj_map _ hu, Result.andThen, setBlock]
   · simp [Instr.mapUpdate, run_underlying ht, MapKept.run_getObj_map hb, K.check w false hkey, h1, hj, h3, K.stays w hkey, MapKept.run_setObj_map _ hb, Result.andThen, setBlock]
end
end Go.Proofs.YtekelchdbkjjjaaGreat
