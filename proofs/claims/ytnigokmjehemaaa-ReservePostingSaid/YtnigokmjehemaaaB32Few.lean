/- The reference's Find and Few on groups. Written by gen_b32.py. -/
import Derived.Test.YtnigokmjehemaaaProg
import Derived.Test.YtnigokmjehemaaaB29Valid
namespace Go.Proofs.Ytnigokmjehemaaa
open Go Go.RowKit
set_option linter.unusedVariables false
set_option linter.unusedSimpArgs false
set_option maxRecDepth 4000
attribute [local go_sem ↓] Go.wp_at_zero Go.wp_at_succ
theorem ba_beq (a b : ByteArray) : (a.toList == b.toList) = decide (a = b) := by
  by_cases h : a = b
  · subst h; simp
  · rw [decide_eq_false h]
    have : a.toList ≠ b.toList := fun e => h (by
      rw [ByteArray.toList_eq, ByteArray.toList_eq] at e
      exact ByteArray.ext (Array.ext' e))
    simpa using this
/-- What a call leaves that answers a bool: where it is true, P holds. -/
def If (P : Prop) (w : World) (e : Ending) (w' : World) : Prop := ∃ b, e = .returned (.bool b) ∧ (b = true → P) ∧ Below w.heap.size w w'
theorem If.no {P : Prop} {w w' : World} (h : Below w.heap.size w w') : If P w (.returned (.bool false)) w' := ⟨false, rfl, (fun h => by cases h), h⟩
theorem If.yes {P : Prop} {w w' : World} (hp : P) (h : Below w.heap.size w w') : If P w (.returned (.bool true)) w' := ⟨true, rfl, fun _ => hp, h⟩
/-- The texts of a group are no longer than a text may be. -/
def szE (e : XEntity) : Prop := e.name.size ≤ 140737488355327 ∧ e.currency.size ≤ 140737488355327
def szG (g : XGroup) : Prop := g.currency.size ≤ 140737488355327 ∧ ∀ e ∈ g.entities, szE e
/-- Few: the bounds that it checks. -/
def fewE (e : XEntity) : Prop := e.chart.length ≤ 40 ∧ e.links.length ≤ 60 ∧ e.name.size ≤ 60 ∧ e.currency.size ≤ 60
def fewG (g : XGroup) : Prop := g.chart.length ≤ 60 ∧ g.entities.length ≤ 14 ∧ g.currency.size ≤ 20 ∧ ∀ e ∈ g.entities, fewE e
theorem fewG.small {g : XGroup} (h : fewG g) : smallG g := by
  obtain ⟨h1, h2, h3, h4⟩ := h
  refine ⟨by omega, by omega, by omega, fun e he => ?_⟩
  obtain ⟨a, b, c, d⟩ := h4 e he
  exact ⟨by omega, by omega, by omega, by omega⟩
/-- The number of the first entity with a name. -/
def findE (es : List XEntity) (s : ByteArray) : Int × Bool := match es.findIdx? (fun x => decide (x.name = s)) with
  | some k => ((k : Int), true)
  | none => (0, false)
theorem findE_some {es : List XEntity} {s : ByteArray} {k : Nat} (hk : k < es.length) (h : es[k].name = s) (hb : ∀ j (hj : j < es.length), j < k → ¬ es[j].name = s) : findE es s = ((k : Int), true) := by
  unfold findE
  have : es.findIdx? (fun x => decide (x.name = s)) = some k := by
    rw [List.findIdx?_eq_some_iff_getElem]
    exact ⟨hk, decide_eq_true h, fun j hj => by simpa using hb j (by omega) hj⟩
  rw [this]
theorem findE_none {es : List XEntity} {s : ByteArray} (hb : ∀ j (hj : j < es.length), ¬ es[j].name = s) : findE es s = (0, false) := by
  unfold findE
  have : es.findIdx? (fun x => decide (x.name = s)) = none := by
    rw [List.findIdx?_eq_none_iff]
    intro x hx
    obtain ⟨j, hj, rfl⟩ := List.getElem_of_mem hx
    exact decide_eq_false (hb j hj)
  rw [this]
theorem findE_own {es : List XEntity} {k : Nat} {e : XEntity} (hk : es[k]? = some e) : ((findE es e.name).1 = (k : Int)) ↔ ((es.take k).any fun x => decide (x.name = e.name)) = false := by
  obtain ⟨hl, rfl⟩ := List.getElem?_eq_some_iff.1 hk
  constructor
  · intro h
    rw [List.any_eq_false]
    intro x hx
    rw [List.mem_take_iff_getElem] at hx
    obtain ⟨j, hj, rfl⟩ := hx
    simp only [decide_eq_true_eq]
    intro hn
    unfold findE at h
    cases hf : es.findIdx? (fun x => decide (x.name = es[k].name)) with
    | none =>
      rw [List.findIdx?_eq_none_iff] at hf
      have := hf _ (List.getElem_mem hl)
      simp at this
    | some q =>
      rw [hf] at h
      simp only at h
      rw [List.findIdx?_eq_some_iff_getElem] at hf
      obtain ⟨_, _, h2⟩ := hf
      have := h2 j (by omega)
      simp [hn] at this
  · intro h
    rw [List.any_eq_false] at h
    rw [findE_some hl rfl (fun j hj hjk => by
      have := h es[j] (by rw [List.mem_take_iff_getElem]; exact ⟨j, by omega, rfl⟩)
      simpa using this)]
set_option maxHeartbeats 2000000 in
theorem rFindE_c (g : XGroup) (cs : List Value) (nm : ByteArray) (w : World) (hg : GroupC w (· < w.heap.size) cs g) (hne1 : g.entities.length ≤ 1000) : Calls Try.prog 76 #[.agg cs.toArray, .string nm] w (Quiet w (.tuple #[.int .i64 (findE g.entities nm).1, .bool (findE g.entities nm).2])) := by
  obtain ⟨Ac, cc, Ae, ce, rfl, hch, hen, hcal, hro⟩ := hg.lit
  clear hg hro hcal hch
  obtain ⟨cur, ⟨y, m, p⟩, ch, ⟨r0, r1, r2, r3, r4, r5, r6, r7, r8, r9, r10, r11, r12, r13, r14⟩, es⟩ := g
  simp only at hen hne1 ⊢
  obtain ⟨r, hr⟩ : ∃ r, findE es nm = r := ⟨_, rfl⟩
  rw [hr]
  have HR := Lib.hid hr
  obtain ⟨n, hnl⟩ : ∃ n, ch.length = n := ⟨_, rfl⟩
  obtain ⟨ne, hne⟩ : ∃ ne, es.length = ne := ⟨_, rfl⟩
  have HE := Lib.hid hen
  have HNE := Lib.hid hne
  rw [hnl, hne]
  rw [hne] at hne1
  clear hr hen hnl hne
  show Calls Try.prog 76 #[.agg #[.string cur, .int .i64 y, .int .i64 m, .int .i64 p, .slice Ac n cc, .int .i64 r0, .int .i64 r1, .int .i64 r2, .int .i64 r3, .int .i64 r4, .int .i64 r5, .int .i64 r6, .int .i64 r7, .int .i64 r8, .int .i64 r9, .int .i64 r10, .int .i64 r11, .int .i64 r12, .int .i64 r13, .int .i64 r14, .slice Ae ne ce], .string nm] w (Quiet w _)
  go_enter Try.func76, Try.ntmps76
  go_upto_region 1 with fail
  have H := heap_alloc_new w (.cells #[.string cur, .int .i64 y, .int .i64 m, .int .i64 p, .slice Ac n cc, .int .i64 r0, .int .i64 r1, .int .i64 r2, .int .i64 r3, .int .i64 r4, .int .i64 r5, .int .i64 r6, .int .i64 r7, .int .i64 r8, .int .i64 r9, .int .i64 r10, .int .i64 r11, .int .i64 r12, .int .i64 r13, .int .i64 r14, .slice Ae ne ce] 29)
  have HB := below1 w (.cells #[.string cur, .int .i64 y, .int .i64 m, .int .i64 p, .slice Ac n cc, .int .i64 r0, .int .i64 r1, .int .i64 r2, .int .i64 r3, .int .i64 r4, .int .i64 r5, .int .i64 r6, .int .i64 r7, .int .i64 r8, .int .i64 r9, .int .i64 r10, .int .i64 r11, .int .i64 r12, .int .i64 r13, .int .i64 r14, .slice Ae ne ce] 29)
  have HS : w.heap.size < (w.alloc (.cells #[.string cur, .int .i64 y, .int .i64 m, .int .i64 p, .slice Ac n cc, .int .i64 r0, .int .i64 r1, .int .i64 r2, .int .i64 r3, .int .i64 r4, .int .i64 r5, .int .i64 r6, .int .i64 r7, .int .i64 r8, .int .i64 r9, .int .i64 r10, .int .i64 r11, .int .i64 r12, .int .i64 r13, .int .i64 r14, .slice Ae ne ce] 29)).heap.size := blk_lt H
  generalize hW : w.alloc (Obj.cells #[.string cur, .int .i64 y, .int .i64 m, .int .i64 p, .slice Ac n cc, .int .i64 r0, .int .i64 r1, .int .i64 r2, .int .i64 r3, .int .i64 r4, .int .i64 r5, .int .i64 r6, .int .i64 r7, .int .i64 r8, .int .i64 r9, .int .i64 r10, .int .i64 r11, .int .i64 r12, .int .i64 r13, .int .i64 r14, .slice Ae ne ce] 29) = W at *
  clear hW
  have HH := Lib.hid H
  clear H
  go_wp2_with fail
  go_loopw [6] (fun i wr => ∃ k : Nat, k ≤ ne ∧ i = .int .i64 (k : Int) ∧ Below W.heap.size W wr ∧ ∀ j (hj : j < es.length), j < k → ¬ es[j].name = nm) (fun i _ => ne - (intOf i).toNat)
  case atStart => exact ⟨0, by omega, rfl, Below.refl _ _, fun j hj h => by omega⟩
  case round =>
    obtain ⟨k, hk, rfl, hb, hall⟩ := hrel
    have HA := Lib.hid hall
    have hsz := hb.size
    clear hall
    have hb0 := HB.trans (hb.mono HB.size)
    have GR := (hb.block w.heap.size HS).trans HH.out
    have d20 := blk_cell GR 20
    clear GR
    by_cases hlt : k < ne
    case pos =>
      have hltI : (k : Int) < (ne : Int) := by omega
      have hkl : k < es.length := by rw [HNE.out]; exact hlt
      obtain ⟨b, o, es1, hAe, hbw, hes, hat⟩ := ListC.get HE.out k hkl
      subst hAe
      obtain ⟨Ec, c2, Al, cl, rfl, _, _⟩ := hes.lit
      have k0 := (hat.fr (Fr.ofBelow hb0)).c (j := 0) rfl
      rw [Nat.add_zero] at k0
      obtain ⟨s, hs⟩ : ∃ s, es[k].name = s := ⟨_, rfl⟩
      rw [hs] at k0
      have HSN := Lib.hid hs
      clear hes hat hbw hs
      by_cases he : s = nm
      case pos =>
        have he' : (s.toList == nm.toList) = true := by rw [ba_beq, decide_eq_true he]
        have hf := Lib.hid (show r = ((k : Int), true) by rw [← HR.out]; exact findE_some hkl (HSN.out.trans he) HA.out)
        go_wp2_with fail
        go_ret2
        exact ⟨by rw [hf.out]; first | done | rfl, hb0⟩
      case neg =>
        have he' : (s.toList == nm.toList) = false := by rw [ba_beq, decide_eq_false he]
        have HNE2 := Lib.hid he
        go_wp2_with fail
        go_roundw
        case rel => exact ⟨k + 1, by omega, by go_num, hb, fun j hj hjk => by
          rcases Nat.lt_or_ge j k with h | h
          · exact HA.out j hj h
          · have : j = k := by omega
            subst this
            rw [HSN.out]
            exact HNE2.out⟩
        case measure => first | exact meas_v hlt | (simp only [intOf]; omega)
    case neg =>
      have hltI : ¬ (k : Int) < (ne : Int) := by omega
      have hf := Lib.hid (show r = (0, false) by rw [← HR.out]; exact findE_none (fun j hj => HA.out j hj (by have h := HNE.out; omega)))
      go_wp2_with fail
      go_ret2
      exact ⟨by rw [hf.out]; first | done | rfl, hb0⟩
set_option maxHeartbeats 2000000 in
theorem few_c (g : XGroup) (cs : List Value) (w : World) (hg : GroupC w (· < w.heap.size) cs g) (hsz : szG g) : Calls Try.prog 18 #[.agg cs.toArray] w (If (fewG g) w) := by
  obtain ⟨Ac, cc, Ae, ce, rfl, hch, hen, hcal, hro⟩ := hg.lit
  clear hg hro hcal
  have hbn := hch.cap.2
  have hbe := hen.cap.2
  clear hch
  obtain ⟨P, hP⟩ : ∃ P, fewG g = P := ⟨_, rfl⟩
  rw [hP]
  have HP := Lib.hid (show (g.chart.length ≤ 60 ∧ g.entities.length ≤ 14 ∧ g.currency.size ≤ 20 ∧ ∀ e ∈ g.entities, fewE e) → P from fun h => hP ▸ h)
  obtain ⟨cur, ⟨y, m, p⟩, ch, ⟨r0, r1, r2, r3, r4, r5, r6, r7, r8, r9, r10, r11, r12, r13, r14⟩, es⟩ := g
  obtain ⟨hsc, hse⟩ := hsz
  simp only at hen hbn hbe HP hsc hse ⊢
  have HSE := Lib.hid hse
  obtain ⟨n, hnl⟩ : ∃ n, ch.length = n := ⟨_, rfl⟩
  obtain ⟨ne, hne⟩ : ∃ ne, es.length = ne := ⟨_, rfl⟩
  have HE := Lib.hid hen
  have HNE := Lib.hid hne
  have HN := Lib.hid hnl
  rw [hnl, hne]
  rw [hne] at hbe
  rw [hnl] at hbn
  unfold maxLen at hbe hbn
  clear hen hnl hne hP hse
  show Calls Try.prog 18 #[.agg #[.string cur, .int .i64 y, .int .i64 m, .int .i64 p, .slice Ac n cc, .int .i64 r0, .int .i64 r1, .int .i64 r2, .int .i64 r3, .int .i64 r4, .int .i64 r5, .int .i64 r6, .int .i64 r7, .int .i64 r8, .int .i64 r9, .int .i64 r10, .int .i64 r11, .int .i64 r12, .int .i64 r13, .int .i64 r14, .slice Ae ne ce]] w (If P w)
  go_enter Try.func18, Try.ntmps18
  go_upto_region 1 with fail
  have H := heap_alloc_new w (.cells #[.string cur, .int .i64 y, .int .i64 m, .int .i64 p, .slice Ac n cc, .int .i64 r0, .int .i64 r1, .int .i64 r2, .int .i64 r3, .int .i64 r4, .int .i64 r5, .int .i64 r6, .int .i64 r7, .int .i64 r8, .int .i64 r9, .int .i64 r10, .int .i64 r11, .int .i64 r12, .int .i64 r13, .int .i64 r14, .slice Ae ne ce] 29)
  have HB := below1 w (.cells #[.string cur, .int .i64 y, .int .i64 m, .int .i64 p, .slice Ac n cc, .int .i64 r0, .int .i64 r1, .int .i64 r2, .int .i64 r3, .int .i64 r4, .int .i64 r5, .int .i64 r6, .int .i64 r7, .int .i64 r8, .int .i64 r9, .int .i64 r10, .int .i64 r11, .int .i64 r12, .int .i64 r13, .int .i64 r14, .slice Ae ne ce] 29)
  have HS : w.heap.size < (w.alloc (.cells #[.string cur, .int .i64 y, .int .i64 m, .int .i64 p, .slice Ac n cc, .int .i64 r0, .int .i64 r1, .int .i64 r2, .int .i64 r3, .int .i64 r4, .int .i64 r5, .int .i64 r6, .int .i64 r7, .int .i64 r8, .int .i64 r9, .int .i64 r10, .int .i64 r11, .int .i64 r12, .int .i64 r13, .int .i64 r14, .slice Ae ne ce] 29)).heap.size := blk_lt H
  generalize hW : w.alloc (Obj.cells #[.string cur, .int .i64 y, .int .i64 m, .int .i64 p, .slice Ac n cc, .int .i64 r0, .int .i64 r1, .int .i64 r2, .int .i64 r3, .int .i64 r4, .int .i64 r5, .int .i64 r6, .int .i64 r7, .int .i64 r8, .int .i64 r9, .int .i64 r10, .int .i64 r11, .int .i64 r12, .int .i64 r13, .int .i64 r14, .slice Ae ne ce] 29) = W at *
  clear hW
  have HH := Lib.hid H
  clear H
  go_wp2_with fail
  go_loopw [3] (fun i wr => ∃ k : Nat, k ≤ ne ∧ i = .int .i64 (k : Int) ∧ Below W.heap.size W wr ∧ ∀ j (hj : j < es.length), j < k → fewE es[j]) (fun i _ => ne - (intOf i).toNat)
  case atStart => exact ⟨0, by omega, rfl, Below.refl _ _, fun j hj h => by omega⟩
  case round =>
    obtain ⟨k, hk, rfl, hb, hall⟩ := hrel
    have HA := Lib.hid hall
    have hszr := hb.size
    clear hall
    have hb0 := HB.trans (hb.mono HB.size)
    have GR := (hb.block w.heap.size HS).trans HH.out
    have d20 := blk_cell GR 20
    by_cases hlt : k < ne
    case pos =>
      have hltI : (k : Int) < (ne : Int) := by omega
      have hkl : k < es.length := by rw [HNE.out]; exact hlt
      obtain ⟨b, o, es1, hAe, hbw, hes, hat⟩ := ListC.get HE.out k hkl
      subst hAe
      obtain ⟨Ec, c2, Al, cl, rfl, _, _⟩ := hes.lit
      obtain ⟨x, hx⟩ : ∃ x, es[k] = x := ⟨_, rfl⟩
      have hsx := HSE.out _ (List.getElem_mem hkl)
      rw [hx] at hat hsx
      have HX := Lib.hid hx
      obtain ⟨s, cu, ec, ls, jo⟩ := x
      obtain ⟨hx1, hx2⟩ := hsx
      simp only at hx1 hx2
      have HAR0 := (hat.fr (Fr.ofBelow hb0)).range
      obtain ⟨n2, hn2⟩ : ∃ n, ec.length = n := ⟨_, rfl⟩
      obtain ⟨nl, hnl⟩ : ∃ n, ls.length = n := ⟨_, rfl⟩
      rw [hn2, hnl] at HAR0
      have HAR := Lib.hid HAR0
      have HN2 := Lib.hid hn2
      have HNL := Lib.hid hnl
      obtain ⟨z1, hz1⟩ : ∃ z, s.size = z := ⟨_, rfl⟩
      obtain ⟨z2, hz2⟩ : ∃ z, cu.size = z := ⟨_, rfl⟩
      clear hes hat hx HAR0 hn2 hnl hbw GR
      go_upto_region 5 with (show wpList _ _ _ (Oper.mk (some 16) _ _ _ _ _ :: _) _ _; refine wpList_load_mid rfl 113 (.tmp 15) rfl b (o + k * 5) rfl [.string s, .string cu, .slice Ec n2 c2, .slice Al nl cl, .bool jo] _ HAR.out Try.underlying113 rfl info_entity ?_)
      have H6 := heap_alloc_new wr (.cells #[.string s, .string cu, .slice Ec n2 c2, .slice Al nl cl, .bool jo] 113)
      have HB6 := below1 wr (.cells #[.string s, .string cu, .slice Ec n2 c2, .slice Al nl cl, .bool jo] 113)
      have HS6 : wr.heap.size < (wr.alloc (.cells #[.string s, .string cu, .slice Ec n2 c2, .slice Al nl cl, .bool jo] 113)).heap.size := blk_lt H6
      generalize hW6 : wr.alloc (Obj.cells #[.string s, .string cu, .slice Ec n2 c2, .slice Al nl cl, .bool jo] 113) = W6 at *
      clear hW6
      have hb06 := hb0.trans (HB6.mono hb0.size)
      have f0 := blk_cell H6 0
      have f1 := blk_cell H6 1
      have f2 := blk_cell H6 2
      have f3 := blk_cell H6 3
      clear H6 d20
      by_cases h1 : 40 < n2
      case pos =>
        have h1I : 40 < (n2 : Int) := by omega
        go_wp2_with fail
        go_ret
        exact If.no hb06
      case neg =>
      have h1I : ¬ 40 < (n2 : Int) := by omega
      by_cases h2 : 60 < nl
      case pos =>
        have h2I : 60 < (nl : Int) := by omega
        go_wp2_with fail
        go_ret
        exact If.no hb06
      case neg =>
      have h2I : ¬ 60 < (nl : Int) := by omega
      by_cases h3 : 60 < s.size + cu.size
      case pos =>
        have h3I : 60 < (s.size : Int) + (cu.size : Int) := by omega
        go_wp2_with fail
        go_ret
        exact If.no hb06
      case neg =>
      have h3I : ¬ 60 < (s.size : Int) + (cu.size : Int) := by omega
      have HROW := Lib.hid (show fewE ⟨s, cu, ec, ls, jo⟩ from ⟨by have := HN2.out; simp only; omega, by have := HNL.out; simp only; omega, by simp only; omega, by simp only; omega⟩)
      go_wp2_with fail
      go_roundw
      case rel => exact ⟨k + 1, by omega, by go_num, hb.trans (HB6.mono hszr), fun j hj hjk => by
        rcases Nat.lt_or_ge j k with h | h
        · exact HA.out j hj h
        · have : j = k := by omega
          subst this
          rw [HX.out]
          exact HROW.out⟩
      case measure => first | exact meas_v hlt | (simp only [intOf]; omega)
    case neg =>
      have hltI : ¬ (k : Int) < (ne : Int) := by omega
      have d4 := blk_cell GR 4
      have d0 := blk_cell GR 0
      clear GR
      have HALL := Lib.hid (show ∀ e ∈ es, fewE e by
        intro e he
        obtain ⟨j, hj, rfl⟩ := List.getElem_of_mem he
        exact HA.out j hj (by have := HNE.out; omega))
      by_cases h1 : n ≤ 60
      case neg =>
        have h1I : ¬ (n : Int) ≤ 60 := by omega
        go_wp2_with fail
        go_ret
        exact If.no hb0
      case pos =>
      have h1I : (n : Int) ≤ 60 := by omega
      by_cases h2 : ne ≤ 14
      case neg =>
        have h2I : ¬ (ne : Int) ≤ 14 := by omega
        go_wp2_with fail
        go_ret
        exact If.no hb0
      case pos =>
      have h2I : (ne : Int) ≤ 14 := by omega
      by_cases h3 : cur.size ≤ 20
      case neg =>
        have h3I : ¬ (cur.size : Int) ≤ 20 := by omega
        go_wp2_with fail
        go_ret
        exact If.no hb0
      case pos =>
        have h3I : (cur.size : Int) ≤ 20 := by omega
        have HY := Lib.hid (show P from HP.out ⟨by have := HN.out; omega, by have := HNE.out; omega, h3, HALL.out⟩)
        go_wp2_with fail
        go_ret
        exact If.yes HY.out hb0
end Go.Proofs.Ytnigokmjehemaaa
