/- Charts: proper, in the program. Written by gen_b12 (second text).py. -/
import Derived.Test.YtnigokmjehemaaaProg
import Derived.Test.YtnigokmjehemaaaB12Proper
namespace Go.Proofs.Ytnigokmjehemaaa
open Go Go.RowKit
set_option linter.unusedVariables false
set_option linter.unusedSimpArgs false
set_option maxRecDepth 4000
attribute [local go_sem ↓] Go.wp_at_zero Go.wp_at_succ
set_option maxHeartbeats 2000000 in
theorem proper_c (l : List XAccount) (A : Option Addr) (c : Nat) (a : XAccount) (g : Bool) (w : World) (hl : ListC AccountC 4 w (· < w.heap.size) [.slice A l.length c] l) (hab : accB a) (hn : l.length ≤ 1000) (hin : (findA l a.code).isSome = true) : Calls Try.prog 190 #[.slice A l.length c, .agg (accL a).toArray, .bool g] w (Quiet w (.bool (properP l g a))) := by
  obtain ⟨r, hr⟩ : ∃ r, properP l g a = r := ⟨_, rfl⟩
  rw [hr]
  have HR := Lib.hid hr
  clear hr
  obtain ⟨n, hnl⟩ : ∃ n, l.length = n := ⟨_, rfl⟩
  rw [hnl] at hn
  have HL := Lib.hid hl
  have HN := Lib.hid hnl
  rw [hnl]
  clear hl hnl
  obtain ⟨c1, c2, c3, c4⟩ := a
  simp only [accB] at hab
  obtain ⟨q1, q2, q3, q4⟩ := hab
  have Q4 := Lib.hid q4
  have Q1 := Lib.hid q1
  obtain ⟨q11, q12⟩ := q1
  obtain ⟨q21, q22⟩ := q2
  obtain ⟨q31, q32⟩ := q3
  obtain ⟨q41, q42⟩ := q4
  go_enter Try.func190, Try.ntmps190
  go_upto_region 1 with fail
  have H0 := heap_alloc_new w (.cells #[.int .i64 c1, .int .i64 c2, .int .i64 c3, .int .i64 c4] 157)
  have HB := below1 w (.cells #[.int .i64 c1, .int .i64 c2, .int .i64 c3, .int .i64 c4] 157)
  have HS : w.heap.size < (w.alloc (.cells #[.int .i64 c1, .int .i64 c2, .int .i64 c3, .int .i64 c4] 157)).heap.size := blk_lt H0
  generalize hW : w.alloc (Obj.cells #[.int .i64 c1, .int .i64 c2, .int .i64 c3, .int .i64 c4] 157) = W at *
  have d0 := blk_cell H0 0
  have d1 := blk_cell H0 1
  have d2 := blk_cell H0 2
  have d3 := blk_cell H0 3
  have HH0 := Lib.hid H0
  clear hW H0
  by_cases k0 : c1 < 1
  case pos =>
    have hf := Lib.hid (show r = false by rw [← HR.out]; exact properP_f (fieldB_f (fun h => by have h1 := h.1; simp only at h1; omega)))
    go_wp2_with fail
    go_ret
    exact ⟨by rw [hf.out]; first | done | rfl, HB⟩
  case neg =>
  by_cases k1 : 99999 < c1
  case pos =>
    have hf := Lib.hid (show r = false by rw [← HR.out]; exact properP_f (fieldB_f (fun h => by have h1 := h.2.1; simp only at h1; omega)))
    go_wp2_with fail
    go_ret
    exact ⟨by rw [hf.out]; first | done | rfl, HB⟩
  case neg =>
  by_cases k2 : c2 < 1
  case pos =>
    have hf := Lib.hid (show r = false by rw [← HR.out]; exact properP_f (fieldB_f (fun h => by have h1 := h.2.2.1; simp only at h1; omega)))
    go_wp2_with fail
    go_ret
    exact ⟨by rw [hf.out]; first | done | rfl, HB⟩
  case neg =>
  by_cases k3 : 5 < c2
  case pos =>
    have hf := Lib.hid (show r = false by rw [← HR.out]; exact properP_f (fieldB_f (fun h => by have h1 := h.2.2.2; simp only at h1; omega)))
    go_wp2_with fail
    go_ret
    exact ⟨by rw [hf.out]; first | done | rfl, HB⟩
  case neg =>
  have HF := Lib.hid (show 1 ≤ c1 ∧ c1 ≤ 99999 ∧ 1 ≤ c2 ∧ c2 ≤ 5 by omega)
  cases g with
  | true =>
    by_cases k4 : c3 < 1
    case pos =>
      have hf := Lib.hid (show r = false by rw [← HR.out]; exact properP_f (fieldB_t (fun h => by have h1 := h.1; simp only at h1; omega)))
      go_wp2_with fail
      go_ret
      exact ⟨by rw [hf.out]; first | done | rfl, HB⟩
    case neg =>
    by_cases k5 : 3 < c3
    case pos =>
      have hf := Lib.hid (show r = false by rw [← HR.out]; exact properP_f (fieldB_t (fun h => by have h1 := h.2; simp only at h1; omega)))
      go_wp2_with fail
      go_ret
      exact ⟨by rw [hf.out]; first | done | rfl, HB⟩
    case neg =>
    have HFB := Lib.hid (fieldB_T (a := ⟨c1, c2, c3, c4⟩) HF.out (show 1 ≤ c3 ∧ c3 ≤ 3 by omega))
    by_cases k7 : c4 = 0
    case pos =>
      have hf := Lib.hid (show r = true by rw [← HR.out]; exact properP_0 HFB.out k7)
      go_wp2_with fail
      go_ret
      exact ⟨by rw [hf.out]; first | done | rfl, HB⟩
    case neg =>
    have K7 := Lib.hid k7
    go_wp2_with fail
    have hcall := find_c l A c c4 W (chart_keep HL.out HB) Q4.out (by rw [HN.out]; exact hn)
    rw [HN.out] at hcall
    refine hcall.mono ?_
    clear hcall
    rintro e w2 ⟨rfl, hb2⟩
    have hbb := HB.trans (hb2.mono HB.size)
    have G0 := (hb2.block _ HS).trans HH0.out
    have GG := Lib.hid G0
    clear G0
    cases ha : findA l c4 with
    | none =>
      have e0 : findV l c4 = .tuple #[.agg (accL {}).toArray, .bool false] := findV_none ha
      rw [e0]
      have hf2 := Lib.hid (show r = false by rw [← HR.out]; exact properP_p k7 (parB_none ha))
      clear e0 ha
      go_wp2_with fail
      go_ret
      exact ⟨by rw [hf2.out]; first | done | rfl, hbb.alloc hbb.size _⟩
    | some p =>
      have e0 : findV l c4 = .tuple #[.agg (accL p).toArray, .bool true] := findV_some ha
      rw [e0]
      have hpb := HL.out.accB p (findA_mem ha).1
      have hf2 := Lib.hid (show parB l ⟨c1, c2, c3, c4⟩ = (!(p.code == c1) && p.kind == c2) from parB_some (a := ⟨c1, c2, c3, c4⟩) ha)
      clear e0 ha
      obtain ⟨p1, p2, p3, p4⟩ := p
      have G0 := alloc_keep GG.out (Obj.cells #[.int .i64 p1, .int .i64 p2, .int .i64 p3, .int .i64 p4] 157)
      go_upto_region 8 with fail
      have H7 := heap_alloc_new w2 (.cells #[.int .i64 p1, .int .i64 p2, .int .i64 p3, .int .i64 p4] 157)
      have HB7 := hbb.alloc hbb.size (.cells #[.int .i64 p1, .int .i64 p2, .int .i64 p3, .int .i64 p4] 157)
      generalize hW7 : w2.alloc (Obj.cells #[.int .i64 p1, .int .i64 p2, .int .i64 p3, .int .i64 p4] 157) = W7 at *
      have f0 := blk_cell H7 0
      have f1 := blk_cell H7 1
      have g0 := blk_cell G0 0
      have g1 := blk_cell G0 1
      clear hW7 H7 G0
      by_cases hp : p1 = c1
      case pos =>
        have hf3 := Lib.hid (show r = false by rw [← HR.out]; exact properP_p K7.out (by rw [hf2.out, hp]; simp))
        go_wp2_with fail
        go_ret
        exact ⟨by rw [hf3.out]; first | done | rfl, HB7⟩
      case neg =>
      have hp' : (p1 == c1) = false := by simpa using hp
      by_cases hq : p2 = c2
      case neg =>
        have hq' : (p2 != c2) = true := by simpa using hq
        have hf3 := Lib.hid (show r = false by rw [← HR.out]; exact properP_p K7.out (by rw [hf2.out]; simp [hq]))
        go_wp2_with fail
        go_ret
        exact ⟨by rw [hf3.out]; first | done | rfl, HB7⟩
      case pos =>
      have hq' : (p2 != c2) = false := by simpa using hq
      have hf3 := Lib.hid (show r = ((upP l (l.length + 1) [] c1).2 == 0) by rw [← HR.out]; exact properP_up HFB.out K7.out (by rw [hf2.out, hq]; simp [hp]))
      go_wp2_with fail
      have hcall := climb_c l A c c1 W7 (chart_keep HL.out HB7) Q1.out (by rw [HN.out]; exact hn)
      rw [HN.out] at hcall
      refine hcall.mono ?_
      clear hcall
      rintro e w8 ⟨v, rfl, hown, hb8⟩
      have HB8 := HB7.trans (hb8.mono HB7.size)
      obtain ⟨j, x, top, hj, hx, ht, htp⟩ := upP_top (l := l) (c := c1) (by simpa using hin)
      have hsm := upP_small (l := l) (l.length + 1) [] c1 (known_nil l) (by simp)
      rw [HN.out] at hj hx htp hsm
      rw [hj] at hown hsm
      have hjn : j + 1 ≤ 1000 := by have := hsm.1; omega
      obtain ⟨g8, cap, rfl, hcap1, hcap2⟩ := hown.form (by omega)
      have hcell := hown.cells (g := g8) rfl j _ (iv_get hx)
      rw [Addr.add_lit, Nat.zero_add] at hcell
      have hxb : intBd x := by
        obtain ⟨m, hm⟩ := findA_mem ht
        rw [← hm]; exact (HL.out.accB _ m).1
      have HJ := Lib.hid hj
      have HOW := Lib.hid hown
      have HT := Lib.hid ht
      have htb := HL.out.accB top (findA_mem ht).1
      clear hj hown hx ht hsm
      obtain ⟨t1, t2, t3, t4⟩ := top
      simp only at htp
      have HTP := Lib.hid htp
      clear htp htb
      have hf4 := Lib.hid (show r = (t4 == 0) by rw [hf3.out, HN.out, ← HTP.out])
      go_wp2_with fail
      have hcall := find_c l A c x w8 (chart_keep HL.out HB8) hxb (by rw [HN.out]; exact hn)
      rw [HN.out] at hcall
      refine hcall.mono ?_
      clear hcall
      rintro e w9 ⟨rfl, hb9⟩
      have HB9 := HB8.trans (hb9.mono HB8.size)
      have e0 : findV l x = .tuple #[.agg (accL ⟨t1, t2, t3, t4⟩).toArray, .bool true] := findV_some HT.out
      rw [e0]
      clear e0
      by_cases ht4 : t4 = 0
      case pos =>
        have hf5 := Lib.hid (show r = true by rw [hf4.out, ht4]; rfl)
        go_wp2_with fail
        go_ret
        exact ⟨by rw [hf5.out]; first | done | rfl, HB9.alloc HB9.size _⟩
      case neg =>
        have ht4' : (t4 == 0) = false := by simpa using ht4
        have hf5 := Lib.hid (show r = false by rw [hf4.out, ht4'])
        go_wp2_with fail
        go_ret
        exact ⟨by rw [hf5.out]; first | done | rfl, HB9.alloc HB9.size _⟩
  | false =>
    by_cases k4 : ¬ c3 = 0
    case pos =>
      have k5 : (c3 == 0) = false := by simpa using k4
      have hf := Lib.hid (show r = false by rw [← HR.out]; exact properP_f (fieldB_e k4))
      go_wp2_with fail
      go_ret
      exact ⟨by rw [hf.out]; first | done | rfl, HB⟩
    case neg =>
    have k5 : c3 = 0 := by omega
    have HFB := Lib.hid (fieldB_E (a := ⟨c1, c2, c3, c4⟩) HF.out k5)
    by_cases k7 : c4 = 0
    case pos =>
      have hf := Lib.hid (show r = true by rw [← HR.out]; exact properP_0 HFB.out k7)
      go_wp2_with fail
      go_ret
      exact ⟨by rw [hf.out]; first | done | rfl, HB⟩
    case neg =>
    have K7 := Lib.hid k7
    go_wp2_with fail
    have hcall := find_c l A c c4 W (chart_keep HL.out HB) Q4.out (by rw [HN.out]; exact hn)
    rw [HN.out] at hcall
    refine hcall.mono ?_
    clear hcall
    rintro e w2 ⟨rfl, hb2⟩
    have hbb := HB.trans (hb2.mono HB.size)
    have G0 := (hb2.block _ HS).trans HH0.out
    have GG := Lib.hid G0
    clear G0
    cases ha : findA l c4 with
    | none =>
      have e0 : findV l c4 = .tuple #[.agg (accL {}).toArray, .bool false] := findV_none ha
      rw [e0]
      have hf2 := Lib.hid (show r = false by rw [← HR.out]; exact properP_p k7 (parB_none ha))
      clear e0 ha
      go_wp2_with fail
      go_ret
      exact ⟨by rw [hf2.out]; first | done | rfl, hbb.alloc hbb.size _⟩
    | some p =>
      have e0 : findV l c4 = .tuple #[.agg (accL p).toArray, .bool true] := findV_some ha
      rw [e0]
      have hpb := HL.out.accB p (findA_mem ha).1
      have hf2 := Lib.hid (show parB l ⟨c1, c2, c3, c4⟩ = (!(p.code == c1) && p.kind == c2) from parB_some (a := ⟨c1, c2, c3, c4⟩) ha)
      clear e0 ha
      obtain ⟨p1, p2, p3, p4⟩ := p
      have G0 := alloc_keep GG.out (Obj.cells #[.int .i64 p1, .int .i64 p2, .int .i64 p3, .int .i64 p4] 157)
      go_upto_region 8 with fail
      have H7 := heap_alloc_new w2 (.cells #[.int .i64 p1, .int .i64 p2, .int .i64 p3, .int .i64 p4] 157)
      have HB7 := hbb.alloc hbb.size (.cells #[.int .i64 p1, .int .i64 p2, .int .i64 p3, .int .i64 p4] 157)
      generalize hW7 : w2.alloc (Obj.cells #[.int .i64 p1, .int .i64 p2, .int .i64 p3, .int .i64 p4] 157) = W7 at *
      have f0 := blk_cell H7 0
      have f1 := blk_cell H7 1
      have g0 := blk_cell G0 0
      have g1 := blk_cell G0 1
      clear hW7 H7 G0
      by_cases hp : p1 = c1
      case pos =>
        have hf3 := Lib.hid (show r = false by rw [← HR.out]; exact properP_p K7.out (by rw [hf2.out, hp]; simp))
        go_wp2_with fail
        go_ret
        exact ⟨by rw [hf3.out]; first | done | rfl, HB7⟩
      case neg =>
      have hp' : (p1 == c1) = false := by simpa using hp
      by_cases hq : p2 = c2
      case neg =>
        have hq' : (p2 != c2) = true := by simpa using hq
        have hf3 := Lib.hid (show r = false by rw [← HR.out]; exact properP_p K7.out (by rw [hf2.out]; simp [hq]))
        go_wp2_with fail
        go_ret
        exact ⟨by rw [hf3.out]; first | done | rfl, HB7⟩
      case pos =>
      have hq' : (p2 != c2) = false := by simpa using hq
      have hf3 := Lib.hid (show r = ((upP l (l.length + 1) [] c1).2 == 0) by rw [← HR.out]; exact properP_up HFB.out K7.out (by rw [hf2.out, hq]; simp [hp]))
      go_wp2_with fail
      have hcall := climb_c l A c c1 W7 (chart_keep HL.out HB7) Q1.out (by rw [HN.out]; exact hn)
      rw [HN.out] at hcall
      refine hcall.mono ?_
      clear hcall
      rintro e w8 ⟨v, rfl, hown, hb8⟩
      have HB8 := HB7.trans (hb8.mono HB7.size)
      obtain ⟨j, x, top, hj, hx, ht, htp⟩ := upP_top (l := l) (c := c1) (by simpa using hin)
      have hsm := upP_small (l := l) (l.length + 1) [] c1 (known_nil l) (by simp)
      rw [HN.out] at hj hx htp hsm
      rw [hj] at hown hsm
      have hjn : j + 1 ≤ 1000 := by have := hsm.1; omega
      obtain ⟨g8, cap, rfl, hcap1, hcap2⟩ := hown.form (by omega)
      have hcell := hown.cells (g := g8) rfl j _ (iv_get hx)
      rw [Addr.add_lit, Nat.zero_add] at hcell
      have hxb : intBd x := by
        obtain ⟨m, hm⟩ := findA_mem ht
        rw [← hm]; exact (HL.out.accB _ m).1
      have HJ := Lib.hid hj
      have HOW := Lib.hid hown
      have HT := Lib.hid ht
      have htb := HL.out.accB top (findA_mem ht).1
      clear hj hown hx ht hsm
      obtain ⟨t1, t2, t3, t4⟩ := top
      simp only at htp
      have HTP := Lib.hid htp
      clear htp htb
      have hf4 := Lib.hid (show r = (t4 == 0) by rw [hf3.out, HN.out, ← HTP.out])
      go_wp2_with fail
      have hcall := find_c l A c x w8 (chart_keep HL.out HB8) hxb (by rw [HN.out]; exact hn)
      rw [HN.out] at hcall
      refine hcall.mono ?_
      clear hcall
      rintro e w9 ⟨rfl, hb9⟩
      have HB9 := HB8.trans (hb9.mono HB8.size)
      have e0 : findV l x = .tuple #[.agg (accL ⟨t1, t2, t3, t4⟩).toArray, .bool true] := findV_some HT.out
      rw [e0]
      clear e0
      by_cases ht4 : t4 = 0
      case pos =>
        have hf5 := Lib.hid (show r = true by rw [hf4.out, ht4]; rfl)
        go_wp2_with fail
        go_ret
        exact ⟨by rw [hf5.out]; first | done | rfl, HB9.alloc HB9.size _⟩
      case neg =>
        have ht4' : (t4 == 0) = false := by simpa using ht4
        have hf5 := Lib.hid (show r = false by rw [hf4.out, ht4'])
        go_wp2_with fail
        go_ret
        exact ⟨by rw [hf5.out]; first | done | rfl, HB9.alloc HB9.size _⟩

end Go.Proofs.Ytnigokmjehemaaa
