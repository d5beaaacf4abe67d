/- Texts, sums of lines, few lines. Written by gen_e1.py. -/
import Derived.Test.YtnigokmjehemaaaJB14B15
import Derived.Test.YtnigokmjehemaaaJB1B6
import Derived.Test.YtnigokmjehemaaaJC1C2
import Derived.Test.YtnigokmjehemaaaProg
namespace Go.Proofs.Ytnigokmjehemaaa
open Go Go.RowKit
set_option linter.unusedVariables false
set_option linter.unusedSimpArgs false
set_option maxRecDepth 4000
attribute [local go_sem ↓] Go.wp_at_zero Go.wp_at_succ
def printC (c : Nat) : Bool := decide (32 ≤ c ∧ c ≤ 126)
def printB (s : ByteArray) : Bool := (List.range s.size).all (fun k => printC (bat s k)) && decide (s.size ≤ 80)
abbrev lineL (x : XLine) : List Value := [.int .i64 x.account, .int .i64 x.amount, .int .i64 x.partner]
def lineBd (x : XLine) : Prop := intBd x.account ∧ intBd x.amount ∧ intBd x.partner
theorem LineC.lit {w : World} {Q : Nat → Prop} {cs : List Value} {x : XLine} (h : LineC w Q cs x) : cs = lineL x ∧ lineBd x := by
  obtain ⟨c0, c1, c2, rfl, ⟨rfl, h0⟩, ⟨rfl, h1⟩, ⟨rfl, h2⟩⟩ := h
  exact ⟨rfl, h0, h1, h2⟩
theorem info_line : (Try.prog.info? 57).map (·.size) = some 3 := by kernel_rfl
def sumL (l : List XLine) : Int := (l.map (·.amount)).sum
theorem sumL_succ {l : List XLine} {k : Nat} (hk : k < l.length) : sumL (l.take (k + 1)) = sumL (l.take k) + l[k].amount := by
  unfold sumL
  rw [List.take_add_one, List.getElem?_eq_getElem hk, List.map_append, List.sum_append]
  simp
/-- All sums of beginnings fit. -/
def preL (l : List XLine) : Prop := ∀ k, -4611686018427387904 ≤ sumL (l.take k) ∧ sumL (l.take k) ≤ 4611686018427387904
/-- Few lines, with amounts of at most 2^50. -/
def smallL (l : List XLine) : Prop := (∀ x ∈ l, -1125899906842624 ≤ x.amount ∧ x.amount ≤ 1125899906842624) ∧ l.length ≤ 100
theorem sumL_bd {l : List XLine} (h : ∀ x ∈ l, -1125899906842624 ≤ x.amount ∧ x.amount ≤ 1125899906842624) : ∀ k : Nat, k ≤ l.length → -1125899906842624 * (k : Int) ≤ sumL (l.take k) ∧ sumL (l.take k) ≤ 1125899906842624 * (k : Int)
  | 0, _ => by simp [sumL]
  | k + 1, hk => by
    have ih := sumL_bd h k (by omega)
    have hb := h _ (List.getElem_mem (show k < l.length by omega))
    rw [sumL_succ (by omega)]
    omega
theorem smallL.pre {l : List XLine} (h : smallL l) : preL l := fun k => by
  have h2 := h.2
  rcases Nat.lt_or_ge l.length k with hk | hk
  · have := sumL_bd h.1 l.length (Nat.le_refl _)
    rw [List.take_of_length_le (by omega)] at this ⊢
    omega
  · have := sumL_bd h.1 k hk
    omega
set_option maxHeartbeats 400000 in
theorem plain_c (s : ByteArray) (w : World) (hs : s.size ≤ 140737488355327) : Calls Try.prog 149 #[.string s] w (Quiet w (.bool (printB s))) := by
  obtain ⟨r, hr⟩ : ∃ r, printB s = r := ⟨_, rfl⟩
  rw [hr]
  have HR := Lib.hid hr
  clear hr
  go_enter Try.func149, Try.ntmps149
  go_wp2_with fail
  go_loopw [6] (fun i wr => ∃ k : Nat, k ≤ s.size ∧ i = .int .i64 (k : Int) ∧ Below w.heap.size w wr ∧ ∀ j, j < k → printC (bat s j) = true) (fun i _ => s.size - (intOf i).toNat)
  case atStart => exact ⟨0, by omega, rfl, Below.refl _ _, fun j hj => by omega⟩
  case round =>
    obtain ⟨k, hk, rfl, hb, hall⟩ := hrel
    have HA := Lib.hid hall
    clear hall
    by_cases hlt : k < s.size
    · have hltI : (k : Int) < (s.size : Int) := by omega
      have HB := Lib.hid (bat_eq hlt)
      by_cases hc : printC (bat s k) = true
      · have hc1 : 32 ≤ (s[k].toNat : Int) ∧ (s[k].toNat : Int) ≤ 126 := by
          have := hc
          rw [HB.out] at this
          simp only [printC, decide_eq_true_eq] at this
          omega
        have hc2 := hc1.1
        have hc3 := hc1.2
        have HC := Lib.hid hc
        clear hc
        go_wp2_with fail
        go_roundw
        case rel => exact ⟨k + 1, by omega, by go_num, hb, fun j hj => by
          rcases Nat.lt_or_ge j k with h | h
          · exact HA.out j h
          · have : j = k := by omega
            subst this; exact HC.out⟩
        case measure =>
          have e : wrap64 ((k : Int) + 1) = ((k + 1 : Nat) : Int) := by unfold wrap64; omega
          simp only [intOf, e]
          omega
      · have hrf := Lib.hid (show r = false by
          rw [← HR.out]; unfold printB
          rw [all_range_false hlt (by simpa using hc)]; rfl)
        have hc1 : ¬ (32 ≤ (s[k].toNat : Int) ∧ (s[k].toNat : Int) ≤ 126) := by
          have := hc
          rw [HB.out] at this
          simp only [printC, decide_eq_true_eq] at this
          omega
        clear hc
        by_cases hc2 : (s[k].toNat : Int) < 32
        · go_wp2_with fail
          go_ret
          exact ⟨by rw [hrf.out]; first | done | rfl, hb⟩
        · have hc3 : 126 < (s[k].toNat : Int) := by omega
          go_wp2_with fail
          go_ret
          exact ⟨by rw [hrf.out]; first | done | rfl, hb⟩
    · have hltI : ¬ (k : Int) < (s.size : Int) := by omega
      have hks : k = s.size := by omega
      have hrf := Lib.hid (show r = decide (s.size ≤ 80) by
        rw [← HR.out]; unfold printB
        rw [all_range_true (fun j hj => HA.out j (by omega)), Bool.true_and])
      clear hks
      by_cases h3 : s.size ≤ 80
      · have h3I : decide ((s.size : Int) ≤ 80) = true := decide_eq_true (by omega)
        have HH := Lib.hid h3
        clear h3
        go_wp2_with fail
        go_ret
        exact ⟨by rw [hrf.out, decide_eq_true HH.out]; first | done | rfl, hb⟩
      · have h3I : decide ((s.size : Int) ≤ 80) = false := decide_eq_false (by omega)
        have HH := Lib.hid (show decide (s.size ≤ 80) = false from decide_eq_false h3)
        clear h3
        go_wp2_with fail
        go_ret
        exact ⟨by rw [hrf.out, HH.out]; first | done | rfl, hb⟩
set_option maxHeartbeats 400000 in
theorem rplain_c (s : ByteArray) (w : World) (hs : s.size ≤ 140737488355327) : Calls Try.prog 151 #[.string s] w (Quiet w (.bool (printB s))) := by
  obtain ⟨r, hr⟩ : ∃ r, printB s = r := ⟨_, rfl⟩
  rw [hr]
  have HR := Lib.hid hr
  clear hr
  go_enter Try.func151, Try.ntmps151
  go_wp2_with fail
  go_loopw [3] (fun i wr => ∃ k : Nat, k ≤ s.size ∧ i = .int .i64 (k : Int) ∧ Below w.heap.size w wr ∧ ∀ j, j < k → printC (bat s j) = true) (fun i _ => s.size - (intOf i).toNat)
  case atStart => exact ⟨0, by omega, rfl, Below.refl _ _, fun j hj => by omega⟩
  case round =>
    obtain ⟨k, hk, rfl, hb, hall⟩ := hrel
    have HA := Lib.hid hall
    clear hall
    by_cases hlt : k < s.size
    · have hltI : (k : Int) < (s.size : Int) := by omega
      have HB := Lib.hid (bat_eq hlt)
      by_cases hc : printC (bat s k) = true
      · have hc1 : 32 ≤ (s[k].toNat : Int) ∧ (s[k].toNat : Int) ≤ 126 := by
          have := hc
          rw [HB.out] at this
          simp only [printC, decide_eq_true_eq] at this
          omega
        have hc2 := hc1.1
        have hc3 := hc1.2
        have HC := Lib.hid hc
        clear hc
        go_wp2_with fail
        go_roundw
        case rel => exact ⟨k + 1, by omega, by go_num, hb, fun j hj => by
          rcases Nat.lt_or_ge j k with h | h
          · exact HA.out j h
          · have : j = k := by omega
            subst this; exact HC.out⟩
        case measure =>
          have e : wrap64 ((k : Int) + 1) = ((k + 1 : Nat) : Int) := by unfold wrap64; omega
          simp only [intOf, e]
          omega
      · have hrf := Lib.hid (show r = false by
          rw [← HR.out]; unfold printB
          rw [all_range_false hlt (by simpa using hc)]; rfl)
        have hc1 : ¬ (32 ≤ (s[k].toNat : Int) ∧ (s[k].toNat : Int) ≤ 126) := by
          have := hc
          rw [HB.out] at this
          simp only [printC, decide_eq_true_eq] at this
          omega
        clear hc
        by_cases hc2 : (s[k].toNat : Int) < 32
        · go_wp2_with fail
          go_ret
          exact ⟨by rw [hrf.out]; first | done | rfl, hb⟩
        · have hc3 : 126 < (s[k].toNat : Int) := by omega
          go_wp2_with fail
          go_ret
          exact ⟨by rw [hrf.out]; first | done | rfl, hb⟩
    · have hltI : ¬ (k : Int) < (s.size : Int) := by omega
      have hks : k = s.size := by omega
      have hrf := Lib.hid (show r = decide (s.size ≤ 80) by
        rw [← HR.out]; unfold printB
        rw [all_range_true (fun j hj => HA.out j (by omega)), Bool.true_and])
      clear hks
      by_cases h3 : s.size ≤ 80
      · have h3I : decide ((s.size : Int) ≤ 80) = true := decide_eq_true (by omega)
        have HH := Lib.hid h3
        clear h3
        go_wp2_with fail
        go_ret
        exact ⟨by rw [hrf.out, decide_eq_true HH.out]; first | done | rfl, hb⟩
      · have h3I : decide ((s.size : Int) ≤ 80) = false := decide_eq_false (by omega)
        have HH := Lib.hid (show decide (s.size ≤ 80) = false from decide_eq_false h3)
        clear h3
        go_wp2_with fail
        go_ret
        exact ⟨by rw [hrf.out, HH.out]; first | done | rfl, hb⟩
set_option maxHeartbeats 1000000 in
theorem sumL_c (l : List XLine) (A : Option Addr) (c : Nat) (w : World) (hl : ListC LineC 3 w (· < w.heap.size) [.slice A l.length c] l) (hs : preL l) : Calls Try.prog 41 #[.slice A l.length c] w (Quiet w (.int .i64 (sumL l))) := by
  obtain ⟨r, hr⟩ : ∃ r, sumL l = r := ⟨_, rfl⟩
  rw [hr]
  have HR := Lib.hid hr
  have hbn := hl.cap
  obtain ⟨n, hnl⟩ : ∃ n, l.length = n := ⟨_, rfl⟩
  have HL := Lib.hid hl
  have HN := Lib.hid hnl
  have HS := Lib.hid hs
  rw [hnl] at hbn ⊢
  unfold maxLen at hbn
  have hn : n ≤ 9223372036854775807 := by omega
  clear hr hl hnl hs hbn
  go_enter Try.func41, Try.ntmps41
  go_wp2_with fail
  go_loopw [3, 8] (fun s i wr => ∃ k : Nat, k ≤ n ∧ s = .int .i64 (sumL (l.take k)) ∧ i = .int .i64 (k : Int) ∧ Below w.heap.size w wr) (fun _ i _ => n - (intOf i).toNat)
  case atStart => exact ⟨0, by omega, rfl, rfl, Below.refl _ _⟩
  case round =>
    obtain ⟨k, hk, rfl, rfl, hb⟩ := hrel
    by_cases hlt : k < n
    case pos =>
      have hltI : (k : Int) < (n : Int) := by omega
      have hkl : k < l.length := by rw [HN.out]; exact hlt
      obtain ⟨b, o, es, hAe, hbw, hes, hat⟩ := ListC.get HL.out k hkl
      subst hAe
      have hes1 := (LineC.lit hes).1
      rw [hes1] at hat
      have HSU := Lib.hid (sumL_succ hkl)
      have hB1 := HS.out k
      have hB2 := HS.out (k + 1)
      rw [HSU.out] at hB2
      obtain ⟨x, hx⟩ : ∃ x, l[k] = x := ⟨_, rfl⟩
      rw [hx] at hat hB2
      have HX := Lib.hid hx
      obtain ⟨la, lm, lp⟩ := x
      simp only at hat hB2
      obtain ⟨S, hS⟩ : ∃ S, sumL (l.take k) = S := ⟨_, rfl⟩
      rw [hS] at hB1 hB2 ⊢
      have HSS := Lib.hid hS
      obtain ⟨hB3, hB4⟩ := hB1
      obtain ⟨hB5, hB6⟩ := hB2
      have hatw := hat.fr (Fr.ofBelow hb)
      have HAR := Lib.hid hatw.range
      clear hes hes1 hat hatw hx hS
      go_upto_region 5 with (show wpList _ _ _ (Oper.mk (some 11) _ _ _ _ _ :: _) _ _; refine wpList_load_mid rfl 57 (.tmp 10) rfl b (o + k * 3) rfl [.int .i64 la, .int .i64 lm, .int .i64 lp] _ HAR.out Try.underlying57 rfl info_line ?_)
      have H6 := heap_alloc_new wr (.cells #[.int .i64 la, .int .i64 lm, .int .i64 lp] 57)
      have HB6 := below1 wr (.cells #[.int .i64 la, .int .i64 lm, .int .i64 lp] 57)
      have HS6 : wr.heap.size < (wr.alloc (.cells #[.int .i64 la, .int .i64 lm, .int .i64 lp] 57)).heap.size := blk_lt H6
      generalize hW6 : wr.alloc (Obj.cells #[.int .i64 la, .int .i64 lm, .int .i64 lp] 57) = W6 at *
      clear hW6
      have c6 := blk_cell H6 1
      have hb6 := hb.trans (HB6.mono hb.size)
      clear H6
      go_wp2_with fail
      go_roundw
      case rel => exact ⟨k + 1, by omega, by rw [HSU.out, HX.out, HSS.out]; first | done | go_num, by go_num, hb6⟩
      case measure => first | exact meas_v hlt | (simp only [intOf]; omega)
    case neg =>
      have hltI : ¬ (k : Int) < (n : Int) := by omega
      obtain ⟨S, hS⟩ : ∃ S, sumL (l.take k) = S := ⟨_, rfl⟩
      rw [hS]
      have hf := Lib.hid (show r = S by rw [← HR.out, ← hS, show k = n from by omega, ← HN.out, List.take_length])
      clear hS
      go_wp2_with fail
      go_ret
      exact ⟨by rw [hf.out]; first | done | rfl, hb⟩
set_option maxHeartbeats 1000000 in
theorem rsumL_c (l : List XLine) (A : Option Addr) (c : Nat) (w : World) (hl : ListC LineC 3 w (· < w.heap.size) [.slice A l.length c] l) (hs : preL l) : Calls Try.prog 42 #[.slice A l.length c] w (Quiet w (.int .i64 (sumL l))) := by
  obtain ⟨r, hr⟩ : ∃ r, sumL l = r := ⟨_, rfl⟩
  rw [hr]
  have HR := Lib.hid hr
  have hbn := hl.cap
  obtain ⟨n, hnl⟩ : ∃ n, l.length = n := ⟨_, rfl⟩
  have HL := Lib.hid hl
  have HN := Lib.hid hnl
  have HS := Lib.hid hs
  rw [hnl] at hbn ⊢
  unfold maxLen at hbn
  have hn : n ≤ 9223372036854775807 := by omega
  clear hr hl hnl hs hbn
  go_enter Try.func42, Try.ntmps42
  go_wp2_with fail
  go_loopw [3, 4] (fun s i wr => ∃ k : Nat, k ≤ n ∧ s = .int .i64 (sumL (l.take k)) ∧ i = .int .i64 (k : Int) ∧ Below w.heap.size w wr) (fun _ i _ => n - (intOf i).toNat)
  case atStart => exact ⟨0, by omega, rfl, rfl, Below.refl _ _⟩
  case round =>
    obtain ⟨k, hk, rfl, rfl, hb⟩ := hrel
    by_cases hlt : k < n
    case pos =>
      have hltI : (k : Int) < (n : Int) := by omega
      have hkl : k < l.length := by rw [HN.out]; exact hlt
      obtain ⟨b, o, es, hAe, hbw, hes, hat⟩ := ListC.get HL.out k hkl
      subst hAe
      have hes1 := (LineC.lit hes).1
      rw [hes1] at hat
      have HSU := Lib.hid (sumL_succ hkl)
      have hB1 := HS.out k
      have hB2 := HS.out (k + 1)
      rw [HSU.out] at hB2
      obtain ⟨x, hx⟩ : ∃ x, l[k] = x := ⟨_, rfl⟩
      rw [hx] at hat hB2
      have HX := Lib.hid hx
      obtain ⟨la, lm, lp⟩ := x
      simp only at hat hB2
      obtain ⟨S, hS⟩ : ∃ S, sumL (l.take k) = S := ⟨_, rfl⟩
      rw [hS] at hB1 hB2 ⊢
      have HSS := Lib.hid hS
      obtain ⟨hB3, hB4⟩ := hB1
      obtain ⟨hB5, hB6⟩ := hB2
      have hatw := hat.fr (Fr.ofBelow hb)
      have c6 := hatw.c (j := 1) rfl
      clear hes hes1 hat hatw hx hS
      go_wp2_with fail
      go_roundw
      case rel => exact ⟨k + 1, by omega, by rw [HSU.out, HX.out, HSS.out]; first | done | go_num, by go_num, hb⟩
      case measure => first | exact meas_v hlt | (simp only [intOf]; omega)
    case neg =>
      have hltI : ¬ (k : Int) < (n : Int) := by omega
      obtain ⟨S, hS⟩ : ∃ S, sumL (l.take k) = S := ⟨_, rfl⟩
      rw [hS]
      have hf := Lib.hid (show r = S by rw [← HR.out, ← hS, show k = n from by omega, ← HN.out, List.take_length])
      clear hS
      go_wp2_with fail
      go_ret
      exact ⟨by rw [hf.out]; first | done | rfl, hb⟩
set_option maxHeartbeats 1000000 in
theorem small11_c (l : List XLine) (A : Option Addr) (c : Nat) (w : World) (hl : ListC LineC 3 w (· < w.heap.size) [.slice A l.length c] l) : Calls Try.prog 29 #[.slice A l.length c] w (If (smallL l) w) := by
  have hbn := hl.cap.2
  obtain ⟨n, hnl⟩ : ∃ n, l.length = n := ⟨_, rfl⟩
  have HL := Lib.hid hl
  have HN := Lib.hid hnl
  obtain ⟨P, hP⟩ : ∃ P, smallL l = P := ⟨_, rfl⟩
  rw [hP]
  have HP := Lib.hid (show (∀ x ∈ l, -1125899906842624 ≤ x.amount ∧ x.amount ≤ 1125899906842624) → l.length ≤ 100 → P from fun h h2 => hP ▸ ⟨h, h2⟩)
  rw [hnl] at hbn ⊢
  unfold maxLen at hbn
  clear hl hnl hP
  go_enter Try.func29, Try.ntmps29
  go_wp2_with fail
  go_loopw [3] (fun i wr => ∃ k : Nat, k ≤ n ∧ i = .int .i64 (k : Int) ∧ Below w.heap.size w wr ∧ ∀ j (hj : j < l.length), j < k → -1125899906842624 ≤ l[j].amount ∧ l[j].amount ≤ 1125899906842624) (fun i _ => n - (intOf i).toNat)
  case atStart => exact ⟨0, by omega, rfl, Below.refl _ _, fun j hj h => by omega⟩
  case round =>
    obtain ⟨k, hk, rfl, hb, hall⟩ := hrel
    have HA := Lib.hid hall
    clear hall
    by_cases hlt : k < n
    case pos =>
      have hltI : (k : Int) < (n : Int) := by omega
      have hkl : k < l.length := by rw [HN.out]; exact hlt
      obtain ⟨b, o, es, hAe, hbw, hes, hat⟩ := ListC.get HL.out k hkl
      subst hAe
      have hes1 := (LineC.lit hes).1
      rw [hes1] at hat
      obtain ⟨x, hx⟩ : ∃ x, l[k] = x := ⟨_, rfl⟩
      rw [hx] at hat
      have HX := Lib.hid hx
      obtain ⟨la, am, lp⟩ := x
      have c6 := (hat.fr (Fr.ofBelow hb)).c (j := 1) rfl
      clear hes hes1 hat hx
      by_cases h1 : 1125899906842624 < am
      case pos =>
        go_wp2_with fail
        go_ret
        exact If.no hb
      case neg =>
      by_cases h2 : am < -1125899906842624
      case pos =>
        go_wp2_with fail
        go_ret
        exact If.no hb
      case neg =>
        have HROW := Lib.hid (show -1125899906842624 ≤ am ∧ am ≤ 1125899906842624 by omega)
        go_wp2_with fail
        go_roundw
        case rel => exact ⟨k + 1, by omega, by go_num, hb, fun j hj hjk => by
          rcases Nat.lt_or_ge j k with h | h
          · exact HA.out j hj h
          · have : j = k := by omega
            subst this
            rw [HX.out]
            exact HROW.out⟩
        case measure => first | exact meas_v hlt | (simp only [intOf]; omega)
    case neg =>
      have hltI : ¬ (k : Int) < (n : Int) := by omega
      by_cases h1 : n ≤ 100
      case neg =>
        have h1I : ¬ (n : Int) ≤ 100 := by omega
        go_wp2_with fail
        go_ret
        exact If.no hb
      case pos =>
        have h1I : (n : Int) ≤ 100 := by omega
        have HY := Lib.hid (show P from HP.out (fun x hx => by
          obtain ⟨j, hj, rfl⟩ := List.getElem_of_mem hx
          exact HA.out j hj (by have := HN.out; omega)) (by rw [HN.out]; exact h1))
        go_wp2_with fail
        go_ret
        exact If.yes HY.out hb
end Go.Proofs.Ytnigokmjehemaaa

/- The period of a date. Written by gen_e2.py. -/
namespace Go.Proofs.Ytnigokmjehemaaa
open Go Go.RowKit
set_option linter.unusedVariables false
set_option linter.unusedSimpArgs false
set_option maxRecDepth 4000
attribute [local go_sem ↓] Go.wp_at_zero Go.wp_at_succ
theorem mon_next {n : Int} (hy : inY (n / 12)) : lasI n + 1 = monI (n + 1) := by
  unfold lasI monI
  obtain ⟨k, hk⟩ : ∃ k : Nat, n % 12 = (k : Int) := ⟨(n % 12).toNat, by omega⟩
  rcases Int.lt_or_le (n % 12) 11 with h | h
  · rw [show (n + 1) / 12 = n / 12 by omega, show ((n + 1) % 12).toNat = k + 1 by omega, show (n % 12).toNat = k by omega, sumD, hk]
    omega
  · rw [show (n + 1) / 12 = n / 12 + 1 by omega, show ((n + 1) % 12).toNat = 0 by omega, show (n % 12).toNat = 11 by omega, show n % 12 + 1 = 12 by omega]
    have h1 := sumD_last hy
    have h2 := beginI_succ (n / 12)
    have h3 : sumD (n / 12) 12 = sumD (n / 12) 11 + daysI (n / 12) 12 := by rw [sumD]; rfl
    have h4 : sumD (n / 12 + 1) 0 = 0 := rfl
    omega
theorem mon_le {a b : Int} (ha : inY (a / 12)) (hb : inY (b / 12)) (h : a ≤ b) : monI a ≤ monI b := by
  by_cases e : a / 12 = b / 12
  · unfold monI
    rw [e]
    have := sumD_mono (y := b / 12) (show (a % 12).toNat ≤ (b % 12).toNat by omega)
    omega
  · have h1 := (monI_civ ha).year
    have h2 := (monI_civ hb).year
    have h3 := beginI_mono (show a / 12 + 1 ≤ b / 12 by omega)
    omega
theorem mon_lt {a b : Int} (ha : inY (a / 12)) (hb : inY (b / 12)) (h : a < b) : lasI a < monI b := by
  have h1 := mon_next ha
  have h2 := mon_le (a := a + 1) (b := b) (by unfold inY at *; omega) hb (by omega)
  omega
theorem mon_las {a : Int} (ha : inY (a / 12)) : monI a ≤ lasI a := by
  have h1 := (monI_civ ha).2.2.2.2.1
  unfold lasI
  omega
/-- The month of a date. -/
theorem civ_mon {d y m k : Int} (h : CivP d y m k) : monI (12 * y + m - 1) ≤ d ∧ d ≤ lasI (12 * y + m - 1) ∧ (12 * y + m - 1) / 12 = y := by
  obtain ⟨hy, h1, h2, h3, h4, h5⟩ := h
  have e1 : (12 * y + m - 1) / 12 = y := by omega
  have e2 : (12 * y + m - 1) % 12 = m - 1 := by omega
  unfold lasI monI
  rw [e1, e2, show m - 1 + 1 = m by omega]
  exact ⟨by omega, by omega, rfl⟩
def perP (y m n d : Int) : Option Nat := (List.range n.toNat).find? (fun p => decide (monI (perI y m p) ≤ d ∧ d ≤ lasI (perI y m p)))
/-- The period in which a date lies, and the error. -/
def calPer (y m n d : Int) : Int × Int := match perP y m n d with
  | some p => ((p : Int), 0)
  | none => (0, 2)
def inCalB (y m n d : Int) : Bool := decide (monI (perI y m 0) ≤ d ∧ d ≤ lasI (perI y m (n - 1)))
section
variable {y m n d : Int}
theorem calB_at (hc : calB y m n = true) {p : Nat} (hp : p < n.toNat) : inY (perI y m p / 12) := (calB_in hc (q := (p : Int)) (by omega) (by omega)).2.2.2.2.2
theorem per_some (hc : calB y m n = true) {p : Nat} (h : perP y m n d = some p) : p < n.toNat ∧ monI (perI y m p) ≤ d ∧ d ≤ lasI (perI y m p) := by
  unfold perP at h
  have h1 := List.find?_some h
  have h2 := List.mem_of_find?_eq_some h
  exact ⟨List.mem_range.1 h2, by simpa using h1⟩
theorem per_uniq (hc : calB y m n = true) {N : Int} (hN : inY (N / 12)) (h1 : monI N ≤ d) (h2 : d ≤ lasI N) {p : Nat} (hp : p < n.toNat) (h3 : monI (perI y m p) ≤ d) (h4 : d ≤ lasI (perI y m p)) : perI y m p = N := by
  have hq := calB_at hc hp
  rcases Int.lt_trichotomy (perI y m p) N with h | h | h
  · have := mon_lt hq hN h; omega
  · exact h
  · have := mon_lt hN hq h; omega
theorem per_civ (hc : calB y m n = true) {y' m' k : Int} (h : CivP d y' m' k) : calPer y m n d = if 12 * y' + m' - 12 * y - m < 0 ∨ n ≤ 12 * y' + m' - 12 * y - m then (0, 2) else (12 * y' + m' - 12 * y - m, 0) := by
  obtain ⟨h1, h2, h3⟩ := civ_mon h
  have hN : inY ((12 * y' + m' - 1) / 12) := by rw [h3]; exact h.1
  have hn := (calB_in hc (q := 0) (by omega) (by have := of_decide_eq_true hc; omega)).2.2.2.1
  unfold calPer
  cases hp : perP y m n d with
  | some p =>
    obtain ⟨a1, a2, a3⟩ := per_some hc hp
    have e := per_uniq hc hN h1 h2 a1 a2 a3
    unfold perI at e
    rw [if_neg (by omega)]
    simp only [Prod.mk.injEq, and_true]
    omega
  | none =>
    rw [if_pos]
    rcases Int.lt_or_le (12 * y' + m' - 12 * y - m) 0 with h0 | h0
    · exact Or.inl h0
    · right
      rcases Int.lt_or_le (12 * y' + m' - 12 * y - m) n with h5 | h5
      · exfalso
        unfold perP at hp
        rw [List.find?_eq_none] at hp
        have := hp (12 * y' + m' - 12 * y - m).toNat (List.mem_range.2 (by omega))
        apply this
        have e : perI y m ((12 * y' + m' - 12 * y - m).toNat : Int) = 12 * y' + m' - 1 := by unfold perI; omega
        rw [e]
        exact decide_eq_true ⟨h1, h2⟩
      · exact h5
theorem per_inD (hc : calB y m n = true) {p : Nat} (hp : p < n.toNat) (h3 : monI (perI y m p) ≤ d) (h4 : d ≤ lasI (perI y m p)) : inD d := by
  have hq := calB_at hc hp
  have a := monI_in hq
  have b := (monI_civ hq).year
  have hb := beginI_mono (show perI y m p / 12 + 1 ≤ 2200 by have := hq.2; omega)
  rw [beg2200] at hb
  have h5 : lasI (perI y m p) < beginI (perI y m p / 12 + 1) := by
    have hd := daysI_ge (y := perI y m p / 12) (m := perI y m p % 12 + 1) hq (by omega) (by omega)
    have hci : CivP (lasI (perI y m p)) (perI y m p / 12) (perI y m p % 12 + 1) (daysI (perI y m p / 12) (perI y m p % 12 + 1)) := by
      refine ⟨hq, by omega, by omega, by omega, Int.le_refl _, ?_⟩
      unfold lasI monI
      rw [show perI y m p % 12 + 1 - 1 = perI y m p % 12 from by omega]
    exact hci.year.2
  unfold inD at *
  have := hq.2
  omega
theorem per_out (hc : calB y m n = true) (h : ¬ inD d) : calPer y m n d = (0, 2) := by
  unfold calPer
  cases hp : perP y m n d with
  | none => rfl
  | some p =>
    obtain ⟨a1, a2, a3⟩ := per_some hc hp
    exact absurd (per_inD hc a1 a2 a3) h
theorem per_in (hc : calB y m n = true) : (calPer y m n d).2 = if inCalB y m n d = true then 0 else 2 := by
  have hn := of_decide_eq_true hc
  have h0 := calB_at hc (p := 0) (by omega)
  have h9 := calB_at hc (p := (n - 1).toNat) (by omega)
  have e9 : perI y m ((n - 1).toNat : Int) = perI y m (n - 1) := by unfold perI; omega
  rw [e9] at h9
  have h0' : inY (perI y m 0 / 12) := h0
  unfold calPer
  cases hp : perP y m n d with
  | some p =>
    obtain ⟨a1, a2, a3⟩ := per_some hc hp
    have hq := calB_at hc a1
    rw [if_pos]
    refine decide_eq_true ⟨Int.le_trans (mon_le h0' hq (by unfold perI; omega)) a2, ?_⟩
    rcases Int.lt_or_le (perI y m p) (perI y m (n - 1)) with h | h
    · have := mon_lt hq h9 h
      have := mon_las h9
      omega
    · have : perI y m p = perI y m (n - 1) := by unfold perI at h ⊢; omega
      rw [← this]
      exact a3
  | none =>
    rw [if_neg]
    intro hin
    obtain ⟨b1, b2⟩ := of_decide_eq_true hin
    have key : ∀ j : Nat, j < n.toNat → monI (perI y m j) ≤ d := by
      intro j
      induction j with
      | zero => exact fun _ => b1
      | succ j ih =>
        intro hj
        have hq := calB_at hc (p := j) (by omega)
        have h1 := ih (by omega)
        have h2 := mon_next hq
        have e : perI y m j + 1 = perI y m ((j + 1 : Nat) : Int) := by unfold perI; omega
        rw [e] at h2
        unfold perP at hp
        rw [List.find?_eq_none] at hp
        have h3 := hp j (List.mem_range.2 (by omega))
        have h4 : ¬ (monI (perI y m j) ≤ d ∧ d ≤ lasI (perI y m j)) := by simpa using h3
        omega
    have h1 := key (n - 1).toNat (by omega)
    unfold perP at hp
    rw [List.find?_eq_none] at hp
    have h3 := hp (n - 1).toNat (List.mem_range.2 (by omega))
    apply h3
    rw [e9] at h1 ⊢
    exact decide_eq_true ⟨h1, b2⟩
end
theorem info_cal : (Try.prog.info? 23).map (·.size) = some 3 := by kernel_rfl
set_option maxHeartbeats 1000000 in
theorem period_c (y m n d : Int) (w : World) (hc : calB y m n = true) (hd : intBd d) : Calls Try.prog 150 #[.agg #[.int .i64 y, .int .i64 m, .int .i64 n], .int .i64 d] w (Quiet w (.tuple #[.int .i64 (calPer y m n d).1, .int .i64 (calPer y m n d).2])) := by
  obtain ⟨r, hr⟩ : ∃ r, calPer y m n d = r := ⟨_, rfl⟩
  rw [hr]
  have hbd := of_decide_eq_true hc
  obtain ⟨hm1, hm2, hn1, hn2, ⟨hy1, hy2⟩, _⟩ := hbd
  have HC := Lib.hid hc
  have HR := Lib.hid hr
  have HD := Lib.hid hd
  clear hc hr hd
  go_enter Try.func150, Try.ntmps150
  go_upto_region 1 with fail
  have H0 := heap_alloc_new w (.cells #[.int .i64 y, .int .i64 m, .int .i64 n] 23)
  have HB0 := below1 w (.cells #[.int .i64 y, .int .i64 m, .int .i64 n] 23)
  have HS0 : w.heap.size < (w.alloc (.cells #[.int .i64 y, .int .i64 m, .int .i64 n] 23)).heap.size := blk_lt H0
  generalize hW0 : w.alloc (Obj.cells #[.int .i64 y, .int .i64 m, .int .i64 n] 23) = W at *
  clear hW0
  have HG := Lib.hid H0
  clear H0
  go_wp2_with (show wpList _ _ _ (Oper.mk (some 11) _ _ _ _ _ :: _) _ _; refine wpList_load_row_g rfl 23 (.tmp 2) rfl w.heap.size rfl _ _ _ _ HG.out Try.underlying23 rfl info_cal ?_)
  refine (calValid_c y m n W).mono ?_
  rintro e w2 ⟨rfl, hb2⟩
  rw [HC.out]
  have hb02 := HB0.trans (hb2.mono HB0.size)
  have HG2 := Lib.hid ((hb2.block _ HS0).trans HG.out)
  go_wp2_with fail
  refine (civil_c d w2 HD.out).mono ?_
  rintro e w3 ⟨y', m', k', er, rfl, hb3, hp⟩
  have hb03 := hb02.trans (hb3.mono hb02.size)
  have H3 := (hb3.block _ (Nat.lt_of_lt_of_le HS0 hb2.size)).trans HG2.out
  have c0 := blk_cell H3 0
  have c1 := blk_cell H3 1
  have c2 := blk_cell H3 2
  clear H3
  rcases hp with ⟨_, rfl, hp⟩ | ⟨hp, rfl, rfl, rfl, rfl⟩
  case inr =>
    have hf := Lib.hid (show r = (0, 2) from HR.out.symm.trans (per_out HC.out hp))
    clear hp
    go_wp2_with fail
    go_ret2
    exact ⟨by rw [hf.out]; first | done | rfl, hb03⟩
  case inl =>
  obtain ⟨⟨hy3, hy4⟩, hm3, hm4, _⟩ := id hp
  have HP := Lib.hid (per_civ HC.out hp)
  clear hp
  rw [HR.out] at HP
  have hb4 : -9000000000 ≤ 12 * y' + m' - 12 * y - m ∧ 12 * y' + m' - 12 * y - m ≤ 9000000000 := by omega
  obtain ⟨hb5, hb6⟩ := hb4
  by_cases h1 : 12 * y' + m' - 12 * y - m < 0
  case pos =>
    have hf := Lib.hid (show r = (0, 2) by rw [HP.out, if_pos (Or.inl h1)])
    go_wp2_with fail
    go_ret2
    exact ⟨by rw [hf.out]; first | done | rfl, hb03⟩
  case neg =>
  by_cases h2 : n ≤ 12 * y' + m' - 12 * y - m
  case pos =>
    have hf := Lib.hid (show r = (0, 2) by rw [HP.out, if_pos (Or.inr h2)])
    go_wp2_with fail
    go_ret2
    exact ⟨by rw [hf.out]; first | done | rfl, hb03⟩
  case neg =>
    have hf := Lib.hid (show r = (12 * y' + m' - 12 * y - m, 0) by rw [HP.out, if_neg (by omega)])
    go_wp2_with fail
    go_ret2
    exact ⟨by rw [hf.out]; first | done | rfl, hb03⟩
theorem calFirst_0 {y m n : Int} (hc : calB y m n = true) : calFirst y m n 0 = (monI (perI y m 0), 0) := by
  have hn := of_decide_eq_true hc
  unfold calFirst calCheck
  rw [if_pos (by rw [if_pos hc, if_pos (by omega)])]
theorem calLast_9 {y m n : Int} (hc : calB y m n = true) : calLast y m n (n - 1) = (lasI (perI y m (n - 1)), 0) := by
  have hn := of_decide_eq_true hc
  unfold calLast calCheck
  rw [if_pos (by rw [if_pos hc, if_pos (by omega)])]
set_option maxHeartbeats 1000000 in
theorem inCal_c (y m n d : Int) (w : World) (hc : calB y m n = true) : Calls Try.prog 37 #[.agg #[.int .i64 y, .int .i64 m, .int .i64 n], .int .i64 d] w (Quiet w (.bool (inCalB y m n d))) := by
  obtain ⟨r, hr⟩ : ∃ r, inCalB y m n d = r := ⟨_, rfl⟩
  rw [hr]
  have hbd := of_decide_eq_true hc
  obtain ⟨hm1, hm2, hn1, hn2, _⟩ := hbd
  have HC := Lib.hid hc
  have HR := Lib.hid hr
  have h0 := Lib.hid (calFirst_0 hc)
  have h9 := Lib.hid (calLast_9 hc)
  obtain ⟨A, hA⟩ : ∃ A, monI (perI y m 0) = A := ⟨_, rfl⟩
  obtain ⟨B, hB⟩ : ∃ B, lasI (perI y m (n - 1)) = B := ⟨_, rfl⟩
  rw [hA] at h0
  rw [hB] at h9
  have HDEF := Lib.hid (show r = decide (A ≤ d ∧ d ≤ B) by rw [← hr, ← hA, ← hB]; rfl)
  clear hc hr hA hB
  go_enter Try.func37, Try.ntmps37
  go_upto_region 1 with fail
  have H0 := heap_alloc_new w (.cells #[.int .i64 y, .int .i64 m, .int .i64 n] 23)
  have HB0 := below1 w (.cells #[.int .i64 y, .int .i64 m, .int .i64 n] 23)
  have HS0 : w.heap.size < (w.alloc (.cells #[.int .i64 y, .int .i64 m, .int .i64 n] 23)).heap.size := blk_lt H0
  generalize hW0 : w.alloc (Obj.cells #[.int .i64 y, .int .i64 m, .int .i64 n] 23) = W at *
  clear hW0
  have HG := Lib.hid H0
  clear H0
  go_wp2_with (show wpList _ _ _ (Oper.mk (some 10) _ _ _ _ _ :: _) _ _; refine wpList_load_row_g rfl 23 (.tmp 2) rfl w.heap.size rfl _ _ _ _ HG.out Try.underlying23 rfl info_cal ?_)
  refine (rcalFirst_c y m n 0 W).mono ?_
  rintro e w2 ⟨rfl, hb2⟩
  rw [h0.out]
  have hb02 := HB0.trans (hb2.mono HB0.size)
  have HG2 := Lib.hid ((hb2.block _ HS0).trans HG.out)
  have c2 := blk_cell HG2.out 2
  go_wp2_with (show wpList _ _ _ (Oper.mk (some 15) _ _ _ _ _ :: _) _ _; refine wpList_load_row_g rfl 23 (.tmp 2) rfl w.heap.size rfl _ _ _ _ HG2.out Try.underlying23 rfl info_cal ?_)
  refine (rcalLast_c y m n (n - 1) w2).mono ?_
  rintro e w3 ⟨rfl, hb3⟩
  rw [h9.out]
  have hb03 := hb02.trans (hb3.mono hb02.size)
  by_cases h1 : A ≤ d
  case neg =>
    have hf := Lib.hid (show r = false by rw [HDEF.out]; exact decide_eq_false (fun h => h1 h.1))
    have h1' : ¬ d ≥ A := h1
    go_wp2_with fail
    go_ret
    exact ⟨by rw [hf.out]; first | done | rfl, hb03⟩
  case pos =>
  have h1' : d ≥ A := h1
  by_cases h2 : d ≤ B
  case neg =>
    have hf := Lib.hid (show r = false by rw [HDEF.out]; exact decide_eq_false (fun h => h2 h.2))
    have h2d : decide (d ≤ B) = false := decide_eq_false h2
    go_wp2_with fail
    go_ret
    exact ⟨by rw [hf.out]; first | done | rfl, hb03⟩
  case pos =>
    have hf := Lib.hid (show r = true by rw [HDEF.out]; exact decide_eq_true ⟨h1, h2⟩)
    go_wp2_with fail
    go_ret
    exact ⟨by rw [hf.out]; first | done | rfl, hb03⟩
end Go.Proofs.Ytnigokmjehemaaa

/- The fields of an entry. Written by gen_e3.py. -/
namespace Go.Proofs.Ytnigokmjehemaaa
open Go Go.RowKit
set_option linter.unusedVariables false
set_option linter.unusedSimpArgs false
set_option maxRecDepth 4000
attribute [local go_sem ↓] Go.wp_at_zero Go.wp_at_succ
def lineB (ne ent : Int) (l : XLine) : Bool := decide (l.amount ≠ 0) && monB l.amount && decide (-1 ≤ l.partner) && decide (l.partner < ne) && decide (l.partner ≠ ent)
def formB (gv : Bool) (ne : Int) (x : XEntry) : Bool := gv && decide (1 ≤ x.id) && decide (0 ≤ x.entity) && decide (x.entity < ne) && decide (1 ≤ x.kind) && decide (x.kind ≤ 3) && decide (x.kind = 3 → 1 ≤ x.of_) && decide (x.kind ≠ 3 → x.of_ = 0) && printB x.text && decide (2 ≤ x.lines.length) && decide (x.lines.length ≤ 40) && x.lines.all (lineB ne x.entity)
def Formed (gv : Bool) (ne : Int) (x : XEntry) : Prop := gv = true ∧ 1 ≤ x.id ∧ 0 ≤ x.entity ∧ x.entity < ne ∧ 1 ≤ x.kind ∧ x.kind ≤ 3 ∧ (x.kind = 3 → 1 ≤ x.of_) ∧ (x.kind ≠ 3 → x.of_ = 0) ∧ printB x.text = true ∧ 2 ≤ x.lines.length ∧ x.lines.length ≤ 40 ∧ ∀ l ∈ x.lines, lineB ne x.entity l = true
theorem formB_iff (gv : Bool) (ne : Int) (x : XEntry) : formB gv ne x = true ↔ Formed gv ne x := by
  unfold formB Formed
  simp only [Bool.and_eq_true, decide_eq_true_eq, List.all_eq_true, and_assoc]
theorem lineB_iff (ne ent : Int) (l : XLine) : lineB ne ent l = true ↔ l.amount ≠ 0 ∧ monB l.amount = true ∧ -1 ≤ l.partner ∧ l.partner < ne ∧ l.partner ≠ ent := by
  unfold lineB
  simp only [Bool.and_eq_true, decide_eq_true_eq, and_assoc]
theorem info_entry : (Try.prog.info? 53).map (·.size) = some 7 := by kernel_rfl
set_option maxHeartbeats 4000000 in
theorem formed_c (G : Array Value) (Ae : Option Addr) (ne ce : Nat) (gv : Bool) (xi xe xd xk xo : Int) (xt : ByteArray) (ls : List XLine) (Al : Option Addr) (cl : Nat) (w : World) (hGs : G.size = 21) (hG20 : G[20]? = some (.slice Ae ne ce)) (hne : ne ≤ 1000)
    (hv : ∀ w2 : World, Below w.heap.size w w2 → Calls Try.prog 70 #[.agg G] w2 (Quiet w2 (.bool gv))) (hx : intBd xi ∧ intBd xe ∧ intBd xd ∧ intBd xk ∧ intBd xo) (hts : xt.size ≤ 140737488355327) (hl : ListC LineC 3 w (· < w.heap.size) [.slice Al ls.length cl] ls) : Calls Try.prog 103 #[.agg G, .agg #[.int .i64 xi, .int .i64 xe, .int .i64 xd, .int .i64 xk, .int .i64 xo, .string xt, .slice Al ls.length cl]] w (Quiet w (.int .i64 (if formB gv ne ⟨xi, xe, xd, xk, xo, xt, ls⟩ = true then 0 else 1))) := by
  obtain ⟨r, hr⟩ : ∃ r, formB gv ne ⟨xi, xe, xd, xk, xo, xt, ls⟩ = r := ⟨_, rfl⟩
  have hFM : r = true → Formed gv ne ⟨xi, xe, xd, xk, xo, xt, ls⟩ := fun h => (formB_iff _ _ _).1 (hr.trans h)
  have hFT : Formed gv ne ⟨xi, xe, xd, xk, xo, xt, ls⟩ → r = true := fun h => hr.symm.trans ((formB_iff _ _ _).2 h)
  rw [hr]
  unfold Formed at hFM hFT
  simp only at hFM hFT
  have HFM := Lib.hid hFM
  have HFT := Lib.hid hFT
  have hbn := hl.cap
  obtain ⟨nl, hnl⟩ : ∃ n, ls.length = n := ⟨_, rfl⟩
  have HL := Lib.hid hl
  have HN := Lib.hid hnl
  have HG20 := Lib.hid hG20
  have HGS := Lib.hid hGs
  have HV := Lib.hid hv
  rw [hnl] at hbn ⊢
  unfold maxLen at hbn
  have hn9 : nl ≤ 9223372036854775807 := by omega
  obtain ⟨⟨hxi, hxi2⟩, ⟨hxe, hxe2⟩, _, ⟨hxk, hxk2⟩, ⟨hxo, hxo2⟩⟩ := hx
  clear hr hFM hFT hl hnl hGs hG20 hv hbn
  obtain ⟨R, hR⟩ : ∃ R : Int, (if r = true then (0 : Int) else 1) = R := ⟨_, rfl⟩
  rw [hR]
  have HE := Lib.hid hR.symm
  clear hR
  go_enter Try.func103, Try.ntmps103
  go_upto_region 1 with fail
  have H := heap_alloc_new w (.cells G 29)
  have HB := below1 w (.cells G 29)
  have HS : w.heap.size < (w.alloc (.cells G 29)).heap.size := blk_lt H
  generalize hW : w.alloc (Obj.cells G 29) = W at *
  have H2 := heap_alloc_new W (.cells #[.int .i64 xi, .int .i64 xe, .int .i64 xd, .int .i64 xk, .int .i64 xo, .string xt, .slice Al nl cl] 53)
  have HB2 := below1 W (.cells #[.int .i64 xi, .int .i64 xe, .int .i64 xd, .int .i64 xk, .int .i64 xo, .string xt, .slice Al nl cl] 53)
  have HS2 : W.heap.size < (W.alloc (.cells #[.int .i64 xi, .int .i64 xe, .int .i64 xd, .int .i64 xk, .int .i64 xo, .string xt, .slice Al nl cl] 53)).heap.size := blk_lt H2
  replace H := alloc_keep H (Obj.cells #[.int .i64 xi, .int .i64 xe, .int .i64 xd, .int .i64 xk, .int .i64 xo, .string xt, .slice Al nl cl] 53)
  generalize hW2 : W.alloc (Obj.cells #[.int .i64 xi, .int .i64 xe, .int .i64 xd, .int .i64 xk, .int .i64 xo, .string xt, .slice Al nl cl] 53) = W2 at *
  clear hW2
  have eW : W.heap.size = w.heap.size + 1 := by rw [← hW]; simp
  rw [eW] at H2
  clear hW
  have hb2 := HB.trans (HB2.mono HB.size)
  have hs2 := HB2.size
  have LT1 := blk_lt H2
  have LT0 : w.heap.size < W2.heap.size := by omega
  have HH := Lib.hid H
  have HZ := Lib.hid H2
  have EW := Lib.hid eW
  clear H H2 eW
  have hb02 := hb2
  have LT02 := LT0
  have LT12 := LT1
  have HH2 := HH
  have HZ2 := HZ
  have g20 := (blk_cell HH2.out 20).trans HG20.out
  go_wp2_with (show wpList _ _ _ (Oper.mk (some 12) _ _ _ _ _ :: _) _ _; refine wpList_load_row_g rfl 29 (.tmp 2) rfl (w.heap.size) rfl _ _ _ _ HH2.out Try.underlying29 rfl (by rw [info_group]; exact congrArg some HGS.out.symm) ?_)
  refine (HV.out W2 hb2).mono ?_
  rintro e w3 ⟨rfl, hb3⟩
  have hb03 := hb02.trans (hb3.mono hb02.size)
  have hs3 := hb3.size
  have LT03 := Nat.lt_of_lt_of_le LT02 hs3
  have LT13 := Nat.lt_of_lt_of_le LT12 hs3
  have HH3 := Lib.hid ((hb3.block _ LT02).trans HH2.out)
  have HZ3 := Lib.hid ((hb3.block _ LT12).trans HZ2.out)
  have e0 := blk_cell HZ3.out 0
  have e1 := blk_cell HZ3.out 1
  have e3 := blk_cell HZ3.out 3
  have e4 := blk_cell HZ3.out 4
  have e5 := blk_cell HZ3.out 5
  cases gv with
  | false =>
    have hf := Lib.hid (show r = false by exact Bool.eq_false_iff.2 (fun h0 => absurd (HFM.out h0).1 (by decide)))
    go_wp2_with fail
    go_ret
    exact ⟨by rw [HE.out, hf.out]; first | done | rfl, hb03⟩
  | true =>
  by_cases hid : 1 ≤ xi
  case neg =>
    have hf := Lib.hid (show r = false by exact Bool.eq_false_iff.2 (fun h0 => absurd (HFM.out h0).2.1 hid))
    go_wp2_with fail
    go_ret
    exact ⟨by rw [HE.out, hf.out]; first | done | rfl, hb03⟩
  case pos =>
  by_cases he0 : 0 ≤ xe
  case neg =>
    have hf := Lib.hid (show r = false by exact Bool.eq_false_iff.2 (fun h0 => absurd (HFM.out h0).2.2.1 he0))
    go_wp2_with fail
    go_ret
    exact ⟨by rw [HE.out, hf.out]; first | done | rfl, hb03⟩
  case pos =>
  have hen' : True := trivial
  by_cases hen : xe < (ne : Int)
  case neg =>
    have hen2 : (ne : Int) ≤ xe := by omega
    have hen3 : xe ≥ (ne : Int) := hen2
    have hf := Lib.hid (show r = false by exact Bool.eq_false_iff.2 (fun h0 => absurd (HFM.out h0).2.2.2.1 hen))
    go_wp2_with fail
    go_ret
    exact ⟨by rw [HE.out, hf.out]; first | done | rfl, hb03⟩
  case pos =>
  have hen2 : ¬ xe ≥ (ne : Int) := by omega
  by_cases hk1 : 1 ≤ xk
  case neg =>
    have hf := Lib.hid (show r = false by exact Bool.eq_false_iff.2 (fun h0 => absurd (HFM.out h0).2.2.2.2.1 hk1))
    go_wp2_with fail
    go_ret
    exact ⟨by rw [HE.out, hf.out]; first | done | rfl, hb03⟩
  case pos =>
  by_cases hk3 : xk ≤ 3
  case neg =>
    have hk4 : xk > 3 := by omega
    have hf := Lib.hid (show r = false by exact Bool.eq_false_iff.2 (fun h0 => absurd (HFM.out h0).2.2.2.2.2.1 hk3))
    go_wp2_with fail
    go_ret
    exact ⟨by rw [HE.out, hf.out]; first | done | rfl, hb03⟩
  case pos =>
  have hk4 : ¬ xk > 3 := by omega
  have key : ∀ (K : Prop), ((xk = 3 → 1 ≤ xo) ∧ (xk ≠ 3 → xo = 0) → K) → ((¬ ((xk = 3 → 1 ≤ xo) ∧ (xk ≠ 3 → xo = 0))) → K) → K := fun K a b => by
    by_cases h : (xk = 3 → 1 ≤ xo) ∧ (xk ≠ 3 → xo = 0)
    · exact a h
    · exact b h
  have KEY := Lib.hid key
  clear key
  refine KEY.out _ (fun hof => ?_) (fun hof => ?_)
  case refine_2 =>
    clear KEY
    have hf := Lib.hid (show r = false from Bool.eq_false_iff.2 (fun h0 => hof ⟨(HFM.out h0).2.2.2.2.2.2.1, (HFM.out h0).2.2.2.2.2.2.2.1⟩))
    by_cases hk : xk = 3
    case pos =>
      have ho : xo < 1 := by
        rcases Int.lt_or_le xo 1 with h | h
        · exact h
        · exact absurd ⟨fun _ => h, fun h => absurd hk h⟩ hof
      clear hof
      subst hk
      go_wp2_with fail
      go_ret
      exact ⟨by rw [HE.out, hf.out]; first | done | rfl, hb03⟩
    case neg =>
      have ho : ¬ xo = 0 := fun h => hof ⟨fun h => absurd h hk, fun _ => h⟩
      clear hof
      have hk1 : (xk == 3) = false := by simpa using hk
      have hk2 : (xk != 3) = true := by simpa using hk
      have ho1 : (xo != 0) = true := by simpa using ho
      go_wp2_with fail
      go_ret
      exact ⟨by rw [HE.out, hf.out]; first | done | rfl, hb03⟩
  case refine_1 =>
  clear KEY
  have HOF := Lib.hid hof
  -- the tests of the kind are passed
  have hpass : (xk = 3 ∧ 1 ≤ xo) ∨ (¬ xk = 3 ∧ xo = 0) := by
    by_cases hk : xk = 3
    · exact Or.inl ⟨hk, hof.1 hk⟩
    · exact Or.inr ⟨hk, hof.2 hk⟩
  clear hof
  obtain ⟨pt, hpt⟩ : ∃ v, printB xt = v := ⟨_, rfl⟩
  have HPC := Lib.hid (fun w2 : World => plain_c xt w2 hts)
  rw [hpt] at HPC
  have HPT := Lib.hid hpt
  clear hpt
  rcases hpass with ⟨hk, ho⟩ | ⟨hk, ho⟩
  case' inl =>
    have hk2 : (xk == 3) = true := by simpa using hk
    have ho2 : ¬ xo < 1 := by omega
    have HK := Lib.hid hk
    clear hk
  case' inr =>
    have hk2 : (xk == 3) = false := by simpa using hk
    have ho2 : (xo != 0) = false := by simpa using ho
    have HK := Lib.hid hk
    clear hk
  case' inl => have hk5 : (xk != 3) = false := by simp [HK.out]
  case' inr => have hk5 : (xk != 3) = true := by simpa using HK.out
  case' inl => clear ho
  case' inr => clear ho
  all_goals
    go_wp2_with fail
    refine (HPC.out w3).mono ?_
    rintro e w4 ⟨rfl, hb4⟩
    clear hk2 hk5 ho2 HK
    have hb04 := hb03.trans (hb4.mono hb03.size)
    have hs4 := hb4.size
    have LT04 := Nat.lt_of_lt_of_le LT03 hs4
    have LT14 := Nat.lt_of_lt_of_le LT13 hs4
    have HH4 := Lib.hid ((hb4.block _ LT03).trans HH3.out)
    have HZ4 := Lib.hid ((hb4.block _ LT13).trans HZ3.out)
    have e6 := blk_cell HZ4.out 6
    cases pt with
    | false =>
      have hf := Lib.hid (show r = false by exact Bool.eq_false_iff.2 (fun h0 => absurd (HFM.out h0).2.2.2.2.2.2.2.2.1 (by rw [HPT.out]; decide)))
      go_wp2_with fail
      go_ret
      exact ⟨by rw [HE.out, hf.out]; first | done | rfl, hb04⟩
    | true =>
    by_cases hl2 : 2 ≤ nl
    case neg =>
      have hl2I : (nl : Int) < 2 := by omega
      have hf := Lib.hid (show r = false by exact Bool.eq_false_iff.2 (fun h0 => hl2 (by rw [← HN.out]; exact (HFM.out h0).2.2.2.2.2.2.2.2.2.1)))
      go_wp2_with fail
      go_ret
      exact ⟨by rw [HE.out, hf.out]; first | done | rfl, hb04⟩
    case pos =>
    have hl2I : ¬ (nl : Int) < 2 := by omega
    by_cases hl4 : nl ≤ 40
    case neg =>
      have hl4I : (nl : Int) > 40 := by omega
      have hf := Lib.hid (show r = false by exact Bool.eq_false_iff.2 (fun h0 => hl4 (by rw [← HN.out]; exact (HFM.out h0).2.2.2.2.2.2.2.2.2.2.1)))
      go_wp2_with fail
      go_ret
      exact ⟨by rw [HE.out, hf.out]; first | done | rfl, hb04⟩
    case pos =>
    have hl4I : ¬ (nl : Int) > 40 := by omega
    go_wp2_with fail
    clear e6
    go_loopw [64] (fun i wr => ∃ k : Nat, k ≤ nl ∧ i = .int .i64 (k : Int) ∧ Below w4.heap.size w4 wr ∧ ∀ j (hj : j < ls.length), j < k → lineB ne xe ls[j] = true) (fun i _ => nl - (intOf i).toNat)
    case atStart => exact ⟨0, by omega, rfl, Below.refl _ _, fun j hj h => by omega⟩
    case round =>
      obtain ⟨k, hk', rfl, hb, hall⟩ := hrel
      have HA := Lib.hid hall
      clear hall
      by_cases hlt : k < nl
      case pos =>
        have hltI : (k : Int) < (nl : Int) := by omega
        have hkl : k < ls.length := by rw [HN.out]; exact hlt
        obtain ⟨b, o, es, hAe, hbw, hes, hat⟩ := ListC.get HL.out k hkl
        subst hAe
        have hes1 := (LineC.lit hes).1
        have hbd := (LineC.lit hes).2
        rw [hes1] at hat
        have HMEM := Lib.hid (List.getElem_mem hkl)
        obtain ⟨x, hx⟩ : ∃ x, ls[k] = x := ⟨_, rfl⟩
        rw [hx] at hat hbd HMEM
        have HX := Lib.hid hx
        obtain ⟨la, lm, lp⟩ := x
        have HLB := Lib.hid (fun h => (lineB_iff ne xe ⟨la, lm, lp⟩).1 h)
        have HLT := Lib.hid (fun h => (lineB_iff ne xe ⟨la, lm, lp⟩).2 h)
        try simp only at hat
        obtain ⟨_, ⟨hm1, hm2⟩, ⟨hp1, hp2⟩⟩ := hbd
        simp only at hm1 hm2 hp1 hp2
        have hatw := (hat.fr (Fr.ofBelow hb04)).fr (Fr.ofBelow (hb.mono hb04.size))
        have HAR := Lib.hid hatw.range
        have LTr0 := Nat.lt_of_lt_of_le LT04 hb.size
        have LTr1 := Nat.lt_of_lt_of_le LT14 hb.size
        have HZr := Lib.hid ((hb.block _ LT14).trans HZ4.out)
        clear hes hes1 hat hatw hx
        go_upto_region 19 with (show wpList _ _ _ (Oper.mk (some 67) _ _ _ _ _ :: _) _ _; refine wpList_load_mid rfl 57 (.tmp 66) rfl b (o + k * 3) rfl [.int .i64 la, .int .i64 lm, .int .i64 lp] _ HAR.out Try.underlying57 rfl info_line ?_)
        have H6 := heap_alloc_new wr (.cells #[.int .i64 la, .int .i64 lm, .int .i64 lp] 57)
        have HB6 := below1 wr (.cells #[.int .i64 la, .int .i64 lm, .int .i64 lp] 57)
        have HS6 : wr.heap.size < (wr.alloc (.cells #[.int .i64 la, .int .i64 lm, .int .i64 lp] 57)).heap.size := blk_lt H6
        generalize hW6 : wr.alloc (Obj.cells #[.int .i64 la, .int .i64 lm, .int .i64 lp] 57) = W6 at *
        clear hW6
        have HK6 := Lib.hid H6
        have c1 := blk_cell HK6.out 1
        have c2 := blk_cell HK6.out 2
        clear H6
        have hb6 := hb.trans (HB6.mono hb.size)
        have hb06 := hb04.trans (hb6.mono hb04.size)
        by_cases ha : lm = 0
        case pos =>
          have ha1 : (lm == 0) = true := by simpa using ha
          have hf := Lib.hid (show r = false from Bool.eq_false_iff.2 (fun h0 => absurd ((HLB.out ((HFM.out h0).2.2.2.2.2.2.2.2.2.2.2 _ HMEM.out)).1) (fun h => h ha)))
          go_wp2_with fail
          go_ret
          exact ⟨by rw [HE.out, hf.out]; first | done | rfl, hb06⟩
        case neg =>
        have ha1 : (lm == 0) = false := by simpa using ha
        obtain ⟨mv, hmv⟩ : ∃ v, monB lm = v := ⟨_, rfl⟩
        have hcall := money_c lm W6
        rw [hmv] at hcall
        have HMV := Lib.hid hmv
        have HCALL := Lib.hid hcall
        clear hmv hcall
        go_wp2_with fail
        refine HCALL.out.mono ?_
        rintro e w7 ⟨rfl, hb7⟩
        have hb47 := hb6.trans (hb7.mono hb6.size)
        have hb07 := hb04.trans (hb47.mono hb04.size)
        clear c1 c2
        have c2 := blk_cell ((hb7.block _ HS6).trans HK6.out) 2
        have e1 := blk_cell ((hb7.block _ (Nat.lt_of_lt_of_le LTr1 HB6.size)).trans ((HB6.block _ LTr1).trans HZr.out)) 1
        cases mv with
        | false =>
          have hf := Lib.hid (show r = false from Bool.eq_false_iff.2 (fun h0 => absurd ((HLB.out ((HFM.out h0).2.2.2.2.2.2.2.2.2.2.2 _ HMEM.out)).2.1) (by rw [HMV.out]; decide)))
          go_wp2_with fail
          go_ret
          exact ⟨by rw [HE.out, hf.out]; first | done | rfl, hb07⟩
        | true =>
        by_cases hq1 : -1 ≤ lp
        case neg =>
          have hq1' : lp < -1 := by omega
          have hf := Lib.hid (show r = false from Bool.eq_false_iff.2 (fun h0 => absurd ((HLB.out ((HFM.out h0).2.2.2.2.2.2.2.2.2.2.2 _ HMEM.out)).2.2.1) hq1))
          go_wp2_with fail
          go_ret
          exact ⟨by rw [HE.out, hf.out]; first | done | rfl, hb07⟩
        case pos =>
        have hq1' : ¬ lp < -1 := by omega
        by_cases hq2 : lp < (ne : Int)
        case neg =>
          have hq2' : lp ≥ (ne : Int) := by omega
          have hf := Lib.hid (show r = false from Bool.eq_false_iff.2 (fun h0 => absurd ((HLB.out ((HFM.out h0).2.2.2.2.2.2.2.2.2.2.2 _ HMEM.out)).2.2.2.1) hq2))
          go_wp2_with fail
          go_ret
          exact ⟨by rw [HE.out, hf.out]; first | done | rfl, hb07⟩
        case pos =>
        have hq2' : ¬ lp ≥ (ne : Int) := by omega
        by_cases hq3 : lp = xe
        case pos =>
          have hq3' : (lp == xe) = true := by simpa using hq3
          have HQ3 := Lib.hid hq3
          clear hq3
          have hf := Lib.hid (show r = false from Bool.eq_false_iff.2 (fun h0 => absurd ((HLB.out ((HFM.out h0).2.2.2.2.2.2.2.2.2.2.2 _ HMEM.out)).2.2.2.2) (fun h => h HQ3.out)))
          go_wp2_with fail
          go_ret
          exact ⟨by rw [HE.out, hf.out]; first | done | rfl, hb07⟩
        case neg =>
          have hq3' : (lp == xe) = false := by simpa using hq3
          have HROW := Lib.hid (HLT.out ⟨ha, HMV.out, hq1, hq2, hq3⟩)
          go_wp2_with fail
          go_roundw
          case rel => exact ⟨k + 1, by omega, by go_num, hb47, fun j hj hjk => by
            rcases Nat.lt_or_ge j k with h | h
            · exact HA.out j hj h
            · have : j = k := by omega
              subst this
              rw [HX.out]
              exact HROW.out⟩
          case measure => first | exact meas_v hlt | (simp only [intOf]; omega)
      case neg =>
        have hltI : ¬ (k : Int) < (nl : Int) := by omega
        have HALL := Lib.hid (show ∀ l ∈ ls, lineB ne xe l = true from fun x hx => by
          obtain ⟨j, hj, rfl⟩ := List.getElem_of_mem hx
          exact HA.out j hj (by have := HN.out; omega))
        have hf := Lib.hid (show r = true from HFT.out ⟨by first | trivial | rfl, hid, he0, hen, hk1, hk3, HOF.out.1, HOF.out.2, HPT.out, by rw [HN.out]; exact hl2, by rw [HN.out]; exact hl4, HALL.out⟩)
        go_wp2_with fail
        go_ret
        exact ⟨by rw [HE.out, hf.out]; first | done | rfl, hb04.trans (hb.mono hb04.size)⟩
end Go.Proofs.Ytnigokmjehemaaa

/- The fields of an entry, in the reference. Written by gen_e4.py. -/
namespace Go.Proofs.Ytnigokmjehemaaa
open Go Go.RowKit
set_option linter.unusedVariables false
set_option linter.unusedSimpArgs false
set_option maxRecDepth 4000
attribute [local go_sem ↓] Go.wp_at_zero Go.wp_at_succ
set_option maxHeartbeats 1000000 in
theorem rline_c (G : Array Value) (Ae : Option Addr) (ne ce : Nat) (ent la lm lp : Int) (w : World) (hGs : G.size = 21) (hG20 : G[20]? = some (.slice Ae ne ce)) (h0 : 0 ≤ ent) (hlp : intBd lp) : Calls Try.prog 152 #[.agg G, .int .i64 ent, .agg #[.int .i64 la, .int .i64 lm, .int .i64 lp]] w (Quiet w (.bool (lineB ne ent ⟨la, lm, lp⟩))) := by
  obtain ⟨r, hr⟩ : ∃ r, lineB ne ent ⟨la, lm, lp⟩ = r := ⟨_, rfl⟩
  have HLB := Lib.hid (fun h : r = true => (lineB_iff ne ent ⟨la, lm, lp⟩).1 (hr.trans h))
  have HLT := Lib.hid (fun h => hr.symm.trans ((lineB_iff ne ent ⟨la, lm, lp⟩).2 h))
  rw [hr]
  have HG20 := Lib.hid hG20
  obtain ⟨hp1, hp2⟩ := hlp
  clear hr hG20 hGs
  go_enter Try.func152, Try.ntmps152
  go_upto_region 1 with fail
  have H := heap_alloc_new w (.cells G 29)
  have HB := below1 w (.cells G 29)
  have HS : w.heap.size < (w.alloc (.cells G 29)).heap.size := blk_lt H
  generalize hW : w.alloc (Obj.cells G 29) = W at *
  have H2 := heap_alloc_new W (.cells #[.int .i64 la, .int .i64 lm, .int .i64 lp] 57)
  have HB2 := below1 W (.cells #[.int .i64 la, .int .i64 lm, .int .i64 lp] 57)
  have HS2 : W.heap.size < (W.alloc (.cells #[.int .i64 la, .int .i64 lm, .int .i64 lp] 57)).heap.size := blk_lt H2
  replace H := alloc_keep H (Obj.cells #[.int .i64 la, .int .i64 lm, .int .i64 lp] 57)
  generalize hW2 : W.alloc (Obj.cells #[.int .i64 la, .int .i64 lm, .int .i64 lp] 57) = W2 at *
  clear hW2
  have eW : W.heap.size = w.heap.size + 1 := by rw [← hW]; simp
  rw [eW] at H2
  clear hW
  have hb2 := HB.trans (HB2.mono HB.size)
  have hs2 := HB2.size
  have LT1 := blk_lt H2
  have LT0 : w.heap.size < W2.heap.size := by omega
  have HH := Lib.hid H
  have HZ := Lib.hid H2
  have EW := Lib.hid eW
  clear H H2 eW
  have hb02 := hb2
  have LT02 := LT0
  have LT12 := LT1
  have HH2 := HH
  have HZ2 := HZ
  have e1 := blk_cell HZ.out 1
  have e2 := blk_cell HZ.out 2
  by_cases ha : lm = 0
  case pos =>
    have ha1 : (lm == 0) = true := by simpa using ha
    have hf := Lib.hid (show r = false by exact Bool.eq_false_iff.2 (fun h0 => absurd (HLB.out h0).1 (fun h => h ha)))
    clear ha
    go_wp2_with fail
    go_ret
    exact ⟨by rw [hf.out]; first | done | rfl, hb02⟩
  case neg =>
  have ha1 : (lm == 0) = false := by simpa using ha
  obtain ⟨mv, hmv⟩ : ∃ v, monB lm = v := ⟨_, rfl⟩
  have hcall := rMoney_c lm W2
  rw [hmv] at hcall
  have HMV := Lib.hid hmv
  have HCALL := Lib.hid hcall
  clear hmv hcall
  go_wp2_with fail
  refine HCALL.out.mono ?_
  rintro e w3 ⟨rfl, hb3⟩
  have hb03 := hb02.trans (hb3.mono hb02.size)
  have hs3 := hb3.size
  have LT03 := Nat.lt_of_lt_of_le LT02 hs3
  have LT13 := Nat.lt_of_lt_of_le LT12 hs3
  have HH3 := Lib.hid ((hb3.block _ LT02).trans HH2.out)
  have HZ3 := Lib.hid ((hb3.block _ LT12).trans HZ2.out)
  clear e1 e2
  cases mv with
  | false =>
    have hf := Lib.hid (show r = false by exact Bool.eq_false_iff.2 (fun h0 => absurd (HLB.out h0).2.1 (by rw [HMV.out]; decide)))
    go_wp2_with fail
    go_ret
    exact ⟨by rw [hf.out]; first | done | rfl, hb03⟩
  | true =>
  have e2 := blk_cell HZ3.out 2
  have g20 := (blk_cell HH3.out 20).trans HG20.out
  by_cases hm : lp = -1
  case pos =>
    have hm1 : (lp == -1) = true := by simpa using hm
    have hf := Lib.hid (show r = true from HLT.out ⟨ha, HMV.out, by omega, by omega, by omega⟩)
    clear hm
    go_wp2_with fail
    go_ret
    exact ⟨by rw [hf.out]; first | done | rfl, hb03⟩
  case neg =>
  have hm1 : (lp == -1) = false := by simpa using hm
  by_cases hq1 : 0 ≤ lp
  case neg =>
    have hq1' : ¬ lp ≥ 0 := hq1
    have hf := Lib.hid (show r = false by exact Bool.eq_false_iff.2 (fun h0 => absurd (HLB.out h0).2.2.1 (by omega)))
    go_wp2_with fail
    go_ret
    exact ⟨by rw [hf.out]; first | done | rfl, hb03⟩
  case pos =>
  have hq1' : lp ≥ 0 := hq1
  by_cases hq2 : lp < (ne : Int)
  case neg =>
    have hq2d : decide (lp < (ne : Int)) = false := decide_eq_false hq2
    have hf := Lib.hid (show r = false by exact Bool.eq_false_iff.2 (fun h0 => absurd (HLB.out h0).2.2.2.1 hq2))
    go_wp2_with fail
    go_ret
    exact ⟨by rw [hf.out]; first | done | rfl, hb03⟩
  case pos =>
  by_cases hq3 : lp = ent
  case pos =>
    have hq3' : (lp != ent) = false := by simpa using hq3
    have HQ3 := Lib.hid hq3
    clear hq3
    have hf := Lib.hid (show r = false by exact Bool.eq_false_iff.2 (fun h0 => absurd (HLB.out h0).2.2.2.2 (fun h => h HQ3.out)))
    go_wp2_with fail
    go_ret
    exact ⟨by rw [hf.out]; first | done | rfl, hb03⟩
  case neg =>
    have hq3' : (lp != ent) = true := by simpa using hq3
    have hf := Lib.hid (show r = true from HLT.out ⟨ha, HMV.out, by omega, hq2, hq3⟩)
    go_wp2_with fail
    go_ret
    exact ⟨by rw [hf.out]; first | done | rfl, hb03⟩
set_option maxHeartbeats 4000000 in
theorem rshape_c (G : Array Value) (Ae : Option Addr) (ne ce : Nat) (gv : Bool) (xi xe xd xk xo : Int) (xt : ByteArray) (ls : List XLine) (Al : Option Addr) (cl : Nat) (w : World) (hGs : G.size = 21) (hG20 : G[20]? = some (.slice Ae ne ce)) (hne : ne ≤ 1000)
    (hv : ∀ w2 : World, Below w.heap.size w w2 → Calls Try.prog 25 #[.agg G] w2 (Quiet w2 (.bool gv))) (hx : intBd xi ∧ intBd xe ∧ intBd xd ∧ intBd xk ∧ intBd xo) (hts : xt.size ≤ 140737488355327) (hl : ListC LineC 3 w (· < w.heap.size) [.slice Al ls.length cl] ls) : Calls Try.prog 107 #[.agg G, .agg #[.int .i64 xi, .int .i64 xe, .int .i64 xd, .int .i64 xk, .int .i64 xo, .string xt, .slice Al ls.length cl]] w (Quiet w (.bool (formB gv ne ⟨xi, xe, xd, xk, xo, xt, ls⟩))) := by
  obtain ⟨gl, rfl⟩ : ∃ gl : List Value, G = gl.toArray := ⟨G.toList, by simp⟩
  obtain ⟨r, hr⟩ : ∃ r, formB gv ne ⟨xi, xe, xd, xk, xo, xt, ls⟩ = r := ⟨_, rfl⟩
  have hFM : r = true → Formed gv ne ⟨xi, xe, xd, xk, xo, xt, ls⟩ := fun h => (formB_iff _ _ _).1 (hr.trans h)
  have hFT : Formed gv ne ⟨xi, xe, xd, xk, xo, xt, ls⟩ → r = true := fun h => hr.symm.trans ((formB_iff _ _ _).2 h)
  rw [hr]
  unfold Formed at hFM hFT
  simp only at hFM hFT
  have HFM := Lib.hid hFM
  have HFT := Lib.hid hFT
  have hbn := hl.cap
  obtain ⟨nl, hnl⟩ : ∃ n, ls.length = n := ⟨_, rfl⟩
  have HL := Lib.hid hl
  have HN := Lib.hid hnl
  have HG20 := Lib.hid hG20
  have HGS := Lib.hid hGs
  have HV := Lib.hid hv
  rw [hnl] at hbn ⊢
  unfold maxLen at hbn
  have hn9 : nl ≤ 9223372036854775807 := by omega
  obtain ⟨⟨hxi, hxi2⟩, ⟨hxe, hxe2⟩, _, ⟨hxk, hxk2⟩, ⟨hxo, hxo2⟩⟩ := hx
  clear hr hFM hFT hl hnl hGs hG20 hv hbn
  have HGI := Lib.hid (show (Try.prog.info? 29).map (·.size) = some gl.length by rw [info_group]; have := HGS.out; simp at this; rw [this])
  go_enter Try.func107, Try.ntmps107
  go_upto_region 1 with fail
  have H := heap_alloc_new w (.cells gl.toArray 29)
  have HB := below1 w (.cells gl.toArray 29)
  have HS : w.heap.size < (w.alloc (.cells gl.toArray 29)).heap.size := blk_lt H
  generalize hW : w.alloc (Obj.cells gl.toArray 29) = W at *
  have H2 := heap_alloc_new W (.cells #[.int .i64 xi, .int .i64 xe, .int .i64 xd, .int .i64 xk, .int .i64 xo, .string xt, .slice Al nl cl] 53)
  have HB2 := below1 W (.cells #[.int .i64 xi, .int .i64 xe, .int .i64 xd, .int .i64 xk, .int .i64 xo, .string xt, .slice Al nl cl] 53)
  have HS2 : W.heap.size < (W.alloc (.cells #[.int .i64 xi, .int .i64 xe, .int .i64 xd, .int .i64 xk, .int .i64 xo, .string xt, .slice Al nl cl] 53)).heap.size := blk_lt H2
  replace H := alloc_keep H (Obj.cells #[.int .i64 xi, .int .i64 xe, .int .i64 xd, .int .i64 xk, .int .i64 xo, .string xt, .slice Al nl cl] 53)
  generalize hW2 : W.alloc (Obj.cells #[.int .i64 xi, .int .i64 xe, .int .i64 xd, .int .i64 xk, .int .i64 xo, .string xt, .slice Al nl cl] 53) = W2 at *
  clear hW2
  have eW : W.heap.size = w.heap.size + 1 := by rw [← hW]; simp
  rw [eW] at H2
  clear hW
  have hb2 := HB.trans (HB2.mono HB.size)
  have hs2 := HB2.size
  have LT1 := blk_lt H2
  have LT0 : w.heap.size < W2.heap.size := by omega
  have HH := Lib.hid H
  have HZ := Lib.hid H2
  have EW := Lib.hid eW
  clear H H2 eW
  have hb02 := hb2
  have LT02 := LT0
  have LT12 := LT1
  have HH2 := HH
  have HZ2 := HZ
  go_wp2_with (show wpList _ _ _ (Oper.mk (some 6) _ _ _ _ _ :: _) _ _; refine wpList_load_row_g rfl 29 (.tmp 2) rfl (w.heap.size) rfl _ _ _ _ HH2.out Try.underlying29 rfl (by rw [info_group]; exact congrArg some HGS.out.symm) ?_)
  refine (HV.out W2 hb2).mono ?_
  rintro e w3 ⟨rfl, hb3⟩
  have hb03 := hb02.trans (hb3.mono hb02.size)
  have hs3 := hb3.size
  have LT03 := Nat.lt_of_lt_of_le LT02 hs3
  have LT13 := Nat.lt_of_lt_of_le LT12 hs3
  have HH3 := Lib.hid ((hb3.block _ LT02).trans HH2.out)
  have HZ3 := Lib.hid ((hb3.block _ LT12).trans HZ2.out)
  have e0 := blk_cell HZ3.out 0
  have e1 := blk_cell HZ3.out 1
  have e3 := blk_cell HZ3.out 3
  have e4 := blk_cell HZ3.out 4
  have e5 := blk_cell HZ3.out 5
  have g20 := (blk_cell HH3.out 20).trans HG20.out
  cases gv with
  | false =>
    have hf := Lib.hid (show r = false from Bool.eq_false_iff.2 (fun h0 => absurd (HFM.out h0).1 (by decide)))
    go_wp2_with fail
    go_ret
    exact ⟨by rw [hf.out]; first | done | rfl, hb03⟩
  | true =>
  by_cases hid : 1 ≤ xi
  case neg =>
    have hi1 : decide (xi < 1) = true := decide_eq_true (by omega)
    have hf := Lib.hid (show r = false from Bool.eq_false_iff.2 (fun h0 => absurd (HFM.out h0).2.1 hid))
    go_wp2_with fail
    go_ret
    exact ⟨by rw [hf.out]; first | done | rfl, hb03⟩
  case pos =>
  have hi1 : decide (xi < 1) = false := decide_eq_false (by omega)
  by_cases he0 : 0 ≤ xe
  case neg =>
    have hi2 : decide (xe < 0) = true := decide_eq_true (by omega)
    have hf := Lib.hid (show r = false from Bool.eq_false_iff.2 (fun h0 => absurd (HFM.out h0).2.2.1 he0))
    go_wp2_with fail
    go_ret
    exact ⟨by rw [hf.out]; first | done | rfl, hb03⟩
  case pos =>
  have hi2 : decide (xe < 0) = false := decide_eq_false (by omega)
  by_cases hen : xe < (ne : Int)
  case neg =>
    have hi3 : decide ((ne : Int) ≤ xe) = true := decide_eq_true (by omega)
    have hf := Lib.hid (show r = false from Bool.eq_false_iff.2 (fun h0 => absurd (HFM.out h0).2.2.2.1 hen))
    go_wp2_with fail
    go_ret
    exact ⟨by rw [hf.out]; first | done | rfl, hb03⟩
  case pos =>
  have hi3 : decide ((ne : Int) ≤ xe) = false := decide_eq_false (by omega)
  by_cases hk1 : 1 ≤ xk
  case neg =>
    have hi4 : decide (xk < 1) = true := decide_eq_true (by omega)
    have hf := Lib.hid (show r = false from Bool.eq_false_iff.2 (fun h0 => absurd (HFM.out h0).2.2.2.2.1 hk1))
    go_wp2_with fail
    go_ret
    exact ⟨by rw [hf.out]; first | done | rfl, hb03⟩
  case pos =>
  have hi4 : decide (xk < 1) = false := decide_eq_false (by omega)
  by_cases hk3 : xk ≤ 3
  case neg =>
    have hi5e : decide (3 < xk) = true := decide_eq_true (by omega)
    have hf := Lib.hid (show r = false from Bool.eq_false_iff.2 (fun h0 => absurd (HFM.out h0).2.2.2.2.2.1 hk3))
    go_wp2_with fail
    go_ret
    exact ⟨by rw [hf.out]; first | done | rfl, hb03⟩
  case pos =>
  have hi5d : decide (3 < xk) = false := decide_eq_false (by omega)
  by_cases hk : xk = 3
  case pos =>
    have hk2 : (xk == 3) = true := by simpa using hk
    have hk5 : (xk != 3) = false := by simp [hk]
    have HK := Lib.hid hk
    clear hk
    by_cases ho : 1 ≤ xo
    case neg =>
      have ho2 : decide (xo < 1) = true := decide_eq_true (by omega)
      have HNO := Lib.hid (show ¬ (xk = 3 → 1 ≤ xo) from fun h => ho (h HK.out))
      have hf := Lib.hid (show r = false from Bool.eq_false_iff.2 (fun h0 => absurd (HFM.out h0).2.2.2.2.2.2.1 HNO.out))
      go_wp2_with fail
      go_ret
      exact ⟨by rw [hf.out]; first | done | rfl, hb03⟩
    case pos =>
    have ho2 : decide (xo < 1) = false := decide_eq_false (by omega)
    have HOF := Lib.hid (show (xk = 3 → 1 ≤ xo) ∧ (xk ≠ 3 → xo = 0) from ⟨fun _ => ho, fun h => absurd HK.out h⟩)
    clear ho
    obtain ⟨pt, hpt⟩ : ∃ v, printB xt = v := ⟨_, rfl⟩
    have HPC := Lib.hid (fun w2 : World => rplain_c xt w2 hts)
    rw [hpt] at HPC
    have HPT := Lib.hid hpt
    clear hpt
    go_wp2_with fail
    refine (HPC.out w3).mono ?_
    rintro e w4 ⟨rfl, hb4⟩
    clear hk2 hk5 ho2
    have hb04 := hb03.trans (hb4.mono hb03.size)
    have hs4 := hb4.size
    have LT04 := Nat.lt_of_lt_of_le LT03 hs4
    have LT14 := Nat.lt_of_lt_of_le LT13 hs4
    have HH4 := Lib.hid ((hb4.block _ LT03).trans HH3.out)
    have HZ4 := Lib.hid ((hb4.block _ LT13).trans HZ3.out)
    have d6 := blk_cell HZ4.out 6
    cases pt with
    | false =>
      have hf := Lib.hid (show r = false from Bool.eq_false_iff.2 (fun h0 => absurd (HFM.out h0).2.2.2.2.2.2.2.2.1 (by rw [HPT.out]; decide)))
      go_wp2_with fail
      go_ret
      exact ⟨by rw [hf.out]; first | done | rfl, hb04⟩
    | true =>
    by_cases hl2 : 2 ≤ nl
    case neg =>
      have hl2I : decide ((nl : Int) < 2) = true := decide_eq_true (by omega)
      have hf := Lib.hid (show r = false from Bool.eq_false_iff.2 (fun h0 => absurd (HFM.out h0).2.2.2.2.2.2.2.2.2.1 (fun h => hl2 (by rw [← HN.out]; exact h))))
      go_wp2_with fail
      go_ret
      exact ⟨by rw [hf.out]; first | done | rfl, hb04⟩
    case pos =>
    have hl2I : decide ((nl : Int) < 2) = false := decide_eq_false (by omega)
    by_cases hl4 : nl ≤ 40
    case neg =>
      have hl4d : decide (40 < (nl : Int)) = true := decide_eq_true (by omega)
      have hf := Lib.hid (show r = false from Bool.eq_false_iff.2 (fun h0 => absurd (HFM.out h0).2.2.2.2.2.2.2.2.2.2.1 (fun h => hl4 (by rw [← HN.out]; exact h))))
      go_wp2_with fail
      go_ret
      exact ⟨by rw [hf.out]; first | done | rfl, hb04⟩
    case pos =>
    have hl4d : decide (40 < (nl : Int)) = false := decide_eq_false (by omega)
    go_wp2_with fail
    clear d6 hl4d hl2I
    go_loopw [5] (fun i wr => ∃ k : Nat, k ≤ nl ∧ i = .int .i64 (k : Int) ∧ Below w4.heap.size w4 wr ∧ ∀ j (hj : j < ls.length), j < k → lineB ne xe ls[j] = true) (fun i _ => nl - (intOf i).toNat)
    case atStart => exact ⟨0, by omega, rfl, Below.refl _ _, fun j hj h => by omega⟩
    case round =>
    obtain ⟨k, hk', rfl, hb, hall⟩ := hrel
    have HA := Lib.hid hall
    clear hall
    have hHr := (hb.block _ LT04).trans HH4.out
    have hZr := (hb.block _ LT14).trans HZ4.out
    have HV1 := Lib.hid (Nat.lt_of_lt_of_le LT14 hb.size)
    have HV0 := Lib.hid (Nat.lt_of_lt_of_le LT04 hb.size)
    have HATG := Lib.hid (box_at (cs := gl) hHr)
    have d1 := blk_cell hZr 1
    have d6 := blk_cell hZr 6
    clear hHr hZr
    by_cases hlt : k < nl
    case pos =>
      have hltI : (k : Int) < (nl : Int) := by omega
      have hkl : k < ls.length := by rw [HN.out]; exact hlt
      obtain ⟨b, o, es, hAe, hbw, hes, hat⟩ := ListC.get HL.out k hkl
      subst hAe
      have hes1 := (LineC.lit hes).1
      have hbd := (LineC.lit hes).2
      rw [hes1] at hat
      have HMEM := Lib.hid (List.getElem_mem hkl)
      obtain ⟨x, hx⟩ : ∃ x, ls[k] = x := ⟨_, rfl⟩
      rw [hx] at hat hbd HMEM
      have HX := Lib.hid hx
      obtain ⟨la, lm, lp⟩ := x
      try simp only at hat
      have HLP := Lib.hid (show intBd lp from hbd.2.2)
      obtain ⟨lv, hlv⟩ : ∃ v, lineB ne xe ⟨la, lm, lp⟩ = v := ⟨_, rfl⟩
      have HLV := Lib.hid hlv
      have hatw := (hat.fr (Fr.ofBelow hb04)).fr (Fr.ofBelow (hb.mono hb04.size))
      have hwr := Nat.le_trans hb04.size hb.size
      have HATL := Lib.hid (hatw.mono (fun q (hq : q < w.heap.size) => show q < wr.heap.size by omega))
      have D1 := Lib.hid d1
      have D6 := Lib.hid d6
      clear hes hes1 hat hatw hx hlv hbd d1
      go_wp2_with fail
      refine wp_region_inv (Ks wr [.val (.agg gl.toArray), .val (.pointer (some ⟨(w.heap.size + 1), 1, none⟩)), .val (.int .i64 xe), .val (.pointer (some ⟨(w.heap.size + 1), 6, none⟩)), .val (.slice (some ⟨b, o, none⟩) nl cl), .val (.int .i64 (k : Int)), .val (.pointer (some ⟨b, o + k * 3, none⟩)), .val (.agg #[.int .i64 la, .int .i64 lm, .int .i64 lp]), .val (.bool lv), .val (.bool (!lv))])
        (fun w' => Below wr.heap.size wr w') (by kernel_rfl) (by kernel_rfl) (by kernel_rfl) (Below.refl _ _).drew ?_ ?_
      · refine ⟨?_, ?_, ?_, ?_, ?_, ?_, ?_, ?_, ?_, ?_, trivial⟩
        · intro listed A0 w2 hI hd hnd K hK
          have e0 := hI.slot hnd 2 _ rfl (by kernel_rfl)
          have hS := hI.world
          have hrange : w2.rangeAt w.heap.size 0 gl := (HATG.out.fr (Fr.ofBelow hS)).range
          have hisize := HGI.out
          refine wanted_go rfl ?_
          clear hI hd hnd
          refine wp_load_mid 29 (.tmp 2) rfl _ _ (by simpa [Act.eval, Array.getD_eq_getD_getElem?] using e0) _ _ hrange Try.underlying29 rfl hisize ?_
          exact hK.out _ _ hS (Ks.of rfl rfl) (fun _ _ h => h)
        · intro listed A0 w2 hI hd hnd K hK
          have e0 := hI.slot hnd 3 _ rfl (by kernel_rfl)
          have hS := hI.world
          refine wanted_go rfl ?_
          clear hI hd hnd
          go_simp
          exact hK.out _ _ hS (Ks.of rfl rfl) (fun _ _ h => h)
        · intro listed A0 w2 hI hd hnd K hK
          have e0 := hI.depv hd 1 81 _ rfl rfl rfl (by kernel_rfl)
          have hS := hI.world
          have hcc : w2.cell? ⟨w.heap.size + 1, 1, none⟩ = _ := (hS.cell (p := ⟨w.heap.size + 1, 1, none⟩) HV1.out).trans D1.out
          refine wanted_go rfl ?_
          clear hI hd hnd
          go_simp
          exact hK.out _ _ hS (Ks.of rfl rfl) (fun _ _ h => h)
        · intro listed A0 w2 hI hd hnd K hK
          have e0 := hI.slot hnd 3 _ rfl (by kernel_rfl)
          have hS := hI.world
          refine wanted_go rfl ?_
          clear hI hd hnd
          go_simp
          exact hK.out _ _ hS (Ks.of rfl rfl) (fun _ _ h => h)
        · intro listed A0 w2 hI hd hnd K hK
          have e0 := hI.depv hd 3 83 _ rfl rfl rfl (by kernel_rfl)
          have hS := hI.world
          have hcc : w2.cell? ⟨w.heap.size + 1, 6, none⟩ = _ := (hS.cell (p := ⟨w.heap.size + 1, 6, none⟩) HV1.out).trans D6.out
          refine wanted_go rfl ?_
          clear hI hd hnd
          go_simp
          exact hK.out _ _ hS (Ks.of rfl rfl) (fun _ _ h => h)
        · intro listed A0 w2 hI hd hnd K hK
          have e0 := hI.slot hnd 5 _ rfl (by kernel_rfl)
          have hS := hI.world
          refine wanted_go rfl ?_
          clear hI hd hnd
          go_simp
          exact hK.out _ _ hS (Ks.of rfl rfl) (fun _ _ h => h)
        · intro listed A0 w2 hI hd hnd K hK
          have e0 := hI.depv hd 4 84 _ rfl rfl rfl (by kernel_rfl)
          have e1 := hI.depv hd 5 85 _ rfl rfl rfl (by kernel_rfl)
          have hS := hI.world
          refine wanted_go rfl ?_
          clear hI hd hnd
          go_simp
          exact hK.out _ _ hS (Ks.of rfl rfl) (fun _ _ h => h)
        · intro listed A0 w2 hI hd hnd K hK
          have e0 := hI.depv hd 6 86 _ rfl rfl rfl (by kernel_rfl)
          have hS := hI.world
          have hrange : w2.rangeAt b (o + k * 3) [.int .i64 la, .int .i64 lm, .int .i64 lp] := (HATL.out.fr (Fr.ofBelow hS)).range
          have hisize := info_line
          refine wanted_go rfl ?_
          clear hI hd hnd
          refine wp_load_mid 57 (.tmp 86) rfl _ _ (by simpa [Act.eval, Array.getD_eq_getD_getElem?] using e0) _ _ hrange Try.underlying57 rfl hisize ?_
          exact hK.out _ _ hS (Ks.of rfl rfl) (fun _ _ h => h)
        · intro listed A0 w2 hI hd hnd K hK
          have e0 := hI.depv hd 0 80 _ rfl rfl rfl (by kernel_rfl)
          have e1 := hI.depv hd 2 82 _ rfl rfl rfl (by kernel_rfl)
          have e2 := hI.depv hd 7 87 _ rfl rfl rfl (by kernel_rfl)
          have hS := hI.world
          refine wanted_go rfl ?_
          clear hI hd hnd
          go_simp
          go_at_call 152
          refine (rline_c gl.toArray Ae ne ce xe la lm lp w2 HGS.out HG20.out he0 HLP.out).mono ?_
          rintro e w3 ⟨rfl, h3⟩
          exact hK.out _ _ (hS.trans (h3.mono hS.size)) (Ks.of rfl (congrArg Value.bool HLV.out)) (Ks.keep h3)
        · intro listed A0 w2 hI hd hnd K hK
          have e0 := hI.depv hd 8 88 _ rfl rfl rfl (by kernel_rfl)
          have hS := hI.world
          refine wanted_go rfl ?_
          clear hI hd hnd
          go_simp
          exact hK.out _ _ hS (Ks.of rfl rfl) (fun _ _ h => h)
      · intro listed A0 w2 hI hall
        obtain ⟨x0, g0, h0⟩ := hI.got 0 _ 80 rfl rfl (hall 0 (by decide))
        obtain ⟨x1, g1, h1⟩ := hI.got 1 _ 81 rfl rfl (hall 1 (by decide))
        obtain ⟨x2, g2, h2⟩ := hI.got 2 _ 82 rfl rfl (hall 2 (by decide))
        obtain ⟨x3, g3, h3⟩ := hI.got 3 _ 83 rfl rfl (hall 3 (by decide))
        obtain ⟨x4, g4, h4⟩ := hI.got 4 _ 84 rfl rfl (hall 4 (by decide))
        obtain ⟨x5, g5, h5⟩ := hI.got 5 _ 85 rfl rfl (hall 5 (by decide))
        obtain ⟨x6, g6, h6⟩ := hI.got 6 _ 86 rfl rfl (hall 6 (by decide))
        obtain ⟨x7, g7, h7⟩ := hI.got 7 _ 87 rfl rfl (hall 7 (by decide))
        obtain ⟨x8, g8, h8⟩ := hI.got 8 _ 88 rfl rfl (hall 8 (by decide))
        obtain ⟨x9, g9, h9⟩ := hI.got 9 _ 89 rfl rfl (hall 9 (by decide))
        have hS := hI.world
        have hA : A0 = _ := hI.tmps [(80, x0), (81, x1), (82, x2), (83, x3), (84, x4), (85, x5), (86, x6), (87, x7), (88, x8), (89, x9)] (by simp only [List.mem_cons, List.not_mem_nil, or_false, forall_eq_or_imp, forall_eq]; exact ⟨g0, g1, g2, g3, g4, g5, g6, g7, g8, g9⟩) (by kernel_rfl)
        obtain rfl : x9 = .bool (!lv) := h9 _ rfl
        clear h0 g0 h1 g1 h2 g2 h3 g3 h4 g4 h5 g5 h6 g6 h7 g7 h8 g8 h9 g9 hI hall
        simp only [setAll, List.foldl, List.setIfInBounds_toArray, List.set_cons_zero, List.set_cons_succ] at hA
        rw [hA]
        clear hA
        have hb2' := hb.trans (hS.mono hb.size)
        have d6' := (hS.cell (p := ⟨w.heap.size + 1, 6, none⟩) HV1.out).trans D6.out
        clear d6
        cases lv with
        | false =>
          have hf := Lib.hid (show r = false from Bool.eq_false_iff.2 (fun h0 => absurd (HFM.out h0).2.2.2.2.2.2.2.2.2.2.2 (fun h => absurd (h _ HMEM.out) (by rw [HLV.out]; decide))))
          go_wp2_with fail
          go_ret
          exact ⟨by rw [hf.out]; first | done | rfl, hb04.trans (hb2'.mono hb04.size)⟩
        | true =>
        clear hS
        go_wp2_with fail
        go_roundw
        case rel => exact ⟨k + 1, by omega, by go_num, hb2', fun j hj hjk => by
          rcases Nat.lt_or_ge j k with h | h
          · exact HA.out j hj h
          · have : j = k := by omega
            subst this
            rw [HX.out]
            exact HLV.out⟩
        case measure => first | exact meas_v hlt | (simp only [intOf]; omega)
    case neg =>
      have hltI : ¬ (k : Int) < (nl : Int) := by omega
      have HALL := Lib.hid (show ∀ l ∈ ls, lineB ne xe l = true from fun x hx => by
        obtain ⟨j, hj, rfl⟩ := List.getElem_of_mem hx
        exact HA.out j hj (by have := HN.out; omega))
      have hf := Lib.hid (show r = true from HFT.out ⟨by first | trivial | rfl, hid, he0, hen, hk1, hk3, HOF.out.1, HOF.out.2, HPT.out, by rw [HN.out]; exact hl2, by rw [HN.out]; exact hl4, HALL.out⟩)
      go_wp2_with fail
      go_ret
      exact ⟨by rw [hf.out]; first | done | rfl, hb04.trans (hb.mono hb04.size)⟩
  case neg =>
    have hk2 : (xk == 3) = false := by simpa using hk
    have hk5 : (xk != 3) = true := by simpa using hk
    have HK := Lib.hid hk
    clear hk
    by_cases ho : xo = 0
    case neg =>
      have ho2 : (xo != 0) = true := by simpa using ho
      have HNO := Lib.hid (show ¬ (xk ≠ 3 → xo = 0) from fun h => ho (h HK.out))
      have hf := Lib.hid (show r = false from Bool.eq_false_iff.2 (fun h0 => absurd (HFM.out h0).2.2.2.2.2.2.2.1 HNO.out))
      go_wp2_with fail
      go_ret
      exact ⟨by rw [hf.out]; first | done | rfl, hb03⟩
    case pos =>
    have ho2 : (xo != 0) = false := by simpa using ho
    have HOF := Lib.hid (show (xk = 3 → 1 ≤ xo) ∧ (xk ≠ 3 → xo = 0) from ⟨fun h => absurd h HK.out, fun _ => ho⟩)
    clear ho
    obtain ⟨pt, hpt⟩ : ∃ v, printB xt = v := ⟨_, rfl⟩
    have HPC := Lib.hid (fun w2 : World => rplain_c xt w2 hts)
    rw [hpt] at HPC
    have HPT := Lib.hid hpt
    clear hpt
    go_wp2_with fail
    refine (HPC.out w3).mono ?_
    rintro e w4 ⟨rfl, hb4⟩
    clear hk2 hk5 ho2
    have hb04 := hb03.trans (hb4.mono hb03.size)
    have hs4 := hb4.size
    have LT04 := Nat.lt_of_lt_of_le LT03 hs4
    have LT14 := Nat.lt_of_lt_of_le LT13 hs4
    have HH4 := Lib.hid ((hb4.block _ LT03).trans HH3.out)
    have HZ4 := Lib.hid ((hb4.block _ LT13).trans HZ3.out)
    have d6 := blk_cell HZ4.out 6
    cases pt with
    | false =>
      have hf := Lib.hid (show r = false from Bool.eq_false_iff.2 (fun h0 => absurd (HFM.out h0).2.2.2.2.2.2.2.2.1 (by rw [HPT.out]; decide)))
      go_wp2_with fail
      go_ret
      exact ⟨by rw [hf.out]; first | done | rfl, hb04⟩
    | true =>
    by_cases hl2 : 2 ≤ nl
    case neg =>
      have hl2I : decide ((nl : Int) < 2) = true := decide_eq_true (by omega)
      have hf := Lib.hid (show r = false from Bool.eq_false_iff.2 (fun h0 => absurd (HFM.out h0).2.2.2.2.2.2.2.2.2.1 (fun h => hl2 (by rw [← HN.out]; exact h))))
      go_wp2_with fail
      go_ret
      exact ⟨by rw [hf.out]; first | done | rfl, hb04⟩
    case pos =>
    have hl2I : decide ((nl : Int) < 2) = false := decide_eq_false (by omega)
    by_cases hl4 : nl ≤ 40
    case neg =>
      have hl4d : decide (40 < (nl : Int)) = true := decide_eq_true (by omega)
      have hf := Lib.hid (show r = false from Bool.eq_false_iff.2 (fun h0 => absurd (HFM.out h0).2.2.2.2.2.2.2.2.2.2.1 (fun h => hl4 (by rw [← HN.out]; exact h))))
      go_wp2_with fail
      go_ret
      exact ⟨by rw [hf.out]; first | done | rfl, hb04⟩
    case pos =>
    have hl4d : decide (40 < (nl : Int)) = false := decide_eq_false (by omega)
    go_wp2_with fail
    clear d6 hl4d hl2I
    go_loopw [5] (fun i wr => ∃ k : Nat, k ≤ nl ∧ i = .int .i64 (k : Int) ∧ Below w4.heap.size w4 wr ∧ ∀ j (hj : j < ls.length), j < k → lineB ne xe ls[j] = true) (fun i _ => nl - (intOf i).toNat)
    case atStart => exact ⟨0, by omega, rfl, Below.refl _ _, fun j hj h => by omega⟩
    case round =>
    obtain ⟨k, hk', rfl, hb, hall⟩ := hrel
    have HA := Lib.hid hall
    clear hall
    have hHr := (hb.block _ LT04).trans HH4.out
    have hZr := (hb.block _ LT14).trans HZ4.out
    have HV1 := Lib.hid (Nat.lt_of_lt_of_le LT14 hb.size)
    have HV0 := Lib.hid (Nat.lt_of_lt_of_le LT04 hb.size)
    have HATG := Lib.hid (box_at (cs := gl) hHr)
    have d1 := blk_cell hZr 1
    have d6 := blk_cell hZr 6
    clear hHr hZr
    by_cases hlt : k < nl
    case pos =>
      have hltI : (k : Int) < (nl : Int) := by omega
      have hkl : k < ls.length := by rw [HN.out]; exact hlt
      obtain ⟨b, o, es, hAe, hbw, hes, hat⟩ := ListC.get HL.out k hkl
      subst hAe
      have hes1 := (LineC.lit hes).1
      have hbd := (LineC.lit hes).2
      rw [hes1] at hat
      have HMEM := Lib.hid (List.getElem_mem hkl)
      obtain ⟨x, hx⟩ : ∃ x, ls[k] = x := ⟨_, rfl⟩
      rw [hx] at hat hbd HMEM
      have HX := Lib.hid hx
      obtain ⟨la, lm, lp⟩ := x
      try simp only at hat
      have HLP := Lib.hid (show intBd lp from hbd.2.2)
      obtain ⟨lv, hlv⟩ : ∃ v, lineB ne xe ⟨la, lm, lp⟩ = v := ⟨_, rfl⟩
      have HLV := Lib.hid hlv
      have hatw := (hat.fr (Fr.ofBelow hb04)).fr (Fr.ofBelow (hb.mono hb04.size))
      have hwr := Nat.le_trans hb04.size hb.size
      have HATL := Lib.hid (hatw.mono (fun q (hq : q < w.heap.size) => show q < wr.heap.size by omega))
      have D1 := Lib.hid d1
      have D6 := Lib.hid d6
      clear hes hes1 hat hatw hx hlv hbd d1
      go_wp2_with fail
      refine wp_region_inv (Ks wr [.val (.agg gl.toArray), .val (.pointer (some ⟨(w.heap.size + 1), 1, none⟩)), .val (.int .i64 xe), .val (.pointer (some ⟨(w.heap.size + 1), 6, none⟩)), .val (.slice (some ⟨b, o, none⟩) nl cl), .val (.int .i64 (k : Int)), .val (.pointer (some ⟨b, o + k * 3, none⟩)), .val (.agg #[.int .i64 la, .int .i64 lm, .int .i64 lp]), .val (.bool lv), .val (.bool (!lv))])
        (fun w' => Below wr.heap.size wr w') (by kernel_rfl) (by kernel_rfl) (by kernel_rfl) (Below.refl _ _).drew ?_ ?_
      · refine ⟨?_, ?_, ?_, ?_, ?_, ?_, ?_, ?_, ?_, ?_, trivial⟩
        · intro listed A0 w2 hI hd hnd K hK
          have e0 := hI.slot hnd 2 _ rfl (by kernel_rfl)
          have hS := hI.world
          have hrange : w2.rangeAt w.heap.size 0 gl := (HATG.out.fr (Fr.ofBelow hS)).range
          have hisize := HGI.out
          refine wanted_go rfl ?_
          clear hI hd hnd
          refine wp_load_mid 29 (.tmp 2) rfl _ _ (by simpa [Act.eval, Array.getD_eq_getD_getElem?] using e0) _ _ hrange Try.underlying29 rfl hisize ?_
          exact hK.out _ _ hS (Ks.of rfl rfl) (fun _ _ h => h)
        · intro listed A0 w2 hI hd hnd K hK
          have e0 := hI.slot hnd 3 _ rfl (by kernel_rfl)
          have hS := hI.world
          refine wanted_go rfl ?_
          clear hI hd hnd
          go_simp
          exact hK.out _ _ hS (Ks.of rfl rfl) (fun _ _ h => h)
        · intro listed A0 w2 hI hd hnd K hK
          have e0 := hI.depv hd 1 81 _ rfl rfl rfl (by kernel_rfl)
          have hS := hI.world
          have hcc : w2.cell? ⟨w.heap.size + 1, 1, none⟩ = _ := (hS.cell (p := ⟨w.heap.size + 1, 1, none⟩) HV1.out).trans D1.out
          refine wanted_go rfl ?_
          clear hI hd hnd
          go_simp
          exact hK.out _ _ hS (Ks.of rfl rfl) (fun _ _ h => h)
        · intro listed A0 w2 hI hd hnd K hK
          have e0 := hI.slot hnd 3 _ rfl (by kernel_rfl)
          have hS := hI.world
          refine wanted_go rfl ?_
          clear hI hd hnd
          go_simp
          exact hK.out _ _ hS (Ks.of rfl rfl) (fun _ _ h => h)
        · intro listed A0 w2 hI hd hnd K hK
          have e0 := hI.depv hd 3 83 _ rfl rfl rfl (by kernel_rfl)
          have hS := hI.world
          have hcc : w2.cell? ⟨w.heap.size + 1, 6, none⟩ = _ := (hS.cell (p := ⟨w.heap.size + 1, 6, none⟩) HV1.out).trans D6.out
          refine wanted_go rfl ?_
          clear hI hd hnd
          go_simp
          exact hK.out _ _ hS (Ks.of rfl rfl) (fun _ _ h => h)
        · intro listed A0 w2 hI hd hnd K hK
          have e0 := hI.slot hnd 5 _ rfl (by kernel_rfl)
          have hS := hI.world
          refine wanted_go rfl ?_
          clear hI hd hnd
          go_simp
          exact hK.out _ _ hS (Ks.of rfl rfl) (fun _ _ h => h)
        · intro listed A0 w2 hI hd hnd K hK
          have e0 := hI.depv hd 4 84 _ rfl rfl rfl (by kernel_rfl)
          have e1 := hI.depv hd 5 85 _ rfl rfl rfl (by kernel_rfl)
          have hS := hI.world
          refine wanted_go rfl ?_
          clear hI hd hnd
          go_simp
          exact hK.out _ _ hS (Ks.of rfl rfl) (fun _ _ h => h)
        · intro listed A0 w2 hI hd hnd K hK
          have e0 := hI.depv hd 6 86 _ rfl rfl rfl (by kernel_rfl)
          have hS := hI.world
          have hrange : w2.rangeAt b (o + k * 3) [.int .i64 la, .int .i64 lm, .int .i64 lp] := (HATL.out.fr (Fr.ofBelow hS)).range
          have hisize := info_line
          refine wanted_go rfl ?_
          clear hI hd hnd
          refine wp_load_mid 57 (.tmp 86) rfl _ _ (by simpa [Act.eval, Array.getD_eq_getD_getElem?] using e0) _ _ hrange Try.underlying57 rfl hisize ?_
          exact hK.out _ _ hS (Ks.of rfl rfl) (fun _ _ h => h)
        · intro listed A0 w2 hI hd hnd K hK
          have e0 := hI.depv hd 0 80 _ rfl rfl rfl (by kernel_rfl)
          have e1 := hI.depv hd 2 82 _ rfl rfl rfl (by kernel_rfl)
          have e2 := hI.depv hd 7 87 _ rfl rfl rfl (by kernel_rfl)
          have hS := hI.world
          refine wanted_go rfl ?_
          clear hI hd hnd
          go_simp
          go_at_call 152
          refine (rline_c gl.toArray Ae ne ce xe la lm lp w2 HGS.out HG20.out he0 HLP.out).mono ?_
          rintro e w3 ⟨rfl, h3⟩
          exact hK.out _ _ (hS.trans (h3.mono hS.size)) (Ks.of rfl (congrArg Value.bool HLV.out)) (Ks.keep h3)
        · intro listed A0 w2 hI hd hnd K hK
          have e0 := hI.depv hd 8 88 _ rfl rfl rfl (by kernel_rfl)
          have hS := hI.world
          refine wanted_go rfl ?_
          clear hI hd hnd
          go_simp
          exact hK.out _ _ hS (Ks.of rfl rfl) (fun _ _ h => h)
      · intro listed A0 w2 hI hall
        obtain ⟨x0, g0, h0⟩ := hI.got 0 _ 80 rfl rfl (hall 0 (by decide))
        obtain ⟨x1, g1, h1⟩ := hI.got 1 _ 81 rfl rfl (hall 1 (by decide))
        obtain ⟨x2, g2, h2⟩ := hI.got 2 _ 82 rfl rfl (hall 2 (by decide))
        obtain ⟨x3, g3, h3⟩ := hI.got 3 _ 83 rfl rfl (hall 3 (by decide))
        obtain ⟨x4, g4, h4⟩ := hI.got 4 _ 84 rfl rfl (hall 4 (by decide))
        obtain ⟨x5, g5, h5⟩ := hI.got 5 _ 85 rfl rfl (hall 5 (by decide))
        obtain ⟨x6, g6, h6⟩ := hI.got 6 _ 86 rfl rfl (hall 6 (by decide))
        obtain ⟨x7, g7, h7⟩ := hI.got 7 _ 87 rfl rfl (hall 7 (by decide))
        obtain ⟨x8, g8, h8⟩ := hI.got 8 _ 88 rfl rfl (hall 8 (by decide))
        obtain ⟨x9, g9, h9⟩ := hI.got 9 _ 89 rfl rfl (hall 9 (by decide))
        have hS := hI.world
        have hA : A0 = _ := hI.tmps [(80, x0), (81, x1), (82, x2), (83, x3), (84, x4), (85, x5), (86, x6), (87, x7), (88, x8), (89, x9)] (by simp only [List.mem_cons, List.not_mem_nil, or_false, forall_eq_or_imp, forall_eq]; exact ⟨g0, g1, g2, g3, g4, g5, g6, g7, g8, g9⟩) (by kernel_rfl)
        obtain rfl : x9 = .bool (!lv) := h9 _ rfl
        clear h0 g0 h1 g1 h2 g2 h3 g3 h4 g4 h5 g5 h6 g6 h7 g7 h8 g8 h9 g9 hI hall
        simp only [setAll, List.foldl, List.setIfInBounds_toArray, List.set_cons_zero, List.set_cons_succ] at hA
        rw [hA]
        clear hA
        have hb2' := hb.trans (hS.mono hb.size)
        have d6' := (hS.cell (p := ⟨w.heap.size + 1, 6, none⟩) HV1.out).trans D6.out
        clear d6
        cases lv with
        | false =>
          have hf := Lib.hid (show r = false from Bool.eq_false_iff.2 (fun h0 => absurd (HFM.out h0).2.2.2.2.2.2.2.2.2.2.2 (fun h => absurd (h _ HMEM.out) (by rw [HLV.out]; decide))))
          go_wp2_with fail
          go_ret
          exact ⟨by rw [hf.out]; first | done | rfl, hb04.trans (hb2'.mono hb04.size)⟩
        | true =>
        clear hS
        go_wp2_with fail
        go_roundw
        case rel => exact ⟨k + 1, by omega, by go_num, hb2', fun j hj hjk => by
          rcases Nat.lt_or_ge j k with h | h
          · exact HA.out j hj h
          · have : j = k := by omega
            subst this
            rw [HX.out]
            exact HLV.out⟩
        case measure => first | exact meas_v hlt | (simp only [intOf]; omega)
    case neg =>
      have hltI : ¬ (k : Int) < (nl : Int) := by omega
      have HALL := Lib.hid (show ∀ l ∈ ls, lineB ne xe l = true from fun x hx => by
        obtain ⟨j, hj, rfl⟩ := List.getElem_of_mem hx
        exact HA.out j hj (by have := HN.out; omega))
      have hf := Lib.hid (show r = true from HFT.out ⟨by first | trivial | rfl, hid, he0, hen, hk1, hk3, HOF.out.1, HOF.out.2, HPT.out, by rw [HN.out]; exact hl2, by rw [HN.out]; exact hl4, HALL.out⟩)
      go_wp2_with fail
      go_ret
      exact ⟨by rw [hf.out]; first | done | rfl, hb04.trans (hb.mono hb04.size)⟩
end Go.Proofs.Ytnigokmjehemaaa
