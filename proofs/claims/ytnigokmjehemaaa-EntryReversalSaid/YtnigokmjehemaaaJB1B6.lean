/- Texts: currencies and names, in the program and in the reference. Written by gen_b1.py. -/
import Derived.Test.YtnigokmjehemaaaB0Base
import Derived.Test.YtnigokmjehemaaaProg
namespace Go.Proofs.Ytnigokmjehemaaa
open Go Go.RowKit
set_option linter.unusedVariables false
set_option linter.unusedSimpArgs false
attribute [local go_sem ↓] Go.wp_at_zero Go.wp_at_succ
/-- The k-th byte. -/
def bat (s : ByteArray) (k : Nat) : Nat := (s.data.getD k 0).toNat
theorem bat_eq {s : ByteArray} {k : Nat} (h : k < s.size) : bat s k = (s[k]).toNat := by
  have h' : k < s.data.size := h
  unfold bat
  rw [Array.getD_eq_getD_getElem?, Array.getElem?_eq_getElem h']
  rfl
theorem all_range_false {n k : Nat} {p : Nat → Bool} (hk : k < n) (hp : p k = false) : (List.range n).all p = false := by
  rw [List.all_eq_false]
  exact ⟨k, List.mem_range.2 hk, by simp [hp]⟩
theorem all_range_true {n : Nat} {p : Nat → Bool} (h : ∀ k, k < n → p k = true) : (List.range n).all p = true := by
  rw [List.all_eq_true]
  exact fun k hk => h k (List.mem_range.1 hk)
def curC (c : Nat) : Bool := decide (65 ≤ c ∧ c ≤ 90)
def curB (s : ByteArray) : Bool := (List.range s.size).all (fun k => curC (bat s k)) && s.size == 3
def letB (c : Nat) : Bool := decide (97 ≤ c ∧ c ≤ 122) || decide (65 ≤ c ∧ c ≤ 90)
def nameC (i c : Nat) : Bool := letB c || (i != 0 && (c == 45 || decide (48 ≤ c ∧ c ≤ 57)))
def nameB (s : ByteArray) : Bool := (List.range s.size).all (fun k => nameC k (bat s k)) && decide (1 ≤ s.size ∧ s.size ≤ 16)
set_option maxHeartbeats 400000 in
theorem currency_c (s : ByteArray) (w : World) (hs : s.size ≤ 1000) : Calls Try.prog 118 #[.string s] w (Quiet w (.bool (curB s))) := by
  obtain ⟨r, hr⟩ : ∃ r, curB s = r := ⟨_, rfl⟩
  rw [hr]
  have HR := Lib.hid hr
  clear hr
  go_enter Try.func118, Try.ntmps118
  go_wp2_with fail
  go_loopw [6] (fun i wr => ∃ k : Nat, k ≤ s.size ∧ i = .int .i64 (k : Int) ∧ Below w.heap.size w wr ∧ ∀ j, j < k → curC (bat s j) = true) (fun i _ => s.size - (intOf i).toNat)
  case atStart => exact ⟨0, by omega, rfl, Below.refl _ _, fun j hj => by omega⟩
  case round =>
    obtain ⟨k, hk, rfl, hb, hall⟩ := hrel
    have HA := Lib.hid hall
    clear hall
    by_cases hlt : k < s.size
    · have hltI : (k : Int) < (s.size : Int) := by omega
      have HB := Lib.hid (bat_eq hlt)
      by_cases hc : curC (bat s k) = true
      · have hc1 : 65 ≤ (s[k].toNat : Int) ∧ (s[k].toNat : Int) ≤ 90 := by
          have := hc
          rw [HB.out] at this
          simp only [curC, decide_eq_true_eq] at this
          omega
        have hc2 := hc1.1
        have hc3 := hc1.2
        have HC := Lib.hid hc
        clear hc
        go_wp2_with fail
        go_roundw
        case rel => exact ⟨k + 1, by omega, by go_num, hb, fun j hj => by
          rcases Nat.lt_or_ge j k with h | h
          · exact HA.out j h
          · have : j = k := by omega
            subst this; exact HC.out⟩
        case measure =>
          have e : wrap64 ((k : Int) + 1) = ((k + 1 : Nat) : Int) := by unfold wrap64; omega
          simp only [intOf, e]
          omega
      · have hrf := Lib.hid (show r = false by
          rw [← HR.out]; unfold curB
          rw [all_range_false hlt (by simpa using hc)]; rfl)
        have hc1 : ¬ (65 ≤ (s[k].toNat : Int) ∧ (s[k].toNat : Int) ≤ 90) := by
          have := hc
          rw [HB.out] at this
          simp only [curC, decide_eq_true_eq] at this
          omega
        clear hc
        by_cases hc2 : (s[k].toNat : Int) < 65
        · go_wp2_with fail
          go_ret
          exact ⟨by rw [hrf.out]; first | done | rfl, hb⟩
        · have hc3 : 90 < (s[k].toNat : Int) := by omega
          go_wp2_with fail
          go_ret
          exact ⟨by rw [hrf.out]; first | done | rfl, hb⟩
    · have hltI : ¬ (k : Int) < (s.size : Int) := by omega
      have hks : k = s.size := by omega
      have hrf := Lib.hid (show r = (s.size == 3) by
        rw [← HR.out]; unfold curB
        rw [all_range_true (fun j hj => HA.out j (by omega)), Bool.true_and])
      clear hks
      by_cases h3 : s.size = 3
      · have h3I : ((s.size : Int) == 3) = true := by simp; omega
        have HH := Lib.hid h3
        clear h3
        go_wp2_with fail
        go_ret
        exact ⟨by rw [hrf.out, HH.out]; rfl, hb⟩
      · have h3I : ((s.size : Int) == 3) = false := by simp; omega
        have HH := Lib.hid (show (s.size == 3) = false by simpa using h3)
        clear h3
        go_wp2_with fail
        go_ret
        exact ⟨by rw [hrf.out, HH.out]; first | done | rfl, hb⟩
set_option maxHeartbeats 400000 in
theorem rCurrency_c (s : ByteArray) (w : World) (hs : s.size ≤ 1000) : Calls Try.prog 124 #[.string s] w (Quiet w (.bool (curB s))) := by
  obtain ⟨r, hr⟩ : ∃ r, curB s = r := ⟨_, rfl⟩
  rw [hr]
  have HR := Lib.hid hr
  clear hr
  go_enter Try.func124, Try.ntmps124
  go_wp2_with fail
  go_loopw [3] (fun i wr => ∃ k : Nat, k ≤ s.size ∧ i = .int .i64 (k : Int) ∧ Below w.heap.size w wr ∧ ∀ j, j < k → curC (bat s j) = true) (fun i _ => s.size - (intOf i).toNat)
  case atStart => exact ⟨0, by omega, rfl, Below.refl _ _, fun j hj => by omega⟩
  case round =>
    obtain ⟨k, hk, rfl, hb, hall⟩ := hrel
    have HA := Lib.hid hall
    clear hall
    by_cases hlt : k < s.size
    · have hltI : (k : Int) < (s.size : Int) := by omega
      have HB := Lib.hid (bat_eq hlt)
      by_cases hc : curC (bat s k) = true
      · have hc1 : 65 ≤ (s[k].toNat : Int) ∧ (s[k].toNat : Int) ≤ 90 := by
          have := hc
          rw [HB.out] at this
          simp only [curC, decide_eq_true_eq] at this
          omega
        have hc2 := hc1.1
        have hc3 := hc1.2
        have HC := Lib.hid hc
        clear hc
        go_wp2_with fail
        go_roundw
        case rel => exact ⟨k + 1, by omega, by go_num, hb, fun j hj => by
          rcases Nat.lt_or_ge j k with h | h
          · exact HA.out j h
          · have : j = k := by omega
            subst this; exact HC.out⟩
        case measure =>
          have e : wrap64 ((k : Int) + 1) = ((k + 1 : Nat) : Int) := by unfold wrap64; omega
          simp only [intOf, e]
          omega
      · have hrf := Lib.hid (show r = false by
          rw [← HR.out]; unfold curB
          rw [all_range_false hlt (by simpa using hc)]; rfl)
        have hc1 : ¬ (65 ≤ (s[k].toNat : Int) ∧ (s[k].toNat : Int) ≤ 90) := by
          have := hc
          rw [HB.out] at this
          simp only [curC, decide_eq_true_eq] at this
          omega
        clear hc
        by_cases hc2 : (s[k].toNat : Int) < 65
        · go_wp2_with fail
          go_ret
          exact ⟨by rw [hrf.out]; first | done | rfl, hb⟩
        · have hc3 : 90 < (s[k].toNat : Int) := by omega
          go_wp2_with fail
          go_ret
          exact ⟨by rw [hrf.out]; first | done | rfl, hb⟩
    · have hltI : ¬ (k : Int) < (s.size : Int) := by omega
      have hks : k = s.size := by omega
      have hrf := Lib.hid (show r = (s.size == 3) by
        rw [← HR.out]; unfold curB
        rw [all_range_true (fun j hj => HA.out j (by omega)), Bool.true_and])
      clear hks
      by_cases h3 : s.size = 3
      · have h3I : ((s.size : Int) == 3) = true := by simp; omega
        have HH := Lib.hid h3
        clear h3
        go_wp2_with fail
        go_ret
        exact ⟨by rw [hrf.out, HH.out]; rfl, hb⟩
      · have h3I : ((s.size : Int) == 3) = false := by simp; omega
        have HH := Lib.hid (show (s.size == 3) = false by simpa using h3)
        clear h3
        go_wp2_with fail
        go_ret
        exact ⟨by rw [hrf.out, HH.out]; first | done | rfl, hb⟩
set_option maxHeartbeats 400000 in
theorem letter_c (n : Nat) (w : World) : Calls Try.prog 192 #[.int .u8 (n : Int)] w (Quiet w (.bool (letB n))) := by
  obtain ⟨r, hr⟩ : ∃ r, letB n = r := ⟨_, rfl⟩
  rw [hr]
  have HR := Lib.hid hr
  clear hr
  go_enter Try.func192, Try.ntmps192
  by_cases h1 : 97 ≤ n
  · by_cases h2 : n ≤ 122
    · have h1I : 97 ≤ (n : Int) := by omega
      have h2I : (n : Int) ≤ 122 := by omega
      go_wp2_with fail
      go_ret
      exact ⟨by rw [← HR.out]; simp [letB, h1, h2]; try rfl, Below.refl _ _⟩
    · have h1I : 97 ≤ (n : Int) := by omega
      have h2I : ¬ (n : Int) ≤ 122 := by omega
      have h3I : 65 ≤ (n : Int) := by omega
      have h4I : ¬ (n : Int) ≤ 90 := by omega
      go_wp2_with fail
      go_ret
      exact ⟨by rw [← HR.out]; simp [letB]; omega, Below.refl _ _⟩
  · have h1I : ¬ 97 ≤ (n : Int) := by omega
    by_cases h3 : 65 ≤ n
    · have h3I : 65 ≤ (n : Int) := by omega
      by_cases h4 : n ≤ 90
      · have h4I : (n : Int) ≤ 90 := by omega
        go_wp2_with fail
        go_ret
        exact ⟨by rw [← HR.out]; simp [letB, h3, h4], Below.refl _ _⟩
      · have h4I : ¬ (n : Int) ≤ 90 := by omega
        go_wp2_with fail
        go_ret
        exact ⟨by rw [← HR.out]; simp [letB]; omega, Below.refl _ _⟩
    · have h3I : ¬ 65 ≤ (n : Int) := by omega
      go_wp2_with fail
      go_ret
      exact ⟨by rw [← HR.out]; simp [letB]; omega, Below.refl _ _⟩
set_option maxHeartbeats 400000 in
theorem rLetter_c (n : Nat) (w : World) : Calls Try.prog 173 #[.int .u8 (n : Int)] w (Quiet w (.bool (letB n))) := by
  obtain ⟨r, hr⟩ : ∃ r, letB n = r := ⟨_, rfl⟩
  rw [hr]
  have HR := Lib.hid hr
  clear hr
  go_enter Try.func173, Try.ntmps173
  by_cases h1 : 97 ≤ n
  · by_cases h2 : n ≤ 122
    · have h1I : 97 ≤ (n : Int) := by omega
      have h2I : (n : Int) ≤ 122 := by omega
      go_wp2_with fail
      go_ret
      exact ⟨by rw [← HR.out]; simp [letB, h1, h2]; try rfl, Below.refl _ _⟩
    · have h1I : 97 ≤ (n : Int) := by omega
      have h2I : ¬ (n : Int) ≤ 122 := by omega
      have h3I : 65 ≤ (n : Int) := by omega
      have h4I : ¬ (n : Int) ≤ 90 := by omega
      go_wp2_with fail
      go_ret
      exact ⟨by rw [← HR.out]; simp [letB]; omega, Below.refl _ _⟩
  · have h1I : ¬ 97 ≤ (n : Int) := by omega
    by_cases h3 : 65 ≤ n
    · have h3I : 65 ≤ (n : Int) := by omega
      by_cases h4 : n ≤ 90
      · have h4I : (n : Int) ≤ 90 := by omega
        go_wp2_with fail
        go_ret
        exact ⟨by rw [← HR.out]; simp [letB, h3, h4], Below.refl _ _⟩
      · have h4I : ¬ (n : Int) ≤ 90 := by omega
        go_wp2_with fail
        go_ret
        exact ⟨by rw [← HR.out]; simp [letB]; omega, Below.refl _ _⟩
    · have h3I : ¬ 65 ≤ (n : Int) := by omega
      go_wp2_with fail
      go_ret
      exact ⟨by rw [← HR.out]; simp [letB]; omega, Below.refl _ _⟩
set_option maxHeartbeats 1000000 in
theorem name_c (s : ByteArray) (w : World) (hs : s.size ≤ 1000) : Calls Try.prog 166 #[.string s] w (Quiet w (.bool (nameB s))) := by
  obtain ⟨r, hr⟩ : ∃ r, nameB s = r := ⟨_, rfl⟩
  rw [hr]
  have HR := Lib.hid hr
  clear hr
  go_enter Try.func166, Try.ntmps166
  go_wp2_with fail
  go_loopw [7] (fun i wr => ∃ k : Nat, k ≤ s.size ∧ i = .int .i64 (k : Int) ∧ Below w.heap.size w wr ∧ ∀ j, j < k → nameC j (bat s j) = true) (fun i _ => s.size - (intOf i).toNat)
  case atStart => exact ⟨0, by omega, rfl, Below.refl _ _, fun j hj => by omega⟩
  case round =>
    obtain ⟨k, hk, rfl, hb, hall⟩ := hrel
    have HA := Lib.hid hall
    clear hall
    by_cases hlt : k < s.size
    · have hltI : (k : Int) < (s.size : Int) := by omega
      have HB := Lib.hid (bat_eq hlt)
      go_wp2_with fail
      refine (letter_c s[k].toNat wr).mono ?_
      rintro e w2 ⟨rfl, hb1⟩
      have hb2 := hb.trans (hb1.mono hb.size)
      obtain ⟨lb, hlb⟩ : ∃ lb, letB s[k].toNat = lb := ⟨_, rfl⟩
      rw [hlb]
      have HLB := Lib.hid hlb
      clear hlb hb hb1
      have bad : nameC k (bat s k) = false → r = false := fun h => by
        rw [← HR.out]; unfold nameB
        rw [all_range_false hlt h]; rfl
      have HBAD := Lib.hid bad
      clear bad
      cases lb with
      | true =>
        have HC := Lib.hid (show nameC k (bat s k) = true by rw [HB.out]; unfold nameC; rw [HLB.out]; rfl)
        go_wp2_with fail
        go_roundw
        case rel => exact ⟨k + 1, by omega, by go_num, hb2, fun j hj => by
          rcases Nat.lt_or_ge j k with h | h
          · exact HA.out j h
          · have : j = k := by omega
            subst this; exact HC.out⟩
        case measure =>
          have e : wrap64 ((k : Int) + 1) = ((k + 1 : Nat) : Int) := by unfold wrap64; omega
          simp only [intOf, e]
          omega
      | false =>
        by_cases hk0 : k = 0
        · subst hk0
          have HF := Lib.hid (HBAD.out (by rw [HB.out]; unfold nameC; rw [HLB.out]; rfl))
          go_wp2_with fail
          go_ret
          exact ⟨by rw [HF.out]; first | done | rfl, hb2⟩
        · have hk1 : ((k : Int) == 0) = false := by simp; omega
          have HK0 := Lib.hid (show (k != 0) = true by simpa using hk0)
          clear hk0
          by_cases h45 : s[k].toNat = 45
          · have h45I : ((s[k].toNat : Int) == 45) = true := by simp; omega
            have h45J : ((s[k].toNat : Int) != 45) = false := by simp; omega
            have HC := Lib.hid (show nameC k (bat s k) = true by rw [HB.out]; unfold nameC; rw [HLB.out, HK0.out, h45]; rfl)
            clear h45
            go_wp2_with fail
            go_roundw
            case rel => exact ⟨k + 1, by omega, by go_num, hb2, fun j hj => by
              rcases Nat.lt_or_ge j k with h | h
              · exact HA.out j h
              · have : j = k := by omega
                subst this; exact HC.out⟩
            case measure =>
              have e : wrap64 ((k : Int) + 1) = ((k + 1 : Nat) : Int) := by unfold wrap64; omega
              simp only [intOf, e]
              omega
          · have h45I : ((s[k].toNat : Int) == 45) = false := by simp; omega
            have h45J : ((s[k].toNat : Int) != 45) = true := by simp; omega
            by_cases h48 : 48 ≤ s[k].toNat ∧ s[k].toNat ≤ 57
            · have h48I : ¬ (s[k].toNat : Int) < 48 := by omega
              have h57I : ¬ 57 < (s[k].toNat : Int) := by omega
              have HC := Lib.hid (show nameC k (bat s k) = true by rw [HB.out]; unfold nameC; rw [HLB.out, HK0.out]; simp [h48])
              clear h45 h48
              go_wp2_with fail
              go_roundw
              case rel => exact ⟨k + 1, by omega, by go_num, hb2, fun j hj => by
                rcases Nat.lt_or_ge j k with h | h
                · exact HA.out j h
                · have : j = k := by omega
                  subst this; exact HC.out⟩
              case measure =>
                have e : wrap64 ((k : Int) + 1) = ((k + 1 : Nat) : Int) := by unfold wrap64; omega
                simp only [intOf, e]
                omega
            · have HF := Lib.hid (HBAD.out (by rw [HB.out]; unfold nameC; rw [HLB.out, HK0.out]; simp [h45]; omega))
              by_cases h4 : s[k].toNat < 48
              · have h48I : (s[k].toNat : Int) < 48 := by omega
                clear h45 h48
                go_wp2_with fail
                go_ret
                exact ⟨by rw [HF.out]; first | done | rfl, hb2⟩
              · have h48I : ¬ (s[k].toNat : Int) < 48 := by omega
                have h57I : 57 < (s[k].toNat : Int) := by omega
                clear h45 h48
                go_wp2_with fail
                go_ret
                exact ⟨by rw [HF.out]; first | done | rfl, hb2⟩
    · have hltI : ¬ (k : Int) < (s.size : Int) := by omega
      have hrf := Lib.hid (show r = decide (1 ≤ s.size ∧ s.size ≤ 16) by
        rw [← HR.out]; unfold nameB
        rw [all_range_true (fun j hj => HA.out j (by omega)), Bool.true_and])
      by_cases h1 : 1 ≤ s.size
      · have h1I : 1 ≤ (s.size : Int) := by omega
        by_cases h2 : s.size ≤ 16
        · have h2I : (s.size : Int) ≤ 16 := by omega
          go_wp2_with fail
          go_ret
          exact ⟨by rw [hrf.out, decide_eq_true ⟨h1, h2⟩]; first | done | rfl, hb⟩
        · have h2I : ¬ (s.size : Int) ≤ 16 := by omega
          go_wp2_with fail
          go_ret
          exact ⟨by rw [hrf.out, decide_eq_false (fun h => h2 h.2)]; first | done | rfl, hb⟩
      · have h1I : ¬ 1 ≤ (s.size : Int) := by omega
        go_wp2_with fail
        go_ret
        exact ⟨by rw [hrf.out, decide_eq_false (fun h => h1 h.1)]; first | done | rfl, hb⟩
set_option maxHeartbeats 1000000 in
theorem rName_c (s : ByteArray) (w : World) (hs : s.size ≤ 1000) : Calls Try.prog 130 #[.string s] w (Quiet w (.bool (nameB s))) := by
  obtain ⟨r, hr⟩ : ∃ r, nameB s = r := ⟨_, rfl⟩
  rw [hr]
  have HR := Lib.hid hr
  clear hr
  go_enter Try.func130, Try.ntmps130
  go_wp2_with fail
  go_loopw [3] (fun i wr => ∃ k : Nat, k ≤ s.size ∧ i = .int .i64 (k : Int) ∧ Below w.heap.size w wr ∧ ∀ j, j < k → nameC j (bat s j) = true) (fun i _ => s.size - (intOf i).toNat)
  case atStart => exact ⟨0, by omega, rfl, Below.refl _ _, fun j hj => by omega⟩
  case round =>
    obtain ⟨k, hk, rfl, hb, hall⟩ := hrel
    have HA := Lib.hid hall
    clear hall
    by_cases hlt : k < s.size
    · have hltI : (k : Int) < (s.size : Int) := by omega
      have HB := Lib.hid (bat_eq hlt)
      go_wp2_with fail
      refine (rLetter_c s[k].toNat wr).mono ?_
      rintro e w2 ⟨rfl, hb1⟩
      have hb2 := hb.trans (hb1.mono hb.size)
      obtain ⟨lb, hlb⟩ : ∃ lb, letB s[k].toNat = lb := ⟨_, rfl⟩
      rw [hlb]
      have HLB := Lib.hid hlb
      clear hlb hb hb1
      have bad : nameC k (bat s k) = false → r = false := fun h => by
        rw [← HR.out]; unfold nameB
        rw [all_range_false hlt h]; rfl
      have HBAD := Lib.hid bad
      clear bad
      cases lb with
      | true =>
        have HC := Lib.hid (show nameC k (bat s k) = true by rw [HB.out]; unfold nameC; rw [HLB.out]; rfl)
        go_wp2_with fail
        go_roundw
        case rel => exact ⟨k + 1, by omega, by go_num, hb2, fun j hj => by
          rcases Nat.lt_or_ge j k with h | h
          · exact HA.out j h
          · have : j = k := by omega
            subst this; exact HC.out⟩
        case measure =>
          have e : wrap64 ((k : Int) + 1) = ((k + 1 : Nat) : Int) := by unfold wrap64; omega
          simp only [intOf, e]
          omega
      | false =>
        by_cases hk0 : k = 0
        · subst hk0
          have HF := Lib.hid (HBAD.out (by rw [HB.out]; unfold nameC; rw [HLB.out]; rfl))
          go_wp2_with fail
          go_ret
          exact ⟨by rw [HF.out]; first | done | rfl, hb2⟩
        · have hk1 : ((k : Int) == 0) = false := by simp; omega
          have HK0 := Lib.hid (show (k != 0) = true by simpa using hk0)
          clear hk0
          by_cases h45 : s[k].toNat = 45
          · have h45I : ((s[k].toNat : Int) == 45) = true := by simp; omega
            have h45J : ((s[k].toNat : Int) != 45) = false := by simp; omega
            have HC := Lib.hid (show nameC k (bat s k) = true by rw [HB.out]; unfold nameC; rw [HLB.out, HK0.out, h45]; rfl)
            clear h45
            go_wp2_with fail
            go_roundw
            case rel => exact ⟨k + 1, by omega, by go_num, hb2, fun j hj => by
              rcases Nat.lt_or_ge j k with h | h
              · exact HA.out j h
              · have : j = k := by omega
                subst this; exact HC.out⟩
            case measure =>
              have e : wrap64 ((k : Int) + 1) = ((k + 1 : Nat) : Int) := by unfold wrap64; omega
              simp only [intOf, e]
              omega
          · have h45I : ((s[k].toNat : Int) == 45) = false := by simp; omega
            have h45J : ((s[k].toNat : Int) != 45) = true := by simp; omega
            by_cases h48 : 48 ≤ s[k].toNat ∧ s[k].toNat ≤ 57
            · have h48I : ¬ (s[k].toNat : Int) < 48 := by omega
              have h57I : ¬ 57 < (s[k].toNat : Int) := by omega
              have HC := Lib.hid (show nameC k (bat s k) = true by rw [HB.out]; unfold nameC; rw [HLB.out, HK0.out]; simp [h48])
              clear h45 h48
              go_wp2_with fail
              go_roundw
              case rel => exact ⟨k + 1, by omega, by go_num, hb2, fun j hj => by
                rcases Nat.lt_or_ge j k with h | h
                · exact HA.out j h
                · have : j = k := by omega
                  subst this; exact HC.out⟩
              case measure =>
                have e : wrap64 ((k : Int) + 1) = ((k + 1 : Nat) : Int) := by unfold wrap64; omega
                simp only [intOf, e]
                omega
            · have HF := Lib.hid (HBAD.out (by rw [HB.out]; unfold nameC; rw [HLB.out, HK0.out]; simp [h45]; omega))
              by_cases h4 : s[k].toNat < 48
              · have h48I : (s[k].toNat : Int) < 48 := by omega
                clear h45 h48
                go_wp2_with fail
                go_ret
                exact ⟨by rw [HF.out]; first | done | rfl, hb2⟩
              · have h48I : ¬ (s[k].toNat : Int) < 48 := by omega
                have h57I : 57 < (s[k].toNat : Int) := by omega
                clear h45 h48
                go_wp2_with fail
                go_ret
                exact ⟨by rw [HF.out]; first | done | rfl, hb2⟩
    · have hltI : ¬ (k : Int) < (s.size : Int) := by omega
      have hrf := Lib.hid (show r = decide (1 ≤ s.size ∧ s.size ≤ 16) by
        rw [← HR.out]; unfold nameB
        rw [all_range_true (fun j hj => HA.out j (by omega)), Bool.true_and])
      by_cases h1 : 1 ≤ s.size
      · have h1I : 1 ≤ (s.size : Int) := by omega
        by_cases h2 : s.size ≤ 16
        · have h2I : (s.size : Int) ≤ 16 := by omega
          go_wp2_with fail
          go_ret
          exact ⟨by rw [hrf.out, decide_eq_true ⟨h1, h2⟩]; first | done | rfl, hb⟩
        · have h2I : ¬ (s.size : Int) ≤ 16 := by omega
          go_wp2_with fail
          go_ret
          exact ⟨by rw [hrf.out, decide_eq_false (fun h => h2 h.2)]; first | done | rfl, hb⟩
      · have h1I : ¬ 1 ≤ (s.size : Int) := by omega
        go_wp2_with fail
        go_ret
        exact ⟨by rw [hrf.out, decide_eq_false (fun h => h1 h.1)]; first | done | rfl, hb⟩
end Go.Proofs.Ytnigokmjehemaaa

/- Dates: days of months, first days of years, dates of days; in the program and in the reference. Written by gen_b2.py. -/
namespace Go.Proofs.Ytnigokmjehemaaa
open Go Go.RowKit
set_option linter.unusedVariables false
set_option linter.unusedSimpArgs false
attribute [local go_sem ↓] Go.wp_at_zero Go.wp_at_succ
def leapI (y : Int) : Bool := y % 4 == 0 && (y % 100 != 0 || y % 400 == 0)
def mdays (m : Int) : Int := if m = 2 then 28 else if m = 4 ∨ m = 6 ∨ m = 9 ∨ m = 11 then 30 else 31
def inY (y : Int) : Prop := 1900 ≤ y ∧ y ≤ 2199
instance (y : Int) : Decidable (inY y) := by unfold inY; exact inferInstance
def daysI (y m : Int) : Int := if inY y ∧ 1 ≤ m ∧ m ≤ 12 then (if m = 2 ∧ leapI y = true then 29 else mdays m) else 0
theorem daysI_le (y m : Int) : 0 ≤ daysI y m ∧ daysI y m ≤ 31 := by
  unfold daysI mdays
  repeat' split
  all_goals omega
theorem daysI_ge {y m : Int} (hy : inY y) (h1 : 1 ≤ m) (h2 : m ≤ 12) : 28 ≤ daysI y m := by
  unfold daysI mdays
  rw [if_pos ⟨hy, h1, h2⟩]
  repeat' split
  all_goals omega
def sumD (y : Int) : Nat → Int
  | 0 => 0
  | n + 1 => sumD y n + daysI y ((n : Int) + 1)
theorem sumD_le (y : Int) (n : Nat) : 0 ≤ sumD y n ∧ sumD y n ≤ 31 * (n : Int) := by
  induction n with
  | zero => simp [sumD]
  | succ n ih => have := daysI_le y ((n : Int) + 1); simp only [sumD]; omega
def beginI (y : Int) : Int := 365 * (y - 1) + (y - 1) / 4 - (y - 1) / 100 + (y - 1) / 400 - 719162
theorem beginI_bd {y : Int} (h : inY y) : -25567 ≤ beginI y ∧ beginI y ≤ 83700 := by
  unfold beginI inY at *; omega
def ofI (y m d : Int) : Int × Int := if d < 1 ∨ daysI y m < d then (0, 2) else (beginI y + d - 1 + sumD y (m - 1).toNat, 0)
theorem leapI_true {y : Int} (h1 : y % 4 = 0) (h2 : ¬ y % 100 = 0 ∨ y % 400 = 0) : leapI y = true := by
  unfold leapI; simp only [Bool.and_eq_true, beq_iff_eq, Bool.or_eq_true, bne_iff_ne]; exact ⟨h1, h2⟩
theorem leapI_false {y : Int} (h : ¬ (y % 4 = 0 ∧ (¬ y % 100 = 0 ∨ y % 400 = 0))) : leapI y = false := by
  cases hl : leapI y with
  | false => rfl
  | true =>
    unfold leapI at hl
    simp only [Bool.and_eq_true, beq_iff_eq, Bool.or_eq_true, bne_iff_ne] at hl
    exact absurd hl h
set_option maxHeartbeats 400000 in
theorem leap_c (y : Int) (w : World) (h : inY y) : Calls Try.prog 160 #[.int .i64 y] w (Quiet w (.bool (leapI y))) := by
  obtain ⟨r, hr⟩ : ∃ r, leapI y = r := ⟨_, rfl⟩
  rw [hr]
  have HR := Lib.hid hr
  clear hr
  obtain ⟨h1, h2⟩ := h
  go_enter Try.func160, Try.ntmps160
  by_cases c4 : y % 4 = 0
  · by_cases c1 : y % 100 = 0
    · by_cases c2 : y % 400 = 0
      · have hf := Lib.hid (show r = true by rw [← HR.out]; exact leapI_true c4 (.inr c2))
        have e4 : (y % 4 == 0) = true := by simpa using c4
        have e1 : (y % 100 != 0) = false := by simpa using c1
        have e2 : (y % 400 == 0) = true := by simpa using c2
        clear c4 c1 c2
        go_wp2_with fail
        go_ret
        exact ⟨by rw [hf.out]; first | done | rfl, Below.refl _ _⟩
      · have hf := Lib.hid (show r = false by rw [← HR.out]; exact leapI_false (fun h => h.2.elim (fun k => k c1) c2))
        have e4 : (y % 4 == 0) = true := by simpa using c4
        have e1 : (y % 100 != 0) = false := by simpa using c1
        have e2 : (y % 400 == 0) = false := by simpa using c2
        clear c4 c1 c2
        go_wp2_with fail
        go_ret
        exact ⟨by rw [hf.out]; first | done | rfl, Below.refl _ _⟩
    · have hf := Lib.hid (show r = true by rw [← HR.out]; exact leapI_true c4 (.inl c1))
      have e4 : (y % 4 == 0) = true := by simpa using c4
      have e1 : (y % 100 != 0) = true := by simpa using c1
      clear c4 c1
      go_wp2_with fail
      go_ret
      exact ⟨by rw [hf.out]; first | done | rfl, Below.refl _ _⟩
  · have hf := Lib.hid (show r = false by rw [← HR.out]; exact leapI_false (fun h => c4 h.1))
    have e4 : (y % 4 == 0) = false := by simpa using c4
    clear c4
    go_wp2_with fail
    go_ret
    exact ⟨by rw [hf.out]; first | done | rfl, Below.refl _ _⟩
set_option maxHeartbeats 400000 in
theorem rLeap_c (y : Int) (w : World) (h : inY y) : Calls Try.prog 148 #[.int .i64 y] w (Quiet w (.bool (leapI y))) := by
  obtain ⟨r, hr⟩ : ∃ r, leapI y = r := ⟨_, rfl⟩
  rw [hr]
  have HR := Lib.hid hr
  clear hr
  obtain ⟨h1, h2⟩ := h
  go_enter Try.func148, Try.ntmps148
  by_cases c4 : y % 4 = 0
  · by_cases c1 : y % 100 = 0
    · by_cases c2 : y % 400 = 0
      · have hf := Lib.hid (show r = true by rw [← HR.out]; exact leapI_true c4 (.inr c2))
        have e4 : (y % 4 == 0) = true := by simpa using c4
        have e1 : (y % 100 != 0) = false := by simpa using c1
        have e2 : (y % 400 == 0) = true := by simpa using c2
        clear c4 c1 c2
        go_wp2_with fail
        go_ret
        exact ⟨by rw [hf.out]; first | done | rfl, Below.refl _ _⟩
      · have hf := Lib.hid (show r = false by rw [← HR.out]; exact leapI_false (fun h => h.2.elim (fun k => k c1) c2))
        have e4 : (y % 4 == 0) = true := by simpa using c4
        have e1 : (y % 100 != 0) = false := by simpa using c1
        have e2 : (y % 400 == 0) = false := by simpa using c2
        clear c4 c1 c2
        go_wp2_with fail
        go_ret
        exact ⟨by rw [hf.out]; first | done | rfl, Below.refl _ _⟩
    · have hf := Lib.hid (show r = true by rw [← HR.out]; exact leapI_true c4 (.inl c1))
      have e4 : (y % 4 == 0) = true := by simpa using c4
      have e1 : (y % 100 != 0) = true := by simpa using c1
      clear c4 c1
      go_wp2_with fail
      go_ret
      exact ⟨by rw [hf.out]; first | done | rfl, Below.refl _ _⟩
  · have hf := Lib.hid (show r = false by rw [← HR.out]; exact leapI_false (fun h => c4 h.1))
    have e4 : (y % 4 == 0) = false := by simpa using c4
    clear c4
    go_wp2_with fail
    go_ret
    exact ⟨by rw [hf.out]; first | done | rfl, Below.refl _ _⟩
theorem tab (k : Nat) (h : k < 12) : (#[.int .i64 31, .int .i64 28, .int .i64 31, .int .i64 30, .int .i64 31, .int .i64 30, .int .i64 31, .int .i64 31, .int .i64 30, .int .i64 31, .int .i64 30, .int .i64 31] : Array Value)[k]? = some (.int .i64 (mdays ((k : Int) + 1))) := by
  have hk : k = 0 ∨ k = 1 ∨ k = 2 ∨ k = 3 ∨ k = 4 ∨ k = 5 ∨ k = 6 ∨ k = 7 ∨ k = 8 ∨ k = 9 ∨ k = 10 ∨ k = 11 := by omega
  rcases hk with rfl | rfl | rfl | rfl | rfl | rfl | rfl | rfl | rfl | rfl | rfl | rfl <;> rfl
theorem infoDays : (Try.prog.info? 194).map (·.size) = some 12 := by kernel_rfl
set_option maxHeartbeats 8000000 in
set_option maxRecDepth 100000 in
theorem days_c (y m : Int) (w : World) : Calls Try.prog 114 #[.int .i64 y, .int .i64 m] w (Quiet w (.int .i64 (daysI y m))) := by
  obtain ⟨r, hr⟩ : ∃ r, daysI y m = r := ⟨_, rfl⟩
  rw [hr]
  have HR := Lib.hid hr
  clear hr
  go_enter Try.func114, Try.ntmps114
  by_cases hy1 : 1900 ≤ y
  case neg =>
    have hf := Lib.hid (show r = 0 by rw [← HR.out]; unfold daysI; rw [if_neg (fun h => hy1 h.1.1)])
    have k1 : y < 1900 := by omega
    by_cases hm1 : 1 ≤ m
    · by_cases hm2 : m ≤ 12
      · go_wp2_with fail
        go_ret
        exact ⟨by rw [hf.out]; first | done | rfl, Below.refl _ _⟩
      · have k2 : 12 < m := by omega
        go_wp2_with fail
        go_ret
        exact ⟨by rw [hf.out]; first | done | rfl, Below.refl _ _⟩
    · have k2 : m < 1 := by omega
      go_wp2_with fail
      go_ret
      exact ⟨by rw [hf.out]; first | done | rfl, Below.refl _ _⟩
  case pos =>
  have k1 : ¬ y < 1900 := by omega
  by_cases hy2 : y ≤ 2199
  case neg =>
    have hf := Lib.hid (show r = 0 by rw [← HR.out]; unfold daysI; rw [if_neg (fun h => hy2 h.1.2)])
    have k3 : 2199 < y := by omega
    by_cases hm1 : 1 ≤ m
    · by_cases hm2 : m ≤ 12
      · go_wp2_with fail
        go_ret
        exact ⟨by rw [hf.out]; first | done | rfl, Below.refl _ _⟩
      · have k2 : 12 < m := by omega
        go_wp2_with fail
        go_ret
        exact ⟨by rw [hf.out]; first | done | rfl, Below.refl _ _⟩
    · have k2 : m < 1 := by omega
      go_wp2_with fail
      go_ret
      exact ⟨by rw [hf.out]; first | done | rfl, Below.refl _ _⟩
  case pos =>
  have k3 : ¬ 2199 < y := by omega
  by_cases hm1 : 1 ≤ m
  case neg =>
    have hf := Lib.hid (show r = 0 by rw [← HR.out]; unfold daysI; rw [if_neg (fun h => hm1 h.2.1)])
    have k2 : m < 1 := by omega
    go_wp2_with fail
    go_ret
    exact ⟨by rw [hf.out]; first | done | rfl, Below.refl _ _⟩
  case pos =>
  have k2 : ¬ m < 1 := by omega
  by_cases hm2 : m ≤ 12
  case neg =>
    have hf := Lib.hid (show r = 0 by rw [← HR.out]; unfold daysI; rw [if_neg (fun h => hm2 h.2.2)])
    have k4 : 12 < m := by omega
    go_wp2_with fail
    go_ret
    exact ⟨by rw [hf.out]; first | done | rfl, Below.refl _ _⟩
  case pos =>
  have k4 : ¬ 12 < m := by omega
  have hd : r = if m = 2 ∧ leapI y = true then 29 else mdays m := by rw [← HR.out]; unfold daysI; rw [if_pos ⟨⟨hy1, hy2⟩, hm1, hm2⟩]
  have HD := Lib.hid hd
  clear hd HR
  obtain ⟨k, hk⟩ : ∃ k : Nat, m = (k : Int) + 1 := ⟨(m - 1).toNat, by omega⟩
  have hk12 : k < 12 := by omega
  subst hk
  have HT := Lib.hid (tab k hk12)
  by_cases h2 : k = 1
  · subst h2
    have hy : inY y := ⟨hy1, hy2⟩
    go_wp2_with (refine wpList_store_fresh2 rfl 194 (.tmp 5) (.tmp 20) rfl rfl w _ 194 #[.int .i64 31, .int .i64 28, .int .i64 31, .int .i64 30, .int .i64 31, .int .i64 30, .int .i64 31, .int .i64 31, .int .i64 30, .int .i64 31, .int .i64 30, .int .i64 31] rfl rfl infoDays rfl (by simp only [List.all_toArray, List.all_cons, List.all_nil, Value.oneCell', Bool.and_true]) ?_; intro w2 S1 S2 S3; replace S1 := Lib.hid S1)
    refine (leap_c y _ hy).mono ?_
    rintro e w3 ⟨rfl, hb⟩
    obtain ⟨lb, hlb⟩ : ∃ lb, leapI y = lb := ⟨_, rfl⟩
    rw [hlb]
    have HLB := Lib.hid hlb
    clear hlb
    cases lb with
    | true =>
      have hf := Lib.hid (show r = 29 by rw [HD.out, if_pos (by simp [HLB.out])])
      clear HD
      go_wp2_with fail
      go_ret
      exact ⟨by rw [hf.out]; first | done | rfl, (by exact S2.trans (hb.mono (by have := S2.size; omega)))⟩
    | false =>
      have hf := Lib.hid (show r = 28 by rw [HD.out, if_neg (by simp [HLB.out])]; rfl)
      clear HD
      have c0 : w3.cell? ⟨w.heap.size, 1, none⟩ = some (.int .i64 28) := blk_cell ((hb.block _ S3).trans S1.out) 1
      go_wp2_with fail
      go_ret
      exact ⟨by rw [hf.out]; first | done | rfl, (by exact S2.trans (hb.mono (by have := S2.size; omega)))⟩
  · have h2I : ((k : Int) + 1 == 2) = false := by simp; omega
    have hf := Lib.hid (show r = mdays ((k : Int) + 1) by rw [HD.out, if_neg (fun h => h2 (by have := h.1; omega))])
    clear HD h2
    go_wp2_with (refine wpList_store_fresh2 rfl 194 (.tmp 5) (.tmp 20) rfl rfl w _ 194 #[.int .i64 31, .int .i64 28, .int .i64 31, .int .i64 30, .int .i64 31, .int .i64 30, .int .i64 31, .int .i64 31, .int .i64 30, .int .i64 31, .int .i64 30, .int .i64 31] rfl rfl infoDays rfl (by simp only [List.all_toArray, List.all_cons, List.all_nil, Value.oneCell', Bool.and_true]) ?_; intro w2 S1 S2 S3; have c0 := (blk_cell S1 k).trans HT.out; clear S1)
    go_ret
    exact ⟨by rw [hf.out]; first | done | rfl, S2⟩
set_option maxRecDepth 100000 in
theorem run_tab (k : Nat) (h : k < 12) (w : World) : Sem.run Try.prog (Instr.index 194 (.agg #[.int .i64 31, .int .i64 28, .int .i64 31, .int .i64 30, .int .i64 31, .int .i64 30, .int .i64 31, .int .i64 31, .int .i64 30, .int .i64 31, .int .i64 30, .int .i64 31]) (.int .i64 (k : Int))) w = .ok (.int .i64 (mdays ((k : Int) + 1))) w := by
  have hk : k = 0 ∨ k = 1 ∨ k = 2 ∨ k = 3 ∨ k = 4 ∨ k = 5 ∨ k = 6 ∨ k = 7 ∨ k = 8 ∨ k = 9 ∨ k = 10 ∨ k = 11 := by omega
  rcases hk with rfl | rfl | rfl | rfl | rfl | rfl | rfl | rfl | rfl | rfl | rfl | rfl <;> rfl
set_option maxHeartbeats 8000000 in
set_option maxRecDepth 100000 in
theorem rDays_c (y m : Int) (w : World) : Calls Try.prog 100 #[.int .i64 y, .int .i64 m] w (Quiet w (.int .i64 (daysI y m))) := by
  obtain ⟨r, hr⟩ : ∃ r, daysI y m = r := ⟨_, rfl⟩
  rw [hr]
  have HR := Lib.hid hr
  clear hr
  go_enter Try.func100, Try.ntmps100
  by_cases hy1 : 1900 ≤ y
  case neg =>
    have hf := Lib.hid (show r = 0 by rw [← HR.out]; unfold daysI; rw [if_neg (fun h => hy1 h.1.1)])
    have k1 : y < 1900 := by omega
    by_cases hm1 : 1 ≤ m
    · by_cases hm2 : m ≤ 12
      · go_wp2_with fail
        go_ret
        exact ⟨by rw [hf.out]; first | done | rfl, Below.refl _ _⟩
      · have k2 : 12 < m := by omega
        go_wp2_with fail
        go_ret
        exact ⟨by rw [hf.out]; first | done | rfl, Below.refl _ _⟩
    · have k2 : m < 1 := by omega
      go_wp2_with fail
      go_ret
      exact ⟨by rw [hf.out]; first | done | rfl, Below.refl _ _⟩
  case pos =>
  have k1 : ¬ y < 1900 := by omega
  by_cases hy2 : y ≤ 2199
  case neg =>
    have hf := Lib.hid (show r = 0 by rw [← HR.out]; unfold daysI; rw [if_neg (fun h => hy2 h.1.2)])
    have k3 : 2199 < y := by omega
    by_cases hm1 : 1 ≤ m
    · by_cases hm2 : m ≤ 12
      · go_wp2_with fail
        go_ret
        exact ⟨by rw [hf.out]; first | done | rfl, Below.refl _ _⟩
      · have k2 : 12 < m := by omega
        go_wp2_with fail
        go_ret
        exact ⟨by rw [hf.out]; first | done | rfl, Below.refl _ _⟩
    · have k2 : m < 1 := by omega
      go_wp2_with fail
      go_ret
      exact ⟨by rw [hf.out]; first | done | rfl, Below.refl _ _⟩
  case pos =>
  have k3 : ¬ 2199 < y := by omega
  by_cases hm1 : 1 ≤ m
  case neg =>
    have hf := Lib.hid (show r = 0 by rw [← HR.out]; unfold daysI; rw [if_neg (fun h => hm1 h.2.1)])
    have k2 : m < 1 := by omega
    go_wp2_with fail
    go_ret
    exact ⟨by rw [hf.out]; first | done | rfl, Below.refl _ _⟩
  case pos =>
  have k2 : ¬ m < 1 := by omega
  by_cases hm2 : m ≤ 12
  case neg =>
    have hf := Lib.hid (show r = 0 by rw [← HR.out]; unfold daysI; rw [if_neg (fun h => hm2 h.2.2)])
    have k4 : 12 < m := by omega
    go_wp2_with fail
    go_ret
    exact ⟨by rw [hf.out]; first | done | rfl, Below.refl _ _⟩
  case pos =>
  have k4 : ¬ 12 < m := by omega
  have hd : r = if m = 2 ∧ leapI y = true then 29 else mdays m := by rw [← HR.out]; unfold daysI; rw [if_pos ⟨⟨hy1, hy2⟩, hm1, hm2⟩]
  have HD := Lib.hid hd
  clear hd HR
  obtain ⟨k, hk⟩ : ∃ k : Nat, m = (k : Int) + 1 := ⟨(m - 1).toNat, by omega⟩
  have hk12 : k < 12 := by omega
  subst hk
  have HT := Lib.hid (tab k hk12)
  by_cases h2 : k = 1
  · subst h2
    have hy : inY y := ⟨hy1, hy2⟩
    go_wp2_with fail
    refine (rLeap_c y _ hy).mono ?_
    rintro e w3 ⟨rfl, hb⟩
    obtain ⟨lb, hlb⟩ : ∃ lb, leapI y = lb := ⟨_, rfl⟩
    rw [hlb]
    have HLB := Lib.hid hlb
    clear hlb
    cases lb with
    | true =>
      have hf := Lib.hid (show r = 29 by rw [HD.out, if_pos (by simp [HLB.out])])
      clear HD
      go_wp2_with fail
      go_ret
      exact ⟨by rw [hf.out]; first | done | rfl, hb⟩
    | false =>
      have hf := Lib.hid (show r = 28 by rw [HD.out, if_neg (by simp [HLB.out])]; rfl)
      clear HD
      have ht : ∀ w, Sem.run Try.prog (Instr.index 194 (.agg #[.int .i64 31, .int .i64 28, .int .i64 31, .int .i64 30, .int .i64 31, .int .i64 30, .int .i64 31, .int .i64 31, .int .i64 30, .int .i64 31, .int .i64 30, .int .i64 31]) (.int .i64 1)) w = .ok (.int .i64 28) w := fun w => run_tab 1 (by omega) w
      go_wp2_with fail
      go_ret
      exact ⟨by rw [hf.out]; first | done | rfl, hb⟩
  · have h2I : ((k : Int) + 1 == 2) = false := by simp; omega
    have hf := Lib.hid (show r = mdays ((k : Int) + 1) by rw [HD.out, if_neg (fun h => h2 (by have := h.1; omega))])
    clear HD h2
    have ht := run_tab k hk12
    go_wp2_with fail
    go_ret
    exact ⟨by rw [hf.out]; first | done | rfl, Below.refl _ _⟩
end Go.Proofs.Ytnigokmjehemaaa

/- Dates of days, in the program and in the reference. Written by gen_b3.py. -/
namespace Go.Proofs.Ytnigokmjehemaaa
open Go Go.RowKit
set_option linter.unusedVariables false
set_option linter.unusedSimpArgs false
attribute [local go_sem ↓] Go.wp_at_zero Go.wp_at_succ
theorem meas_lt {m j : Int} (h : j < m) : (m - (j + 1)).toNat < (m - j).toNat := by omega
theorem wrap_succ {j : Nat} {m : Int} (h : (j : Int) < m) (hm : m ≤ 12) : wrap64 ((j : Int) + 1) = (j : Int) + 1 := by unfold wrap64; omega
theorem wrap_small {Y y : Int} (h1 : 1900 ≤ Y) (h : Y < y) (hy : y ≤ 2199) : wrap64 (Y + 1) = Y + 1 := by unfold wrap64; omega
theorem beginI_succ (y : Int) : beginI (y + 1) = beginI y + 365 + (if leapI y = true then 1 else 0) := by
  unfold beginI
  by_cases h4 : y % 4 = 0
  · by_cases h1 : y % 100 = 0
    · by_cases h2 : y % 400 = 0
      · rw [if_pos (leapI_true h4 (.inr h2))]; omega
      · rw [if_neg (by rw [leapI_false (fun h => h.2.elim (fun k => k h1) h2)]; simp)]; omega
    · rw [if_pos (leapI_true h4 (.inl h1))]; omega
  · rw [if_neg (by rw [leapI_false (fun h => h4 h.1)]; simp)]; omega
theorem daysI_out {y m d : Int} (h : d ≤ daysI y m) (h1 : 1 ≤ d) : inY y ∧ 1 ≤ m ∧ m ≤ 12 := by
  unfold daysI at h
  split at h
  · assumption
  · omega
theorem sumD_last {y : Int} (hy : inY y) : sumD y 12 = 365 + (if leapI y = true then 1 else 0) := by
  unfold inY at hy
  simp only [sumD, daysI, mdays, inY]
  cases leapI y <;> simp [hy]
set_option maxHeartbeats 400000 in
theorem begin_c (y : Int) (w : World) (h : inY y) : Calls Try.prog 159 #[.int .i64 y] w (Quiet w (.int .i64 (beginI y))) := by
  obtain ⟨r, hr⟩ : ∃ r, beginI y = r := ⟨_, rfl⟩
  rw [hr]
  have HR := Lib.hid hr
  clear hr
  obtain ⟨h1, h2⟩ := h
  go_enter Try.func159, Try.ntmps159
  go_wp2_with fail
  go_ret
  exact ⟨by rw [← HR.out]; rfl, Below.refl _ _⟩
set_option maxHeartbeats 1000000 in
set_option maxRecDepth 100000 in
theorem of_c (y m d : Int) (w : World) : Calls Try.prog 189 #[.int .i64 y, .int .i64 m, .int .i64 d] w (Quiet w (.tuple #[.int .i64 (ofI y m d).1, .int .i64 (ofI y m d).2])) := by
  obtain ⟨r, hr⟩ : ∃ r, ofI y m d = r := ⟨_, rfl⟩
  rw [hr]
  have HR := Lib.hid hr
  clear hr
  go_enter Try.func189, Try.ntmps189
  by_cases hd1 : d < 1
  case pos =>
    have hf := Lib.hid (show r = (0, 2) by rw [← HR.out]; unfold ofI; rw [if_pos (.inl hd1)])
    go_wp2_with fail
    (try go_ret2)
    exact ⟨by rw [hf.out]; first | done | rfl, Below.refl _ _⟩
  case neg =>
  have hd2 : 1 ≤ d := by omega
  go_wp2_with fail
  refine (days_c y m w).mono ?_
  rintro e w1 ⟨rfl, hb1⟩
  obtain ⟨D, hD⟩ : ∃ D, daysI y m = D := ⟨_, rfl⟩
  rw [hD]
  have HDD := Lib.hid hD
  clear hD
  by_cases hDd : D < d
  case pos =>
    have hf := Lib.hid (show r = (0, 2) by rw [← HR.out]; unfold ofI; rw [HDD.out, if_pos (.inr hDd)])
    go_wp2_with fail
    (try go_ret2)
    exact ⟨by rw [hf.out]; first | done | rfl, hb1⟩
  case neg =>
  have hDd' : d ≤ D := by omega
  have hD31 : D ≤ 31 := by rw [← HDD.out]; exact (daysI_le y m).2
  obtain ⟨hy, hm1, hm2⟩ := daysI_out (by rw [HDD.out]; exact hDd' : d ≤ daysI y m) hd2
  have hyI := hy
  obtain ⟨hy1, hy2⟩ := hyI
  have hf := Lib.hid (show r = (beginI y + d - 1 + sumD y (m - 1).toNat, 0) by rw [← HR.out]; unfold ofI; rw [if_neg (by rw [HDD.out]; omega)])
  have hbd := beginI_bd hy
  obtain ⟨B, hB⟩ : ∃ B, beginI y = B := ⟨_, rfl⟩
  rw [hB] at hf hbd
  have HBB := Lib.hid hB
  clear hB HR
  go_wp2_with fail
  refine (begin_c y w1 hy).mono ?_
  rintro e w2 ⟨rfl, hb2⟩
  rw [HBB.out]
  have hb12 := hb1.trans (hb2.mono hb1.size)
  go_wp2_with fail
  go_loopw [8, 9] (fun s i wr => ∃ j : Nat, 1 ≤ j ∧ (j : Int) ≤ m ∧ i = .int .i64 (j : Int) ∧ s = .int .i64 (B + d - 1 + sumD y (j - 1)) ∧ Below w.heap.size w wr) (fun _ i _ => (m - intOf i).toNat)
  case atStart => exact ⟨1, by omega, by omega, rfl, by simp [sumD], hb12⟩
  case round =>
    obtain ⟨j, hj1, hj2, rfl, rfl, hb⟩ := hrel
    have hs := sumD_le y (j - 1)
    obtain ⟨S, hS⟩ : ∃ S, sumD y (j - 1) = S := ⟨_, rfl⟩
    rw [hS] at hs ⊢
    have HS := Lib.hid hS
    clear hS
    by_cases hjm : (j : Int) < m
    · go_wp2_with fail
      refine (days_c y (j : Int) wr).mono ?_
      rintro e w3 ⟨rfl, hb3⟩
      have hD3 := daysI_le y (j : Int)
      obtain ⟨E, hE⟩ : ∃ E, daysI y (j : Int) = E := ⟨_, rfl⟩
      rw [hE] at hD3 ⊢
      have HE := Lib.hid hE
      clear hE
      have hb4 := hb.trans (hb3.mono hb.size)
      go_wp2_with fail
      go_roundw
      case rel => exact ⟨j + 1, by omega, by omega, by go_num, by
          have e : sumD y (j + 1 - 1) = S + E := by
            obtain ⟨i, rfl⟩ : ∃ i, j = i + 1 := ⟨j - 1, by omega⟩
            rw [show i + 1 + 1 - 1 = i + 1 from rfl, sumD, ← HS.out, ← HE.out]
            simp
          rw [e]; go_num, hb4⟩
      case measure =>
        have e : wrap64 ((j : Int) + 1) = (j : Int) + 1 := wrap_succ hjm hm2
        simp only [intOf, e]
        exact meas_lt hjm
    · go_wp2_with fail
      (try go_ret2)
      have e : j = (m - 1).toNat + 1 := by omega
      refine ⟨?_, hb⟩
      rw [hf.out, ← HS.out, e]
      simp only [Nat.add_sub_cancel]
      rfl
set_option maxHeartbeats 1000000 in
set_option maxRecDepth 100000 in
theorem rOf_c (y m d : Int) (w : World) : Calls Try.prog 145 #[.int .i64 y, .int .i64 m, .int .i64 d] w (Quiet w (.tuple #[.int .i64 (ofI y m d).1, .int .i64 (ofI y m d).2])) := by
  obtain ⟨r, hr⟩ : ∃ r, ofI y m d = r := ⟨_, rfl⟩
  rw [hr]
  have HR := Lib.hid hr
  clear hr
  go_enter Try.func145, Try.ntmps145
  by_cases hd1 : d < 1
  case pos =>
    have hf := Lib.hid (show r = (0, 2) by rw [← HR.out]; unfold ofI; rw [if_pos (.inl hd1)])
    go_wp2_with fail
    (try go_ret2)
    exact ⟨by rw [hf.out]; first | done | rfl, Below.refl _ _⟩
  case neg =>
  have hd2 : 1 ≤ d := by omega
  go_wp2_with fail
  refine (rDays_c y m w).mono ?_
  rintro e w1 ⟨rfl, hb1⟩
  obtain ⟨D, hD⟩ : ∃ D, daysI y m = D := ⟨_, rfl⟩
  rw [hD]
  have HDD := Lib.hid hD
  clear hD
  by_cases hDd : D < d
  case pos =>
    have hf := Lib.hid (show r = (0, 2) by rw [← HR.out]; unfold ofI; rw [HDD.out, if_pos (.inr hDd)])
    go_wp2_with fail
    (try go_ret2)
    exact ⟨by rw [hf.out]; first | done | rfl, hb1⟩
  case neg =>
  have hDd' : d ≤ D := by omega
  have hD31 : D ≤ 31 := by rw [← HDD.out]; exact (daysI_le y m).2
  obtain ⟨hy, hm1, hm2⟩ := daysI_out (by rw [HDD.out]; exact hDd' : d ≤ daysI y m) hd2
  have hyI := hy
  obtain ⟨hy1, hy2⟩ := hyI
  have hf := Lib.hid (show r = (beginI y + d - 1 + sumD y (m - 1).toNat, 0) by rw [← HR.out]; unfold ofI; rw [if_neg (by rw [HDD.out]; omega)])
  have hbd := beginI_bd hy
  obtain ⟨B, hB⟩ : ∃ B, beginI y = B := ⟨_, rfl⟩
  rw [hB] at hf hbd
  have HBB := Lib.hid hB
  clear hB HR
  go_wp2_with fail
  go_loopw [8, 9] (fun s i wr => ∃ j : Nat, 1900 + (j : Int) ≤ y ∧ i = .int .i64 (1900 + (j : Int)) ∧ s = .int .i64 (beginI (1900 + (j : Int))) ∧ Below w.heap.size w wr) (fun _ i _ => (y - intOf i).toNat)
  case atStart => exact ⟨0, by omega, rfl, rfl, hb1⟩
  case round =>
    obtain ⟨j, hjy, rfl, rfl, hb⟩ := hrel
    obtain ⟨Y, hY⟩ : ∃ Y : Int, 1900 + (j : Int) = Y := ⟨_, rfl⟩
    rw [hY] at hjy ⊢
    have hY1 : 1900 ≤ Y := by omega
    have HY := Lib.hid hY
    clear hY
    have hbY := beginI_bd (y := Y) ⟨hY1, by omega⟩
    obtain ⟨S, hS⟩ : ∃ S, beginI Y = S := ⟨_, rfl⟩
    rw [hS] at hbY ⊢
    have HS := Lib.hid hS
    clear hS
    by_cases hlt : Y < y
    · go_wp2_with fail
      refine (rLeap_c Y wr ⟨hY1, by omega⟩).mono ?_
      rintro e w3 ⟨rfl, hb3⟩
      have hb4 := hb.trans (hb3.mono hb.size)
      obtain ⟨lb, hlb⟩ : ∃ lb, leapI Y = lb := ⟨_, rfl⟩
      rw [hlb]
      have hsucc := Lib.hid (beginI_succ Y)
      rw [hlb, HS.out] at hsucc
      clear hlb
      cases lb with
      | true =>
        go_wp2_with fail
        go_roundw
        case rel => exact ⟨j + 1, by have := HY.out; omega, by have := HY.out; go_num, by
          have e : (1900 : Int) + ((j + 1 : Nat) : Int) = Y + 1 := by have := HY.out; omega
          rw [e, hsucc.out]; (try simp), hb4⟩
        case measure =>
          have e : wrap64 (Y + 1) = Y + 1 := wrap_small hY1 hlt hy2
          simp only [intOf, e]
          exact meas_lt hlt
      | false =>
        go_wp2_with fail
        go_roundw
        case rel => exact ⟨j + 1, by have := HY.out; omega, by have := HY.out; go_num, by
          have e : (1900 : Int) + ((j + 1 : Nat) : Int) = Y + 1 := by have := HY.out; omega
          rw [e, hsucc.out]; (try simp), hb4⟩
        case measure =>
          have e : wrap64 (Y + 1) = Y + 1 := wrap_small hY1 hlt hy2
          simp only [intOf, e]
          exact meas_lt hlt
    · have hYy : Y = y := by omega
      have HSB := Lib.hid (show S = B by rw [← HS.out, hYy, HBB.out])
      clear hYy
      go_wp2_with fail
      go_loopw [8, 10] (fun s i wr => ∃ j : Nat, 1 ≤ j ∧ (j : Int) ≤ m ∧ i = .int .i64 (j : Int) ∧ s = .int .i64 (S + sumD y (j - 1)) ∧ Below w.heap.size w wr) (fun _ i _ => (m - intOf i).toNat)
      case atStart => exact ⟨1, by omega, by omega, rfl, by simp [sumD], hb⟩
      case round =>
        obtain ⟨j, hj1, hj2, rfl, rfl, hb⟩ := hrel
        have hs := sumD_le y (j - 1)
        obtain ⟨S, hS⟩ : ∃ S, sumD y (j - 1) = S := ⟨_, rfl⟩
        rw [hS] at hs ⊢
        have HS := Lib.hid hS
        clear hS
        by_cases hjm : (j : Int) < m
        · go_wp2_with fail
          refine (rDays_c y (j : Int) wr).mono ?_
          rintro e w3 ⟨rfl, hb3⟩
          have hD3 := daysI_le y (j : Int)
          obtain ⟨E, hE⟩ : ∃ E, daysI y (j : Int) = E := ⟨_, rfl⟩
          rw [hE] at hD3 ⊢
          have HE := Lib.hid hE
          clear hE
          have hb4 := hb.trans (hb3.mono hb.size)
          go_wp2_with fail
          go_roundw
          case rel => exact ⟨j + 1, by omega, by omega, by go_num, by
              have e : sumD y (j + 1 - 1) = S + E := by
                obtain ⟨i, rfl⟩ : ∃ i, j = i + 1 := ⟨j - 1, by omega⟩
                rw [show i + 1 + 1 - 1 = i + 1 from rfl, sumD, ← HS.out, ← HE.out]
                simp
              rw [e]; go_num, hb4⟩
          case measure =>
            have e : wrap64 ((j : Int) + 1) = (j : Int) + 1 := wrap_succ hjm hm2
            simp only [intOf, e]
            exact meas_lt hjm
        · go_wp2_with fail
          (try go_ret2)
          have e : j = (m - 1).toNat + 1 := by omega
          refine ⟨?_, hb⟩
          rw [hf.out, ← HS.out, e]
          simp only [Nat.add_sub_cancel]
          have e2 := HSB.out; rw [e2]; go_num
end Go.Proofs.Ytnigokmjehemaaa

/- Year, month and day of a date, in the program and in the reference. Written by gen_b4.py. -/
namespace Go.Proofs.Ytnigokmjehemaaa
open Go Go.RowKit
set_option linter.unusedVariables false
set_option linter.unusedSimpArgs false
attribute [local go_sem ↓] Go.wp_at_zero Go.wp_at_succ
theorem results_tmp4 {fn : Func} {t u v x : Tmp} (h : fn.results = #[.tmp t, .tmp u, .tmp v, .tmp x]) (tmps : Array Value) (P : Program) (w : World) :
    (results fn tmps).run P w = .ok (.tuple #[tmps.getD t undef, tmps.getD u undef, tmps.getD v undef, tmps.getD x undef]) w := by
  simp [results, h]
theorem beg1900 : beginI 1900 = -25567 := by unfold beginI; omega
theorem beg2199 : beginI 2199 = 83641 := by unfold beginI; omega
def inD (d : Int) : Prop := -25567 ≤ d ∧ d ≤ 84005
instance (d : Int) : Decidable (inD d) := by unfold inD; exact inferInstance
def CivP (date y m d : Int) : Prop := inY y ∧ 1 ≤ m ∧ m ≤ 12 ∧ 1 ≤ d ∧ d ≤ daysI y m ∧ date = beginI y + sumD y (m - 1).toNat + d - 1
def CivPost (date : Int) (w : World) (e : Ending) (w' : World) : Prop :=
  ∃ y m d n : Int, e = .returned (.tuple #[.int .i64 y, .int .i64 m, .int .i64 d, .int .i64 n]) ∧ Below w.heap.size w w' ∧ ((inD date ∧ n = 0 ∧ CivP date y m d) ∨ (¬ inD date ∧ n = 2 ∧ y = 0 ∧ m = 0 ∧ d = 0))
theorem civ_last {y date : Int} {j : Nat} (hy : inY y) (hlt : date < beginI (y + 1)) (hj1 : 1 ≤ j) (hj : j ≤ 12) (hr : daysI y (j : Int) ≤ date - beginI y - sumD y (j - 1)) : j ≤ 11 := by
  rcases Nat.lt_or_ge j 12 with h | h
  · omega
  · have e : j = 12 := by omega
    subst e
    have h1 := sumD_last hy
    have h2 := beginI_succ y
    have h3 : sumD y 12 = sumD y 11 + daysI y 12 := by rw [sumD]; rfl
    have h4 : daysI y ((12 : Nat) : Int) = daysI y 12 := rfl
    rw [h4] at hr
    simp only [Nat.add_one_sub_one, show 12 - 1 = 11 from rfl] at hr
    omega
theorem beginI_mono {y z : Int} (h : y ≤ z) : beginI y + 365 * (z - y) ≤ beginI z := by
  unfold beginI; omega
theorem sumD_mono {y : Int} {a b : Nat} (h : a ≤ b) : sumD y a ≤ sumD y b := by
  induction b with
  | zero => have : a = 0 := by omega
            subst this; exact Int.le_refl _
  | succ b ih =>
    rcases Nat.lt_or_ge b a with h1 | h1
    · have : a = b + 1 := by omega
      subst this; exact Int.le_refl _
    · have := ih h1
      have := daysI_le y ((b : Int) + 1)
      simp only [sumD]; omega
theorem CivP.year {date y m d : Int} (h : CivP date y m d) : beginI y ≤ date ∧ date < beginI (y + 1) := by
  obtain ⟨hy, h1, h2, h3, h4, h5⟩ := h
  have k1 := sumD_le y (m - 1).toNat
  have k2 := sumD_last hy
  have k3 := beginI_succ y
  have k4 : sumD y ((m - 1).toNat + 1) ≤ sumD y 12 := sumD_mono (by omega)
  have k5 : sumD y ((m - 1).toNat + 1) = sumD y (m - 1).toNat + daysI y m := by rw [sumD, show (((m - 1).toNat : Int) + 1) = m from by omega]
  exact ⟨by omega, by omega⟩
theorem CivP.uniq {date y m d y' m' d' : Int} (h : CivP date y m d) (k : CivP date y' m' d') : y = y' ∧ m = m' ∧ d = d' := by
  have h1 := h.year
  have k1 := k.year
  have e : y = y' := by
    rcases Int.lt_trichotomy y y' with hl | he | hl
    · have := beginI_mono (show y + 1 ≤ y' by omega); omega
    · exact he
    · have := beginI_mono (show y' + 1 ≤ y by omega); omega
  subst e
  obtain ⟨hy, a1, a2, a3, a4, a5⟩ := h
  obtain ⟨_, b1, b2, b3, b4, b5⟩ := k
  have e : m = m' := by
    rcases Int.lt_trichotomy m m' with hl | he | hl
    · have q1 : sumD y ((m - 1).toNat + 1) ≤ sumD y (m' - 1).toNat := sumD_mono (by omega)
      have q2 : sumD y ((m - 1).toNat + 1) = sumD y (m - 1).toNat + daysI y m := by rw [sumD, show (((m - 1).toNat : Int) + 1) = m from by omega]
      omega
    · exact he
    · have q1 : sumD y ((m' - 1).toNat + 1) ≤ sumD y (m - 1).toNat := sumD_mono (by omega)
      have q2 : sumD y ((m' - 1).toNat + 1) = sumD y (m' - 1).toNat + daysI y m' := by rw [sumD, show (((m' - 1).toNat : Int) + 1) = m' from by omega]
      omega
  subst e
  exact ⟨rfl, rfl, by omega⟩
theorem dvalid_c (d : Int) (w : World) : Calls Try.prog 158 #[.int .i64 d] w (Quiet w (.bool (decide (inD d)))) := by
  obtain ⟨r, hr⟩ : ∃ r, decide (inD d) = r := ⟨_, rfl⟩
  rw [hr]
  have HR := Lib.hid hr
  clear hr
  go_enter Try.func158, Try.ntmps158
  by_cases h1 : -25567 ≤ d
  · by_cases h2 : d ≤ 84005
    · have hf := Lib.hid (show r = true by rw [← HR.out]; exact decide_eq_true ⟨h1, h2⟩)
      go_wp2_with fail
      go_ret
      exact ⟨by rw [hf.out]; first | done | rfl, Below.refl _ _⟩
    · have hf := Lib.hid (show r = false by rw [← HR.out]; exact decide_eq_false (fun h => h2 h.2))
      go_wp2_with fail
      go_ret
      exact ⟨by rw [hf.out]; first | done | rfl, Below.refl _ _⟩
  · have hf := Lib.hid (show r = false by rw [← HR.out]; exact decide_eq_false (fun h => h1 h.1))
    go_wp2_with fail
    go_ret
    exact ⟨by rw [hf.out]; first | done | rfl, Below.refl _ _⟩
theorem rdvalid_c (d : Int) (w : World) : Calls Try.prog 147 #[.int .i64 d] w (Quiet w (.bool (decide (inD d)))) := by
  obtain ⟨r, hr⟩ : ∃ r, decide (inD d) = r := ⟨_, rfl⟩
  rw [hr]
  have HR := Lib.hid hr
  clear hr
  go_enter Try.func147, Try.ntmps147
  by_cases h1 : -25567 ≤ d
  · by_cases h2 : d ≤ 84005
    · have hf := Lib.hid (show r = true by rw [← HR.out]; exact decide_eq_true ⟨h1, h2⟩)
      go_wp2_with fail
      go_ret
      exact ⟨by rw [hf.out]; first | done | rfl, Below.refl _ _⟩
    · have hf := Lib.hid (show r = false by rw [← HR.out]; exact decide_eq_false (fun h => h2 h.2))
      go_wp2_with fail
      go_ret
      exact ⟨by rw [hf.out]; first | done | rfl, Below.refl _ _⟩
  · have hf := Lib.hid (show r = false by rw [← HR.out]; exact decide_eq_false (fun h => h1 h.1))
    go_wp2_with fail
    go_ret
    exact ⟨by rw [hf.out]; first | done | rfl, Below.refl _ _⟩
set_option maxHeartbeats 2000000 in
set_option maxRecDepth 100000 in
theorem rCivil_c (date : Int) (w : World) (hbd : intBd date) : Calls Try.prog 99 #[.int .i64 date] w (CivPost date w) := by
  go_enter Try.func99, Try.ntmps99
  go_wp2_with fail
  refine (rdvalid_c date w).mono ?_
  rintro e w1 ⟨rfl, hb1⟩
  obtain ⟨v, hv⟩ : ∃ v, decide (inD date) = v := ⟨_, rfl⟩
  rw [hv]
  have HV := Lib.hid hv
  clear hv
  cases v with
  | false =>
    go_wp2_with fail
    (try simp only [Exit.inBlock, Exit.then])
    refine bodyPost_ret (results_tmp4 rfl _ _ _) rfl ⟨0, 0, 0, 2, rfl, hb1, .inr ⟨of_decide_eq_false HV.out, rfl, rfl, rfl, rfl⟩⟩
  | true =>
  have hin : inD date := of_decide_eq_true HV.out
  have hin2 := hin
  obtain ⟨hd1, hd2⟩ := hin2
  have HIN := Lib.hid hin
  clear HV hin hbd
  go_wp2_with fail
  go_loopw [6, 8] (fun i s wr => ∃ Y : Int, inY Y ∧ i = .int .i64 Y ∧ s = .int .i64 (date - beginI Y) ∧ 0 ≤ date - beginI Y ∧ Below w.heap.size w wr) (fun i _ _ => (2199 - intOf i).toNat)
  case atStart => exact ⟨1900, by unfold inY; omega, rfl, by rw [beg1900]; go_num, by rw [beg1900]; omega, hb1⟩
  case round =>
    obtain ⟨Y, hY, rfl, rfl, hpos, hb⟩ := hrel
    have hyI := hY
    obtain ⟨hY1, hY2⟩ := hyI
    have hbB := beginI_bd hY
    have hsucc := Lib.hid (beginI_succ Y)
    obtain ⟨B, hB⟩ : ∃ B, beginI Y = B := ⟨_, rfl⟩
    rw [hB] at hpos hbB hsucc ⊢
    have HBB := Lib.hid hB
    clear hB
    go_wp2_with fail
    refine (rLeap_c Y wr hY).mono ?_
    rintro e w3 ⟨rfl, hb3⟩
    have hb4 := hb.trans (hb3.mono hb.size)
    obtain ⟨lb, hlb⟩ : ∃ lb, leapI Y = lb := ⟨_, rfl⟩
    rw [hlb] at hsucc ⊢
    have HLB := Lib.hid hlb
    clear hlb
    cases lb with
    | true =>
      have hs2 := Lib.hid (show beginI (Y + 1) = B + 366 by have := hsucc.out; simp at this; omega)
      clear hsucc
      by_cases hge : 366 ≤ date - B
      · have hY8 : Y < 2199 := by
          rcases Int.lt_or_le Y 2199 with h | h
          · exact h
          · have e : Y = 2199 := by omega
            have e2 := HBB.out
            rw [e] at e2
            have e3 := beg2199
            omega
        go_wp2_with fail
        refine (rLeap_c Y w3 hY).mono ?_
        rintro e w4 ⟨rfl, hb5⟩
        rw [HLB.out]
        have hb6 := hb4.trans (hb5.mono hb4.size)
        go_wp2_with fail
        go_roundw
        case rel => exact ⟨Y + 1, ⟨by omega, by omega⟩, by go_num, by rw [hs2.out]; go_num, by rw [hs2.out]; omega, hb6⟩
        case measure =>
          have e : wrap64 (Y + 1) = Y + 1 := wrap_small hY1 hY8 (Int.le_refl _)
          simp only [intOf, e]
          exact meas_lt hY8
      · have hlt : date - B < 366 := by omega
        have HBL := Lib.hid (show date < beginI (Y + 1) by rw [hs2.out]; omega)
        clear hge
        go_wp2_with fail
        (try (refine (rLeap_c Y w3 hY).mono ?_
              rintro e w4 ⟨rfl, hb5⟩
              rw [HLB.out]
              replace hb4 := hb4.trans (hb5.mono hb4.size)
              go_wp2_with fail))
        go_loopw [7, 8] (fun i s wr => ∃ j : Nat, 1 ≤ j ∧ j ≤ 12 ∧ i = .int .i64 (j : Int) ∧ s = .int .i64 (date - B - sumD Y (j - 1)) ∧ 0 ≤ date - B - sumD Y (j - 1) ∧ Below w.heap.size w wr) (fun i _ _ => (12 - intOf i).toNat)
        case atStart => exact ⟨1, by omega, by omega, rfl, by simp [sumD], by simp [sumD]; omega, hb4⟩
        case round =>
          obtain ⟨j, hj1, hj2, rfl, rfl, hpos, hb⟩ := hrel
          have hs := sumD_le Y (j - 1)
          obtain ⟨S, hS⟩ : ∃ S, sumD Y (j - 1) = S := ⟨_, rfl⟩
          rw [hS] at hs hpos ⊢
          have HS := Lib.hid hS
          clear hS
          have hj1I : 1 ≤ (j : Int) := by omega
          have hj2I : (j : Int) ≤ 12 := by omega
          go_wp2_with fail
          refine (rDays_c Y (j : Int) wr).mono ?_
          rintro e w3 ⟨rfl, hb3⟩
          have hD3 := daysI_le Y (j : Int)
          obtain ⟨E, hE⟩ : ∃ E, daysI Y (j : Int) = E := ⟨_, rfl⟩
          rw [hE] at hD3 ⊢
          have HE := Lib.hid hE
          clear hE
          have hb4 := hb.trans (hb3.mono hb.size)
          by_cases hge : E ≤ date - B - S
          · have hj11 : j ≤ 11 := civ_last hY HBL.out hj1 hj2 (by rw [HE.out, HBB.out, HS.out]; exact hge)
            go_wp2_with fail
            refine (rDays_c Y (j : Int) w3).mono ?_
            rintro e w4 ⟨rfl, hb5⟩
            rw [HE.out]
            have hb6 := hb4.trans (hb5.mono hb4.size)
            go_wp2_with fail
            go_roundw
            case rel =>
              have e : sumD Y (j + 1 - 1) = S + E := by
                obtain ⟨i, rfl⟩ : ∃ i, j = i + 1 := ⟨j - 1, by omega⟩
                rw [show i + 1 + 1 - 1 = i + 1 from rfl, sumD, ← HS.out, ← HE.out]
                simp
              exact ⟨j + 1, by omega, by omega, by go_num, by rw [e]; go_num, by rw [e]; omega, hb6⟩
            case measure =>
              have e : wrap64 ((j : Int) + 1) = (j : Int) + 1 := wrap_succ (show (j : Int) < 12 by omega) (Int.le_refl _)
              simp only [intOf, e]
              exact meas_lt (by omega)
          · have hlt2 : date - B - S < E := by omega
            go_wp2_with fail
            (try simp only [Exit.inBlock, Exit.then])
            refine bodyPost_ret (results_tmp4 rfl _ _ _) rfl ⟨Y, (j : Int), date - B - S + 1, 0, by first | rfl | go_num, hb4, .inl ⟨HIN.out, rfl, hY, by omega, by omega, by omega, by rw [HE.out]; omega, ?_⟩⟩
            rw [show ((j : Int) - 1).toNat = j - 1 from by omega, HS.out, HBB.out]
            omega
    | false =>
      have hs2 := Lib.hid (show beginI (Y + 1) = B + 365 by have := hsucc.out; simp at this; omega)
      clear hsucc
      go_wp2_with fail
      refine (rLeap_c Y w3 hY).mono ?_
      rintro e w4 ⟨rfl, hb5⟩
      rw [HLB.out]
      have hb6 := hb4.trans (hb5.mono hb4.size)
      by_cases hge : 365 ≤ date - B
      · have hY8 : Y < 2199 := by
          rcases Int.lt_or_le Y 2199 with h | h
          · exact h
          · have e : Y = 2199 := by omega
            have e2 := HBB.out
            rw [e] at e2
            have e3 := beg2199
            omega
        go_wp2_with fail
        refine (rLeap_c Y w4 hY).mono ?_
        rintro e w5 ⟨rfl, hb7⟩
        rw [HLB.out]
        have hb8 := hb6.trans (hb7.mono hb6.size)
        go_wp2_with fail
        go_roundw
        case rel => exact ⟨Y + 1, ⟨by omega, by omega⟩, by go_num, by rw [hs2.out]; go_num, by rw [hs2.out]; omega, hb8⟩
        case measure =>
          have e : wrap64 (Y + 1) = Y + 1 := wrap_small hY1 hY8 (Int.le_refl _)
          simp only [intOf, e]
          exact meas_lt hY8
      · have hlt : date - B < 365 := by omega
        have HBL := Lib.hid (show date < beginI (Y + 1) by rw [hs2.out]; omega)
        clear hge
        go_wp2_with fail
        go_loopw [7, 8] (fun i s wr => ∃ j : Nat, 1 ≤ j ∧ j ≤ 12 ∧ i = .int .i64 (j : Int) ∧ s = .int .i64 (date - B - sumD Y (j - 1)) ∧ 0 ≤ date - B - sumD Y (j - 1) ∧ Below w.heap.size w wr) (fun i _ _ => (12 - intOf i).toNat)
        case atStart => exact ⟨1, by omega, by omega, rfl, by simp [sumD], by simp [sumD]; omega, hb6⟩
        case round =>
          obtain ⟨j, hj1, hj2, rfl, rfl, hpos, hb⟩ := hrel
          have hs := sumD_le Y (j - 1)
          obtain ⟨S, hS⟩ : ∃ S, sumD Y (j - 1) = S := ⟨_, rfl⟩
          rw [hS] at hs hpos ⊢
          have HS := Lib.hid hS
          clear hS
          have hj1I : 1 ≤ (j : Int) := by omega
          have hj2I : (j : Int) ≤ 12 := by omega
          go_wp2_with fail
          refine (rDays_c Y (j : Int) wr).mono ?_
          rintro e w3 ⟨rfl, hb3⟩
          have hD3 := daysI_le Y (j : Int)
          obtain ⟨E, hE⟩ : ∃ E, daysI Y (j : Int) = E := ⟨_, rfl⟩
          rw [hE] at hD3 ⊢
          have HE := Lib.hid hE
          clear hE
          have hb4 := hb.trans (hb3.mono hb.size)
          by_cases hge : E ≤ date - B - S
          · have hj11 : j ≤ 11 := civ_last hY HBL.out hj1 hj2 (by rw [HE.out, HBB.out, HS.out]; exact hge)
            go_wp2_with fail
            refine (rDays_c Y (j : Int) w3).mono ?_
            rintro e w4 ⟨rfl, hb5⟩
            rw [HE.out]
            have hb6 := hb4.trans (hb5.mono hb4.size)
            go_wp2_with fail
            go_roundw
            case rel =>
              have e : sumD Y (j + 1 - 1) = S + E := by
                obtain ⟨i, rfl⟩ : ∃ i, j = i + 1 := ⟨j - 1, by omega⟩
                rw [show i + 1 + 1 - 1 = i + 1 from rfl, sumD, ← HS.out, ← HE.out]
                simp
              exact ⟨j + 1, by omega, by omega, by go_num, by rw [e]; go_num, by rw [e]; omega, hb6⟩
            case measure =>
              have e : wrap64 ((j : Int) + 1) = (j : Int) + 1 := wrap_succ (show (j : Int) < 12 by omega) (Int.le_refl _)
              simp only [intOf, e]
              exact meas_lt (by omega)
          · have hlt2 : date - B - S < E := by omega
            go_wp2_with fail
            (try simp only [Exit.inBlock, Exit.then])
            refine bodyPost_ret (results_tmp4 rfl _ _ _) rfl ⟨Y, (j : Int), date - B - S + 1, 0, by first | rfl | go_num, hb4, .inl ⟨HIN.out, rfl, hY, by omega, by omega, by omega, by rw [HE.out]; omega, ?_⟩⟩
            rw [show ((j : Int) - 1).toNat = j - 1 from by omega, HS.out, HBB.out]
            omega
end Go.Proofs.Ytnigokmjehemaaa

/- Year, month and day of a date in the program; months later; periods of a calendar. Written by gen_b5.py. -/
namespace Go.Proofs.Ytnigokmjehemaaa
open Go Go.RowKit
set_option linter.unusedVariables false
set_option linter.unusedSimpArgs false
attribute [local go_sem ↓] Go.wp_at_zero Go.wp_at_succ
set_option maxHeartbeats 400000 in
theorem begin_w (y : Int) (w : World) (h1 : 1800 ≤ y) (h2 : y ≤ 2300) : Calls Try.prog 159 #[.int .i64 y] w (Quiet w (.int .i64 (beginI y))) := by
  obtain ⟨r, hr⟩ : ∃ r, beginI y = r := ⟨_, rfl⟩
  rw [hr]
  have HR := Lib.hid hr
  clear hr
  go_enter Try.func159, Try.ntmps159
  go_wp2_with fail
  go_ret
  exact ⟨by rw [← HR.out]; rfl, Below.refl _ _⟩
theorem begin_start {date q : Int} (h : inD date) (hq1 : -366 < date - 366 * q) (hq2 : date - 366 * q < 366) (hq3 : 0 ≤ date → 366 * q ≤ date) (hq4 : date < 0 → date ≤ 366 * q) : 1899 ≤ 1968 + q ∧ 1968 + q ≤ 2199 ∧ beginI (1968 + q) ≤ date := by
  unfold inD at h
  unfold beginI
  rcases Int.lt_or_le date 0 with hd | hd
  · have := hq4 hd; omega
  · have := hq3 hd; omega
theorem tdiv_facts (date : Int) : -366 < date - 366 * Int.tdiv date 366 ∧ date - 366 * Int.tdiv date 366 < 366 ∧ (0 ≤ date → 366 * Int.tdiv date 366 ≤ date) ∧ (date < 0 → date ≤ 366 * Int.tdiv date 366) := by
  rcases Int.lt_or_le date 0 with hd | hd
  · have e : Int.tdiv date 366 = -((-date) / 366) := by
      have h1 : Int.tdiv date 366 = - Int.tdiv (-date) 366 := by rw [Int.neg_tdiv]; omega
      rw [h1, Int.tdiv_eq_ediv_of_nonneg (by omega)]
    rw [e]; omega
  · rw [Int.tdiv_eq_ediv_of_nonneg hd]; omega
theorem beg_at {Y date : Int} (h : Y + 1 = 1900) (hd : -25567 ≤ date) : beginI (Y + 1) ≤ date := by rw [h, beg1900]; exact hd
theorem beg2200 : beginI 2200 = 84006 := by unfold beginI; omega
theorem wrap_y {Y : Int} (h1 : 1899 ≤ Y) (h2 : Y < 2199) : wrap64 (Y + 1) = Y + 1 := by unfold wrap64; omega
set_option maxHeartbeats 2000000 in
set_option maxRecDepth 100000 in
theorem civil_c (date : Int) (w : World) (hbd : intBd date) : Calls Try.prog 113 #[.int .i64 date] w (CivPost date w) := by
  go_enter Try.func113, Try.ntmps113
  go_wp2_with fail
  refine (dvalid_c date w).mono ?_
  rintro e w1 ⟨rfl, hb1⟩
  obtain ⟨v, hv⟩ : ∃ v, decide (inD date) = v := ⟨_, rfl⟩
  rw [hv]
  have HV := Lib.hid hv
  clear hv
  cases v with
  | false =>
    go_wp2_with fail
    (try simp only [Exit.inBlock, Exit.then])
    refine bodyPost_ret (results_tmp4 rfl _ _ _) rfl ⟨0, 0, 0, 2, rfl, hb1, .inr ⟨of_decide_eq_false HV.out, rfl, rfl, rfl, rfl⟩⟩
  | true =>
  have hin : inD date := of_decide_eq_true HV.out
  have hin2 := hin
  obtain ⟨hd1, hd2⟩ := hin2
  have HIN := Lib.hid hin
  clear HV hin hbd
  obtain ⟨t1, t2, t3, t4⟩ := tdiv_facts date
  have hst := Lib.hid (begin_start HIN.out t1 t2 t3 t4)
  have q1 : -70 ≤ Int.tdiv date 366 := by have := hst.out.1; omega
  have q2 : Int.tdiv date 366 ≤ 231 := by have := hst.out.2.1; omega
  clear t1 t2 t3 t4
  go_wp2_with fail
  go_loopw [2] (fun i wr => ∃ Y : Int, 1899 ≤ Y ∧ Y ≤ 2199 ∧ i = .int .i64 Y ∧ (1900 ≤ Y → beginI Y ≤ date) ∧ Below w.heap.size w wr) (fun i _ => (2199 - intOf i).toNat)
  case atStart => exact ⟨1968 + Int.tdiv date 366, hst.out.1, hst.out.2.1, by first | rfl | go_num, fun _ => hst.out.2.2, hb1⟩
  case round =>
    obtain ⟨Y, hY1, hY2, rfl, hle, hb⟩ := hrel
    have HLE := Lib.hid hle
    clear hle hst q1 q2
    by_cases h19 : Y < 1900
    · go_wp2_with fail
      go_roundw
      case rel => exact ⟨Y + 1, by omega, by omega, by go_num, fun _ => beg_at (by omega) HIN.out.1, hb⟩
      case measure =>
        have e : wrap64 (Y + 1) = Y + 1 := wrap_y hY1 (by omega)
        simp only [intOf, e]
        exact meas_lt (by omega)
    · go_wp2_with fail
      refine (begin_w (Y + 1) wr (by omega) (by omega)).mono ?_
      rintro e w3 ⟨rfl, hb3⟩
      have hb4 := hb.trans (hb3.mono hb.size)
      obtain ⟨B1, hB1⟩ : ∃ B1, beginI (Y + 1) = B1 := ⟨_, rfl⟩
      rw [hB1]
      have HB1 := Lib.hid hB1
      clear hB1
      by_cases hge : B1 ≤ date
      · have hY8 : Y < 2199 := by
          rcases Int.lt_or_le Y 2199 with h | h
          · exact h
          · have e : Y + 1 = 2200 := by omega
            have e2 := HB1.out
            rw [e, beg2200] at e2
            omega
        go_wp2_with fail
        go_roundw
        case rel => exact ⟨Y + 1, by omega, by omega, by go_num, fun _ => by rw [HB1.out]; exact hge, hb4⟩
        case measure =>
          have e : wrap64 (Y + 1) = Y + 1 := wrap_y hY1 hY8
          simp only [intOf, e]
          exact meas_lt hY8
      · have HBL := Lib.hid (show date < beginI (Y + 1) by rw [HB1.out]; omega)
        have hY : inY Y := ⟨by omega, hY2⟩
        go_wp2_with fail
        refine (begin_c Y w3 hY).mono ?_
        rintro e w4 ⟨rfl, hb5⟩
        have hb6 := hb4.trans (hb5.mono hb4.size)
        have hbB := beginI_bd hY
        have hpos : beginI Y ≤ date := HLE.out hY.1
        obtain ⟨B, hB⟩ : ∃ B, beginI Y = B := ⟨_, rfl⟩
        rw [hB] at hbB hpos ⊢
        have HBB := Lib.hid hB
        clear hB
        go_wp2_with fail
        go_loopw [3, 4] (fun i s wr => ∃ j : Nat, 1 ≤ j ∧ j ≤ 12 ∧ i = .int .i64 (j : Int) ∧ s = .int .i64 (date - B - sumD Y (j - 1)) ∧ 0 ≤ date - B - sumD Y (j - 1) ∧ Below w.heap.size w wr) (fun i _ _ => (12 - intOf i).toNat)
        case atStart => exact ⟨1, by omega, by omega, rfl, by simp [sumD], by simp [sumD]; omega, hb6⟩
        case round =>
          obtain ⟨j, hj1, hj2, rfl, rfl, hpos, hb⟩ := hrel
          have hs := sumD_le Y (j - 1)
          obtain ⟨S, hS⟩ : ∃ S, sumD Y (j - 1) = S := ⟨_, rfl⟩
          rw [hS] at hs hpos ⊢
          have HS := Lib.hid hS
          clear hS
          have hj1I : 1 ≤ (j : Int) := by omega
          have hj2I : (j : Int) ≤ 12 := by omega
          go_wp2_with fail
          refine (days_c Y (j : Int) wr).mono ?_
          rintro e w3 ⟨rfl, hb3⟩
          have hD3 := daysI_le Y (j : Int)
          obtain ⟨E, hE⟩ : ∃ E, daysI Y (j : Int) = E := ⟨_, rfl⟩
          rw [hE] at hD3 ⊢
          have HE := Lib.hid hE
          clear hE
          have hb4 := hb.trans (hb3.mono hb.size)
          by_cases hge : E ≤ date - B - S
          · have hj11 : j ≤ 11 := civ_last hY HBL.out hj1 hj2 (by rw [HE.out, HBB.out, HS.out]; exact hge)
            go_wp2_with fail
            refine (days_c Y (j : Int) w3).mono ?_
            rintro e w4 ⟨rfl, hb5⟩
            rw [HE.out]
            have hb6 := hb4.trans (hb5.mono hb4.size)
            go_wp2_with fail
            go_roundw
            case rel =>
              have e : sumD Y (j + 1 - 1) = S + E := by
                obtain ⟨i, rfl⟩ : ∃ i, j = i + 1 := ⟨j - 1, by omega⟩
                rw [show i + 1 + 1 - 1 = i + 1 from rfl, sumD, ← HS.out, ← HE.out]
                simp
              exact ⟨j + 1, by omega, by omega, by go_num, by rw [e]; go_num, by rw [e]; omega, hb6⟩
            case measure =>
              have e : wrap64 ((j : Int) + 1) = (j : Int) + 1 := wrap_succ (show (j : Int) < 12 by omega) (Int.le_refl _)
              simp only [intOf, e]
              exact meas_lt (by omega)
          · have hlt2 : date - B - S < E := by omega
            go_wp2_with fail
            (try simp only [Exit.inBlock, Exit.then])
            refine bodyPost_ret (results_tmp4 rfl _ _ _) rfl ⟨Y, (j : Int), date - B - S + 1, 0, by first | rfl | go_num, hb4, .inl ⟨HIN.out, rfl, hY, by omega, by omega, by omega, by rw [HE.out]; omega, ?_⟩⟩
            rw [show ((j : Int) - 1).toNat = j - 1 from by omega, HS.out, HBB.out]
            omega
/-- The first day of the month that lies n months after the year 0. -/
def monI (n : Int) : Int := beginI (n / 12) + sumD (n / 12) (n % 12).toNat
/-- The first day of a period, and the error. -/
def firI (n : Int) : Int × Int := if inY (n / 12) then (monI n, 0) else (0, 2)
theorem ofI_mon {n : Int} : ofI (n / 12) (n % 12 + 1) 1 = firI n := by
  unfold ofI firI
  by_cases hy : inY (n / 12)
  · have := daysI_ge (y := n / 12) (m := n % 12 + 1) hy (by omega) (by omega)
    rw [if_neg (by omega), if_pos hy]
    unfold monI
    rw [show n % 12 + 1 - 1 = n % 12 from by omega]
    simp only [Prod.mk.injEq, and_true]
    omega
  · have e : daysI (n / 12) (n % 12 + 1) = 0 := by unfold daysI; rw [if_neg (fun h => hy h.1)]
    rw [if_pos (by omega), if_neg hy]
theorem monI_civ {n : Int} (hy : inY (n / 12)) : CivP (monI n) (n / 12) (n % 12 + 1) 1 := by
  have := daysI_ge (y := n / 12) (m := n % 12 + 1) hy (by omega) (by omega)
  refine ⟨hy, by omega, by omega, by omega, by omega, ?_⟩
  unfold monI
  rw [show n % 12 + 1 - 1 = n % 12 from by omega]
  omega
theorem monI_in {n : Int} (hy : inY (n / 12)) : inD (monI n) := by
  have h := (monI_civ hy).year
  have h1 := beginI_bd hy
  have h2 := beginI_mono (show n / 12 + 1 ≤ 2200 by have := hy.2; omega)
  rw [beg2200] at h2
  unfold inD
  have := hy.2
  omega
set_option maxHeartbeats 1000000 in
/-- Add of the reference at the first day of a month. -/
theorem rAdd_c (n p : Int) (w : World) (hy : inY (n / 12)) (hp0 : 0 ≤ p) (hp1 : p ≤ 3600) : Calls Try.prog 146 #[.int .i64 (monI n), .int .i64 p] w (Quiet w (.tuple #[.int .i64 (firI (n + p)).1, .int .i64 (firI (n + p)).2])) := by
  obtain ⟨r, hr⟩ : ∃ r, firI (n + p) = r := ⟨_, rfl⟩
  rw [hr]
  have HR := Lib.hid hr
  clear hr
  have hin := monI_in hy
  have hc := Lib.hid (monI_civ hy)
  obtain ⟨d0, hd0⟩ : ∃ d0, monI n = d0 := ⟨_, rfl⟩
  rw [hd0] at hin hc ⊢
  clear hd0
  obtain ⟨Y, hY⟩ : ∃ Y, n / 12 = Y := ⟨_, rfl⟩
  obtain ⟨M, hM⟩ : ∃ M, n % 12 + 1 = M := ⟨_, rfl⟩
  have hn : n = 12 * Y + M - 1 := by omega
  have hM1 : 1 ≤ M := by omega
  have hM2 : M ≤ 12 := by omega
  rw [hY] at hy hc
  rw [hM] at hc
  obtain ⟨hy1, hy2⟩ := hy
  have HIN := Lib.hid hin
  clear hY hM hin
  subst hn
  go_enter Try.func146, Try.ntmps146
  go_wp2_with fail
  refine (rCivil_c d0 w (by have := HIN.out.1; have := HIN.out.2; unfold intBd; omega)).mono ?_
  rintro e w1 ⟨y, m, d, k, rfl, hb1, hcase⟩
  obtain ⟨hk, hciv⟩ : k = 0 ∧ CivP d0 y m d := by
    rcases hcase with ⟨_, h1, h2⟩ | ⟨h1, _⟩
    · exact ⟨h1, h2⟩
    · exact absurd HIN.out h1
  obtain ⟨e1, e2, e3⟩ := hciv.uniq hc.out
  subst hk e1 e2 e3
  clear hcase hciv hc
  have hNl : 0 ≤ 12 * y + m - 1 + p := by omega
  by_cases hNy : (12 * y + m - 1 + p) / 12 ≤ 2199
  · have hNy1 : 1900 ≤ (12 * y + m - 1 + p) / 12 := by omega
    have hdd := daysI_ge (y := (12 * y + m - 1 + p) / 12) (m := (12 * y + m - 1 + p) % 12 + 1) ⟨hNy1, hNy⟩ (by omega) (by omega)
    have hf := Lib.hid (show ofI ((12 * y + m - 1 + p) / 12) ((12 * y + m - 1 + p) % 12 + 1) 1 = r by rw [← HR.out, ofI_mon])
    go_wp2_with fail
    refine (rDays_c _ _ w1).mono ?_
    rintro e w2 ⟨rfl, hb2⟩
    obtain ⟨D, hD⟩ : ∃ D, daysI ((12 * y + m - 1 + p) / 12) ((12 * y + m - 1 + p) % 12 + 1) = D := ⟨_, rfl⟩
    rw [hD] at hdd ⊢
    clear hD
    go_wp2_with fail
    (try rw [show min (1 : Int) D = 1 from by omega])
    refine (rOf_c _ _ _ w2).mono ?_
    rintro e w3 ⟨rfl, hb3⟩
    rw [hf.out]
    go_wp2_with fail
    (try go_ret2)
    exact ⟨rfl, hb1.trans ((hb2.trans (hb3.mono hb2.size)).mono hb1.size)⟩
  · have hf := Lib.hid (show r = (0, 2) by rw [← HR.out]; unfold firI; rw [if_neg (fun h => hNy h.2)])
    have hNy2 : 2199 < (12 * y + m - 1 + p) / 12 := by omega
    go_wp2_with fail
    (try go_ret2)
    exact ⟨by rw [hf.out]; first | done | rfl, hb1⟩
end Go.Proofs.Ytnigokmjehemaaa

/- Calendars and their periods, in the program and in the reference. Written by gen_b6.py. -/
namespace Go.Proofs.Ytnigokmjehemaaa
open Go Go.RowKit
set_option linter.unusedVariables false
set_option linter.unusedSimpArgs false
attribute [local go_sem ↓] Go.wp_at_zero Go.wp_at_succ
/-- The months from the year 0 to the period p. -/
def perI (y m p : Int) : Int := 12 * y + m - 1 + p
def calB (y m p : Int) : Bool := decide (1 ≤ m ∧ m ≤ 12 ∧ 1 ≤ p ∧ p ≤ 120 ∧ inY y ∧ inY (perI y m (p - 1) / 12))
theorem calB_in {y m p q : Int} (h : calB y m p = true) (h0 : 0 ≤ q) (h1 : q < p) : inY y ∧ 1 ≤ m ∧ m ≤ 12 ∧ 1 ≤ p ∧ p ≤ 120 ∧ inY (perI y m q / 12) := by
  have h := of_decide_eq_true h
  obtain ⟨a1, a2, a3, a4, a5, a6⟩ := h
  refine ⟨a5, a1, a2, a3, a4, ?_⟩
  unfold inY perI at *
  omega
def calCheck (y m n p : Int) : Int := if calB y m n = true then (if 0 ≤ p ∧ p < n then 0 else 2) else 1
def calFirst (y m n p : Int) : Int × Int := if calCheck y m n p = 0 then (monI (perI y m p), 0) else (0, calCheck y m n p)
def lasI (n : Int) : Int := monI n + daysI (n / 12) (n % 12 + 1) - 1
def calLast (y m n p : Int) : Int × Int := if calCheck y m n p = 0 then (lasI (perI y m p), 0) else (0, calCheck y m n p)
theorem calCheck_0 {y m n p : Int} (h : calCheck y m n p = 0) : calB y m n = true ∧ 0 ≤ p ∧ p < n := by
  unfold calCheck at h
  split at h
  · split at h
    · rename_i h1 h2; exact ⟨h1, h2⟩
    · omega
  · omega
set_option maxHeartbeats 400000 in
theorem first_c (y m n p : Int) (w : World) (hy : inY y) (hm1 : 1 ≤ m) (hm2 : m ≤ 12) (hp0 : 0 ≤ p) (hp1 : p ≤ 200) : Calls Try.prog 157 #[.agg #[.int .i64 y, .int .i64 m, .int .i64 n], .int .i64 p] w (Quiet w (.tuple #[.int .i64 (firI (perI y m p)).1, .int .i64 (firI (perI y m p)).2])) := by
  have hf := Lib.hid (ofI_mon (n := perI y m p))
  obtain ⟨r, hr⟩ : ∃ r, firI (perI y m p) = r := ⟨_, rfl⟩
  rw [hr] at hf ⊢
  clear hr
  obtain ⟨hy1, hy2⟩ := hy
  go_enter Try.func157, Try.ntmps157
  go_upto_region 1 with fail
  have H0 := heap_alloc_new w (.cells #[.int .i64 y, .int .i64 m, .int .i64 n] 23)
  have HB := below1 w (.cells #[.int .i64 y, .int .i64 m, .int .i64 n] 23)
  generalize hW : w.alloc (Obj.cells #[.int .i64 y, .int .i64 m, .int .i64 n] 23) = W at *
  have c0 := blk_cell H0 0
  have c1 := blk_cell H0 1
  clear hW H0
  go_wp2_with fail
  refine (of_c _ _ 1 W).mono ?_
  rintro e w2 ⟨rfl, hb2⟩
  have e1 : ofI ((12 * y + m - 1 + p) / 12) ((12 * y + m - 1 + p) % 12 + 1) 1 = r := hf.out
  rw [e1]
  clear e1
  go_wp2_with fail
  go_ret2
  exact ⟨rfl, HB.trans (hb2.mono HB.size)⟩
set_option maxHeartbeats 1000000 in
theorem rfirst_c (y m n p : Int) (w : World) (hp0 : 0 ≤ p) (hp1 : p ≤ 200) : Calls Try.prog 98 #[.agg #[.int .i64 y, .int .i64 m, .int .i64 n], .int .i64 p] w (Quiet w (if inY y ∧ 1 ≤ m ∧ m ≤ 12 then .tuple #[.int .i64 (firI (perI y m p)).1, .int .i64 (firI (perI y m p)).2] else .tuple #[.int .i64 0, .int .i64 2])) := by
  by_cases hok : inY y ∧ 1 ≤ m ∧ m ≤ 12
  case pos =>
    rw [if_pos hok]
    obtain ⟨r, hr2⟩ : ∃ r, firI (perI y m p) = r := ⟨_, rfl⟩
    rw [hr2]
    have HR := Lib.hid hr2
    clear hr2
    go_enter Try.func98, Try.ntmps98
    go_upto_region 1 with fail
    have H0 := heap_alloc_new w (.cells #[.int .i64 y, .int .i64 m, .int .i64 n] 23)
    have HB := below1 w (.cells #[.int .i64 y, .int .i64 m, .int .i64 n] 23)
    have HS : w.heap.size < (w.alloc (.cells #[.int .i64 y, .int .i64 m, .int .i64 n] 23)).heap.size := blk_lt H0
    generalize hW : w.alloc (Obj.cells #[.int .i64 y, .int .i64 m, .int .i64 n] 23) = W at *
    have c0 := blk_cell H0 0
    have c1 := blk_cell H0 1
    have c2 := blk_cell H0 2
    have HH0 := Lib.hid H0
    clear hW H0
    go_wp2_with fail
    refine (rOf_c y m 1 W).mono ?_
    rintro e w2 ⟨rfl, hb2⟩
    have hbb := HB.trans (hb2.mono HB.size)
    obtain ⟨hy, hm1, hm2⟩ := hok
    have e1 : ofI y m 1 = (monI (12 * y + m - 1), 0) := by
      have := ofI_mon (n := 12 * y + m - 1)
      rw [show (12 * y + m - 1) / 12 = y from by omega, show (12 * y + m - 1) % 12 + 1 = m from by omega] at this
      rw [this]; unfold firI
      rw [show (12 * y + m - 1) / 12 = y from by omega, if_pos hy]
    rw [e1]
    have hr := rAdd_c (12 * y + m - 1) p w2 (by rw [show (12 * y + m - 1) / 12 = y from by omega]; exact hy) hp0 (by omega)
    rw [show firI (12 * y + m - 1 + p) = r from HR.out] at hr
    obtain ⟨d0, hd0⟩ : ∃ d0, monI (12 * y + m - 1) = d0 := ⟨_, rfl⟩
    rw [hd0] at hr ⊢
    clear hd0 e1
    go_wp2_with fail
    refine hr.mono ?_
    rintro e w3 ⟨rfl, hb3⟩
    go_wp2_with fail
    go_ret2
    exact ⟨rfl, hbb.trans (hb3.mono hbb.size)⟩
  case neg =>
  rw [if_neg hok]
  have e1 : ofI y m 1 = (0, 2) := by
    unfold ofI
    rw [if_pos (.inr (by unfold daysI; rw [if_neg hok]; omega))]
  have HE := Lib.hid e1
  clear e1 hok
  go_enter Try.func98, Try.ntmps98
  go_upto_region 1 with fail
  have H0 := heap_alloc_new w (.cells #[.int .i64 y, .int .i64 m, .int .i64 n] 23)
  have HB := below1 w (.cells #[.int .i64 y, .int .i64 m, .int .i64 n] 23)
  have HS : w.heap.size < (w.alloc (.cells #[.int .i64 y, .int .i64 m, .int .i64 n] 23)).heap.size := blk_lt H0
  generalize hW : w.alloc (Obj.cells #[.int .i64 y, .int .i64 m, .int .i64 n] 23) = W at *
  have c0 := blk_cell H0 0
  have c1 := blk_cell H0 1
  have c2 := blk_cell H0 2
  have HH0 := Lib.hid H0
  clear hW H0
  go_wp2_with fail
  refine (rOf_c y m 1 W).mono ?_
  rintro e w2 ⟨rfl, hb2⟩
  have hbb := HB.trans (hb2.mono HB.size)
  rw [HE.out]
  go_wp2_with fail
  go_ret2
  exact ⟨rfl, hbb⟩
set_option maxHeartbeats 1000000 in
theorem calValid_c (y m n : Int) (w : World) : Calls Try.prog 119 #[.agg #[.int .i64 y, .int .i64 m, .int .i64 n]] w (Quiet w (.bool (calB y m n))) := by
  obtain ⟨r, hr⟩ : ∃ r, calB y m n = r := ⟨_, rfl⟩
  rw [hr]
  have HR := Lib.hid hr
  clear hr
  go_enter Try.func119, Try.ntmps119
  go_upto_region 1 with fail
  have H0 := heap_alloc_new w (.cells #[.int .i64 y, .int .i64 m, .int .i64 n] 23)
  have HB := below1 w (.cells #[.int .i64 y, .int .i64 m, .int .i64 n] 23)
  have HS : w.heap.size < (w.alloc (.cells #[.int .i64 y, .int .i64 m, .int .i64 n] 23)).heap.size := blk_lt H0
  generalize hW : w.alloc (Obj.cells #[.int .i64 y, .int .i64 m, .int .i64 n] 23) = W at *
  have c0 := blk_cell H0 0
  have c1 := blk_cell H0 1
  have c2 := blk_cell H0 2
  have HH0 := Lib.hid H0
  clear hW H0
  by_cases k0 : m < 1
  case pos =>
    have hf := Lib.hid (show r = false by rw [← HR.out]; unfold calB; exact decide_eq_false (fun h => by have := h.1; omega))
    go_wp2_with fail
    go_ret
    exact ⟨by rw [hf.out]; first | done | rfl, HB⟩
  case neg =>
  by_cases k1 : 12 < m
  case pos =>
    have hf := Lib.hid (show r = false by rw [← HR.out]; unfold calB; exact decide_eq_false (fun h => by have := h.2.1; omega))
    go_wp2_with fail
    go_ret
    exact ⟨by rw [hf.out]; first | done | rfl, HB⟩
  case neg =>
  by_cases k2 : n < 1
  case pos =>
    have hf := Lib.hid (show r = false by rw [← HR.out]; unfold calB; exact decide_eq_false (fun h => by have := h.2.2.1; omega))
    go_wp2_with fail
    go_ret
    exact ⟨by rw [hf.out]; first | done | rfl, HB⟩
  case neg =>
  by_cases k3 : 120 < n
  case pos =>
    have hf := Lib.hid (show r = false by rw [← HR.out]; unfold calB; exact decide_eq_false (fun h => by have := h.2.2.2.1; omega))
    go_wp2_with fail
    go_ret
    exact ⟨by rw [hf.out]; first | done | rfl, HB⟩
  case neg =>
  by_cases k4 : y < 1900
  case pos =>
    have hf := Lib.hid (show r = false by rw [← HR.out]; unfold calB; exact decide_eq_false (fun h => by have := h.2.2.2.2.1.1; omega))
    go_wp2_with fail
    go_ret
    exact ⟨by rw [hf.out]; first | done | rfl, HB⟩
  case neg =>
  by_cases k5 : 2199 < y
  case pos =>
    have hf := Lib.hid (show r = false by rw [← HR.out]; unfold calB; exact decide_eq_false (fun h => by have := h.2.2.2.2.1.2; omega))
    go_wp2_with fail
    go_ret
    exact ⟨by rw [hf.out]; first | done | rfl, HB⟩
  case neg =>
  go_wp2_with fail
  refine (first_c y m n (n - 1) W ⟨by omega, by omega⟩ (by omega) (by omega) (by omega) (by omega)).mono ?_
  rintro e w2 ⟨rfl, hb2⟩
  have hbb := HB.trans (hb2.mono HB.size)
  by_cases hin : inY (perI y m (n - 1) / 12)
  · have hf := Lib.hid (show r = true by rw [← HR.out]; unfold calB; exact decide_eq_true ⟨by omega, by omega, by omega, by omega, ⟨by omega, by omega⟩, hin⟩)
    rw [show firI (perI y m (n - 1)) = (monI (perI y m (n - 1)), 0) from if_pos hin]
    go_wp2_with fail
    go_ret
    exact ⟨by rw [hf.out]; first | done | rfl, hbb⟩
  · have hf := Lib.hid (show r = false by rw [← HR.out]; unfold calB; exact decide_eq_false (fun h => hin h.2.2.2.2.2))
    rw [show firI (perI y m (n - 1)) = (0, 2) from if_neg hin]
    go_wp2_with fail
    go_ret
    exact ⟨by rw [hf.out]; first | done | rfl, hbb⟩
set_option maxHeartbeats 1000000 in
theorem rcalValid_c (y m n : Int) (w : World) : Calls Try.prog 125 #[.agg #[.int .i64 y, .int .i64 m, .int .i64 n]] w (Quiet w (.bool (calB y m n))) := by
  obtain ⟨r, hr⟩ : ∃ r, calB y m n = r := ⟨_, rfl⟩
  rw [hr]
  have HR := Lib.hid hr
  clear hr
  go_enter Try.func125, Try.ntmps125
  go_upto_region 1 with fail
  have H0 := heap_alloc_new w (.cells #[.int .i64 y, .int .i64 m, .int .i64 n] 23)
  have HB := below1 w (.cells #[.int .i64 y, .int .i64 m, .int .i64 n] 23)
  have HS : w.heap.size < (w.alloc (.cells #[.int .i64 y, .int .i64 m, .int .i64 n] 23)).heap.size := blk_lt H0
  generalize hW : w.alloc (Obj.cells #[.int .i64 y, .int .i64 m, .int .i64 n] 23) = W at *
  have c0 := blk_cell H0 0
  have c1 := blk_cell H0 1
  have c2 := blk_cell H0 2
  have HH0 := Lib.hid H0
  clear hW H0
  by_cases k0 : n < 1
  case pos =>
    have hf := Lib.hid (show r = false by rw [← HR.out]; unfold calB; exact decide_eq_false (fun h => by have := h.2.2.1; omega))
    go_wp2_with fail
    go_ret
    exact ⟨by rw [hf.out]; first | done | rfl, HB⟩
  case neg =>
  by_cases k1 : 120 < n
  case pos =>
    have hf := Lib.hid (show r = false by rw [← HR.out]; unfold calB; exact decide_eq_false (fun h => by have := h.2.2.2.1; omega))
    go_wp2_with fail
    go_ret
    exact ⟨by rw [hf.out]; first | done | rfl, HB⟩
  case neg =>
  go_wp2_with fail
  refine (rfirst_c y m n (n - 1) W (by omega) (by omega)).mono ?_
  rintro e w2 ⟨rfl, hb2⟩
  have hbb := HB.trans (hb2.mono HB.size)
  by_cases hok : inY y ∧ 1 ≤ m ∧ m ≤ 12
  · rw [if_pos hok]
    by_cases hin : inY (perI y m (n - 1) / 12)
    · have hf := Lib.hid (show r = true by rw [← HR.out]; unfold calB; exact decide_eq_true ⟨hok.2.1, hok.2.2, by omega, by omega, hok.1, hin⟩)
      rw [show firI (perI y m (n - 1)) = (monI (perI y m (n - 1)), 0) from if_pos hin]
      go_wp2_with fail
      go_ret
      exact ⟨by rw [hf.out]; first | done | rfl, hbb⟩
    · have hf := Lib.hid (show r = false by rw [← HR.out]; unfold calB; exact decide_eq_false (fun h => hin h.2.2.2.2.2))
      rw [show firI (perI y m (n - 1)) = (0, 2) from if_neg hin]
      go_wp2_with fail
      go_ret
      exact ⟨by rw [hf.out]; first | done | rfl, hbb⟩
  · rw [if_neg hok]
    have hf := Lib.hid (show r = false by rw [← HR.out]; unfold calB; exact decide_eq_false (fun h => hok ⟨h.2.2.2.2.1, h.1, h.2.1⟩))
    go_wp2_with fail
    go_ret
    exact ⟨by rw [hf.out]; first | done | rfl, hbb⟩
set_option maxHeartbeats 1000000 in
theorem calCheck_c (y m n p : Int) (w : World) : Calls Try.prog 156 #[.agg #[.int .i64 y, .int .i64 m, .int .i64 n], .int .i64 p] w (Quiet w (.int .i64 (calCheck y m n p))) := by
  obtain ⟨r, hr⟩ : ∃ r, calCheck y m n p = r := ⟨_, rfl⟩
  rw [hr]
  have HR := Lib.hid hr
  clear hr
  go_enter Try.func156, Try.ntmps156
  go_upto_region 1 with fail
  have H0 := heap_alloc_new w (.cells #[.int .i64 y, .int .i64 m, .int .i64 n] 23)
  have HB := below1 w (.cells #[.int .i64 y, .int .i64 m, .int .i64 n] 23)
  have HS : w.heap.size < (w.alloc (.cells #[.int .i64 y, .int .i64 m, .int .i64 n] 23)).heap.size := blk_lt H0
  generalize hW : w.alloc (Obj.cells #[.int .i64 y, .int .i64 m, .int .i64 n] 23) = W at *
  have c0 := blk_cell H0 0
  have c1 := blk_cell H0 1
  have c2 := blk_cell H0 2
  have HH0 := Lib.hid H0
  clear hW H0
  go_wp2_with fail
  refine (calValid_c y m n W).mono ?_
  rintro e w2 ⟨rfl, hb2⟩
  have hbb := HB.trans (hb2.mono HB.size)
  have HH2 := Lib.hid ((hb2.block _ HS).trans HH0.out)
  have d0 := blk_cell HH2.out 0
  have d1 := blk_cell HH2.out 1
  have d2 := blk_cell HH2.out 2
  obtain ⟨v, hv⟩ : ∃ v, calB y m n = v := ⟨_, rfl⟩
  rw [hv]
  have HV := Lib.hid hv
  clear hv c0 c1 c2
  cases v with
  | false =>
    have hf := Lib.hid (show r = 1 by rw [← HR.out]; unfold calCheck; rw [HV.out]; simp)
    go_wp2_with fail
    go_ret
    exact ⟨by rw [hf.out]; first | done | rfl, hbb⟩
  | true =>
    by_cases h1 : p < 0
    · have hf := Lib.hid (show r = 2 by rw [← HR.out]; unfold calCheck; rw [HV.out, if_pos rfl, if_neg (by omega)])
      go_wp2_with fail
      go_ret
      exact ⟨by rw [hf.out]; first | done | rfl, hbb⟩
    · by_cases h2 : n ≤ p
      · have hf := Lib.hid (show r = 2 by rw [← HR.out]; unfold calCheck; rw [HV.out, if_pos rfl, if_neg (by omega)])
        go_wp2_with fail
        go_ret
        exact ⟨by rw [hf.out]; first | done | rfl, hbb⟩
      · have hf := Lib.hid (show r = 0 by rw [← HR.out]; unfold calCheck; rw [HV.out, if_pos rfl, if_pos (by omega)])
        go_wp2_with fail
        go_ret
        exact ⟨by rw [hf.out]; first | done | rfl, hbb⟩
set_option maxHeartbeats 1000000 in
theorem rcalCheck_c (y m n p : Int) (w : World) : Calls Try.prog 97 #[.agg #[.int .i64 y, .int .i64 m, .int .i64 n], .int .i64 p] w (Quiet w (.int .i64 (calCheck y m n p))) := by
  obtain ⟨r, hr⟩ : ∃ r, calCheck y m n p = r := ⟨_, rfl⟩
  rw [hr]
  have HR := Lib.hid hr
  clear hr
  go_enter Try.func97, Try.ntmps97
  go_upto_region 1 with fail
  have H0 := heap_alloc_new w (.cells #[.int .i64 y, .int .i64 m, .int .i64 n] 23)
  have HB := below1 w (.cells #[.int .i64 y, .int .i64 m, .int .i64 n] 23)
  have HS : w.heap.size < (w.alloc (.cells #[.int .i64 y, .int .i64 m, .int .i64 n] 23)).heap.size := blk_lt H0
  generalize hW : w.alloc (Obj.cells #[.int .i64 y, .int .i64 m, .int .i64 n] 23) = W at *
  have c0 := blk_cell H0 0
  have c1 := blk_cell H0 1
  have c2 := blk_cell H0 2
  have HH0 := Lib.hid H0
  clear hW H0
  go_wp2_with fail
  refine (rcalValid_c y m n W).mono ?_
  rintro e w2 ⟨rfl, hb2⟩
  have hbb := HB.trans (hb2.mono HB.size)
  have HH2 := Lib.hid ((hb2.block _ HS).trans HH0.out)
  have d0 := blk_cell HH2.out 0
  have d1 := blk_cell HH2.out 1
  have d2 := blk_cell HH2.out 2
  obtain ⟨v, hv⟩ : ∃ v, calB y m n = v := ⟨_, rfl⟩
  rw [hv]
  have HV := Lib.hid hv
  clear hv c0 c1 c2
  cases v with
  | false =>
    have hf := Lib.hid (show r = 1 by rw [← HR.out]; unfold calCheck; rw [HV.out]; simp)
    go_wp2_with fail
    go_ret
    exact ⟨by rw [hf.out]; first | done | rfl, hbb⟩
  | true =>
    by_cases h1 : p < 0
    · have hf := Lib.hid (show r = 2 by rw [← HR.out]; unfold calCheck; rw [HV.out, if_pos rfl, if_neg (by omega)])
      go_wp2_with fail
      go_ret
      exact ⟨by rw [hf.out]; first | done | rfl, hbb⟩
    · by_cases h2 : n ≤ p
      · have hf := Lib.hid (show r = 2 by rw [← HR.out]; unfold calCheck; rw [HV.out, if_pos rfl, if_neg (by omega)])
        go_wp2_with fail
        go_ret
        exact ⟨by rw [hf.out]; first | done | rfl, hbb⟩
      · have hf := Lib.hid (show r = 0 by rw [← HR.out]; unfold calCheck; rw [HV.out, if_pos rfl, if_pos (by omega)])
        go_wp2_with fail
        go_ret
        exact ⟨by rw [hf.out]; first | done | rfl, hbb⟩
set_option maxHeartbeats 1000000 in
theorem calFirst_c (y m n p : Int) (w : World) : Calls Try.prog 112 #[.agg #[.int .i64 y, .int .i64 m, .int .i64 n], .int .i64 p] w (Quiet w (.tuple #[.int .i64 (calFirst y m n p).1, .int .i64 (calFirst y m n p).2])) := by
  obtain ⟨r, hr⟩ : ∃ r, calFirst y m n p = r := ⟨_, rfl⟩
  rw [hr]
  have HR := Lib.hid hr
  clear hr
  go_enter Try.func112, Try.ntmps112
  go_upto_region 1 with fail
  have H0 := heap_alloc_new w (.cells #[.int .i64 y, .int .i64 m, .int .i64 n] 23)
  have HB := below1 w (.cells #[.int .i64 y, .int .i64 m, .int .i64 n] 23)
  have HS : w.heap.size < (w.alloc (.cells #[.int .i64 y, .int .i64 m, .int .i64 n] 23)).heap.size := blk_lt H0
  generalize hW : w.alloc (Obj.cells #[.int .i64 y, .int .i64 m, .int .i64 n] 23) = W at *
  have c0 := blk_cell H0 0
  have c1 := blk_cell H0 1
  have c2 := blk_cell H0 2
  have HH0 := Lib.hid H0
  clear hW H0
  go_wp2_with fail
  refine (calCheck_c y m n p W).mono ?_
  rintro e w2 ⟨rfl, hb2⟩
  have hbb := HB.trans (hb2.mono HB.size)
  have HH2 := Lib.hid ((hb2.block _ HS).trans HH0.out)
  have d0 := blk_cell HH2.out 0
  have d1 := blk_cell HH2.out 1
  have d2 := blk_cell HH2.out 2
  obtain ⟨v, hv⟩ : ∃ v, calCheck y m n p = v := ⟨_, rfl⟩
  rw [hv]
  have HV := Lib.hid hv
  clear hv c0 c1 c2
  by_cases h0 : v = 0
  · subst h0
    obtain ⟨g1, g2, g3⟩ := calCheck_0 HV.out
    obtain ⟨q1, q2, q3, q4, q5, q6⟩ := calB_in g1 g2 g3
    have hf := Lib.hid (show r = (monI (perI y m p), 0) by rw [← HR.out]; unfold calFirst; rw [if_pos HV.out])
    have hfi := Lib.hid (show firI (perI y m p) = (monI (perI y m p), 0) from if_pos q6)
    have Q1 := Lib.hid q1
    clear g1 q1 q6
    go_wp2_with fail
    refine (first_c y m n p w2 Q1.out q2 q3 g2 (by omega)).mono ?_
    rintro e w3 ⟨rfl, hb3⟩
    rw [hfi.out]
    go_wp2_with fail
    go_ret2
    exact ⟨by rw [hf.out]; first | done | rfl, hbb.trans (hb3.mono hbb.size)⟩
  · have h1 : (v == 0) = false := by simpa using h0
    have h2 : (v != 0) = true := by simpa using h0
    have hf := Lib.hid (show r = (0, v) by rw [← HR.out]; unfold calFirst; rw [HV.out, if_neg h0])
    clear h0
    go_wp2_with fail
    go_ret2
    exact ⟨by rw [hf.out]; first | done | rfl, hbb⟩
set_option maxHeartbeats 1000000 in
theorem rcalFirst_c (y m n p : Int) (w : World) : Calls Try.prog 55 #[.agg #[.int .i64 y, .int .i64 m, .int .i64 n], .int .i64 p] w (Quiet w (.tuple #[.int .i64 (calFirst y m n p).1, .int .i64 (calFirst y m n p).2])) := by
  obtain ⟨r, hr⟩ : ∃ r, calFirst y m n p = r := ⟨_, rfl⟩
  rw [hr]
  have HR := Lib.hid hr
  clear hr
  go_enter Try.func55, Try.ntmps55
  go_upto_region 1 with fail
  have H0 := heap_alloc_new w (.cells #[.int .i64 y, .int .i64 m, .int .i64 n] 23)
  have HB := below1 w (.cells #[.int .i64 y, .int .i64 m, .int .i64 n] 23)
  have HS : w.heap.size < (w.alloc (.cells #[.int .i64 y, .int .i64 m, .int .i64 n] 23)).heap.size := blk_lt H0
  generalize hW : w.alloc (Obj.cells #[.int .i64 y, .int .i64 m, .int .i64 n] 23) = W at *
  have c0 := blk_cell H0 0
  have c1 := blk_cell H0 1
  have c2 := blk_cell H0 2
  have HH0 := Lib.hid H0
  clear hW H0
  go_wp2_with fail
  refine (rcalCheck_c y m n p W).mono ?_
  rintro e w2 ⟨rfl, hb2⟩
  have hbb := HB.trans (hb2.mono HB.size)
  have HH2 := Lib.hid ((hb2.block _ HS).trans HH0.out)
  have d0 := blk_cell HH2.out 0
  have d1 := blk_cell HH2.out 1
  have d2 := blk_cell HH2.out 2
  obtain ⟨v, hv⟩ : ∃ v, calCheck y m n p = v := ⟨_, rfl⟩
  rw [hv]
  have HV := Lib.hid hv
  clear hv c0 c1 c2
  by_cases h0 : v = 0
  · subst h0
    obtain ⟨g1, g2, g3⟩ := calCheck_0 HV.out
    obtain ⟨q1, q2, q3, q4, q5, q6⟩ := calB_in g1 g2 g3
    have hf := Lib.hid (show r = (monI (perI y m p), 0) by rw [← HR.out]; unfold calFirst; rw [if_pos HV.out])
    have hfi := Lib.hid (show firI (perI y m p) = (monI (perI y m p), 0) from if_pos q6)
    have Q1 := Lib.hid q1
    clear g1 q1 q6
    go_wp2_with fail
    refine (rfirst_c y m n p w2 g2 (by omega)).mono ?_
    rw [if_pos ⟨Q1.out, q2, q3⟩]
    rintro e w3 ⟨rfl, hb3⟩
    rw [hfi.out]
    go_wp2_with fail
    go_ret2
    exact ⟨by rw [hf.out]; first | done | rfl, hbb.trans (hb3.mono hbb.size)⟩
  · have h1 : (v == 0) = false := by simpa using h0
    have h2 : (v != 0) = true := by simpa using h0
    have hf := Lib.hid (show r = (0, v) by rw [← HR.out]; unfold calFirst; rw [HV.out, if_neg h0])
    clear h0
    go_wp2_with fail
    go_ret2
    exact ⟨by rw [hf.out]; first | done | rfl, hbb⟩
set_option maxHeartbeats 1000000 in
theorem calLast_c (y m n p : Int) (w : World) : Calls Try.prog 68 #[.agg #[.int .i64 y, .int .i64 m, .int .i64 n], .int .i64 p] w (Quiet w (.tuple #[.int .i64 (calLast y m n p).1, .int .i64 (calLast y m n p).2])) := by
  obtain ⟨r, hr⟩ : ∃ r, calLast y m n p = r := ⟨_, rfl⟩
  rw [hr]
  have HR := Lib.hid hr
  clear hr
  go_enter Try.func68, Try.ntmps68
  go_upto_region 1 with fail
  have H0 := heap_alloc_new w (.cells #[.int .i64 y, .int .i64 m, .int .i64 n] 23)
  have HB := below1 w (.cells #[.int .i64 y, .int .i64 m, .int .i64 n] 23)
  have HS : w.heap.size < (w.alloc (.cells #[.int .i64 y, .int .i64 m, .int .i64 n] 23)).heap.size := blk_lt H0
  generalize hW : w.alloc (Obj.cells #[.int .i64 y, .int .i64 m, .int .i64 n] 23) = W at *
  have c0 := blk_cell H0 0
  have c1 := blk_cell H0 1
  have c2 := blk_cell H0 2
  have HH0 := Lib.hid H0
  clear hW H0
  go_wp2_with fail
  refine (calFirst_c y m n p W).mono ?_
  rintro e w2 ⟨rfl, hb2⟩
  have hbb := HB.trans (hb2.mono HB.size)
  obtain ⟨v, hv⟩ : ∃ v, calCheck y m n p = v := ⟨_, rfl⟩
  have HV := Lib.hid hv
  clear c0 c1 c2
  by_cases h0 : v = 0
  · subst h0
    obtain ⟨g1, g2, g3⟩ := calCheck_0 HV.out
    obtain ⟨q1, q2, q3, q4, q5, q6⟩ := calB_in g1 g2 g3
    have hf := Lib.hid (show r = (lasI (perI y m p), 0) by rw [← HR.out]; unfold calLast; rw [if_pos HV.out])
    rw [show calFirst y m n p = (monI (perI y m p), 0) from by unfold calFirst; rw [if_pos hv]]
    have hin := monI_in q6
    have hciv := Lib.hid (monI_civ q6)
    have hlas := Lib.hid (show lasI (perI y m p) = monI (perI y m p) + daysI (perI y m p / 12) (perI y m p % 12 + 1) - 1 from rfl)
    obtain ⟨d0, hd0⟩ : ∃ d0, monI (perI y m p) = d0 := ⟨_, rfl⟩
    rw [hd0] at hin hciv hlas ⊢
    have hi1 := hin.1
    have hi2 := hin.2
    have HIN := Lib.hid hin
    clear g1 q1 q6 hv hd0 hin
    go_wp2_with fail
    refine (civil_c d0 w2 (by unfold intBd; omega)).mono ?_
    rintro e w3 ⟨y1, m1, d1, k, rfl, hb3, hcase⟩
    obtain ⟨hk, hcv⟩ : k = 0 ∧ CivP d0 y1 m1 d1 := by
      rcases hcase with ⟨_, h1, h2⟩ | ⟨h1, _⟩
      · exact ⟨h1, h2⟩
      · exact absurd HIN.out h1
    obtain ⟨e1, e2, e3⟩ := hcv.uniq hciv.out
    rw [← e1, ← e2] at hlas
    have HC := Lib.hid hcv
    subst hk
    clear hcase hciv e1 e2 e3 hcv
    go_wp2_with fail
    refine (days_c y1 m1 w3).mono ?_
    rintro e w4 ⟨rfl, hb4⟩
    have hD := daysI_le y1 m1
    obtain ⟨D, hDD⟩ : ∃ D, daysI y1 m1 = D := ⟨_, rfl⟩
    rw [hDD] at hD hlas ⊢
    clear hDD
    go_wp2_with fail
    go_ret2
    exact ⟨by rw [hf.out, hlas.out]; first | done | rfl, hbb.trans ((hb3.trans (hb4.mono hb3.size)).mono hbb.size)⟩
  · have h1 : (v == 0) = false := by simpa using h0
    have h2 : (v != 0) = true := by simpa using h0
    have hf := Lib.hid (show r = (0, v) by rw [← HR.out]; unfold calLast; rw [hv, if_neg h0])
    rw [show calFirst y m n p = (0, v) from by unfold calFirst; rw [hv, if_neg h0]]
    clear h0 hv
    go_wp2_with fail
    go_ret2
    exact ⟨by rw [hf.out]; first | done | rfl, hbb⟩
set_option maxHeartbeats 1000000 in
theorem rcalLast_c (y m n p : Int) (w : World) : Calls Try.prog 56 #[.agg #[.int .i64 y, .int .i64 m, .int .i64 n], .int .i64 p] w (Quiet w (.tuple #[.int .i64 (calLast y m n p).1, .int .i64 (calLast y m n p).2])) := by
  obtain ⟨r, hr⟩ : ∃ r, calLast y m n p = r := ⟨_, rfl⟩
  rw [hr]
  have HR := Lib.hid hr
  clear hr
  go_enter Try.func56, Try.ntmps56
  go_upto_region 1 with fail
  have H0 := heap_alloc_new w (.cells #[.int .i64 y, .int .i64 m, .int .i64 n] 23)
  have HB := below1 w (.cells #[.int .i64 y, .int .i64 m, .int .i64 n] 23)
  have HS : w.heap.size < (w.alloc (.cells #[.int .i64 y, .int .i64 m, .int .i64 n] 23)).heap.size := blk_lt H0
  generalize hW : w.alloc (Obj.cells #[.int .i64 y, .int .i64 m, .int .i64 n] 23) = W at *
  have c0 := blk_cell H0 0
  have c1 := blk_cell H0 1
  have c2 := blk_cell H0 2
  have HH0 := Lib.hid H0
  clear hW H0
  go_wp2_with fail
  refine (rcalFirst_c y m n p W).mono ?_
  rintro e w2 ⟨rfl, hb2⟩
  have hbb := HB.trans (hb2.mono HB.size)
  obtain ⟨v, hv⟩ : ∃ v, calCheck y m n p = v := ⟨_, rfl⟩
  have HV := Lib.hid hv
  clear c0 c1 c2
  by_cases h0 : v = 0
  · subst h0
    obtain ⟨g1, g2, g3⟩ := calCheck_0 HV.out
    obtain ⟨q1, q2, q3, q4, q5, q6⟩ := calB_in g1 g2 g3
    have hf := Lib.hid (show r = (lasI (perI y m p), 0) by rw [← HR.out]; unfold calLast; rw [if_pos HV.out])
    rw [show calFirst y m n p = (monI (perI y m p), 0) from by unfold calFirst; rw [if_pos hv]]
    have hin := monI_in q6
    have hciv := Lib.hid (monI_civ q6)
    have hlas := Lib.hid (show lasI (perI y m p) = monI (perI y m p) + daysI (perI y m p / 12) (perI y m p % 12 + 1) - 1 from rfl)
    obtain ⟨d0, hd0⟩ : ∃ d0, monI (perI y m p) = d0 := ⟨_, rfl⟩
    rw [hd0] at hin hciv hlas ⊢
    have hi1 := hin.1
    have hi2 := hin.2
    have HIN := Lib.hid hin
    clear g1 q1 q6 hv hd0 hin
    go_wp2_with fail
    refine (rCivil_c d0 w2 (by unfold intBd; omega)).mono ?_
    rintro e w3 ⟨y1, m1, d1, k, rfl, hb3, hcase⟩
    obtain ⟨hk, hcv⟩ : k = 0 ∧ CivP d0 y1 m1 d1 := by
      rcases hcase with ⟨_, h1, h2⟩ | ⟨h1, _⟩
      · exact ⟨h1, h2⟩
      · exact absurd HIN.out h1
    obtain ⟨e1, e2, e3⟩ := hcv.uniq hciv.out
    rw [← e1, ← e2] at hlas
    have HC := Lib.hid hcv
    subst hk
    clear hcase hciv e1 e2 e3 hcv
    go_wp2_with fail
    refine (rDays_c y1 m1 w3).mono ?_
    rintro e w4 ⟨rfl, hb4⟩
    have hD := daysI_le y1 m1
    obtain ⟨D, hDD⟩ : ∃ D, daysI y1 m1 = D := ⟨_, rfl⟩
    rw [hDD] at hD hlas ⊢
    clear hDD
    go_wp2_with fail
    go_ret2
    exact ⟨by rw [hf.out, hlas.out]; first | done | rfl, hbb.trans ((hb3.trans (hb4.mono hb3.size)).mono hbb.size)⟩
  · have h1 : (v == 0) = false := by simpa using h0
    have h2 : (v != 0) = true := by simpa using h0
    have hf := Lib.hid (show r = (0, v) by rw [← HR.out]; unfold calLast; rw [hv, if_neg h0])
    rw [show calFirst y m n p = (0, v) from by unfold calFirst; rw [hv, if_neg h0]]
    clear h0 hv
    go_wp2_with fail
    go_ret2
    exact ⟨by rw [hf.out]; first | done | rfl, hbb⟩
end Go.Proofs.Ytnigokmjehemaaa
