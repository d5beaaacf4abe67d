/- Texts: currencies and names, in the program and in the reference. Written by gen_b1.py. -/
import Derived.Test.YtnigokmjehemaaaProg
import Derived.Test.YtnigokmjehemaaaB0Base
namespace Go.Proofs.Ytnigokmjehemaaa
open Go Go.RowKit
set_option linter.unusedVariables false
set_option linter.unusedSimpArgs false
attribute [local go_sem ↓] Go.wp_at_zero Go.wp_at_succ
/-- The k-th byte. -/
def bat (s : ByteArray) (k : Nat) : Nat := (s.data.getD k 0).toNat
theorem bat_eq {s : ByteArray} {k : Nat} (h : k < s.size) : bat s k = (s[k]).toNat := by
  have h' : k < s.data.size := h
  unfold bat
  rw [Array.getD_eq_getD_getElem?, Array.getElem?_eq_getElem h']
  rfl
theorem all_range_false {n k : Nat} {p : Nat → Bool} (hk : k < n) (hp : p k = false) : (List.range n).all p = false := by
  rw [List.all_eq_false]
  exact ⟨k, List.mem_range.2 hk, by simp [hp]⟩
theorem all_range_true {n : Nat} {p : Nat → Bool} (h : ∀ k, k < n → p k = true) : (List.range n).all p = true := by
  rw [List.all_eq_true]
  exact fun k hk => h k (List.mem_range.1 hk)
def curC (c : Nat) : Bool := decide (65 ≤ c ∧ c ≤ 90)
def curB (s : ByteArray) : Bool := (List.range s.size).all (fun k => curC (bat s k)) && s.size == 3
def letB (c : Nat) : Bool := decide (97 ≤ c ∧ c ≤ 122) || decide (65 ≤ c ∧ c ≤ 90)
def nameC (i c : Nat) : Bool := letB c || (i != 0 && (c == 45 || decide (48 ≤ c ∧ c ≤ 57)))
def nameB (s : ByteArray) : Bool := (List.range s.size).all (fun k => nameC k (bat s k)) && decide (1 ≤ s.size ∧ s.size ≤ 16)
set_option maxHeartbeats 400000 in
theorem currency_c (s : ByteArray) (w : World) (hs : s.size ≤ 1000) : Calls Try.prog 118 #[.string s] w (Quiet w (.bool (curB s))) := by
  obtain ⟨r, hr⟩ : ∃ r, curB s = r := ⟨_, rfl⟩
  rw [hr]
  have HR := Lib.hid hr
  clear hr
  go_enter Try.func118, Try.ntmps118
  go_wp2_with fail
  go_loopw [6] (fun i wr => ∃ k : Nat, k ≤ s.size ∧ i = .int .i64 (k : Int) ∧ Below w.heap.size w wr ∧ ∀ j, j < k → curC (bat s j) = true) (fun i _ => s.size - (intOf i).toNat)
  case atStart => exact ⟨0, by omega, rfl, Below.refl _ _, fun j hj => by omega⟩
  case round =>
    obtain ⟨k, hk, rfl, hb, hall⟩ := hrel
    have HA := Lib.hid hall
    clear hall
    by_cases hlt : k < s.size
    · have hltI : (k : Int) < (s.size : Int) := by omega
      have HB := Lib.hid (bat_eq hlt)
      by_cases hc : curC (bat s k) = true
      · have hc1 : 65 ≤ (s[k].toNat : Int) ∧ (s[k].toNat : Int) ≤ 90 := by
          have := hc
          rw [HB.out] at this
          simp only [curC, decide_eq_true_eq] at this
          omega
        have hc2 := hc1.1
        have hc3 := hc1.2
        have HC := Lib.hid hc
        clear hc
        go_wp2_with fail
        go_roundw
        case rel => exact ⟨k + 1, by omega, by go_num, hb, fun j hj => by
          rcases Nat.lt_or_ge j k with h | h
          · exact HA.out j h
          · have : j = k := by omega
            subst this; exact HC.out⟩
        case measure =>
          have e : wrap64 ((k : Int) + 1) = ((k + 1 : Nat) : Int) := by unfold wrap64; omega
          simp only [intOf, e]
          omega
      · have hrf := Lib.hid (show r = false by
          rw [← HR.out]; unfold curB
          rw [all_range_false hlt (by simpa using hc)]; rfl)
        have hc1 : ¬ (65 ≤ (s[k].toNat : Int) ∧ (s[k].toNat : Int) ≤ 90) := by
          have := hc
          rw [HB.out] at this
          simp only [curC, decide_eq_true_eq] at this
          omega
        clear hc
        by_cases hc2 : (s[k].toNat : Int) < 65
        · go_wp2_with fail
          go_ret
          exact ⟨by rw [hrf.out]; first | done | rfl, hb⟩
        · have hc3 : 90 < (s[k].toNat : Int) := by omega
          go_wp2_with fail
          go_ret
          exact ⟨by rw [hrf.out]; first | done | rfl, hb⟩
    · have hltI : ¬ (k : Int) < (s.size : Int) := by omega
      have hks : k = s.size := by omega
      have hrf := Lib.hid (show r = (s.size == 3) by
        rw [← HR.out]; unfold curB
        rw [all_range_true (fun j hj => HA.out j (by omega)), Bool.true_and])
      clear hks
      by_cases h3 : s.size = 3
      · have h3I : ((s.size : Int) == 3) = true := by simp; omega
        have HH := Lib.hid h3
        clear h3
        go_wp2_with fail
        go_ret
        exact ⟨by rw [hrf.out, HH.out]; rfl, hb⟩
      · have h3I : ((s.size : Int) == 3) = false := by simp; omega
        have HH := Lib.hid (show (s.size == 3) = false by simpa using h3)
        clear h3
        go_wp2_with fail
        go_ret
        exact ⟨by rw [hrf.out, HH.out]; first | done | rfl, hb⟩
set_option maxHeartbeats 400000 in
theorem rCurrency_c (s : ByteArray) (w : World) (hs : s.size ≤ 1000) : Calls Try.prog 124 #[.string s] w (Quiet w (.bool (curB s))) := by
  obtain ⟨r, hr⟩ : ∃ r, curB s = r := ⟨_, rfl⟩
  rw [hr]
  have HR := Lib.hid hr
  clear hr
  go_enter Try.func124, Try.ntmps124
  go_wp2_with fail
  go_loopw [3] (fun i wr => ∃ k : Nat, k ≤ s.size ∧ i = .int .i64 (k : Int) ∧ Below w.heap.size w wr ∧ ∀ j, j < k → curC (bat s j) = true) (fun i _ => s.size - (intOf i).toNat)
  case atStart => exact ⟨0, by omega, rfl, Below.refl _ _, fun j hj => by omega⟩
  case round =>
    obtain ⟨k, hk, rfl, hb, hall⟩ := hrel
    have HA := Lib.hid hall
    clear hall
    by_cases hlt : k < s.size
    · have hltI : (k : Int) < (s.size : Int) := by omega
      have HB := Lib.hid (bat_eq hlt)
      by_cases hc : curC (bat s k) = true
      · have hc1 : 65 ≤ (s[k].toNat : Int) ∧ (s[k].toNat : Int) ≤ 90 := by
          have := hc
          rw [HB.out] at this
          simp only [curC, decide_eq_true_eq] at this
          omega
        have hc2 := hc1.1
        have hc3 := hc1.2
        have HC := Lib.hid hc
        clear hc
        go_wp2_with fail
        go_roundw
        case rel => exact ⟨k + 1, by omega, by go_num, hb, fun j hj => by
          rcases Nat.lt_or_ge j k with h | h
          · exact HA.out j h
          · have : j = k := by omega
            subst this; exact HC.out⟩
        case measure =>
          have e : wrap64 ((k : Int) + 1) = ((k + 1 : Nat) : Int) := by unfold wrap64; omega
          simp only [intOf, e]
          omega
      · have hrf := Lib.hid (show r = false by
          rw [← HR.out]; unfold curB
          rw [all_range_false hlt (by simpa using hc)]; rfl)
        have hc1 : ¬ (65 ≤ (s[k].toNat : Int) ∧ (s[k].toNat : Int) ≤ 90) := by
          have := hc
          rw [HB.out] at this
          simp only [curC, decide_eq_true_eq] at this
          omega
        clear hc
        by_cases hc2 : (s[k].toNat : Int) < 65
        · go_wp2_with fail
          go_ret
          exact ⟨by rw [hrf.out]; first | done | rfl, hb⟩
        · have hc3 : 90 < (s[k].toNat : Int) := by omega
          go_wp2_with fail
          go_ret
          exact ⟨by rw [hrf.out]; first | done | rfl, hb⟩
    · have hltI : ¬ (k : Int) < (s.size : Int) := by omega
      have hks : k = s.size := by omega
      have hrf := Lib.hid (show r = (s.size == 3) by
        rw [← HR.out]; unfold curB
        rw [all_range_true (fun j hj => HA.out j (by omega)), Bool.true_and])
      clear hks
      by_cases h3 : s.size = 3
      · have h3I : ((s.size : Int) == 3) = true := by simp; omega
        have HH := Lib.hid h3
        clear h3
        go_wp2_with fail
        go_ret
        exact ⟨by rw [hrf.out, HH.out]; rfl, hb⟩
      · have h3I : ((s.size : Int) == 3) = false := by simp; omega
        have HH := Lib.hid (show (s.size == 3) = false by simpa using h3)
        clear h3
        go_wp2_with fail
        go_ret
        exact ⟨by rw [hrf.out, HH.out]; first | done | rfl, hb⟩
set_option maxHeartbeats 400000 in
theorem letter_c (n : Nat) (w : World) : Calls Try.prog 192 #[.int .u8 (n : Int)] w (Quiet w (.bool (letB n))) := by
  obtain ⟨r, hr⟩ : ∃ r, letB n = r := ⟨_, rfl⟩
  rw [hr]
  have HR := Lib.hid hr
  clear hr
  go_enter Try.func192, Try.ntmps192
  by_cases h1 : 97 ≤ n
  · by_cases h2 : n ≤ 122
    · have h1I : 97 ≤ (n : Int) := by omega
      have h2I : (n : Int) ≤ 122 := by omega
      go_wp2_with fail
      go_ret
      exact ⟨by rw [← HR.out]; simp [letB, h1, h2]; try rfl, Below.refl _ _⟩
    · have h1I : 97 ≤ (n : Int) := by omega
      have h2I : ¬ (n : Int) ≤ 122 := by omega
      have h3I : 65 ≤ (n : Int) := by omega
      have h4I : ¬ (n : Int) ≤ 90 := by omega
      go_wp2_with fail
      go_ret
      exact ⟨by rw [← HR.out]; simp [letB]; omega, Below.refl _ _⟩
  · have h1I : ¬ 97 ≤ (n : Int) := by omega
    by_cases h3 : 65 ≤ n
    · have h3I : 65 ≤ (n : Int) := by omega
      by_cases h4 : n ≤ 90
      · have h4I : (n : Int) ≤ 90 := by omega
        go_wp2_with fail
        go_ret
        exact ⟨by rw [← HR.out]; simp [letB, h3, h4], Below.refl _ _⟩
      · have h4I : ¬ (n : Int) ≤ 90 := by omega
        go_wp2_with fail
        go_ret
        exact ⟨by rw [← HR.out]; simp [letB]; omega, Below.refl _ _⟩
    · have h3I : ¬ 65 ≤ (n : Int) := by omega
      go_wp2_with fail
      go_ret
      exact ⟨by rw [← HR.out]; simp [letB]; omega, Below.refl _ _⟩
set_option maxHeartbeats 400000 in
theorem rLetter_c (n : Nat) (w : World) : Calls Try.prog 173 #[.int .u8 (n : Int)] w (Quiet w (.bool (letB n))) := by
  obtain ⟨r, hr⟩ : ∃ r, letB n = r := ⟨_, rfl⟩
  rw [hr]
  have HR := Lib.hid hr
  clear hr
  go_enter Try.func173, Try.ntmps173
  by_cases h1 : 97 ≤ n
  · by_cases h2 : n ≤ 122
    · have h1I : 97 ≤ (n : Int) := by omega
      have h2I : (n : Int) ≤ 122 := by omega
      go_wp2_with fail
      go_ret
      exact ⟨by rw [← HR.out]; simp [letB, h1, h2]; try rfl, Below.refl _ _⟩
    · have h1I : 97 ≤ (n : Int) := by omega
      have h2I : ¬ (n : Int) ≤ 122 := by omega
      have h3I : 65 ≤ (n : Int) := by omega
      have h4I : ¬ (n : Int) ≤ 90 := by omega
      go_wp2_with fail
      go_ret
      exact ⟨by rw [← HR.out]; simp [letB]; omega, Below.refl _ _⟩
  · have h1I : ¬ 97 ≤ (n : Int) := by omega
    by_cases h3 : 65 ≤ n
    · have h3I : 65 ≤ (n : Int) := by omega
      by_cases h4 : n ≤ 90
      · have h4I : (n : Int) ≤ 90 := by omega
        go_wp2_with fail
        go_ret
        exact ⟨by rw [← HR.out]; simp [letB, h3, h4], Below.refl _ _⟩
      · have h4I : ¬ (n : Int) ≤ 90 := by omega
        go_wp2_with fail
        go_ret
        exact ⟨by rw [← HR.out]; simp [letB]; omega, Below.refl _ _⟩
    · have h3I : ¬ 65 ≤ (n : Int) := by omega
      go_wp2_with fail
      go_ret
      exact ⟨by rw [← HR.out]; simp [letB]; omega, Below.refl _ _⟩
set_option maxHeartbeats 1000000 in
theorem name_c (s : ByteArray) (w : World) (hs : s.size ≤ 1000) : Calls Try.prog 166 #[.string s] w (Quiet w (.bool (nameB s))) := by
  obtain ⟨r, hr⟩ : ∃ r, nameB s = r := ⟨_, rfl⟩
  rw [hr]
  have HR := Lib.hid hr
  clear hr
  go_enter Try.func166, Try.ntmps166
  go_wp2_with fail
  go_loopw [7] (fun i wr => ∃ k : Nat, k ≤ s.size ∧ i = .int .i64 (k : Int) ∧ Below w.heap.size w wr ∧ ∀ j, j < k → nameC j (bat s j) = true) (fun i _ => s.size - (intOf i).toNat)
  case atStart => exact ⟨0, by omega, rfl, Below.refl _ _, fun j hj => by omega⟩
  case round =>
    obtain ⟨k, hk, rfl, hb, hall⟩ := hrel
    have HA := Lib.hid hall
    clear hall
    by_cases hlt : k < s.size
    · have hltI : (k : Int) < (s.size : Int) := by omega
      have HB := Lib.hid (bat_eq hlt)
      go_wp2_with fail
      refine (letter_c s[k].toNat wr).mono ?_
      rintro e w2 ⟨rfl, hb1⟩
      have hb2 := hb.trans (hb1.mono hb.size)
      obtain ⟨lb, hlb⟩ : ∃ lb, letB s[k].toNat = lb := ⟨_, rfl⟩
      rw [hlb]
      have HLB := Lib.hid hlb
      clear hlb hb hb1
      have bad : nameC k (bat s k) = false → r = false := fun h => by
        rw [← HR.out]; unfold nameB
        rw [all_range_false hlt h]; rfl
      have HBAD := Lib.hid bad
      clear bad
      cases lb with
      | true =>
        have HC := Lib.hid (show nameC k (bat s k) = true by rw [HB.out]; unfold nameC; rw [HLB.out]; rfl)
        go_wp2_with fail
        go_roundw
        case rel => exact ⟨k + 1, by omega, by go_num, hb2, fun j hj => by
          rcases Nat.lt_or_ge j k with h | h
          · exact HA.out j h
          · have : j = k := by omega
            subst this; exact HC.out⟩
        case measure =>
          have e : wrap64 ((k : Int) + 1) = ((k + 1 : Nat) : Int) := by unfold wrap64; omega
          simp only [intOf, e]
          omega
      | false =>
        by_cases hk0 : k = 0
        · subst hk0
          have HF := Lib.hid (HBAD.out (by rw [HB.out]; unfold nameC; rw [HLB.out]; rfl))
          go_wp2_with fail
          go_ret
          exact ⟨by rw [HF.out]; first | done | rfl, hb2⟩
        · have hk1 : ((k : Int) == 0) = false := by simp; omega
          have HK0 := Lib.hid (show (k != 0) = true by simpa using hk0)
          clear hk0
          by_cases h45 : s[k].toNat = 45
          · have h45I : ((s[k].toNat : Int) == 45) = true := by simp; omega
            have h45J : ((s[k].toNat : Int) != 45) = false := by simp; omega
            have HC := Lib.hid (show nameC k (bat s k) = true by rw [HB.out]; unfold nameC; rw [HLB.out, HK0.out, h45]; rfl)
            clear h45
            go_wp2_with fail
            go_roundw
            case rel => exact ⟨k + 1, by omega, by go_num, hb2, fun j hj => by
              rcases Nat.lt_or_ge j k with h | h
              · exact HA.out j h
              · have : j = k := by omega
                subst this; exact HC.out⟩
            case measure =>
              have e : wrap64 ((k : Int) + 1) = ((k + 1 : Nat) : Int) := by unfold wrap64; omega
              simp only [intOf, e]
              omega
          · have h45I : ((s[k].toNat : Int) == 45) = false := by simp; omega
            have h45J : ((s[k].toNat : Int) != 45) = true := by simp; omega
            by_cases h48 : 48 ≤ s[k].toNat ∧ s[k].toNat ≤ 57
            · have h48I : ¬ (s[k].toNat : Int) < 48 := by omega
              have h57I : ¬ 57 < (s[k].toNat : Int) := by omega
              have HC := Lib.hid (show nameC k (bat s k) = true by rw [HB.out]; unfold nameC; rw [HLB.out, HK0.out]; simp [h48])
              clear h45 h48
              go_wp2_with fail
              go_roundw
              case rel => exact ⟨k + 1, by omega, by go_num, hb2, fun j hj => by
                rcases Nat.lt_or_ge j k with h | h
                · exact HA.out j h
                · have : j = k := by omega
                  subst this; exact HC.out⟩
              case measure =>
                have e : wrap64 ((k : Int) + 1) = ((k + 1 : Nat) : Int) := by unfold wrap64; omega
                simp only [intOf, e]
                omega
            · have HF := Lib.hid (HBAD.out (by rw [HB.out]; unfold nameC; rw [HLB.out, HK0.out]; simp [h45]; omega))
              by_cases h4 : s[k].toNat < 48
              · have h48I : (s[k].toNat : Int) < 48 := by omega
                clear h45 h48
                go_wp2_with fail
                go_ret
                exact ⟨by rw [HF.out]; first | done | rfl, hb2⟩
              · have h48I : ¬ (s[k].toNat : Int) < 48 := by omega
                have h57I : 57 < (s[k].toNat : Int) := by omega
                clear h45 h48
                go_wp2_with fail
                go_ret
                exact ⟨by rw [HF.out]; first | done | rfl, hb2⟩
    · have hltI : ¬ (k : Int) < (s.size : Int) := by omega
      have hrf := Lib.hid (show r = decide (1 ≤ s.size ∧ s.size ≤ 16) by
        rw [← HR.out]; unfold nameB
        rw [all_range_true (fun j hj => HA.out j (by omega)), Bool.true_and])
      by_cases h1 : 1 ≤ s.size
      · have h1I : 1 ≤ (s.size : Int) := by omega
        by_cases h2 : s.size ≤ 16
        · have h2I : (s.size : Int) ≤ 16 := by omega
          go_wp2_with fail
          go_ret
          exact ⟨by rw [hrf.out, decide_eq_true ⟨h1, h2⟩]; first | done | rfl, hb⟩
        · have h2I : ¬ (s.size : Int) ≤ 16 := by omega
          go_wp2_with fail
          go_ret
          exact ⟨by rw [hrf.out, decide_eq_false (fun h => h2 h.2)]; first | done | rfl, hb⟩
      · have h1I : ¬ 1 ≤ (s.size : Int) := by omega
        go_wp2_with fail
        go_ret
        exact ⟨by rw [hrf.out, decide_eq_false (fun h => h1 h.1)]; first | done | rfl, hb⟩
set_option maxHeartbeats 1000000 in
theorem rName_c (s : ByteArray) (w : World) (hs : s.size ≤ 1000) : Calls Try.prog 130 #[.string s] w (Quiet w (.bool (nameB s))) := by
  obtain ⟨r, hr⟩ : ∃ r, nameB s = r := ⟨_, rfl⟩
  rw [hr]
  have HR := Lib.hid hr
  clear hr
  go_enter Try.func130, Try.ntmps130
  go_wp2_with fail
  go_loopw [3] (fun i wr => ∃ k : Nat, k ≤ s.size ∧ i = .int .i64 (k : Int) ∧ Below w.heap.size w wr ∧ ∀ j, j < k → nameC j (bat s j) = true) (fun i _ => s.size - (intOf i).toNat)
  case atStart => exact ⟨0, by omega, rfl, Below.refl _ _, fun j hj => by omega⟩
  case round =>
    obtain ⟨k, hk, rfl, hb, hall⟩ := hrel
    have HA := Lib.hid hall
    clear hall
    by_cases hlt : k < s.size
    · have hltI : (k : Int) < (s.size : Int) := by omega
      have HB := Lib.hid (bat_eq hlt)
      go_wp2_with fail
      refine (rLetter_c s[k].toNat wr).mono ?_
      rintro e w2 ⟨rfl, hb1⟩
      have hb2 := hb.trans (hb1.mono hb.size)
      obtain ⟨lb, hlb⟩ : ∃ lb, letB s[k].toNat = lb := ⟨_, rfl⟩
      rw [hlb]
      have HLB := Lib.hid hlb
      clear hlb hb hb1
      have bad : nameC k (bat s k) = false → r = false := fun h => by
        rw [← HR.out]; unfold nameB
        rw [all_range_false hlt h]; rfl
      have HBAD := Lib.hid bad
      clear bad
      cases lb with
      | true =>
        have HC := Lib.hid (show nameC k (bat s k) = true by rw [HB.out]; unfold nameC; rw [HLB.out]; rfl)
        go_wp2_with fail
        go_roundw
        case rel => exact ⟨k + 1, by omega, by go_num, hb2, fun j hj => by
          rcases Nat.lt_or_ge j k with h | h
          · exact HA.out j h
          · have : j = k := by omega
            subst this; exact HC.out⟩
        case measure =>
          have e : wrap64 ((k : Int) + 1) = ((k + 1 : Nat) : Int) := by unfold wrap64; omega
          simp only [intOf, e]
          omega
      | false =>
        by_cases hk0 : k = 0
        · subst hk0
          have HF := Lib.hid (HBAD.out (by rw [HB.out]; unfold nameC; rw [HLB.out]; rfl))
          go_wp2_with fail
          go_ret
          exact ⟨by rw [HF.out]; first | done | rfl, hb2⟩
        · have hk1 : ((k : Int) == 0) = false := by simp; omega
          have HK0 := Lib.hid (show (k != 0) = true by simpa using hk0)
          clear hk0
          by_cases h45 : s[k].toNat = 45
          · have h45I : ((s[k].toNat : Int) == 45) = true := by simp; omega
            have h45J : ((s[k].toNat : Int) != 45) = false := by simp; omega
            have HC := Lib.hid (show nameC k (bat s k) = true by rw [HB.out]; unfold nameC; rw [HLB.out, HK0.out, h45]; rfl)
            clear h45
            go_wp2_with fail
            go_roundw
            case rel => exact ⟨k + 1, by omega, by go_num, hb2, fun j hj => by
              rcases Nat.lt_or_ge j k with h | h
              · exact HA.out j h
              · have : j = k := by omega
                subst this; exact HC.out⟩
            case measure =>
              have e : wrap64 ((k : Int) + 1) = ((k + 1 : Nat) : Int) := by unfold wrap64; omega
              simp only [intOf, e]
              omega
          · have h45I : ((s[k].toNat : Int) == 45) = false := by simp; omega
            have h45J : ((s[k].toNat : Int) != 45) = true := by simp; omega
            by_cases h48 : 48 ≤ s[k].toNat ∧ s[k].toNat ≤ 57
            · have h48I : ¬ (s[k].toNat : Int) < 48 := by omega
              have h57I : ¬ 57 < (s[k].toNat : Int) := by omega
              have HC := Lib.hid (show nameC k (bat s k) = true by rw [HB.out]; unfold nameC; rw [HLB.out, HK0.out]; simp [h48])
              clear h45 h48
              go_wp2_with fail
              go_roundw
              case rel => exact ⟨k + 1, by omega, by go_num, hb2, fun j hj => by
                rcases Nat.lt_or_ge j k with h | h
                · exact HA.out j h
                · have : j = k := by omega
                  subst this; exact HC.out⟩
              case measure =>
                have e : wrap64 ((k : Int) + 1) = ((k + 1 : Nat) : Int) := by unfold wrap64; omega
                simp only [intOf, e]
                omega
            · have HF := Lib.hid (HBAD.out (by rw [HB.out]; unfold nameC; rw [HLB.out, HK0.out]; simp [h45]; omega))
              by_cases h4 : s[k].toNat < 48
              · have h48I : (s[k].toNat : Int) < 48 := by omega
                clear h45 h48
                go_wp2_with fail
                go_ret
                exact ⟨by rw [HF.out]; first | done | rfl, hb2⟩
              · have h48I : ¬ (s[k].toNat : Int) < 48 := by omega
                have h57I : 57 < (s[k].toNat : Int) := by omega
                clear h45 h48
                go_wp2_with fail
                go_ret
                exact ⟨by rw [HF.out]; first | done | rfl, hb2⟩
    · have hltI : ¬ (k : Int) < (s.size : Int) := by omega
      have hrf := Lib.hid (show r = decide (1 ≤ s.size ∧ s.size ≤ 16) by
        rw [← HR.out]; unfold nameB
        rw [all_range_true (fun j hj => HA.out j (by omega)), Bool.true_and])
      by_cases h1 : 1 ≤ s.size
      · have h1I : 1 ≤ (s.size : Int) := by omega
        by_cases h2 : s.size ≤ 16
        · have h2I : (s.size : Int) ≤ 16 := by omega
          go_wp2_with fail
          go_ret
          exact ⟨by rw [hrf.out, decide_eq_true ⟨h1, h2⟩]; first | done | rfl, hb⟩
        · have h2I : ¬ (s.size : Int) ≤ 16 := by omega
          go_wp2_with fail
          go_ret
          exact ⟨by rw [hrf.out, decide_eq_false (fun h => h2 h.2)]; first | done | rfl, hb⟩
      · have h1I : ¬ 1 ≤ (s.size : Int) := by omega
        go_wp2_with fail
        go_ret
        exact ⟨by rw [hrf.out, decide_eq_false (fun h => h1 h.1)]; first | done | rfl, hb⟩
end Go.Proofs.Ytnigokmjehemaaa
