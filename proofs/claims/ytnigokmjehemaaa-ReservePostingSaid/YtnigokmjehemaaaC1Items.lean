/- Items: their sum, the reserve; amounts of money. Written by gen_c1.py. -/
import Derived.Test.YtnigokmjehemaaaProg
import Derived.Test.YtnigokmjehemaaaB32Few
namespace Go.Proofs.Ytnigokmjehemaaa
open Go Go.RowKit
set_option linter.unusedVariables false
set_option linter.unusedSimpArgs false
set_option maxRecDepth 4000
attribute [local go_sem ↓] Go.wp_at_zero Go.wp_at_succ
abbrev itemL (x : XItem) : List Value := [.int .i64 x.ref.entry, .int .i64 x.ref.line, .int .i64 x.entity, .int .i64 x.account, .int .i64 x.partner, .int .i64 x.date, .int .i64 x.amount]
theorem ItemC.lit {w : World} {Q : Nat → Prop} {cs : List Value} {x : XItem} (h : ItemC w Q cs x) : cs = itemL x := by
  obtain ⟨c0, c1, c2, c3, c4, c5, rfl, h0, ⟨rfl, h1⟩, ⟨rfl, h2⟩, ⟨rfl, h3⟩, ⟨rfl, h4⟩, ⟨rfl, h5⟩⟩ := h
  obtain ⟨d0, d1, rfl, ⟨rfl, _⟩, ⟨rfl, _⟩⟩ := h0
  rfl
theorem info_item : (Try.prog.info? 110).map (·.size) = some 7 := by kernel_rfl
def sumI (l : List XItem) : Int := (l.map (·.amount)).sum
/-- Few items, with amounts of at most 2^50. -/
def smallI (l : List XItem) : Prop := (∀ x ∈ l, -1125899906842624 ≤ x.amount ∧ x.amount ≤ 1125899906842624) ∧ l.length ≤ 300
theorem sumI_succ {l : List XItem} {k : Nat} (hk : k < l.length) : sumI (l.take (k + 1)) = sumI (l.take k) + l[k].amount := by
  unfold sumI
  rw [List.take_add_one, List.getElem?_eq_getElem hk, List.map_append, List.sum_append]
  simp
theorem sumI_bd {l : List XItem} (h : smallI l) : ∀ k : Nat, k ≤ l.length → -1125899906842624 * (k : Int) ≤ sumI (l.take k) ∧ sumI (l.take k) ≤ 1125899906842624 * (k : Int)
  | 0, _ => by simp [sumI]
  | k + 1, hk => by
    have ih := sumI_bd h k (by omega)
    have hb := h.1 _ (List.getElem_mem (show k < l.length by omega))
    rw [sumI_succ (by omega)]
    omega
def monB (n : Int) : Bool := decide (-1000000000000 ≤ n ∧ n ≤ 1000000000000)
set_option maxHeartbeats 1000000 in
theorem money_c (n : Int) (w : World) : Calls Try.prog 71 #[.int .i64 n] w (Quiet w (.bool (monB n))) := by
  by_cases h1 : -1000000000000 ≤ n
  case neg =>
    have hf := Lib.hid (show monB n = false from decide_eq_false (fun h => h1 h.1))
    rw [hf.out]
    go_enter Try.func71, Try.ntmps71
    go_wp2_with fail
    go_ret
    exact ⟨rfl, Below.refl _ _⟩
  case pos =>
  by_cases h2 : n ≤ 1000000000000
  case neg =>
    have hf := Lib.hid (show monB n = false from decide_eq_false (fun h => h2 h.2))
    rw [hf.out]
    go_enter Try.func71, Try.ntmps71
    go_wp2_with fail
    go_ret
    exact ⟨rfl, Below.refl _ _⟩
  case pos =>
    have hf := Lib.hid (show monB n = true from decide_eq_true ⟨h1, h2⟩)
    rw [hf.out]
    go_enter Try.func71, Try.ntmps71
    go_wp2_with fail
    go_ret
    exact ⟨rfl, Below.refl _ _⟩
set_option maxHeartbeats 1000000 in
theorem rMoney_c (n : Int) (w : World) : Calls Try.prog 72 #[.int .i64 n] w (Quiet w (.bool (monB n))) := by
  by_cases h1 : -1000000000000 ≤ n
  case neg =>
    have hf := Lib.hid (show monB n = false from decide_eq_false (fun h => h1 h.1))
    rw [hf.out]
    go_enter Try.func72, Try.ntmps72
    go_wp2_with fail
    go_ret
    exact ⟨rfl, Below.refl _ _⟩
  case pos =>
  by_cases h2 : n ≤ 1000000000000
  case neg =>
    have hf := Lib.hid (show monB n = false from decide_eq_false (fun h => h2 h.2))
    rw [hf.out]
    go_enter Try.func72, Try.ntmps72
    go_wp2_with fail
    go_ret
    exact ⟨rfl, Below.refl _ _⟩
  case pos =>
    have hf := Lib.hid (show monB n = true from decide_eq_true ⟨h1, h2⟩)
    rw [hf.out]
    go_enter Try.func72, Try.ntmps72
    go_wp2_with fail
    go_ret
    exact ⟨rfl, Below.refl _ _⟩
set_option maxHeartbeats 1000000 in
theorem sum_c (l : List XItem) (A : Option Addr) (c : Nat) (w : World) (hl : ListC ItemC 7 w (· < w.heap.size) [.slice A l.length c] l) (hs : smallI l) : Calls Try.prog 23 #[.slice A l.length c] w (Quiet w (.int .i64 (sumI l))) := by
  obtain ⟨r, hr⟩ : ∃ r, sumI l = r := ⟨_, rfl⟩
  rw [hr]
  have HR := Lib.hid hr
  obtain ⟨n, hnl⟩ : ∃ n, l.length = n := ⟨_, rfl⟩
  have HL := Lib.hid hl
  have HN := Lib.hid hnl
  have HS := Lib.hid hs
  have hn : n ≤ 300 := by rw [← hnl]; exact hs.2
  rw [hnl]
  clear hr hl hnl hs
  go_enter Try.func23, Try.ntmps23
  go_wp2_with fail
  go_loopw [3, 4] (fun s i wr => ∃ k : Nat, k ≤ n ∧ s = .int .i64 (sumI (l.take k)) ∧ i = .int .i64 (k : Int) ∧ Below w.heap.size w wr) (fun _ i _ => n - (intOf i).toNat)
  case atStart => exact ⟨0, by omega, rfl, rfl, Below.refl _ _⟩
  case round =>
    obtain ⟨k, hk, rfl, rfl, hb⟩ := hrel
    by_cases hlt : k < n
    case pos =>
      have hltI : (k : Int) < (n : Int) := by omega
      have hkl : k < l.length := by rw [HN.out]; exact hlt
      obtain ⟨b, o, es, hAe, hbw, hes, hat⟩ := ListC.get HL.out k hkl
      subst hAe
      have hes1 := ItemC.lit hes
      rw [hes1] at hat
      have hbd := HS.out.1 _ (List.getElem_mem hkl)
      have HSU := Lib.hid (sumI_succ hkl)
      have hBk := sumI_bd HS.out k (by omega)
      obtain ⟨x, hx⟩ : ∃ x, l[k] = x := ⟨_, rfl⟩
      rw [hx] at hat hbd
      have HX := Lib.hid hx
      obtain ⟨⟨i1, i2⟩, i3, i4, i5, i6, am⟩ := x
      simp only at hbd
      obtain ⟨S, hS⟩ : ∃ S, sumI (l.take k) = S := ⟨_, rfl⟩
      rw [hS] at hBk ⊢
      have HSS := Lib.hid hS
      have HBK := Lib.hid hBk
      obtain ⟨hB1, hB2⟩ := hBk
      obtain ⟨hb1, hb2⟩ := hbd
      have hatw := hat.fr (Fr.ofBelow hb)
      have c6 := hatw.c (j := 6) rfl
      clear hes hes1 hat hatw hx hS
      go_wp2_with fail
      go_roundw
      case rel => exact ⟨k + 1, by omega, by rw [HSU.out, HX.out, HSS.out]; first | done | go_num, by go_num, hb⟩
      case measure => first | exact meas_v hlt | (simp only [intOf]; omega)
    case neg =>
      have hltI : ¬ (k : Int) < (n : Int) := by omega
      obtain ⟨S, hS⟩ : ∃ S, sumI (l.take k) = S := ⟨_, rfl⟩
      rw [hS]
      have hf := Lib.hid (show r = S by rw [← HR.out, ← hS, show k = n from by omega, ← HN.out, List.take_length])
      clear hS
      go_wp2_with fail
      go_ret
      exact ⟨by rw [hf.out]; first | done | rfl, hb⟩
set_option maxHeartbeats 1000000 in
theorem rAmount_c (l : List XItem) (A : Option Addr) (c : Nat) (w : World) (hl : ListC ItemC 7 w (· < w.heap.size) [.slice A l.length c] l) (hs : smallI l) : Calls Try.prog 22 #[.slice A l.length c] w (Quiet w (.int .i64 (-sumI l))) := by
  have hcall := sum_c l A c w hl hs
  have hBk := sumI_bd hs l.length (Nat.le_refl _)
  rw [List.take_length] at hBk
  have h300 := hs.2
  obtain ⟨n, hnl⟩ : ∃ n, l.length = n := ⟨_, rfl⟩
  rw [hnl] at hcall hBk h300 ⊢
  obtain ⟨S, hS⟩ : ∃ S, sumI l = S := ⟨_, rfl⟩
  rw [hS] at hcall hBk ⊢
  obtain ⟨hB1, hB2⟩ := hBk
  have HC := Lib.hid hcall
  clear hcall hS hl hs hnl
  go_enter Try.func22, Try.ntmps22
  go_wp2_with fail
  refine HC.out.mono ?_
  rintro e w2 ⟨rfl, hb2⟩
  go_wp2_with fail
  go_ret
  exact ⟨by first | rfl | go_num, hb2⟩
set_option maxHeartbeats 1000000 in
theorem amount_c (l : List XItem) (A : Option Addr) (c : Nat) (w : World) (hl : ListC ItemC 7 w (· < w.heap.size) [.slice A l.length c] l) (hs : smallI l) : Calls Try.prog 21 #[.slice A l.length c] w (Quiet w (.int .i64 (-sumI l))) := by
  obtain ⟨r, hr⟩ : ∃ r, -sumI l = r := ⟨_, rfl⟩
  rw [hr]
  have HR := Lib.hid hr
  obtain ⟨n, hnl⟩ : ∃ n, l.length = n := ⟨_, rfl⟩
  have HL := Lib.hid hl
  have HN := Lib.hid hnl
  have HS := Lib.hid hs
  have hn : n ≤ 300 := by rw [← hnl]; exact hs.2
  rw [hnl]
  clear hr hl hnl hs
  go_enter Try.func21, Try.ntmps21
  go_wp2_with fail
  go_loopw [3, 8] (fun s i wr => ∃ k : Nat, k ≤ n ∧ s = .int .i64 (-sumI (l.take k)) ∧ i = .int .i64 (k : Int) ∧ Below w.heap.size w wr) (fun _ i _ => n - (intOf i).toNat)
  case atStart => exact ⟨0, by omega, rfl, rfl, Below.refl _ _⟩
  case round =>
    obtain ⟨k, hk, rfl, rfl, hb⟩ := hrel
    by_cases hlt : k < n
    case pos =>
      have hltI : (k : Int) < (n : Int) := by omega
      have hkl : k < l.length := by rw [HN.out]; exact hlt
      obtain ⟨b, o, es, hAe, hbw, hes, hat⟩ := ListC.get HL.out k hkl
      subst hAe
      have hes1 := ItemC.lit hes
      rw [hes1] at hat
      have hbd := HS.out.1 _ (List.getElem_mem hkl)
      have HSU := Lib.hid (sumI_succ hkl)
      have hBk := sumI_bd HS.out k (by omega)
      obtain ⟨x, hx⟩ : ∃ x, l[k] = x := ⟨_, rfl⟩
      rw [hx] at hat hbd
      have HX := Lib.hid hx
      obtain ⟨⟨i1, i2⟩, i3, i4, i5, i6, am⟩ := x
      simp only at hbd
      obtain ⟨S, hS⟩ : ∃ S, sumI (l.take k) = S := ⟨_, rfl⟩
      rw [hS] at hBk ⊢
      have HSS := Lib.hid hS
      have HBK := Lib.hid hBk
      obtain ⟨hB1, hB2⟩ := hBk
      obtain ⟨hb1, hb2⟩ := hbd
      have hatw := hat.fr (Fr.ofBelow hb)
      have HAR := Lib.hid hatw.range
      clear hes hes1 hat hatw hx hS
      go_upto_region 5 with (show wpList _ _ _ (Oper.mk (some 11) _ _ _ _ _ :: _) _ _; refine wpList_load_mid rfl 110 (.tmp 10) rfl b (o + k * 7) rfl [.int .i64 i1, .int .i64 i2, .int .i64 i3, .int .i64 i4, .int .i64 i5, .int .i64 i6, .int .i64 am] _ HAR.out Try.underlying110 rfl info_item ?_)
      have H6 := heap_alloc_new wr (.cells #[.int .i64 i1, .int .i64 i2, .int .i64 i3, .int .i64 i4, .int .i64 i5, .int .i64 i6, .int .i64 am] 110)
      have HB6 := below1 wr (.cells #[.int .i64 i1, .int .i64 i2, .int .i64 i3, .int .i64 i4, .int .i64 i5, .int .i64 i6, .int .i64 am] 110)
      have HS6 : wr.heap.size < (wr.alloc (.cells #[.int .i64 i1, .int .i64 i2, .int .i64 i3, .int .i64 i4, .int .i64 i5, .int .i64 i6, .int .i64 am] 110)).heap.size := blk_lt H6
      generalize hW6 : wr.alloc (Obj.cells #[.int .i64 i1, .int .i64 i2, .int .i64 i3, .int .i64 i4, .int .i64 i5, .int .i64 i6, .int .i64 am] 110) = W6 at *
      clear hW6
      have c6 := blk_cell H6 6
      have hb6 := hb.trans (HB6.mono hb.size)
      clear H6
      go_wp2_with fail
      go_roundw
      case rel => exact ⟨k + 1, by omega, by rw [HSU.out, HX.out, HSS.out]; first | done | go_num | (congr 1; omega), by go_num, hb6⟩
      case measure => first | exact meas_v hlt | (simp only [intOf]; omega)
    case neg =>
      have hltI : ¬ (k : Int) < (n : Int) := by omega
      obtain ⟨S, hS⟩ : ∃ S, sumI (l.take k) = S := ⟨_, rfl⟩
      rw [hS]
      have hf := Lib.hid (show r = -S by rw [← HR.out, ← hS, show k = n from by omega, ← HN.out, List.take_length])
      clear hS
      go_wp2_with fail
      go_ret
      exact ⟨by rw [hf.out]; first | done | rfl, hb⟩
set_option maxHeartbeats 1000000 in
theorem small_c (l : List XItem) (A : Option Addr) (c : Nat) (w : World) (hl : ListC ItemC 7 w (· < w.heap.size) [.slice A l.length c] l) : Calls Try.prog 17 #[.slice A l.length c] w (If (smallI l) w) := by
  have hbn := hl.cap.2
  obtain ⟨n, hnl⟩ : ∃ n, l.length = n := ⟨_, rfl⟩
  have HL := Lib.hid hl
  have HN := Lib.hid hnl
  obtain ⟨P, hP⟩ : ∃ P, smallI l = P := ⟨_, rfl⟩
  rw [hP]
  have HP := Lib.hid (show (∀ x ∈ l, -1125899906842624 ≤ x.amount ∧ x.amount ≤ 1125899906842624) → l.length ≤ 300 → P from fun h h2 => hP ▸ ⟨h, h2⟩)
  rw [hnl] at hbn ⊢
  unfold maxLen at hbn
  clear hl hnl hP
  go_enter Try.func17, Try.ntmps17
  go_wp2_with fail
  go_loopw [3] (fun i wr => ∃ k : Nat, k ≤ n ∧ i = .int .i64 (k : Int) ∧ Below w.heap.size w wr ∧ ∀ j (hj : j < l.length), j < k → -1125899906842624 ≤ l[j].amount ∧ l[j].amount ≤ 1125899906842624) (fun i _ => n - (intOf i).toNat)
  case atStart => exact ⟨0, by omega, rfl, Below.refl _ _, fun j hj h => by omega⟩
  case round =>
    obtain ⟨k, hk, rfl, hb, hall⟩ := hrel
    have HA := Lib.hid hall
    clear hall
    by_cases hlt : k < n
    case pos =>
      have hltI : (k : Int) < (n : Int) := by omega
      have hkl : k < l.length := by rw [HN.out]; exact hlt
      obtain ⟨b, o, es, hAe, hbw, hes, hat⟩ := ListC.get HL.out k hkl
      subst hAe
      have hes1 := ItemC.lit hes
      rw [hes1] at hat
      obtain ⟨x, hx⟩ : ∃ x, l[k] = x := ⟨_, rfl⟩
      rw [hx] at hat
      have HX := Lib.hid hx
      obtain ⟨⟨i1, i2⟩, i3, i4, i5, i6, am⟩ := x
      have c6 := (hat.fr (Fr.ofBelow hb)).c (j := 6) rfl
      clear hes hes1 hat hx
      by_cases h1 : 1125899906842624 < am
      case pos =>
        go_wp2_with fail
        go_ret
        exact If.no hb
      case neg =>
      by_cases h2 : am < -1125899906842624
      case pos =>
        go_wp2_with fail
        go_ret
        exact If.no hb
      case neg =>
        have HROW := Lib.hid (show -1125899906842624 ≤ am ∧ am ≤ 1125899906842624 by omega)
        go_wp2_with fail
        go_roundw
        case rel => exact ⟨k + 1, by omega, by go_num, hb, fun j hj hjk => by
          rcases Nat.lt_or_ge j k with h | h
          · exact HA.out j hj h
          · have : j = k := by omega
            subst this
            rw [HX.out]
            exact HROW.out⟩
        case measure => first | exact meas_v hlt | (simp only [intOf]; omega)
    case neg =>
      have hltI : ¬ (k : Int) < (n : Int) := by omega
      by_cases h1 : n ≤ 300
      case neg =>
        have h1I : ¬ (n : Int) ≤ 300 := by omega
        go_wp2_with fail
        go_ret
        exact If.no hb
      case pos =>
        have h1I : (n : Int) ≤ 300 := by omega
        have HY := Lib.hid (show P from HP.out (fun x hx => by
          obtain ⟨j, hj, rfl⟩ := List.getElem_of_mem hx
          exact HA.out j hj (by have := HN.out; omega)) (by rw [HN.out]; exact h1))
        go_wp2_with fail
        go_ret
        exact If.yes HY.out hb
end Go.Proofs.Ytnigokmjehemaaa
