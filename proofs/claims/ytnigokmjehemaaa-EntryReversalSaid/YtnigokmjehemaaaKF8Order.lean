/- The walk of the law EntryOrder. Written by gen_f8.py. -/
import Derived.Test.YtnigokmjehemaaaJF1F7
import Derived.Test.YtnigokmjehemaaaProg
namespace Go.Proofs.Ytnigokmjehemaaa
open Go Go.RowKit
set_option linter.unusedVariables false
set_option linter.unusedSimpArgs false
set_option maxRecDepth 4000
attribute [local go_sem ↓] Go.wp_at_zero Go.wp_at_succ
/-- A beginning of a list of lines, read as cells. -/
theorem rd_lines {l : List XLine} {w : World} {Q : Nat → Prop} {A : Option Addr} {n c : Nat} (h : ListC LineC 3 w Q [.slice A n c] l) (k : Nat) (hk : k ≤ l.length) : Rd w Q A k 3 ((l.take k).flatMap lineL) := by
  have hlen : (l.take k).length = k := by simp; omega
  refine ⟨?_, fun hp => ?_⟩
  · have : ∀ m : List XLine, (m.flatMap lineL).length = m.length * 3 := fun m => by
      induction m with
      | nil => rfl
      | cons x m ih => rw [List.flatMap_cons, List.length_append, ih, List.length_cons]; simp; omega
    rw [this, hlen]
  · obtain ⟨A', c', e, _, _, hel⟩ := h
    simp only [List.cons.injEq, and_true, Value.slice.injEq] at e
    obtain ⟨rfl, rfl, rfl⟩ := e
    obtain ⟨b, o, rfl, hb, hx⟩ := hel (by omega)
    refine ⟨_, rfl, hb, fun j u hj => ?_⟩
    have hj3 : j < (l.take k).length * 3 := by
      have := (List.getElem?_eq_some_iff.1 hj).1
      have h2 : ∀ m : List XLine, (m.flatMap lineL).length = m.length * 3 := fun m => by
        induction m with
        | nil => rfl
        | cons x m ih => rw [List.flatMap_cons, List.length_append, ih, List.length_cons]; simp; omega
      rw [h2] at this
      exact this
    rw [flat_get (f := lineL) (k := 3) (by omega) (fun _ => rfl) _ j hj3] at hj
    have hq : j / 3 < k := by omega
    have hql : j / 3 < l.length := by omega
    have he : (l.take k)[j / 3]! = l[j / 3] := by
      rw [getElem!_pos _ _ (by omega)]
      simp
    rw [he] at hj
    obtain ⟨es, hes, hat⟩ := hx (j / 3) l[j / 3] (List.getElem?_eq_getElem hql)
    rw [(LineC.lit hes).1] at hat
    have h3 := hat.2 (j % 3) u hj
    rw [Addr.add_lit] at h3 ⊢
    have e3 : o + j / 3 * 3 + j % 3 = o + j := by omega
    rw [e3] at h3
    exact h3
theorem flat_one (l : List XLine) : ∀ u ∈ l.flatMap lineL, u.oneCell' = true := fun u hu => by
  obtain ⟨x, _, hx⟩ := List.mem_flatMap.1 hu
  simp [lineL] at hx
  rcases hx with rfl | rfl | rfl <;> rfl
theorem rev_step {l : List XLine} {i : Nat} (hi : i < l.length) : (l.drop i).reverse = (l.drop (i + 1)).reverse ++ [l[i]] := by
  rw [List.drop_eq_getElem_cons hi, List.reverse_cons]
theorem turn_perm (l : List XLine) (k : Nat) : ((l.drop k).reverse ++ l.take k).Perm l := by
  have h1 : ((l.drop k).reverse ++ l.take k).Perm (l.drop k ++ l.take k) := (List.reverse_perm _).append_right _
  refine h1.trans (List.perm_append_comm.trans ?_)
  rw [List.take_append_drop]
set_option maxHeartbeats 4000000 in
theorem law_order (l : List XLine) (A : Option Addr) (c : Nat) (a : Int) (w : World) (hl : ListC LineC 3 w (· < w.heap.size) [.slice A l.length c] l) (ha : 0 ≤ a ∧ a ≤ 255) : Calls Try.prog 5 #[.slice A l.length c, .int .u8 a] w (Quiet w (.bool true)) := by
  have HSM := Lib.hid (fun (w2 : World) (hb : Below w.heap.size w w2) => small11_c l A c w2 (lines_keep hl hb))
  obtain ⟨ia, hia, hzia, hsia, hbia⟩ := info_parts info_lineA
  have hbn := hl.cap
  obtain ⟨n, hnl⟩ : ∃ n, l.length = n := ⟨_, rfl⟩
  have HL := Lib.hid hl
  have HN := Lib.hid hnl
  rw [hnl] at HSM hbn ⊢
  unfold maxLen at hbn
  obtain ⟨hbn1, hbn2⟩ := hbn
  have HNRM := Lib.hid (fun (w2 : World) (hb : Below w.heap.size w w2) (hs : smallL l) => normal_n hnl (lines_keep hl hb) (Int.le_trans hs.abs (by decide)) (by have := hs.2; omega))
  obtain ⟨sm, hsm⟩ : ∃ p : Prop, smallL l = p := ⟨_, rfl⟩
  rw [hsm] at HSM HNRM
  have HSL := Lib.hid (show sm → smallL l from fun h => hsm ▸ h)
  obtain ⟨ha1, ha2⟩ := ha
  clear hl hnl hsm
  go_enter Try.func5, Try.ntmps5
  go_wp2_with fail
  refine (awake11_c w).mono ?_
  rintro e w1 ⟨rfl, hb1⟩
  go_wp2_with fail
  refine (HSM.out w1 hb1).mono ?_
  rintro e w2 ⟨bs, rfl, hs, hb2⟩
  have hb02 := hb1.trans (hb2.mono hb1.size)
  cases bs with
  | false =>
    clear hs
    go_wp2_with fail
    go_ret
    exact ⟨rfl, hb02⟩
  | true =>
  have hsm := hs rfl
  have hn100 : n ≤ 100 := by rw [← HN.out]; exact (HSL.out hsm).2
  have HSMP := Lib.hid hsm
  clear hs hsm
  by_cases h0 : n = 0
  case pos =>
    have h01 : ((n : Int) == 0) = true := by simp; omega
    clear h0
    go_wp2_with fail
    go_ret
    exact ⟨rfl, hb02⟩
  case neg =>
  have h01 : ((n : Int) == 0) = false := by simp; omega
  have hnpos : 0 < (n : Int) := by omega
  have hnne : (n : Int) ≠ 0 := by omega
  go_upto_region 6 with fail
  have hm0 := Int.emod_nonneg a hnne
  have hm1 := Int.emod_lt_of_pos a hnpos
  obtain ⟨kq, hkq⟩ : ∃ q : Nat, a % (n : Int) = (q : Int) := ⟨(a % (n : Int)).toNat, by omega⟩
  rw [hkq] at hm1 ⊢
  have hkn : kq < n := by omega
  clear hkq hm0 hm1 ha1 ha2
  go_wp2_with fail
  go_loopw [6, 7] (fun v i wr => ∃ m : Nat, kq ≤ m ∧ m ≤ n ∧ i = .int .i64 ((m : Int) - 1) ∧ wr.ownsRow w2.heap.size 57 3 v (n - m) ((l.drop m).reverse.flatMap lineL) ∧ Below w.heap.size w wr ∧ w2.heap.size ≤ wr.heap.size) (fun _ i _ => (intOf i + 1).toNat)
  case atStart => exact ⟨n, by omega, Nat.le_refl _, rfl, by rw [← HN.out, List.drop_length, Nat.sub_self]; exact World.ownsRow_nil _ _ _ _, hb02, Nat.le_refl _⟩
  case round =>
    obtain ⟨m, hm1, hm2, rfl, hown, hb, hsz⟩ := hrel
    by_cases hlt : kq < m
    case pos =>
      obtain ⟨i0, rfl⟩ : ∃ i0, m = i0 + 1 := ⟨m - 1, by omega⟩
      have hi : ((i0 + 1 : Nat) : Int) - 1 = (i0 : Int) := by omega
      rw [hi]
      have hkl : i0 < l.length := by rw [HN.out]; omega
      have hkI : kq ≤ i0 := by omega
      have hkI2 : (kq : Int) ≤ (i0 : Int) := by omega
      have hnI : (i0 : Int) < (n : Int) := by omega
      have hnI2 : i0 < n := by omega
      obtain ⟨b, o, es, hAe, hbw, hes, hat⟩ := ListC.get HL.out i0 hkl
      subst hAe
      have hes1 := (LineC.lit hes).1
      rw [hes1] at hat
      have HST := Lib.hid (rev_step hkl)
      obtain ⟨x, hx⟩ : ∃ x, l[i0] = x := ⟨_, rfl⟩
      rw [hx] at hat HST
      obtain ⟨la, lm, lp⟩ := x
      try simp only at hat
      have HAR := Lib.hid ((hat.fr (Fr.ofBelow hb)).range)
      have HOWN := Lib.hid hown
      have HB := Lib.hid hb
      clear hes hes1 hat hx hown hi hb
      go_wp2_with (first | (show wpList _ _ _ (Oper.mk (some 35) _ _ _ _ _ :: _) _ _; refine wpList_load_mid rfl 57 (.tmp 34) rfl b (o + i0 * 3) rfl [.int .i64 la, .int .i64 lm, .int .i64 lp] _ HAR.out Try.underlying57 rfl info_line ?_) | (at_builtin; go_loud (refine wpList_app _ rfl (.tmp 31) (.tmp 36) 51 rfl w2.heap.size 57 ia _ 3 24 lines_uty hia hzia hsia hbia rfl (by decide) u6 (n - (i0 + 1)) ((l.drop (i0 + 1)).reverse.flatMap lineL) rfl (HOWN.out.alloc _) (fun _ => True) (some ⟨wr.heap.size, 0, none⟩) 1 1 [.int .i64 la, .int .i64 lm, .int .i64 lp] rfl (rd_new (heap_alloc_new _ _) rfl) (by simp [Value.oneCell']) (by simp only [maxLen]; omega) (by omega) (by simp; omega) ?_); intro v9 w9 hown9 hg9 _))
      go_roundw
      case rel =>
        refine ⟨i0, by omega, by omega, rfl, ?_, below_grown (HB.out.alloc HB.out.size _) hg9 (fun q hq => by have := (HOWN.out.lt _ hq).1; have := hb02.size; omega) (Nat.le_refl _), by have := hg9.size; simp at this; omega⟩
        rw [show n - i0 = n - (i0 + 1) + 1 by omega, HST.out, List.flatMap_append]
        exact hown9
      case measure => simp only [intOf]; omega
    case neg =>
      have hmk : m = kq := by omega
      subst hmk
      have HRD := Lib.hid (rd_lines (lines_keep HL.out hb) m (by rw [HN.out]; omega))
      have HOWN := Lib.hid hown
      have HB := Lib.hid hb
      have hno : decide ((m : Int) ≤ (m : Int) - 1) = false := decide_eq_false (by omega)
      have hmc : m ≤ c := by omega
      have hmc2 : (m : Int) ≤ (c : Int) := by omega
      clear hown hb hlt
      go_wp2_with (at_builtin; go_loud (refine wpList_app _ rfl (.tmp 38) (.tmp 41) 51 rfl w2.heap.size 57 ia _ 3 24 lines_uty hia hzia hsia hbia rfl (by decide) u6 (n - m) ((l.drop m).reverse.flatMap lineL) rfl HOWN.out (· < wr.heap.size) A m c ((l.take m).flatMap lineL) rfl HRD.out (flat_one _) (by simp only [maxLen]; omega) (by omega) (by omega) ?_); intro v9 w9 hown9 hg9 _)
      have HB9 := Lib.hid (below_grown HB.out hg9 (fun q hq => by have := (HOWN.out.lt _ hq).1; have := hb02.size; omega) (Nat.le_refl _))
      have hsz9 := hg9.size
      obtain ⟨other, hot⟩ : ∃ other, (l.drop m).reverse ++ l.take m = other := ⟨_, rfl⟩
      have hpm : other.Perm l := hot ▸ turn_perm l m
      have hlo : other.length = n := hpm.length_eq.trans HN.out
      have hown9' : w9.ownsRow w2.heap.size 57 3 v9 other.length (other.flatMap lineL) := by
        rw [hlo, ← hot, List.flatMap_append]
        have e : n - m + m = n := by omega
        rw [e] at hown9
        exact hown9
      have hbd : ∀ x ∈ other, lineBd x := fun x hx => by
        obtain ⟨j, hj, rfl⟩ := List.getElem_of_mem (hpm.mem_iff.1 hx)
        exact line_bd HL.out hj
      have hL9 := own_listC (El := LineC) (f := lineL) (fun _ => rfl) hown9' (Q := (· < w9.heap.size)) (fun x hx => ⟨[_], [_], [_], rfl, ⟨rfl, (hbd x hx).1⟩, ⟨rfl, (hbd x hx).2.1⟩, ⟨rfl, (hbd x hx).2.2⟩⟩) (fun g hg => (hown9'.lt _ hg).2) (by omega)
      obtain ⟨A9, c9, rfl⟩ : ∃ A9 c9, v9 = .slice A9 n c9 := by
        obtain ⟨A9, c9, e, _⟩ := hL9
        rw [hlo] at e
        exact ⟨A9, c9, by simpa using e⟩
      have HPM := Lib.hid hpm
      have HL9 := Lib.hid (show ListC LineC 3 w9 (· < w9.heap.size) [.slice A9 other.length c9] other by rw [hlo]; exact hL9)
      have HLO := Lib.hid hlo
      have HSMO := Lib.hid (show smallL other from ⟨fun x hx => (HSL.out HSMP.out).1 x (hpm.mem_iff.1 hx), by rw [hlo]; exact hn100⟩)
      clear hot hpm hlo hown9' hbd hL9 hown9 hg9
      go_wp2_with fail
      refine (HNRM.out w9 HB9.out HSMP.out).mono ?_
      rintro e w10 ⟨B1, o1, c1, rfl, hn1, _, hl1, hb10⟩
      have HN1 := Lib.hid hn1
      have HL1 := Lib.hid hl1
      have HB10 := Lib.hid (HB9.out.trans (hb10.mono HB9.out.size))
      have HBB10 := Lib.hid hb10
      clear hn1 hl1 hb10
      go_wp2_with fail
      refine (normal_n HLO.out (lines_keep HL9.out HBB10.out) (Int.le_trans HSMO.out.abs (by decide)) (by have := HSMO.out.2; omega)).mono ?_
      rintro e w11 ⟨B2, o2, c2, rfl, hn2, _, hl2, hb11⟩
      have heq : o1 = o2 := HN1.out.uniq (hn2.perm HPM.out)
      have HB11 := Lib.hid (HB10.out.trans (hb11.mono HB10.out.size))
      have HK1 := Lib.hid (lines_keep (HL1.out.mono (fun h => LineC.mono h (fun q hq => hq.2)) (fun q hq => hq.2)) hb11)
      have HK2 := Lib.hid (hl2.mono (fun h => LineC.mono h (fun q hq => hq.2)) (fun q hq => hq.2))
      have HSAME := Lib.hid (same_c o1 o2 B1 B2 c1 c2 w11 HK1.out HK2.out)
      rw [decide_eq_true heq] at HSAME
      clear heq hn2 hl2 hb11
      go_wp2_with fail
      refine HSAME.out.mono ?_
      rintro e w12 ⟨rfl, hb12⟩
      go_wp2_with fail
      go_ret
      exact ⟨rfl, HB11.out.trans (hb12.mono HB11.out.size)⟩
end Go.Proofs.Ytnigokmjehemaaa
