/- Items: their sum, the reserve; amounts of money. Written by gen_c1.py. -/
import Derived.Test.YtnigokmjehemaaaJB30B33
import Derived.Test.YtnigokmjehemaaaProg
namespace Go.Proofs.Ytnigokmjehemaaa
open Go Go.RowKit
set_option linter.unusedVariables false
set_option linter.unusedSimpArgs false
set_option maxRecDepth 4000
attribute [local go_sem ↓] Go.wp_at_zero Go.wp_at_succ
abbrev itemL (x : XItem) : List Value := [.int .i64 x.ref.entry, .int .i64 x.ref.line, .int .i64 x.entity, .int .i64 x.account, .int .i64 x.partner, .int .i64 x.date, .int .i64 x.amount]
theorem ItemC.lit {w : World} {Q : Nat → Prop} {cs : List Value} {x : XItem} (h : ItemC w Q cs x) : cs = itemL x := by
  obtain ⟨c0, c1, c2, c3, c4, c5, rfl, h0, ⟨rfl, h1⟩, ⟨rfl, h2⟩, ⟨rfl, h3⟩, ⟨rfl, h4⟩, ⟨rfl, h5⟩⟩ := h
  obtain ⟨d0, d1, rfl, ⟨rfl, _⟩, ⟨rfl, _⟩⟩ := h0
  rfl
theorem info_item : (Try.prog.info? 110).map (·.size) = some 7 := by kernel_rfl
def sumI (l : List XItem) : Int := (l.map (·.amount)).sum
/-- Few items, with amounts of at most 2^50. -/
def smallI (l : List XItem) : Prop := (∀ x ∈ l, -1125899906842624 ≤ x.amount ∧ x.amount ≤ 1125899906842624) ∧ l.length ≤ 300
theorem sumI_succ {l : List XItem} {k : Nat} (hk : k < l.length) : sumI (l.take (k + 1)) = sumI (l.take k) + l[k].amount := by
  unfold sumI
  rw [List.take_add_one, List.getElem?_eq_getElem hk, List.map_append, List.sum_append]
  simp
theorem sumI_bd {l : List XItem} (h : smallI l) : ∀ k : Nat, k ≤ l.length → -1125899906842624 * (k : Int) ≤ sumI (l.take k) ∧ sumI (l.take k) ≤ 1125899906842624 * (k : Int)
  | 0, _ => by simp [sumI]
  | k + 1, hk => by
    have ih := sumI_bd h k (by omega)
    have hb := h.1 _ (List.getElem_mem (show k < l.length by omega))
    rw [sumI_succ (by omega)]
    omega
def monB (n : Int) : Bool := decide (-1000000000000 ≤ n ∧ n ≤ 1000000000000)
set_option maxHeartbeats 1000000 in
theorem money_c (n : Int) (w : World) : Calls Try.prog 71 #[.int .i64 n] w (Quiet w (.bool (monB n))) := by
  by_cases h1 : -1000000000000 ≤ n
  case neg =>
    have hf := Lib.hid (show monB n = false from decide_eq_false (fun h => h1 h.1))
    rw [hf.out]
    go_enter Try.func71, Try.ntmps71
    go_wp2_with fail
    go_ret
    exact ⟨rfl, Below.refl _ _⟩
  case pos =>
  by_cases h2 : n ≤ 1000000000000
  case neg =>
    have hf := Lib.hid (show monB n = false from decide_eq_false (fun h => h2 h.2))
    rw [hf.out]
    go_enter Try.func71, Try.ntmps71
    go_wp2_with fail
    go_ret
    exact ⟨rfl, Below.refl _ _⟩
  case pos =>
    have hf := Lib.hid (show monB n = true from decide_eq_true ⟨h1, h2⟩)
    rw [hf.out]
    go_enter Try.func71, Try.ntmps71
    go_wp2_with fail
    go_ret
    exact ⟨rfl, Below.refl _ _⟩
set_option maxHeartbeats 1000000 in
theorem rMoney_c (n : Int) (w : World) : Calls Try.prog 72 #[.int .i64 n] w (Quiet w (.bool (monB n))) := by
  by_cases h1 : -1000000000000 ≤ n
  case neg =>
    have hf := Lib.hid (show monB n = false from decide_eq_false (fun h => h1 h.1))
    rw [hf.out]
    go_enter Try.func72, Try.ntmps72
    go_wp2_with fail
    go_ret
    exact ⟨rfl, Below.refl _ _⟩
  case pos =>
  by_cases h2 : n ≤ 1000000000000
  case neg =>
    have hf := Lib.hid (show monB n = false from decide_eq_false (fun h => h2 h.2))
    rw [hf.out]
    go_enter Try.func72, Try.ntmps72
    go_wp2_with fail
    go_ret
    exact ⟨rfl, Below.refl _ _⟩
  case pos =>
    have hf := Lib.hid (show monB n = true from decide_eq_true ⟨h1, h2⟩)
    rw [hf.out]
    go_enter Try.func72, Try.ntmps72
    go_wp2_with fail
    go_ret
    exact ⟨rfl, Below.refl _ _⟩
set_option maxHeartbeats 1000000 in
theorem sum_c (l : List XItem) (A : Option Addr) (c : Nat) (w : World) (hl : ListC ItemC 7 w (· < w.heap.size) [.slice A l.length c] l) (hs : smallI l) : Calls Try.prog 23 #[.slice A l.length c] w (Quiet w (.int .i64 (sumI l))) := by
  obtain ⟨r, hr⟩ : ∃ r, sumI l = r := ⟨_, rfl⟩
  rw [hr]
  have HR := Lib.hid hr
  obtain ⟨n, hnl⟩ : ∃ n, l.length = n := ⟨_, rfl⟩
  have HL := Lib.hid hl
  have HN := Lib.hid hnl
  have HS := Lib.hid hs
  have hn : n ≤ 300 := by rw [← hnl]; exact hs.2
  rw [hnl]
  clear hr hl hnl hs
  go_enter Try.func23, Try.ntmps23
  go_wp2_with fail
  go_loopw [3, 4] (fun s i wr => ∃ k : Nat, k ≤ n ∧ s = .int .i64 (sumI (l.take k)) ∧ i = .int .i64 (k : Int) ∧ Below w.heap.size w wr) (fun _ i _ => n - (intOf i).toNat)
  case atStart => exact ⟨0, by omega, rfl, rfl, Below.refl _ _⟩
  case round =>
    obtain ⟨k, hk, rfl, rfl, hb⟩ := hrel
    by_cases hlt : k < n
    case pos =>
      have hltI : (k : Int) < (n : Int) := by omega
      have hkl : k < l.length := by rw [HN.out]; exact hlt
      obtain ⟨b, o, es, hAe, hbw, hes, hat⟩ := ListC.get HL.out k hkl
      subst hAe
      have hes1 := ItemC.lit hes
      rw [hes1] at hat
      have hbd := HS.out.1 _ (List.getElem_mem hkl)
      have HSU := Lib.hid (sumI_succ hkl)
      have hBk := sumI_bd HS.out k (by omega)
      obtain ⟨x, hx⟩ : ∃ x, l[k] = x := ⟨_, rfl⟩
      rw [hx] at hat hbd
      have HX := Lib.hid hx
      obtain ⟨⟨i1, i2⟩, i3, i4, i5, i6, am⟩ := x
      simp only at hbd
      obtain ⟨S, hS⟩ : ∃ S, sumI (l.take k) = S := ⟨_, rfl⟩
      rw [hS] at hBk ⊢
      have HSS := Lib.hid hS
      have HBK := Lib.hid hBk
      obtain ⟨hB1, hB2⟩ := hBk
      obtain ⟨hb1, hb2⟩ := hbd
      have hatw := hat.fr (Fr.ofBelow hb)
      have c6 := hatw.c (j := 6) rfl
      clear hes hes1 hat hatw hx hS
      go_wp2_with fail
      go_roundw
      case rel => exact ⟨k + 1, by omega, by rw [HSU.out, HX.out, HSS.out]; first | done | go_num, by go_num, hb⟩
      case measure => first | exact meas_v hlt | (simp only [intOf]; omega)
    case neg =>
      have hltI : ¬ (k : Int) < (n : Int) := by omega
      obtain ⟨S, hS⟩ : ∃ S, sumI (l.take k) = S := ⟨_, rfl⟩
      rw [hS]
      have hf := Lib.hid (show r = S by rw [← HR.out, ← hS, show k = n from by omega, ← HN.out, List.take_length])
      clear hS
      go_wp2_with fail
      go_ret
      exact ⟨by rw [hf.out]; first | done | rfl, hb⟩
set_option maxHeartbeats 1000000 in
theorem rAmount_c (l : List XItem) (A : Option Addr) (c : Nat) (w : World) (hl : ListC ItemC 7 w (· < w.heap.size) [.slice A l.length c] l) (hs : smallI l) : Calls Try.prog 22 #[.slice A l.length c] w (Quiet w (.int .i64 (-sumI l))) := by
  have hcall := sum_c l A c w hl hs
  have hBk := sumI_bd hs l.length (Nat.le_refl _)
  rw [List.take_length] at hBk
  have h300 := hs.2
  obtain ⟨n, hnl⟩ : ∃ n, l.length = n := ⟨_, rfl⟩
  rw [hnl] at hcall hBk h300 ⊢
  obtain ⟨S, hS⟩ : ∃ S, sumI l = S := ⟨_, rfl⟩
  rw [hS] at hcall hBk ⊢
  obtain ⟨hB1, hB2⟩ := hBk
  have HC := Lib.hid hcall
  clear hcall hS hl hs hnl
  go_enter Try.func22, Try.ntmps22
  go_wp2_with fail
  refine HC.out.mono ?_
  rintro e w2 ⟨rfl, hb2⟩
  go_wp2_with fail
  go_ret
  exact ⟨by first | rfl | go_num, hb2⟩
set_option maxHeartbeats 1000000 in
theorem amount_c (l : List XItem) (A : Option Addr) (c : Nat) (w : World) (hl : ListC ItemC 7 w (· < w.heap.size) [.slice A l.length c] l) (hs : smallI l) : Calls Try.prog 21 #[.slice A l.length c] w (Quiet w (.int .i64 (-sumI l))) := by
  obtain ⟨r, hr⟩ : ∃ r, -sumI l = r := ⟨_, rfl⟩
  rw [hr]
  have HR := Lib.hid hr
  obtain ⟨n, hnl⟩ : ∃ n, l.length = n := ⟨_, rfl⟩
  have HL := Lib.hid hl
  have HN := Lib.hid hnl
  have HS := Lib.hid hs
  have hn : n ≤ 300 := by rw [← hnl]; exact hs.2
  rw [hnl]
  clear hr hl hnl hs
  go_enter Try.func21, Try.ntmps21
  go_wp2_with fail
  go_loopw [3, 8] (fun s i wr => ∃ k : Nat, k ≤ n ∧ s = .int .i64 (-sumI (l.take k)) ∧ i = .int .i64 (k : Int) ∧ Below w.heap.size w wr) (fun _ i _ => n - (intOf i).toNat)
  case atStart => exact ⟨0, by omega, rfl, rfl, Below.refl _ _⟩
  case round =>
    obtain ⟨k, hk, rfl, rfl, hb⟩ := hrel
    by_cases hlt : k < n
    case pos =>
      have hltI : (k : Int) < (n : Int) := by omega
      have hkl : k < l.length := by rw [HN.out]; exact hlt
      obtain ⟨b, o, es, hAe, hbw, hes, hat⟩ := ListC.get HL.out k hkl
      subst hAe
      have hes1 := ItemC.lit hes
      rw [hes1] at hat
      have hbd := HS.out.1 _ (List.getElem_mem hkl)
      have HSU := Lib.hid (sumI_succ hkl)
      have hBk := sumI_bd HS.out k (by omega)
      obtain ⟨x, hx⟩ : ∃ x, l[k] = x := ⟨_, rfl⟩
      rw [hx] at hat hbd
      have HX := Lib.hid hx
      obtain ⟨⟨i1, i2⟩, i3, i4, i5, i6, am⟩ := x
      simp only at hbd
      obtain ⟨S, hS⟩ : ∃ S, sumI (l.take k) = S := ⟨_, rfl⟩
      rw [hS] at hBk ⊢
      have HSS := Lib.hid hS
      have HBK := Lib.hid hBk
      obtain ⟨hB1, hB2⟩ := hBk
      obtain ⟨hb1, hb2⟩ := hbd
      have hatw := hat.fr (Fr.ofBelow hb)
      have HAR := Lib.hid hatw.range
      clear hes hes1 hat hatw hx hS
      go_upto_region 5 with (show wpList _ _ _ (Oper.mk (some 11) _ _ _ _ _ :: _) _ _; refine wpList_load_mid rfl 110 (.tmp 10) rfl b (o + k * 7) rfl [.int .i64 i1, .int .i64 i2, .int .i64 i3, .int .i64 i4, .int .i64 i5, .int .i64 i6, .int .i64 am] _ HAR.out Try.underlying110 rfl info_item ?_)
      have H6 := heap_alloc_new wr (.cells #[.int .i64 i1, .int .i64 i2, .int .i64 i3, .int .i64 i4, .int .i64 i5, .int .i64 i6, .int .i64 am] 110)
      have HB6 := below1 wr (.cells #[.int .i64 i1, .int .i64 i2, .int .i64 i3, .int .i64 i4, .int .i64 i5, .int .i64 i6, .int .i64 am] 110)
      have HS6 : wr.heap.size < (wr.alloc (.cells #[.int .i64 i1, .int .i64 i2, .int .i64 i3, .int .i64 i4, .int .i64 i5, .int .i64 i6, .int .i64 am] 110)).heap.size := blk_lt H6
      generalize hW6 : wr.alloc (Obj.cells #[.int .i64 i1, .int .i64 i2, .int .i64 i3, .int .i64 i4, .int .i64 i5, .int .i64 i6, .int .i64 am] 110) = W6 at *
      clear hW6
      have c6 := blk_cell H6 6
      have hb6 := hb.trans (HB6.mono hb.size)
      clear H6
      go_wp2_with fail
      go_roundw
      case rel => exact ⟨k + 1, by omega, by rw [HSU.out, HX.out, HSS.out]; first | done | go_num | (congr 1; omega), by go_num, hb6⟩
      case measure => first | exact meas_v hlt | (simp only [intOf]; omega)
    case neg =>
      have hltI : ¬ (k : Int) < (n : Int) := by omega
      obtain ⟨S, hS⟩ : ∃ S, sumI (l.take k) = S := ⟨_, rfl⟩
      rw [hS]
      have hf := Lib.hid (show r = -S by rw [← HR.out, ← hS, show k = n from by omega, ← HN.out, List.take_length])
      clear hS
      go_wp2_with fail
      go_ret
      exact ⟨by rw [hf.out]; first | done | rfl, hb⟩
set_option maxHeartbeats 1000000 in
theorem small_c (l : List XItem) (A : Option Addr) (c : Nat) (w : World) (hl : ListC ItemC 7 w (· < w.heap.size) [.slice A l.length c] l) : Calls Try.prog 17 #[.slice A l.length c] w (If (smallI l) w) := by
  have hbn := hl.cap.2
  obtain ⟨n, hnl⟩ : ∃ n, l.length = n := ⟨_, rfl⟩
  have HL := Lib.hid hl
  have HN := Lib.hid hnl
  obtain ⟨P, hP⟩ : ∃ P, smallI l = P := ⟨_, rfl⟩
  rw [hP]
  have HP := Lib.hid (show (∀ x ∈ l, -1125899906842624 ≤ x.amount ∧ x.amount ≤ 1125899906842624) → l.length ≤ 300 → P from fun h h2 => hP ▸ ⟨h, h2⟩)
  rw [hnl] at hbn ⊢
  unfold maxLen at hbn
  clear hl hnl hP
  go_enter Try.func17, Try.ntmps17
  go_wp2_with fail
  go_loopw [3] (fun i wr => ∃ k : Nat, k ≤ n ∧ i = .int .i64 (k : Int) ∧ Below w.heap.size w wr ∧ ∀ j (hj : j < l.length), j < k → -1125899906842624 ≤ l[j].amount ∧ l[j].amount ≤ 1125899906842624) (fun i _ => n - (intOf i).toNat)
  case atStart => exact ⟨0, by omega, rfl, Below.refl _ _, fun j hj h => by omega⟩
  case round =>
    obtain ⟨k, hk, rfl, hb, hall⟩ := hrel
    have HA := Lib.hid hall
    clear hall
    by_cases hlt : k < n
    case pos =>
      have hltI : (k : Int) < (n : Int) := by omega
      have hkl : k < l.length := by rw [HN.out]; exact hlt
      obtain ⟨b, o, es, hAe, hbw, hes, hat⟩ := ListC.get HL.out k hkl
      subst hAe
      have hes1 := ItemC.lit hes
      rw [hes1] at hat
      obtain ⟨x, hx⟩ : ∃ x, l[k] = x := ⟨_, rfl⟩
      rw [hx] at hat
      have HX := Lib.hid hx
      obtain ⟨⟨i1, i2⟩, i3, i4, i5, i6, am⟩ := x
      have c6 := (hat.fr (Fr.ofBelow hb)).c (j := 6) rfl
      clear hes hes1 hat hx
      by_cases h1 : 1125899906842624 < am
      case pos =>
        go_wp2_with fail
        go_ret
        exact If.no hb
      case neg =>
      by_cases h2 : am < -1125899906842624
      case pos =>
        go_wp2_with fail
        go_ret
        exact If.no hb
      case neg =>
        have HROW := Lib.hid (show -1125899906842624 ≤ am ∧ am ≤ 1125899906842624 by omega)
        go_wp2_with fail
        go_roundw
        case rel => exact ⟨k + 1, by omega, by go_num, hb, fun j hj hjk => by
          rcases Nat.lt_or_ge j k with h | h
          · exact HA.out j hj h
          · have : j = k := by omega
            subst this
            rw [HX.out]
            exact HROW.out⟩
        case measure => first | exact meas_v hlt | (simp only [intOf]; omega)
    case neg =>
      have hltI : ¬ (k : Int) < (n : Int) := by omega
      by_cases h1 : n ≤ 300
      case neg =>
        have h1I : ¬ (n : Int) ≤ 300 := by omega
        go_wp2_with fail
        go_ret
        exact If.no hb
      case pos =>
        have h1I : (n : Int) ≤ 300 := by omega
        have HY := Lib.hid (show P from HP.out (fun x hx => by
          obtain ⟨j, hj, rfl⟩ := List.getElem_of_mem hx
          exact HA.out j hj (by have := HN.out; omega)) (by rw [HN.out]; exact h1))
        go_wp2_with fail
        go_ret
        exact If.yes HY.out hb
end Go.Proofs.Ytnigokmjehemaaa

/- Postings of the reserve. Written by gen_c2.py. -/
namespace Go.Proofs.Ytnigokmjehemaaa
open Go Go.RowKit
set_option linter.unusedVariables false
set_option linter.unusedSimpArgs false
set_option maxRecDepth 4000
attribute [local go_sem ↓] Go.wp_at_zero Go.wp_at_succ
def postB (g : XGroup) (entity n : Int) : XPosting × Int :=
  if groupB g = false then ({}, 1)
  else if entity < 0 ∨ (g.entities.length : Int) ≤ entity ∨ monB n = false then ({}, 2)
  else if n = 0 then ({}, 0) else ({ kind := 1, entity := entity, other := -1, rule := 0, parts := [⟨g.roles.reserve, n⟩] }, 0)
/-- What a call that returns a posting and an error leaves. -/
def PostC (w : World) (p : XPosting × Int) (e : Ending) (w' : World) : Prop := ∃ A c, e = .returned (.tuple #[.agg #[.int .i64 p.1.kind, .int .i64 p.1.entity, .int .i64 p.1.other, .int .i64 p.1.rule, .slice A p.1.parts.length c], .int .i64 p.2]) ∧
  ListC PartC 2 w' (fun k => w.heap.size ≤ k ∧ k < w'.heap.size) [.slice A p.1.parts.length c] p.1.parts ∧ Below w.heap.size w w'
theorem PostC.bad {w w' : World} {e : Int} (hb : Below w.heap.size w w') : PostC w ({}, e) (.returned (.tuple #[.agg #[.int .i64 0, .int .i64 0, .int .i64 0, .int .i64 0, .slice none 0 0], .int .i64 e])) w' := ⟨none, 0, rfl, listC0 _ _ _ _, hb⟩
theorem info_post : (Try.prog.info? 36).map (·.size) = some 5 := by kernel_rfl
theorem PostC.good {w w' : World} {b : Nat} {T : TypeId} {k e o r a n err : Int} (hb : Below w.heap.size w w') (hw : w.heap.size ≤ b) (hB : w'.heap[b]? = some (.cells #[.int .i64 a, .int .i64 n] T (0, 0))) (ha : intBd a) (hn : intBd n) : PostC w (⟨k, e, o, r, [⟨a, n⟩]⟩, err) (.returned (.tuple #[.agg #[.int .i64 k, .int .i64 e, .int .i64 o, .int .i64 r, .slice (some ⟨b, 0, none⟩) 1 1], .int .i64 err])) w' := by
  refine ⟨_, _, rfl, ⟨_, _, rfl, Nat.le_refl _, by unfold maxLen; simp, fun _ => ⟨b, 0, rfl, ⟨hw, blk_lt hB⟩, fun i x hx => ?_⟩⟩, hb⟩
  cases i with
  | succ i => simp at hx
  | zero =>
    simp only [List.getElem?_cons_zero, Option.some.injEq] at hx
    subst hx
    refine ⟨[.int .i64 a, .int .i64 n], ⟨[_], [_], rfl, ⟨rfl, ha⟩, ⟨rfl, hn⟩⟩, ?_⟩
    rw [Nat.zero_mul, Nat.add_zero]
    have h2 := box_at (cs := [.int .i64 a, .int .i64 n]) hB
    exact ⟨⟨hw, blk_lt hB⟩, h2.2⟩
theorem setRow_keep {w : World} {g b : Nat} {x : Obj} {cs : Array Value} (h : w.heap[b]? = some x) (hne : b ≠ g) : (w.setRow g cs).heap[b]? = some x := ((fr_setRow w g cs).block b hne).trans h
theorem group_n {cur : ByteArray} {y m p : Int} {Ac Ae : Option Addr} {cc ce n ne : Nat} {ch : List XAccount} {es : List XEntity} {r0 r1 r2 r3 r4 r5 r6 r7 r8 r9 r10 r11 r12 r13 r14 : Int} (hN : ch.length = n) (hE : es.length = ne) {w : World} (hg : GroupC w (· < w.heap.size) (grpL cur y m p Ac ch.length cc r0 r1 r2 r3 r4 r5 r6 r7 r8 r9 r10 r11 r12 r13 r14 Ae es.length ce) ⟨cur, ⟨y, m, p⟩, ch, ⟨r0, r1, r2, r3, r4, r5, r6, r7, r8, r9, r10, r11, r12, r13, r14⟩, es⟩) (hs : smallG ⟨cur, ⟨y, m, p⟩, ch, ⟨r0, r1, r2, r3, r4, r5, r6, r7, r8, r9, r10, r11, r12, r13, r14⟩, es⟩) {v : Bool} (hv : groupB ⟨cur, ⟨y, m, p⟩, ch, ⟨r0, r1, r2, r3, r4, r5, r6, r7, r8, r9, r10, r11, r12, r13, r14⟩, es⟩ = v) : Calls Try.prog 70 #[.agg (grpL cur y m p Ac n cc r0 r1 r2 r3 r4 r5 r6 r7 r8 r9 r10 r11 r12 r13 r14 Ae ne ce).toArray] w (Quiet w (.bool v)) := by
  subst hN hE hv
  rw [← groupP_eq]
  exact group_c _ _ w hg hs
theorem rgroup_n {cur : ByteArray} {y m p : Int} {Ac Ae : Option Addr} {cc ce n ne : Nat} {ch : List XAccount} {es : List XEntity} {r0 r1 r2 r3 r4 r5 r6 r7 r8 r9 r10 r11 r12 r13 r14 : Int} (hN : ch.length = n) (hE : es.length = ne) {w : World} (hg : GroupC w (· < w.heap.size) (grpL cur y m p Ac ch.length cc r0 r1 r2 r3 r4 r5 r6 r7 r8 r9 r10 r11 r12 r13 r14 Ae es.length ce) ⟨cur, ⟨y, m, p⟩, ch, ⟨r0, r1, r2, r3, r4, r5, r6, r7, r8, r9, r10, r11, r12, r13, r14⟩, es⟩) (hs : smallG ⟨cur, ⟨y, m, p⟩, ch, ⟨r0, r1, r2, r3, r4, r5, r6, r7, r8, r9, r10, r11, r12, r13, r14⟩, es⟩) {v : Bool} (hv : groupB ⟨cur, ⟨y, m, p⟩, ch, ⟨r0, r1, r2, r3, r4, r5, r6, r7, r8, r9, r10, r11, r12, r13, r14⟩, es⟩ = v) : Calls Try.prog 25 #[.agg (grpL cur y m p Ac n cc r0 r1 r2 r3 r4 r5 r6 r7 r8 r9 r10 r11 r12 r13 r14 Ae ne ce).toArray] w (Quiet w (.bool v)) := by
  subst hN hE hv
  exact rgroup_c _ _ w hg hs
theorem items_keep {w w' : World} {cs : List Value} {l : List XItem} (h : ListC ItemC 7 w (· < w.heap.size) cs l) (hb : Below w.heap.size w w') : ListC ItemC 7 w' (· < w'.heap.size) cs l :=
  (h.fr (fun h => ItemC.fr h (Fr.ofBelow hb)) (Fr.ofBelow hb)).mono (fun h => ItemC.mono h (fun k hk => by have := hb.size; omega)) (fun k hk => by have := hb.size; omega)
theorem amount_n {l : List XItem} {A : Option Addr} {c n : Nat} {w : World} (hN : l.length = n) (hl : ListC ItemC 7 w (· < w.heap.size) [.slice A l.length c] l) (hs : smallI l) {N : Int} (hv : -sumI l = N) : Calls Try.prog 21 #[.slice A n c] w (Quiet w (.int .i64 N)) := by
  subst hN hv
  exact amount_c l A c w hl hs
theorem rAmount_n {l : List XItem} {A : Option Addr} {c n : Nat} {w : World} (hN : l.length = n) (hl : ListC ItemC 7 w (· < w.heap.size) [.slice A l.length c] l) (hs : smallI l) {N : Int} (hv : -sumI l = N) : Calls Try.prog 22 #[.slice A n c] w (Quiet w (.int .i64 N)) := by
  subst hN hv
  exact rAmount_c l A c w hl hs
theorem sum_n {l : List XItem} {A : Option Addr} {c n : Nat} {w : World} (hN : l.length = n) (hl : ListC ItemC 7 w (· < w.heap.size) [.slice A l.length c] l) (hs : smallI l) {N : Int} (hv : sumI l = N) : Calls Try.prog 23 #[.slice A n c] w (Quiet w (.int .i64 N)) := by
  subst hN hv
  exact sum_c l A c w hl hs
set_option maxHeartbeats 4000000 in
theorem posting_c (g : XGroup) (cs : List Value) (ent : Int) (l : List XItem) (Al : Option Addr) (cl : Nat) (w : World) (hg : GroupC w (· < w.heap.size) cs g) (hsm : smallG g) (hent : intBd ent) (hl : ListC ItemC 7 w (· < w.heap.size) [.slice Al l.length cl] l) (hsi : smallI l) : Calls Try.prog 19 #[.agg cs.toArray, .int .i64 ent, .slice Al l.length cl] w (PostC w (postB g ent (-sumI l))) := by
  obtain ⟨P, hP⟩ : ∃ P, postB g ent (-sumI l) = P := ⟨_, rfl⟩
  rw [hP]
  have HGC := Lib.hid hg
  have HSM := Lib.hid hsm
  have hne1 := hsm.2.1
  obtain ⟨N, hN⟩ : ∃ N, -sumI l = N := ⟨_, rfl⟩
  rw [hN] at hP
  have hbk := sumI_bd hsi l.length (Nat.le_refl _)
  rw [List.take_length] at hbk
  have h300 := hsi.2
  have hNb : -337769972052787200 ≤ N ∧ N ≤ 337769972052787200 := by rw [← hN]; omega
  obtain ⟨hN1, hN2⟩ := hNb
  obtain ⟨hen1, hen2⟩ := hent
  have HP := Lib.hid hP
  obtain ⟨Ac, cc, Ae, ce, rfl, hch, hen, hcal, hro⟩ := hg.lit
  clear hg
  obtain ⟨cur, ⟨y, m, p⟩, ch, ⟨r0, r1, r2, r3, r4, r5, r6, r7, r8, r9, r10, r11, r12, r13, r14⟩, es⟩ := g
  simp only at HP hne1 hro ⊢
  have HR4 := Lib.hid (show intBd r4 from hro.2.2.2.2.1)
  obtain ⟨n, hnl⟩ : ∃ n, ch.length = n := ⟨_, rfl⟩
  obtain ⟨ne, hne⟩ : ∃ ne, es.length = ne := ⟨_, rfl⟩
  obtain ⟨nL, hnL⟩ : ∃ n, l.length = n := ⟨_, rfl⟩
  have HN := Lib.hid hnl
  have HNE := Lib.hid hne
  obtain ⟨v, hv⟩ : ∃ v, groupB ⟨cur, ⟨y, m, p⟩, ch, ⟨r0, r1, r2, r3, r4, r5, r6, r7, r8, r9, r10, r11, r12, r13, r14⟩, es⟩ = v := ⟨_, rfl⟩
  have HV := Lib.hid hv
  have HGR := Lib.hid (fun (w2 : World) (hb : Below w.heap.size w w2) => group_n hnl hne (GroupC.keep HGC.out hb) HSM.out hv)
  have HAM := Lib.hid (fun (w2 : World) (hb : Below w.heap.size w w2) => amount_n hnL (items_keep hl hb) hsi hN)
  rw [hnl, hne, hnL]
  rw [hne] at hne1
  clear hch hen hcal hro hnl hne hnL hv hN hP hl hsi hsm hbk h300
  show Calls Try.prog 19 #[.agg #[.string cur, .int .i64 y, .int .i64 m, .int .i64 p, .slice Ac n cc, .int .i64 r0, .int .i64 r1, .int .i64 r2, .int .i64 r3, .int .i64 r4, .int .i64 r5, .int .i64 r6, .int .i64 r7, .int .i64 r8, .int .i64 r9, .int .i64 r10, .int .i64 r11, .int .i64 r12, .int .i64 r13, .int .i64 r14, .slice Ae ne ce], .int .i64 ent, .slice Al nL cl] w (PostC w P)
  go_enter Try.func19, Try.ntmps19
  go_upto_region 1 with fail
  have H := heap_alloc_new w (.cells #[.string cur, .int .i64 y, .int .i64 m, .int .i64 p, .slice Ac n cc, .int .i64 r0, .int .i64 r1, .int .i64 r2, .int .i64 r3, .int .i64 r4, .int .i64 r5, .int .i64 r6, .int .i64 r7, .int .i64 r8, .int .i64 r9, .int .i64 r10, .int .i64 r11, .int .i64 r12, .int .i64 r13, .int .i64 r14, .slice Ae ne ce] 29)
  have HB := below1 w (.cells #[.string cur, .int .i64 y, .int .i64 m, .int .i64 p, .slice Ac n cc, .int .i64 r0, .int .i64 r1, .int .i64 r2, .int .i64 r3, .int .i64 r4, .int .i64 r5, .int .i64 r6, .int .i64 r7, .int .i64 r8, .int .i64 r9, .int .i64 r10, .int .i64 r11, .int .i64 r12, .int .i64 r13, .int .i64 r14, .slice Ae ne ce] 29)
  have HS : w.heap.size < (w.alloc (.cells #[.string cur, .int .i64 y, .int .i64 m, .int .i64 p, .slice Ac n cc, .int .i64 r0, .int .i64 r1, .int .i64 r2, .int .i64 r3, .int .i64 r4, .int .i64 r5, .int .i64 r6, .int .i64 r7, .int .i64 r8, .int .i64 r9, .int .i64 r10, .int .i64 r11, .int .i64 r12, .int .i64 r13, .int .i64 r14, .slice Ae ne ce] 29)).heap.size := blk_lt H
  generalize hW : w.alloc (Obj.cells #[.string cur, .int .i64 y, .int .i64 m, .int .i64 p, .slice Ac n cc, .int .i64 r0, .int .i64 r1, .int .i64 r2, .int .i64 r3, .int .i64 r4, .int .i64 r5, .int .i64 r6, .int .i64 r7, .int .i64 r8, .int .i64 r9, .int .i64 r10, .int .i64 r11, .int .i64 r12, .int .i64 r13, .int .i64 r14, .slice Ae ne ce] 29) = W at *
  have H2 := heap_alloc_new W (.cells #[.int .i64 0, .int .i64 0, .int .i64 0, .int .i64 0, .slice none 0 0] 36)
  have HB2 := below1 W (.cells #[.int .i64 0, .int .i64 0, .int .i64 0, .int .i64 0, .slice none 0 0] 36)
  have HS2 : W.heap.size < (W.alloc (.cells #[.int .i64 0, .int .i64 0, .int .i64 0, .int .i64 0, .slice none 0 0] 36)).heap.size := blk_lt H2
  replace H := alloc_keep H (Obj.cells #[.int .i64 0, .int .i64 0, .int .i64 0, .int .i64 0, .slice none 0 0] 36)
  generalize hW2 : W.alloc (Obj.cells #[.int .i64 0, .int .i64 0, .int .i64 0, .int .i64 0, .slice none 0 0] 36) = W2 at *
  clear hW2
  have eW : W.heap.size = w.heap.size + 1 := by rw [← hW]; simp
  rw [eW] at H2
  clear hW
  have hb2 := HB.trans (HB2.mono HB.size)
  have hs2 := HB2.size
  have LT1 := blk_lt H2
  have HH := Lib.hid H
  have HZ := Lib.hid H2
  clear H H2
  go_wp2_with (show wpList _ _ _ (Oper.mk (some 9) _ _ _ _ _ :: _) _ _; refine wpList_load_row_g rfl 29 (.tmp 3) rfl w.heap.size rfl _ _ _ _ HH.out Try.underlying29 rfl info_group ?_)
  refine (HGR.out W2 hb2).mono ?_
  rintro e w3 ⟨rfl, hb3⟩
  have hb03 := hb2.trans (hb3.mono hb2.size)
  have hs3 := hb3.size
  have HZ3 := Lib.hid ((hb3.block _ (by omega)).trans HZ.out)
  have HH3 := Lib.hid ((hb3.block _ (by omega)).trans HH.out)
  cases v with
  | false =>
    have hf := Lib.hid (show P = ({}, 1) by rw [← HP.out]; unfold postB; rw [if_pos HV.out])
    go_wp2_with (show wpList _ _ _ (Oper.mk none (Op.store _ (Operand.tmp 6) _) _ _ _ _ :: _) _ _; refine wpList_store_row rfl 36 (.tmp 6) (.tmp 12) rfl (w.heap.size + 1) #[.int .i64 0, .int .i64 0, .int .i64 0, .int .i64 0, .slice none 0 0] rfl rfl 36 #[.int .i64 0, .int .i64 0, .int .i64 0, .int .i64 0, .slice none 0 0] HZ3.out (by rw [info_post]; rfl) rfl (by simp [Value.oneCell']) ?_)
    refine bodyPost_ret (v := .tuple #[.agg #[.int .i64 0, .int .i64 0, .int .i64 0, .int .i64 0, .slice none 0 0], .int .i64 1]) (results_cell_tmp rfl _ _ (w.heap.size + 1) 36 _ (0, 0) _ rfl (heap_setRow HZ3.out _) Try.underlying36 rfl (by rw [info_post]; rfl) _ rfl) rfl ?_
    rw [hf.out]
    exact PostC.bad (below_setRow hb03 (by omega) _)
  | true =>
  go_wp2_with fail
  refine (HAM.out w3 hb03).mono ?_
  rintro e w4 ⟨rfl, hb4⟩
  have hb04 := hb03.trans (hb4.mono hb03.size)
  have hs4 := hb4.size
  have HZ4 := Lib.hid ((hb4.block _ (by omega)).trans HZ3.out)
  have HH4 := Lib.hid ((hb4.block _ (by omega)).trans HH3.out)
  have d20 := blk_cell HH4.out 20
  have d9 := blk_cell HH4.out 9
  by_cases h1 : ent < 0
  case pos =>
    have hf := Lib.hid (show P = ({}, 2) by rw [← HP.out]; unfold postB; rw [if_neg (by rw [HV.out]; decide)]; rw [if_pos (Or.inl h1)])
    go_wp2_with (show wpList _ _ _ (Oper.mk none (Op.store _ (Operand.tmp 6) _) _ _ _ _ :: _) _ _; refine wpList_store_row rfl 36 (.tmp 6) (.tmp 29) rfl (w.heap.size + 1) #[.int .i64 0, .int .i64 0, .int .i64 0, .int .i64 0, .slice none 0 0] rfl rfl 36 #[.int .i64 0, .int .i64 0, .int .i64 0, .int .i64 0, .slice none 0 0] HZ4.out (by rw [info_post]; rfl) rfl (by simp [Value.oneCell']) ?_)
    refine bodyPost_ret (v := .tuple #[.agg #[.int .i64 0, .int .i64 0, .int .i64 0, .int .i64 0, .slice none 0 0], .int .i64 2]) (results_cell_tmp rfl _ _ (w.heap.size + 1) 36 _ (0, 0) _ rfl (heap_setRow HZ4.out _) Try.underlying36 rfl (by rw [info_post]; rfl) _ rfl) rfl ?_
    rw [hf.out]
    exact PostC.bad (below_setRow hb04 (by omega) _)
  case neg =>
  by_cases h2 : (ne : Int) ≤ ent
  case pos =>
    have hf := Lib.hid (show P = ({}, 2) by rw [← HP.out]; unfold postB; rw [if_neg (by rw [HV.out]; decide)]; rw [if_pos (Or.inr (Or.inl (by rw [HNE.out]; exact h2)))])
    go_wp2_with (show wpList _ _ _ (Oper.mk none (Op.store _ (Operand.tmp 6) _) _ _ _ _ :: _) _ _; refine wpList_store_row rfl 36 (.tmp 6) (.tmp 29) rfl (w.heap.size + 1) #[.int .i64 0, .int .i64 0, .int .i64 0, .int .i64 0, .slice none 0 0] rfl rfl 36 #[.int .i64 0, .int .i64 0, .int .i64 0, .int .i64 0, .slice none 0 0] HZ4.out (by rw [info_post]; rfl) rfl (by simp [Value.oneCell']) ?_)
    refine bodyPost_ret (v := .tuple #[.agg #[.int .i64 0, .int .i64 0, .int .i64 0, .int .i64 0, .slice none 0 0], .int .i64 2]) (results_cell_tmp rfl _ _ (w.heap.size + 1) 36 _ (0, 0) _ rfl (heap_setRow HZ4.out _) Try.underlying36 rfl (by rw [info_post]; rfl) _ rfl) rfl ?_
    rw [hf.out]
    exact PostC.bad (below_setRow hb04 (by omega) _)
  case neg =>
  obtain ⟨mv, hmv⟩ : ∃ v, monB N = v := ⟨_, rfl⟩
  have hcall := money_c N w4
  rw [hmv] at hcall
  have HMV := Lib.hid hmv
  clear hmv
  have h2' : ¬ ent ≥ (ne : Int) := h2
  go_wp2_with fail
  refine hcall.mono ?_
  clear hcall
  rintro e w5 ⟨rfl, hb5⟩
  have hb05 := hb04.trans (hb5.mono hb04.size)
  have hs5 := hb5.size
  have HZ5 := Lib.hid ((hb5.block _ (by omega)).trans HZ4.out)
  have HH5 := Lib.hid ((hb5.block _ (by omega)).trans HH4.out)
  clear d20 d9
  have d9 := blk_cell HH5.out 9
  cases mv with
  | false =>
    have hf := Lib.hid (show P = ({}, 2) by rw [← HP.out]; unfold postB; rw [if_neg (by rw [HV.out]; decide)]; rw [if_pos (Or.inr (Or.inr HMV.out))])
    go_wp2_with (show wpList _ _ _ (Oper.mk none (Op.store _ (Operand.tmp 6) _) _ _ _ _ :: _) _ _; refine wpList_store_row rfl 36 (.tmp 6) (.tmp 29) rfl (w.heap.size + 1) #[.int .i64 0, .int .i64 0, .int .i64 0, .int .i64 0, .slice none 0 0] rfl rfl 36 #[.int .i64 0, .int .i64 0, .int .i64 0, .int .i64 0, .slice none 0 0] HZ5.out (by rw [info_post]; rfl) rfl (by simp [Value.oneCell']) ?_)
    refine bodyPost_ret (v := .tuple #[.agg #[.int .i64 0, .int .i64 0, .int .i64 0, .int .i64 0, .slice none 0 0], .int .i64 2]) (results_cell_tmp rfl _ _ (w.heap.size + 1) 36 _ (0, 0) _ rfl (heap_setRow HZ5.out _) Try.underlying36 rfl (by rw [info_post]; rfl) _ rfl) rfl ?_
    rw [hf.out]
    exact PostC.bad (below_setRow hb05 (by omega) _)
  | true =>
  have HNB := Lib.hid (show intBd N by unfold intBd; omega)
  have HNG := Lib.hid (show ¬ (ent < 0 ∨ (es.length : Int) ≤ ent ∨ monB N = false) by
    rw [HNE.out, HMV.out]
    rintro (h | h | h)
    · omega
    · omega
    · cases h)
  by_cases h3 : N = 0
  case pos =>
    subst h3
    have hf := Lib.hid (show P = ({}, 0) by rw [← HP.out]; unfold postB; rw [if_neg (by rw [HV.out]; decide)]; rw [if_neg HNG.out, if_pos rfl])
    go_wp2_with (show wpList _ _ _ (Oper.mk none (Op.store _ (Operand.tmp 6) _) _ _ _ _ :: _) _ _; refine wpList_store_row rfl 36 (.tmp 6) (.tmp 32) rfl (w.heap.size + 1) #[.int .i64 0, .int .i64 0, .int .i64 0, .int .i64 0, .slice none 0 0] rfl rfl 36 #[.int .i64 0, .int .i64 0, .int .i64 0, .int .i64 0, .slice none 0 0] HZ5.out (by rw [info_post]; rfl) rfl (by simp [Value.oneCell']) ?_)
    refine bodyPost_ret (v := .tuple #[.agg #[.int .i64 0, .int .i64 0, .int .i64 0, .int .i64 0, .slice none 0 0], .int .i64 0]) (results_cell_tmp rfl _ _ (w.heap.size + 1) 36 _ (0, 0) _ rfl (heap_setRow HZ5.out _) Try.underlying36 rfl (by rw [info_post]; rfl) _ rfl) rfl ?_
    rw [hf.out]
    exact PostC.bad (below_setRow hb05 (by omega) _)
  case neg =>
    have h3' : (N == 0) = false := by simpa using h3
    have hf := Lib.hid (show P = (⟨1, ent, -1, 0, [⟨r4, N⟩]⟩, 0) by rw [← HP.out]; unfold postB; rw [if_neg (by rw [HV.out]; decide)]; rw [if_neg HNG.out, if_neg h3])
    clear h3
    go_wp2_with (show wpList _ _ _ (Oper.mk none (Op.store _ (Operand.tmp 6) _) _ _ _ _ :: _) _ _; refine wpList_store_row rfl 36 (.tmp 6) (.tmp 40) rfl (w.heap.size + 1) #[.int .i64 1, .int .i64 ent, .int .i64 (-1), .int .i64 0, .slice (some ⟨w5.heap.size, 0, none⟩) 1 1] rfl rfl 36 #[.int .i64 0, .int .i64 0, .int .i64 0, .int .i64 0, .slice none 0 0] (alloc_keep HZ5.out _) (by rw [info_post]; rfl) rfl (by simp [Value.oneCell']) ?_)
    refine bodyPost_ret (v := .tuple #[.agg #[.int .i64 1, .int .i64 ent, .int .i64 (-1), .int .i64 0, .slice (some ⟨w5.heap.size, 0, none⟩) 1 1], .int .i64 0]) (results_cell_tmp rfl _ _ (w.heap.size + 1) 36 _ (0, 0) _ rfl (heap_setRow (alloc_keep HZ5.out _) _) Try.underlying36 rfl (by rw [info_post]; rfl) _ rfl) rfl ?_
    rw [hf.out]
    exact PostC.good (below_setRow (hb05.alloc hb05.size _) (by omega) _) (by omega) (setRow_keep (heap_alloc_new w5 _) (by omega)) HR4.out HNB.out
set_option maxHeartbeats 4000000 in
theorem rPosting_c (g : XGroup) (cs : List Value) (ent : Int) (l : List XItem) (Al : Option Addr) (cl : Nat) (w : World) (hg : GroupC w (· < w.heap.size) cs g) (hsm : smallG g) (hent : intBd ent) (hl : ListC ItemC 7 w (· < w.heap.size) [.slice Al l.length cl] l) (hsi : smallI l) : Calls Try.prog 20 #[.agg cs.toArray, .int .i64 ent, .slice Al l.length cl] w (PostC w (postB g ent (-sumI l))) := by
  obtain ⟨P, hP⟩ : ∃ P, postB g ent (-sumI l) = P := ⟨_, rfl⟩
  rw [hP]
  have HGC := Lib.hid hg
  have HSM := Lib.hid hsm
  have hne1 := hsm.2.1
  obtain ⟨N, hN⟩ : ∃ N, -sumI l = N := ⟨_, rfl⟩
  rw [hN] at hP
  have hbk := sumI_bd hsi l.length (Nat.le_refl _)
  rw [List.take_length] at hbk
  have h300 := hsi.2
  have hNb : -337769972052787200 ≤ N ∧ N ≤ 337769972052787200 := by rw [← hN]; omega
  obtain ⟨hN1, hN2⟩ := hNb
  obtain ⟨hen1, hen2⟩ := hent
  have HP := Lib.hid hP
  obtain ⟨Ac, cc, Ae, ce, rfl, hch, hen, hcal, hro⟩ := hg.lit
  clear hg
  obtain ⟨cur, ⟨y, m, p⟩, ch, ⟨r0, r1, r2, r3, r4, r5, r6, r7, r8, r9, r10, r11, r12, r13, r14⟩, es⟩ := g
  simp only at HP hne1 hro ⊢
  have HR4 := Lib.hid (show intBd r4 from hro.2.2.2.2.1)
  obtain ⟨n, hnl⟩ : ∃ n, ch.length = n := ⟨_, rfl⟩
  obtain ⟨ne, hne⟩ : ∃ ne, es.length = ne := ⟨_, rfl⟩
  obtain ⟨nL, hnL⟩ : ∃ n, l.length = n := ⟨_, rfl⟩
  have HN := Lib.hid hnl
  have HNE := Lib.hid hne
  obtain ⟨v, hv⟩ : ∃ v, groupB ⟨cur, ⟨y, m, p⟩, ch, ⟨r0, r1, r2, r3, r4, r5, r6, r7, r8, r9, r10, r11, r12, r13, r14⟩, es⟩ = v := ⟨_, rfl⟩
  have HV := Lib.hid hv
  have HGR := Lib.hid (fun (w2 : World) (hb : Below w.heap.size w w2) => rgroup_n hnl hne (GroupC.keep HGC.out hb) HSM.out hv)
  have HAM := Lib.hid (fun (w2 : World) (hb : Below w.heap.size w w2) => rAmount_n hnL (items_keep hl hb) hsi hN)
  rw [hnl, hne, hnL]
  rw [hne] at hne1
  clear hch hen hcal hro hnl hne hnL hv hN hP hl hsi hsm hbk h300
  show Calls Try.prog 20 #[.agg #[.string cur, .int .i64 y, .int .i64 m, .int .i64 p, .slice Ac n cc, .int .i64 r0, .int .i64 r1, .int .i64 r2, .int .i64 r3, .int .i64 r4, .int .i64 r5, .int .i64 r6, .int .i64 r7, .int .i64 r8, .int .i64 r9, .int .i64 r10, .int .i64 r11, .int .i64 r12, .int .i64 r13, .int .i64 r14, .slice Ae ne ce], .int .i64 ent, .slice Al nL cl] w (PostC w P)
  go_enter Try.func20, Try.ntmps20
  go_upto_region 1 with fail
  have H := heap_alloc_new w (.cells #[.string cur, .int .i64 y, .int .i64 m, .int .i64 p, .slice Ac n cc, .int .i64 r0, .int .i64 r1, .int .i64 r2, .int .i64 r3, .int .i64 r4, .int .i64 r5, .int .i64 r6, .int .i64 r7, .int .i64 r8, .int .i64 r9, .int .i64 r10, .int .i64 r11, .int .i64 r12, .int .i64 r13, .int .i64 r14, .slice Ae ne ce] 29)
  have HB := below1 w (.cells #[.string cur, .int .i64 y, .int .i64 m, .int .i64 p, .slice Ac n cc, .int .i64 r0, .int .i64 r1, .int .i64 r2, .int .i64 r3, .int .i64 r4, .int .i64 r5, .int .i64 r6, .int .i64 r7, .int .i64 r8, .int .i64 r9, .int .i64 r10, .int .i64 r11, .int .i64 r12, .int .i64 r13, .int .i64 r14, .slice Ae ne ce] 29)
  have HS : w.heap.size < (w.alloc (.cells #[.string cur, .int .i64 y, .int .i64 m, .int .i64 p, .slice Ac n cc, .int .i64 r0, .int .i64 r1, .int .i64 r2, .int .i64 r3, .int .i64 r4, .int .i64 r5, .int .i64 r6, .int .i64 r7, .int .i64 r8, .int .i64 r9, .int .i64 r10, .int .i64 r11, .int .i64 r12, .int .i64 r13, .int .i64 r14, .slice Ae ne ce] 29)).heap.size := blk_lt H
  generalize hW : w.alloc (Obj.cells #[.string cur, .int .i64 y, .int .i64 m, .int .i64 p, .slice Ac n cc, .int .i64 r0, .int .i64 r1, .int .i64 r2, .int .i64 r3, .int .i64 r4, .int .i64 r5, .int .i64 r6, .int .i64 r7, .int .i64 r8, .int .i64 r9, .int .i64 r10, .int .i64 r11, .int .i64 r12, .int .i64 r13, .int .i64 r14, .slice Ae ne ce] 29) = W at *
  have H2 := heap_alloc_new W (.cells #[.int .i64 0, .int .i64 0, .int .i64 0, .int .i64 0, .slice none 0 0] 36)
  have HB2 := below1 W (.cells #[.int .i64 0, .int .i64 0, .int .i64 0, .int .i64 0, .slice none 0 0] 36)
  have HS2 : W.heap.size < (W.alloc (.cells #[.int .i64 0, .int .i64 0, .int .i64 0, .int .i64 0, .slice none 0 0] 36)).heap.size := blk_lt H2
  replace H := alloc_keep H (Obj.cells #[.int .i64 0, .int .i64 0, .int .i64 0, .int .i64 0, .slice none 0 0] 36)
  generalize hW2 : W.alloc (Obj.cells #[.int .i64 0, .int .i64 0, .int .i64 0, .int .i64 0, .slice none 0 0] 36) = W2 at *
  clear hW2
  have eW : W.heap.size = w.heap.size + 1 := by rw [← hW]; simp
  rw [eW] at H2
  clear hW
  have hb2 := HB.trans (HB2.mono HB.size)
  have hs2 := HB2.size
  have LT1 := blk_lt H2
  have HH := Lib.hid H
  have HZ := Lib.hid H2
  clear H H2
  go_wp2_with fail
  refine (HAM.out W2 hb2).mono ?_
  rintro e w3 ⟨rfl, hb3⟩
  have hb03 := hb2.trans (hb3.mono hb2.size)
  have hs3 := hb3.size
  have HZ3 := Lib.hid ((hb3.block _ (by omega)).trans HZ.out)
  have HH3 := Lib.hid ((hb3.block _ (by omega)).trans HH.out)
  go_wp2_with (show wpList _ _ _ (Oper.mk (some 12) _ _ _ _ _ :: _) _ _; refine wpList_load_row_g rfl 29 (.tmp 3) rfl w.heap.size rfl _ _ _ _ HH3.out Try.underlying29 rfl info_group ?_)
  refine (HGR.out w3 hb03).mono ?_
  rintro e w4 ⟨rfl, hb4⟩
  have hb04 := hb03.trans (hb4.mono hb03.size)
  have hs4 := hb4.size
  have HZ4 := Lib.hid ((hb4.block _ (by omega)).trans HZ3.out)
  have HH4 := Lib.hid ((hb4.block _ (by omega)).trans HH3.out)
  cases v with
  | false =>
    have hf := Lib.hid (show P = ({}, 1) by rw [← HP.out]; unfold postB; rw [if_pos HV.out])
    go_wp2_with (show wpList _ _ _ (Oper.mk none (Op.store _ (Operand.tmp 6) _) _ _ _ _ :: _) _ _; refine wpList_store_row rfl 36 (.tmp 6) (.tmp 15) rfl (w.heap.size + 1) #[.int .i64 0, .int .i64 0, .int .i64 0, .int .i64 0, .slice none 0 0] rfl rfl 36 #[.int .i64 0, .int .i64 0, .int .i64 0, .int .i64 0, .slice none 0 0] HZ4.out (by rw [info_post]; rfl) rfl (by simp [Value.oneCell']) ?_)
    refine bodyPost_ret (v := .tuple #[.agg #[.int .i64 0, .int .i64 0, .int .i64 0, .int .i64 0, .slice none 0 0], .int .i64 1]) (results_cell_tmp rfl _ _ (w.heap.size + 1) 36 _ (0, 0) _ rfl (heap_setRow HZ4.out _) Try.underlying36 rfl (by rw [info_post]; rfl) _ rfl) rfl ?_
    rw [hf.out]
    exact PostC.bad (below_setRow hb04 (by omega) _)
  | true =>
  have d20 := blk_cell HH4.out 20
  have d9 := blk_cell HH4.out 9
  by_cases h1 : ent < 0
  case pos =>
    have hf := Lib.hid (show P = ({}, 2) by rw [← HP.out]; unfold postB; rw [if_neg (by rw [HV.out]; decide)]; rw [if_pos (Or.inl h1)])
    go_wp2_with (show wpList _ _ _ (Oper.mk none (Op.store _ (Operand.tmp 6) _) _ _ _ _ :: _) _ _; refine wpList_store_row rfl 36 (.tmp 6) (.tmp 31) rfl (w.heap.size + 1) #[.int .i64 0, .int .i64 0, .int .i64 0, .int .i64 0, .slice none 0 0] rfl rfl 36 #[.int .i64 0, .int .i64 0, .int .i64 0, .int .i64 0, .slice none 0 0] HZ4.out (by rw [info_post]; rfl) rfl (by simp [Value.oneCell']) ?_)
    refine bodyPost_ret (v := .tuple #[.agg #[.int .i64 0, .int .i64 0, .int .i64 0, .int .i64 0, .slice none 0 0], .int .i64 2]) (results_cell_tmp rfl _ _ (w.heap.size + 1) 36 _ (0, 0) _ rfl (heap_setRow HZ4.out _) Try.underlying36 rfl (by rw [info_post]; rfl) _ rfl) rfl ?_
    rw [hf.out]
    exact PostC.bad (below_setRow hb04 (by omega) _)
  case neg =>
  by_cases h2 : (ne : Int) ≤ ent
  case pos =>
    have hf := Lib.hid (show P = ({}, 2) by rw [← HP.out]; unfold postB; rw [if_neg (by rw [HV.out]; decide)]; rw [if_pos (Or.inr (Or.inl (by rw [HNE.out]; exact h2)))])
    go_wp2_with (show wpList _ _ _ (Oper.mk none (Op.store _ (Operand.tmp 6) _) _ _ _ _ :: _) _ _; refine wpList_store_row rfl 36 (.tmp 6) (.tmp 31) rfl (w.heap.size + 1) #[.int .i64 0, .int .i64 0, .int .i64 0, .int .i64 0, .slice none 0 0] rfl rfl 36 #[.int .i64 0, .int .i64 0, .int .i64 0, .int .i64 0, .slice none 0 0] HZ4.out (by rw [info_post]; rfl) rfl (by simp [Value.oneCell']) ?_)
    refine bodyPost_ret (v := .tuple #[.agg #[.int .i64 0, .int .i64 0, .int .i64 0, .int .i64 0, .slice none 0 0], .int .i64 2]) (results_cell_tmp rfl _ _ (w.heap.size + 1) 36 _ (0, 0) _ rfl (heap_setRow HZ4.out _) Try.underlying36 rfl (by rw [info_post]; rfl) _ rfl) rfl ?_
    rw [hf.out]
    exact PostC.bad (below_setRow hb04 (by omega) _)
  case neg =>
  obtain ⟨mv, hmv⟩ : ∃ v, monB N = v := ⟨_, rfl⟩
  have hcall := rMoney_c N w4
  rw [hmv] at hcall
  have HMV := Lib.hid hmv
  clear hmv
  have h2' : ¬ ent ≥ (ne : Int) := h2
  go_wp2_with fail
  refine hcall.mono ?_
  clear hcall
  rintro e w5 ⟨rfl, hb5⟩
  have hb05 := hb04.trans (hb5.mono hb04.size)
  have hs5 := hb5.size
  have HZ5 := Lib.hid ((hb5.block _ (by omega)).trans HZ4.out)
  have HH5 := Lib.hid ((hb5.block _ (by omega)).trans HH4.out)
  clear d20 d9
  have d9 := blk_cell HH5.out 9
  cases mv with
  | false =>
    have hf := Lib.hid (show P = ({}, 2) by rw [← HP.out]; unfold postB; rw [if_neg (by rw [HV.out]; decide)]; rw [if_pos (Or.inr (Or.inr HMV.out))])
    go_wp2_with (show wpList _ _ _ (Oper.mk none (Op.store _ (Operand.tmp 6) _) _ _ _ _ :: _) _ _; refine wpList_store_row rfl 36 (.tmp 6) (.tmp 31) rfl (w.heap.size + 1) #[.int .i64 0, .int .i64 0, .int .i64 0, .int .i64 0, .slice none 0 0] rfl rfl 36 #[.int .i64 0, .int .i64 0, .int .i64 0, .int .i64 0, .slice none 0 0] HZ5.out (by rw [info_post]; rfl) rfl (by simp [Value.oneCell']) ?_)
    refine bodyPost_ret (v := .tuple #[.agg #[.int .i64 0, .int .i64 0, .int .i64 0, .int .i64 0, .slice none 0 0], .int .i64 2]) (results_cell_tmp rfl _ _ (w.heap.size + 1) 36 _ (0, 0) _ rfl (heap_setRow HZ5.out _) Try.underlying36 rfl (by rw [info_post]; rfl) _ rfl) rfl ?_
    rw [hf.out]
    exact PostC.bad (below_setRow hb05 (by omega) _)
  | true =>
  have HNB := Lib.hid (show intBd N by unfold intBd; omega)
  have HNG := Lib.hid (show ¬ (ent < 0 ∨ (es.length : Int) ≤ ent ∨ monB N = false) by
    rw [HNE.out, HMV.out]
    rintro (h | h | h)
    · omega
    · omega
    · cases h)
  by_cases h3 : N = 0
  case pos =>
    subst h3
    have hf := Lib.hid (show P = ({}, 0) by rw [← HP.out]; unfold postB; rw [if_neg (by rw [HV.out]; decide)]; rw [if_neg HNG.out, if_pos rfl])
    go_wp2_with (show wpList _ _ _ (Oper.mk none (Op.store _ (Operand.tmp 6) _) _ _ _ _ :: _) _ _; refine wpList_store_row rfl 36 (.tmp 6) (.tmp 35) rfl (w.heap.size + 1) #[.int .i64 0, .int .i64 0, .int .i64 0, .int .i64 0, .slice none 0 0] rfl rfl 36 #[.int .i64 0, .int .i64 0, .int .i64 0, .int .i64 0, .slice none 0 0] HZ5.out (by rw [info_post]; rfl) rfl (by simp [Value.oneCell']) ?_)
    refine bodyPost_ret (v := .tuple #[.agg #[.int .i64 0, .int .i64 0, .int .i64 0, .int .i64 0, .slice none 0 0], .int .i64 0]) (results_cell_tmp rfl _ _ (w.heap.size + 1) 36 _ (0, 0) _ rfl (heap_setRow HZ5.out _) Try.underlying36 rfl (by rw [info_post]; rfl) _ rfl) rfl ?_
    rw [hf.out]
    exact PostC.bad (below_setRow hb05 (by omega) _)
  case neg =>
    have h3' : (N == 0) = false := by simpa using h3
    have hf := Lib.hid (show P = (⟨1, ent, -1, 0, [⟨r4, N⟩]⟩, 0) by rw [← HP.out]; unfold postB; rw [if_neg (by rw [HV.out]; decide)]; rw [if_neg HNG.out, if_neg h3])
    clear h3
    go_wp2_with (show wpList _ _ _ (Oper.mk none (Op.store _ (Operand.tmp 6) _) _ _ _ _ :: _) _ _; refine wpList_store_row rfl 36 (.tmp 6) (.tmp 43) rfl (w.heap.size + 1) #[.int .i64 1, .int .i64 ent, .int .i64 (-1), .int .i64 0, .slice (some ⟨w5.heap.size, 0, none⟩) 1 1] rfl rfl 36 #[.int .i64 0, .int .i64 0, .int .i64 0, .int .i64 0, .slice none 0 0] (alloc_keep HZ5.out _) (by rw [info_post]; rfl) rfl (by simp [Value.oneCell']) ?_)
    refine bodyPost_ret (v := .tuple #[.agg #[.int .i64 1, .int .i64 ent, .int .i64 (-1), .int .i64 0, .slice (some ⟨w5.heap.size, 0, none⟩) 1 1], .int .i64 0]) (results_cell_tmp rfl _ _ (w.heap.size + 1) 36 _ (0, 0) _ rfl (heap_setRow (alloc_keep HZ5.out _) _) Try.underlying36 rfl (by rw [info_post]; rfl) _ rfl) rfl ?_
    rw [hf.out]
    exact PostC.good (below_setRow (hb05.alloc hb05.size _) (by omega) _) (by omega) (setRow_keep (heap_alloc_new w5 _) (by omega)) HR4.out HNB.out
end Go.Proofs.Ytnigokmjehemaaa
