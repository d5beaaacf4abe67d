/- Lists of lines compared. Written by gen_e8.py. -/
import Derived.Test.YtnigokmjehemaaaJE5E7
import Derived.Test.YtnigokmjehemaaaProg
namespace Go.Proofs.Ytnigokmjehemaaa
open Go Go.RowKit
set_option linter.unusedVariables false
set_option linter.unusedSimpArgs false
set_option maxRecDepth 4000
attribute [local go_sem ↓] Go.wp_at_zero Go.wp_at_succ
set_option maxHeartbeats 2000000 in
theorem same_c (a b' : List XLine) (A B : Option Addr) (c c4 : Nat) (w : World) (ha : ListC LineC 3 w (· < w.heap.size) [.slice A a.length c] a) (hb' : ListC LineC 3 w (· < w.heap.size) [.slice B b'.length c4] b') : Calls Try.prog 30 #[.slice A a.length c, .slice B b'.length c4] w (Quiet w (.bool (decide (a = b')))) := by
  obtain ⟨r, hr⟩ : ∃ r, decide (a = b') = r := ⟨_, rfl⟩
  rw [hr]
  have HR := Lib.hid hr
  have hbn := ha.cap
  have hbn2 := hb'.cap
  obtain ⟨n, hnl⟩ : ∃ n, a.length = n := ⟨_, rfl⟩
  obtain ⟨m, hml⟩ : ∃ n, b'.length = n := ⟨_, rfl⟩
  have HA := Lib.hid ha
  have HB := Lib.hid hb'
  have HN := Lib.hid hnl
  have HM := Lib.hid hml
  rw [hnl] at hbn ⊢
  rw [hml] at hbn2 ⊢
  unfold maxLen at hbn hbn2
  have hn9 : n ≤ 9223372036854775807 := by omega
  have hm9 : m ≤ 9223372036854775807 := by omega
  clear hr ha hb' hnl hml hbn hbn2
  by_cases hl : n = m
  case neg =>
    have hf := Lib.hid (show r = false by rw [← HR.out]; exact decide_eq_false (fun e => hl (by rw [← HN.out, ← HM.out, e])))
    have hl1 : ((n : Int) != (m : Int)) = true := by simp; omega
    clear hl
    go_enter Try.func30, Try.ntmps30
    go_wp2_with fail
    go_ret
    exact ⟨by rw [hf.out]; first | done | rfl, Below.refl _ _⟩
  case pos =>
  subst hl
  go_enter Try.func30, Try.ntmps30
  go_wp2_with fail
  go_loopw [5] (fun i wr => ∃ k : Nat, k ≤ n ∧ i = .int .i64 (k : Int) ∧ Below w.heap.size w wr ∧ ∀ j, j < k → a[j]? = b'[j]?) (fun i _ => n - (intOf i).toNat)
  case atStart => exact ⟨0, by omega, rfl, Below.refl _ _, fun j h => by omega⟩
  case round =>
    obtain ⟨k, hk, rfl, hb, hall⟩ := hrel
    have HALL := Lib.hid hall
    clear hall
    by_cases hlt : k < n
    case pos =>
      have hltI : (k : Int) < (n : Int) := by omega
      have hkl : k < a.length := by rw [HN.out]; exact hlt
      have hkm : k < b'.length := by rw [HM.out]; exact hlt
      obtain ⟨b, o, es, hAe, hbw, hes, hat⟩ := ListC.get HA.out k hkl
      obtain ⟨b4, o4, es4, hAe4, hbw4, hes4, hat4⟩ := ListC.get HB.out k hkm
      subst hAe hAe4
      have hes1 := (LineC.lit hes).1
      have hes2 := (LineC.lit hes4).1
      rw [hes1] at hat
      rw [hes2] at hat4
      obtain ⟨x, hx⟩ : ∃ x, a[k] = x := ⟨_, rfl⟩
      obtain ⟨y, hy⟩ : ∃ x, b'[k] = x := ⟨_, rfl⟩
      rw [hx] at hat
      rw [hy] at hat4
      have HX := Lib.hid (show a[k]? = some x by rw [List.getElem?_eq_getElem hkl, hx])
      have HY := Lib.hid (show b'[k]? = some y by rw [List.getElem?_eq_getElem hkm, hy])
      have AT1 := Lib.hid ((hat.fr (Fr.ofBelow hb)).mono (fun q (hq : q < w.heap.size) => show q < wr.heap.size by have := hb.size; omega))
      have AT2 := Lib.hid ((hat4.fr (Fr.ofBelow hb)).mono (fun q (hq : q < w.heap.size) => show q < wr.heap.size by have := hb.size; omega))
      clear hes hes4 hes1 hes2 hat hat4 hx hy
      by_cases he : x = y
      case neg =>
        have hf := Lib.hid (show r = false by rw [← HR.out]; exact decide_eq_false (fun e => he (by have h1 := HX.out; rw [e, HY.out] at h1; exact (Option.some.inj h1).symm)))
        obtain ⟨a1, a2, a3⟩ := x
        obtain ⟨b1, b2, b3⟩ := y
        have HNEQ := Lib.hid (show ¬ (a1 = b1 ∧ a2 = b2 ∧ a3 = b3) from fun h => he (by rw [h.1, h.2.1, h.2.2]))
        try simp only at AT1 AT2
        clear he
        go_wp2_with fail
        refine wp_region_inv (Ks wr [.val (.slice (some ⟨b, o, none⟩) n c), .val (.int .i64 (k : Int)), .val (.pointer (some ⟨b, o + k * 3, none⟩)), .val (.agg #[.int .i64 a1, .int .i64 a2, .int .i64 a3]), .val (.slice (some ⟨b4, o4, none⟩) n c4), .val (.int .i64 (k : Int)), .val (.pointer (some ⟨b4, o4 + k * 3, none⟩)), .val (.agg #[.int .i64 b1, .int .i64 b2, .int .i64 b3]), .val (.bool true)])
          (fun w' => Below wr.heap.size wr w') (by kernel_rfl) (by kernel_rfl) (by kernel_rfl) (Below.refl _ _).drew ?_ ?_
        · refine ⟨?_, ?_, ?_, ?_, ?_, ?_, ?_, ?_, ?_, trivial⟩
          · intro listed A0 w2 hI hd hnd K hK
            have e0 := hI.slot hnd 0 _ rfl (by kernel_rfl)
            have hS := hI.world
            refine wanted_go rfl ?_
            clear hI hd hnd
            go_simp
            exact hK.out _ _ hS (Ks.of rfl rfl) (fun _ _ h => h)
          · intro listed A0 w2 hI hd hnd K hK
            have e0 := hI.slot hnd 5 _ rfl (by kernel_rfl)
            have hS := hI.world
            refine wanted_go rfl ?_
            clear hI hd hnd
            go_simp
            exact hK.out _ _ hS (Ks.of rfl rfl) (fun _ _ h => h)
          · intro listed A0 w2 hI hd hnd K hK
            have e0 := hI.depv hd 0 17 _ rfl rfl rfl (by kernel_rfl)
            have e1 := hI.depv hd 1 18 _ rfl rfl rfl (by kernel_rfl)
            have hS := hI.world
            refine wanted_go rfl ?_
            clear hI hd hnd
            go_simp
            exact hK.out _ _ hS (Ks.of rfl rfl) (fun _ _ h => h)
          · intro listed A0 w2 hI hd hnd K hK
            have e0 := hI.depv hd 2 19 _ rfl rfl rfl (by kernel_rfl)
            have hS := hI.world
            have hrange : w2.rangeAt b (o + k * 3) [.int .i64 a1, .int .i64 a2, .int .i64 a3] := (AT1.out.fr (Fr.ofBelow hS)).range
            have hisize := info_line
            refine wanted_go rfl ?_
            clear hI hd hnd
            refine wp_load_mid 57 (.tmp 19) rfl _ _ (by simpa [Act.eval, Array.getD_eq_getD_getElem?] using e0) _ _ hrange Try.underlying57 rfl hisize ?_
            exact hK.out _ _ hS (Ks.of rfl rfl) (fun _ _ h => h)
          · intro listed A0 w2 hI hd hnd K hK
            have e0 := hI.slot hnd 1 _ rfl (by kernel_rfl)
            have hS := hI.world
            refine wanted_go rfl ?_
            clear hI hd hnd
            go_simp
            exact hK.out _ _ hS (Ks.of rfl rfl) (fun _ _ h => h)
          · intro listed A0 w2 hI hd hnd K hK
            have e0 := hI.slot hnd 5 _ rfl (by kernel_rfl)
            have hS := hI.world
            refine wanted_go rfl ?_
            clear hI hd hnd
            go_simp
            exact hK.out _ _ hS (Ks.of rfl rfl) (fun _ _ h => h)
          · intro listed A0 w2 hI hd hnd K hK
            have e0 := hI.depv hd 4 21 _ rfl rfl rfl (by kernel_rfl)
            have e1 := hI.depv hd 5 22 _ rfl rfl rfl (by kernel_rfl)
            have hS := hI.world
            refine wanted_go rfl ?_
            clear hI hd hnd
            go_simp
            exact hK.out _ _ hS (Ks.of rfl rfl) (fun _ _ h => h)
          · intro listed A0 w2 hI hd hnd K hK
            have e0 := hI.depv hd 6 23 _ rfl rfl rfl (by kernel_rfl)
            have hS := hI.world
            have hrange : w2.rangeAt b4 (o4 + k * 3) [.int .i64 b1, .int .i64 b2, .int .i64 b3] := (AT2.out.fr (Fr.ofBelow hS)).range
            have hisize := info_line
            refine wanted_go rfl ?_
            clear hI hd hnd
            refine wp_load_mid 57 (.tmp 23) rfl _ _ (by simpa [Act.eval, Array.getD_eq_getD_getElem?] using e0) _ _ hrange Try.underlying57 rfl hisize ?_
            exact hK.out _ _ hS (Ks.of rfl rfl) (fun _ _ h => h)
          · intro listed A0 w2 hI hd hnd K hK
            have e0 := hI.depv hd 3 20 _ rfl rfl rfl (by kernel_rfl)
            have e1 := hI.depv hd 7 24 _ rfl rfl rfl (by kernel_rfl)
            have hS := hI.world
            have hne := HNEQ.out
            refine wanted_go rfl ?_
            clear hI hd hnd
            go_simp
            by_cases e1 : a1 = b1
            · by_cases e2 : a2 = b2
              · by_cases e3 : a3 = b3
                · exact absurd ⟨e1, e2, e3⟩ hne
                · rw [if_pos e1, if_pos e2, if_neg e3]; exact hK.out _ _ hS (Ks.of rfl rfl) (fun _ _ h => h)
              · rw [if_pos e1, if_neg e2]; exact hK.out _ _ hS (Ks.of rfl rfl) (fun _ _ h => h)
            · rw [if_neg e1]; exact hK.out _ _ hS (Ks.of rfl rfl) (fun _ _ h => h)
        · intro listed A0 w2 hI hall
          obtain ⟨x0, g0, h0⟩ := hI.got 0 _ 17 rfl rfl (hall 0 (by decide))
          obtain ⟨x1, g1, h1⟩ := hI.got 1 _ 18 rfl rfl (hall 1 (by decide))
          obtain ⟨x2, g2, h2⟩ := hI.got 2 _ 19 rfl rfl (hall 2 (by decide))
          obtain ⟨x3, g3, h3⟩ := hI.got 3 _ 20 rfl rfl (hall 3 (by decide))
          obtain ⟨x4, g4, h4⟩ := hI.got 4 _ 21 rfl rfl (hall 4 (by decide))
          obtain ⟨x5, g5, h5⟩ := hI.got 5 _ 22 rfl rfl (hall 5 (by decide))
          obtain ⟨x6, g6, h6⟩ := hI.got 6 _ 23 rfl rfl (hall 6 (by decide))
          obtain ⟨x7, g7, h7⟩ := hI.got 7 _ 24 rfl rfl (hall 7 (by decide))
          obtain ⟨x8, g8, h8⟩ := hI.got 8 _ 25 rfl rfl (hall 8 (by decide))
          have hS := hI.world
          have hA : A0 = _ := hI.tmps [(17, x0), (18, x1), (19, x2), (20, x3), (21, x4), (22, x5), (23, x6), (24, x7), (25, x8)] (by simp only [List.mem_cons, List.not_mem_nil, or_false, forall_eq_or_imp, forall_eq]; exact ⟨g0, g1, g2, g3, g4, g5, g6, g7, g8⟩) (by kernel_rfl)
          obtain rfl : x8 = .bool true := h8 _ rfl
          clear h0 g0 h1 g1 h2 g2 h3 g3 h4 g4 h5 g5 h6 g6 h7 g7 h8 g8 hI hall
          simp only [setAll, List.foldl, List.setIfInBounds_toArray, List.set_cons_zero, List.set_cons_succ] at hA
          rw [hA]
          clear hA
          go_wp2_with fail
          go_ret
          exact ⟨by rw [hf.out]; first | done | rfl, hb.trans (hS.mono hb.size)⟩
      case pos =>
        subst he
        obtain ⟨a1, a2, a3⟩ := x
        try simp only at AT1 AT2
        go_wp2_with fail
        refine wp_region_inv (Ks wr [.val (.slice (some ⟨b, o, none⟩) n c), .val (.int .i64 (k : Int)), .val (.pointer (some ⟨b, o + k * 3, none⟩)), .val (.agg #[.int .i64 a1, .int .i64 a2, .int .i64 a3]), .val (.slice (some ⟨b4, o4, none⟩) n c4), .val (.int .i64 (k : Int)), .val (.pointer (some ⟨b4, o4 + k * 3, none⟩)), .val (.agg #[.int .i64 a1, .int .i64 a2, .int .i64 a3]), .val (.bool false)])
          (fun w' => Below wr.heap.size wr w') (by kernel_rfl) (by kernel_rfl) (by kernel_rfl) (Below.refl _ _).drew ?_ ?_
        · refine ⟨?_, ?_, ?_, ?_, ?_, ?_, ?_, ?_, ?_, trivial⟩
          · intro listed A0 w2 hI hd hnd K hK
            have e0 := hI.slot hnd 0 _ rfl (by kernel_rfl)
            have hS := hI.world
            refine wanted_go rfl ?_
            clear hI hd hnd
            go_simp
            exact hK.out _ _ hS (Ks.of rfl rfl) (fun _ _ h => h)
          · intro listed A0 w2 hI hd hnd K hK
            have e0 := hI.slot hnd 5 _ rfl (by kernel_rfl)
            have hS := hI.world
            refine wanted_go rfl ?_
            clear hI hd hnd
            go_simp
            exact hK.out _ _ hS (Ks.of rfl rfl) (fun _ _ h => h)
          · intro listed A0 w2 hI hd hnd K hK
            have e0 := hI.depv hd 0 17 _ rfl rfl rfl (by kernel_rfl)
            have e1 := hI.depv hd 1 18 _ rfl rfl rfl (by kernel_rfl)
            have hS := hI.world
            refine wanted_go rfl ?_
            clear hI hd hnd
            go_simp
            exact hK.out _ _ hS (Ks.of rfl rfl) (fun _ _ h => h)
          · intro listed A0 w2 hI hd hnd K hK
            have e0 := hI.depv hd 2 19 _ rfl rfl rfl (by kernel_rfl)
            have hS := hI.world
            have hrange : w2.rangeAt b (o + k * 3) [.int .i64 a1, .int .i64 a2, .int .i64 a3] := (AT1.out.fr (Fr.ofBelow hS)).range
            have hisize := info_line
            refine wanted_go rfl ?_
            clear hI hd hnd
            refine wp_load_mid 57 (.tmp 19) rfl _ _ (by simpa [Act.eval, Array.getD_eq_getD_getElem?] using e0) _ _ hrange Try.underlying57 rfl hisize ?_
            exact hK.out _ _ hS (Ks.of rfl rfl) (fun _ _ h => h)
          · intro listed A0 w2 hI hd hnd K hK
            have e0 := hI.slot hnd 1 _ rfl (by kernel_rfl)
            have hS := hI.world
            refine wanted_go rfl ?_
            clear hI hd hnd
            go_simp
            exact hK.out _ _ hS (Ks.of rfl rfl) (fun _ _ h => h)
          · intro listed A0 w2 hI hd hnd K hK
            have e0 := hI.slot hnd 5 _ rfl (by kernel_rfl)
            have hS := hI.world
            refine wanted_go rfl ?_
            clear hI hd hnd
            go_simp
            exact hK.out _ _ hS (Ks.of rfl rfl) (fun _ _ h => h)
          · intro listed A0 w2 hI hd hnd K hK
            have e0 := hI.depv hd 4 21 _ rfl rfl rfl (by kernel_rfl)
            have e1 := hI.depv hd 5 22 _ rfl rfl rfl (by kernel_rfl)
            have hS := hI.world
            refine wanted_go rfl ?_
            clear hI hd hnd
            go_simp
            exact hK.out _ _ hS (Ks.of rfl rfl) (fun _ _ h => h)
          · intro listed A0 w2 hI hd hnd K hK
            have e0 := hI.depv hd 6 23 _ rfl rfl rfl (by kernel_rfl)
            have hS := hI.world
            have hrange : w2.rangeAt b4 (o4 + k * 3) [.int .i64 a1, .int .i64 a2, .int .i64 a3] := (AT2.out.fr (Fr.ofBelow hS)).range
            have hisize := info_line
            refine wanted_go rfl ?_
            clear hI hd hnd
            refine wp_load_mid 57 (.tmp 23) rfl _ _ (by simpa [Act.eval, Array.getD_eq_getD_getElem?] using e0) _ _ hrange Try.underlying57 rfl hisize ?_
            exact hK.out _ _ hS (Ks.of rfl rfl) (fun _ _ h => h)
          · intro listed A0 w2 hI hd hnd K hK
            have e0 := hI.depv hd 3 20 _ rfl rfl rfl (by kernel_rfl)
            have e1 := hI.depv hd 7 24 _ rfl rfl rfl (by kernel_rfl)
            have hS := hI.world
            refine wanted_go rfl ?_
            clear hI hd hnd
            go_simp
            exact hK.out _ _ hS (Ks.of rfl rfl) (fun _ _ h => h)
        · intro listed A0 w2 hI hall
          obtain ⟨x0, g0, h0⟩ := hI.got 0 _ 17 rfl rfl (hall 0 (by decide))
          obtain ⟨x1, g1, h1⟩ := hI.got 1 _ 18 rfl rfl (hall 1 (by decide))
          obtain ⟨x2, g2, h2⟩ := hI.got 2 _ 19 rfl rfl (hall 2 (by decide))
          obtain ⟨x3, g3, h3⟩ := hI.got 3 _ 20 rfl rfl (hall 3 (by decide))
          obtain ⟨x4, g4, h4⟩ := hI.got 4 _ 21 rfl rfl (hall 4 (by decide))
          obtain ⟨x5, g5, h5⟩ := hI.got 5 _ 22 rfl rfl (hall 5 (by decide))
          obtain ⟨x6, g6, h6⟩ := hI.got 6 _ 23 rfl rfl (hall 6 (by decide))
          obtain ⟨x7, g7, h7⟩ := hI.got 7 _ 24 rfl rfl (hall 7 (by decide))
          obtain ⟨x8, g8, h8⟩ := hI.got 8 _ 25 rfl rfl (hall 8 (by decide))
          have hS := hI.world
          have hA : A0 = _ := hI.tmps [(17, x0), (18, x1), (19, x2), (20, x3), (21, x4), (22, x5), (23, x6), (24, x7), (25, x8)] (by simp only [List.mem_cons, List.not_mem_nil, or_false, forall_eq_or_imp, forall_eq]; exact ⟨g0, g1, g2, g3, g4, g5, g6, g7, g8⟩) (by kernel_rfl)
          obtain rfl : x8 = .bool false := h8 _ rfl
          clear h0 g0 h1 g1 h2 g2 h3 g3 h4 g4 h5 g5 h6 g6 h7 g7 h8 g8 hI hall
          simp only [setAll, List.foldl, List.setIfInBounds_toArray, List.set_cons_zero, List.set_cons_succ] at hA
          rw [hA]
          clear hA
          have hbE := hb.trans (hS.mono hb.size)
          clear hS
          go_wp2_with fail
          go_roundw
          case rel => exact ⟨k + 1, by omega, by go_num, hbE, fun j hj => by
            rcases Nat.lt_or_ge j k with h | h
            · exact HALL.out j h
            · have : j = k := by omega
              subst this
              rw [HX.out, HY.out]⟩
          case measure => first | exact meas_v hlt | (simp only [intOf]; omega)
    case neg =>
      have hltI : ¬ (k : Int) < (n : Int) := by omega
      have hf := Lib.hid (show r = true by
        rw [← HR.out]
        refine decide_eq_true (List.ext_getElem? (fun i => ?_))
        rcases Nat.lt_or_ge i k with h | h
        · exact HALL.out i h
        · rw [List.getElem?_eq_none (by rw [HN.out]; omega), List.getElem?_eq_none (by rw [HM.out]; omega)])
      go_wp2_with fail
      go_ret
      exact ⟨by rw [hf.out]; first | done | rfl, hb⟩
end Go.Proofs.Ytnigokmjehemaaa

/- Few; the walk of the law EntryCheck. Written by gen_e9.py. -/
namespace Go.Proofs.Ytnigokmjehemaaa
open Go Go.RowKit
set_option linter.unusedVariables false
set_option linter.unusedSimpArgs false
set_option maxRecDepth 4000
attribute [local go_sem ↓] Go.wp_at_zero Go.wp_at_succ
theorem few_v {g : XGroup} {gl : List Value} {w w2 : World} (hg : GroupC w (· < w.heap.size) gl g) (hsz : szG g) (hb : Below w.heap.size w w2) : Calls Try.prog 18 #[.agg gl.toArray] w2 (If (fewG g) w2) := few_c g gl w2 (hg.keep hb) hsz
set_option maxHeartbeats 1000000 in
theorem few11_c (g : XGroup) (x : XEntry) (gl ex : List Value) (w : World) (hg : GroupC w (· < w.heap.size) gl g) (hsz : szG g) (hx : EntryC w (· < w.heap.size) ex x) (hts : x.text.size ≤ 140737488355327) : Calls Try.prog 58 #[.agg gl.toArray, .agg ex.toArray] w (If (fewG g ∧ x.lines.length ≤ 60 ∧ x.text.size ≤ 200) w) := by
  have HF := Lib.hid (fun (w2 : World) (hb : Below w.heap.size w w2) => few_v hg hsz hb)
  have hgl : gl.toArray.size = 21 := by have := hg.len; simpa using this
  have HGS := Lib.hid hgl
  obtain ⟨Al, cl, rfl, _, hl⟩ := hx.lit
  have hbn := hl.cap
  obtain ⟨xi, xe, xd, xk, xo, xt, ls⟩ := x
  simp only at hbn hts ⊢
  obtain ⟨nl, hnl⟩ : ∃ n, ls.length = n := ⟨_, rfl⟩
  rw [hnl] at hbn ⊢
  unfold maxLen at hbn
  have hn9 : nl ≤ 9223372036854775807 := by omega
  obtain ⟨fw, hfw⟩ : ∃ p : Prop, fewG g = p := ⟨_, rfl⟩
  rw [hfw] at HF ⊢
  clear hg hsz hx hl hnl hbn hgl hfw
  show Calls Try.prog 58 #[.agg gl.toArray, .agg #[.int .i64 xi, .int .i64 xe, .int .i64 xd, .int .i64 xk, .int .i64 xo, .string xt, .slice Al nl cl]] w (If (fw ∧ nl ≤ 60 ∧ xt.size ≤ 200) w)
  go_enter Try.func58, Try.ntmps58
  go_upto_region 1 with fail
  have H := heap_alloc_new w (.cells gl.toArray 29)
  have HB := below1 w (.cells gl.toArray 29)
  have HS : w.heap.size < (w.alloc (.cells gl.toArray 29)).heap.size := blk_lt H
  generalize hW : w.alloc (Obj.cells gl.toArray 29) = W at *
  have H2 := heap_alloc_new W (.cells #[.int .i64 xi, .int .i64 xe, .int .i64 xd, .int .i64 xk, .int .i64 xo, .string xt, .slice Al nl cl] 53)
  have HB2 := below1 W (.cells #[.int .i64 xi, .int .i64 xe, .int .i64 xd, .int .i64 xk, .int .i64 xo, .string xt, .slice Al nl cl] 53)
  have HS2 : W.heap.size < (W.alloc (.cells #[.int .i64 xi, .int .i64 xe, .int .i64 xd, .int .i64 xk, .int .i64 xo, .string xt, .slice Al nl cl] 53)).heap.size := blk_lt H2
  replace H := alloc_keep H (Obj.cells #[.int .i64 xi, .int .i64 xe, .int .i64 xd, .int .i64 xk, .int .i64 xo, .string xt, .slice Al nl cl] 53)
  generalize hW2 : W.alloc (Obj.cells #[.int .i64 xi, .int .i64 xe, .int .i64 xd, .int .i64 xk, .int .i64 xo, .string xt, .slice Al nl cl] 53) = W2 at *
  clear hW2
  have eW : W.heap.size = w.heap.size + 1 := by rw [← hW]; simp
  rw [eW] at H2
  clear hW
  have hb2 := HB.trans (HB2.mono HB.size)
  have hs2 := HB2.size
  have LT1 := blk_lt H2
  have LT0 : w.heap.size < W2.heap.size := by omega
  have HH := Lib.hid H
  have HZ := Lib.hid H2
  have EW := Lib.hid eW
  clear H H2 eW
  go_wp2_with (show wpList _ _ _ (Oper.mk (some 5) _ _ _ _ _ :: _) _ _; refine wpList_load_row_g rfl 29 (.tmp 2) rfl (w.heap.size) rfl _ _ _ _ HH.out Try.underlying29 rfl (by rw [info_group]; exact congrArg some HGS.out.symm) ?_)
  refine (HF.out W2 hb2).mono ?_
  rintro e w3 ⟨bf, rfl, hf, hb3⟩
  have hb02 := hb2
  have LT02 := LT0
  have LT12 := LT1
  have HH2 := HH
  have HZ2 := HZ
  have hb03 := hb02.trans (hb3.mono hb02.size)
  have hs3 := hb3.size
  have LT03 := Nat.lt_of_lt_of_le LT02 hs3
  have LT13 := Nat.lt_of_lt_of_le LT12 hs3
  have HH3 := Lib.hid ((hb3.block _ LT02).trans HH2.out)
  have HZ3 := Lib.hid ((hb3.block _ LT12).trans HZ2.out)
  cases bf with
  | false =>
    clear hf
    go_wp2_with fail
    go_ret
    exact If.no hb03
  | true =>
  have HFW := hf rfl
  clear hf
  have e5 := blk_cell HZ3.out 5
  have e6 := blk_cell HZ3.out 6
  by_cases h1 : nl ≤ 60
  case neg =>
    have h1d : decide ((nl : Int) ≤ 60) = false := decide_eq_false (by omega)
    go_wp2_with fail
    go_ret
    exact If.no hb03
  case pos =>
  have h1d : decide ((nl : Int) ≤ 60) = true := decide_eq_true (by omega)
  by_cases h2 : xt.size ≤ 200
  case neg =>
    have h2d : decide ((xt.size : Int) ≤ 200) = false := decide_eq_false (by omega)
    go_wp2_with fail
    go_ret
    exact If.no hb03
  case pos =>
    have h2d : decide ((xt.size : Int) ≤ 200) = true := decide_eq_true (by omega)
    have HY := Lib.hid (show fw ∧ nl ≤ 60 ∧ xt.size ≤ 200 from ⟨HFW, h1, h2⟩)
    go_wp2_with fail
    go_ret
    exact If.yes HY.out hb03
set_option maxHeartbeats 2000000 in
theorem law_check (HAW : ∀ w : World, Calls Try.prog 28 #[] w (Quiet w (.bool true))) (g : XGroup) (x : XEntry) (gl ex : List Value) (w : World) (hg : GroupC w (· < w.heap.size) gl g) (hsz : szG g) (hx : EntryC w (· < w.heap.size) ex x) (hts : x.text.size ≤ 140737488355327) : Calls Try.prog 12 #[.agg gl.toArray, .agg ex.toArray] w (Quiet w (.bool true)) := by
  have HF := Lib.hid (fun (w2 : World) (hb : Below w.heap.size w w2) => few11_c g x gl ex w2 (hg.keep hb) hsz (hx.keep hb) hts)
  have HCK := Lib.hid (fun (w2 : World) (hb : Below w.heap.size w w2) (hf : fewG g) => check_c g x gl ex w2 (hg.keep hb) hf.small (hx.keep hb) hts)
  have HRC := Lib.hid (fun (w2 : World) (hb : Below w.heap.size w w2) (hf : fewG g) => rcheck_c g x gl ex w2 (hg.keep hb) hf.small (hx.keep hb) hts)
  obtain ⟨R, hR⟩ : ∃ R, checkE g x = R := ⟨_, rfl⟩
  rw [hR] at HCK HRC
  have hgl : gl.length = 21 := hg.len
  have hel : ex.length = 7 := hx.len
  have HGS := Lib.hid (show gl.toArray.size = 21 by simpa using hgl)
  have HES := Lib.hid (show ex.toArray.size = 7 by simpa using hel)
  have HGI := Lib.hid (show (Try.prog.info? 29).map (·.size) = some gl.length by rw [info_group, hgl])
  have HEI := Lib.hid (show (Try.prog.info? 53).map (·.size) = some ex.length by rw [info_entry, hel])
  obtain ⟨Al, cl, hex, _, hl⟩ := hx.lit
  have HSM := Lib.hid (fun (w2 : World) (hb : Below w.heap.size w w2) => small11_c x.lines Al cl w2 (lines_keep hl hb))
  have HE6 := Lib.hid (show ex.toArray[6]? = some (.slice Al x.lines.length cl) by rw [hex]; rfl)
  obtain ⟨fwp, hfwp⟩ : ∃ p : Prop, (fewG g ∧ x.lines.length ≤ 60 ∧ x.text.size ≤ 200) = p := ⟨_, rfl⟩
  have HFG := Lib.hid (show fwp → fewG g from fun h => (hfwp ▸ h : fewG g ∧ _).1)
  rw [hfwp] at HF
  obtain ⟨smp, hsmp⟩ : ∃ p : Prop, smallL x.lines = p := ⟨_, rfl⟩
  rw [hsmp] at HSM
  obtain ⟨nl, hnl⟩ : ∃ n, x.lines.length = n := ⟨_, rfl⟩
  rw [hnl] at HSM HE6
  clear hR hg hsz hx hts hgl hel hl hex hfwp hsmp hnl
  go_enter Try.func12, Try.ntmps12
  go_upto_region 1 with fail
  have H := heap_alloc_new w (.cells gl.toArray 29)
  have HB := below1 w (.cells gl.toArray 29)
  have HS : w.heap.size < (w.alloc (.cells gl.toArray 29)).heap.size := blk_lt H
  generalize hW : w.alloc (Obj.cells gl.toArray 29) = W at *
  have H2 := heap_alloc_new W (.cells ex.toArray 53)
  have HB2 := below1 W (.cells ex.toArray 53)
  have HS2 : W.heap.size < (W.alloc (.cells ex.toArray 53)).heap.size := blk_lt H2
  replace H := alloc_keep H (Obj.cells ex.toArray 53)
  generalize hW2 : W.alloc (Obj.cells ex.toArray 53) = W2 at *
  clear hW2
  have eW : W.heap.size = w.heap.size + 1 := by rw [← hW]; simp
  rw [eW] at H2
  clear hW
  have hb2 := HB.trans (HB2.mono HB.size)
  have hs2 := HB2.size
  have LT1 := blk_lt H2
  have LT0 : w.heap.size < W2.heap.size := by omega
  have HH := Lib.hid H
  have HZ := Lib.hid H2
  have EW := Lib.hid eW
  clear H H2 eW
  go_wp2_with fail
  refine (HAW W2).mono ?_
  rintro e w3 ⟨rfl, hb3⟩
  have hb02 := hb2
  have LT02 := LT0
  have LT12 := LT1
  have HH2 := HH
  have HZ2 := HZ
  have hb03 := hb02.trans (hb3.mono hb02.size)
  have hs3 := hb3.size
  have LT03 := Nat.lt_of_lt_of_le LT02 hs3
  have LT13 := Nat.lt_of_lt_of_le LT12 hs3
  have HH3 := Lib.hid ((hb3.block _ LT02).trans HH2.out)
  have HZ3 := Lib.hid ((hb3.block _ LT12).trans HZ2.out)
  go_wp2_with (first | (show wpList _ _ _ (Oper.mk (some 7) _ _ _ _ _ :: _) _ _; refine wpList_load_row_g rfl 29 (.tmp 2) rfl (w.heap.size) rfl _ _ _ _ HH3.out Try.underlying29 rfl (by rw [info_group]; exact congrArg some HGS.out.symm) ?_) | (show wpList _ _ _ (Oper.mk (some 8) _ _ _ _ _ :: _) _ _; refine wpList_load_row_g rfl 53 (.tmp 3) rfl (w.heap.size + 1) rfl _ _ _ _ HZ3.out Try.underlying53 rfl (by rw [info_entry]; exact congrArg some HES.out.symm) ?_))
  refine (HF.out w3 hb03).mono ?_
  rintro e w4 ⟨bf, rfl, hf, hb4⟩
  have hb04 := hb03.trans (hb4.mono hb03.size)
  have hs4 := hb4.size
  have LT04 := Nat.lt_of_lt_of_le LT03 hs4
  have LT14 := Nat.lt_of_lt_of_le LT13 hs4
  have HH4 := Lib.hid ((hb4.block _ LT03).trans HH3.out)
  have HZ4 := Lib.hid ((hb4.block _ LT13).trans HZ3.out)
  cases bf with
  | false =>
    clear hf
    go_wp2_with fail
    go_ret
    exact ⟨rfl, hb04⟩
  | true =>
  have HFW := HFG.out (hf rfl)
  clear hf
  have e6 := (blk_cell HZ4.out 6).trans HE6.out
  go_wp2_with fail
  refine (HSM.out w4 hb04).mono ?_
  rintro e V ⟨bs, rfl, hs, hb5⟩
  have hb05 := hb04.trans (hb5.mono hb04.size)
  have hs5 := hb5.size
  have LT05 := Nat.lt_of_lt_of_le LT04 hs5
  have LT15 := Nat.lt_of_lt_of_le LT14 hs5
  have HH5 := Lib.hid ((hb5.block _ LT04).trans HH4.out)
  have HZ5 := Lib.hid ((hb5.block _ LT14).trans HZ4.out)
  clear e6
  cases bs with
  | false =>
    clear hs
    go_wp2_with fail
    go_ret
    exact ⟨rfl, hb05⟩
  | true =>
  clear hs
  have HCK2 := Lib.hid (fun (w2 : World) (hb : Below w.heap.size w w2) => HCK.out w2 hb HFW)
  have HRC2 := Lib.hid (fun (w2 : World) (hb : Below w.heap.size w w2) => HRC.out w2 hb HFW)
  have HBW := Lib.hid hb05
  have HATG := Lib.hid (box_at (cs := gl) HH5.out)
  have HATE := Lib.hid (box_at (cs := ex) HZ5.out)
  go_wp2_with fail
  refine wp_region_inv (Ks V [.val (.agg gl.toArray), .val (.agg ex.toArray), .val (.int .i64 R), .val (.agg gl.toArray), .val (.agg ex.toArray), .val (.int .i64 R), .val (.bool true), .val (.bool true)])
    (fun w' => Below V.heap.size V w') (by kernel_rfl) (by kernel_rfl) (by kernel_rfl) (Below.refl _ _).drew ?_ ?_
  · refine ⟨?_, ?_, ?_, ?_, ?_, ?_, ?_, ?_, trivial⟩
    · intro listed A0 w2 hI hd hnd K hK
      have e0 := hI.slot hnd 2 _ rfl (by kernel_rfl)
      have hS := hI.world
      have hrange : w2.rangeAt w.heap.size 0 gl := (HATG.out.fr (Fr.ofBelow hS)).range
      have hisize := HGI.out
      refine wanted_go rfl ?_
      clear hI hd hnd
      refine wp_load_mid 29 (.tmp 2) rfl _ _ (by simpa [Act.eval, Array.getD_eq_getD_getElem?] using e0) _ _ hrange Try.underlying29 rfl hisize ?_
      exact hK.out _ _ hS (Ks.of rfl rfl) (fun _ _ h => h)
    · intro listed A0 w2 hI hd hnd K hK
      have e0 := hI.slot hnd 3 _ rfl (by kernel_rfl)
      have hS := hI.world
      have hrange : w2.rangeAt (w.heap.size + 1) 0 ex := (HATE.out.fr (Fr.ofBelow hS)).range
      have hisize := HEI.out
      refine wanted_go rfl ?_
      clear hI hd hnd
      refine wp_load_mid 53 (.tmp 3) rfl _ _ (by simpa [Act.eval, Array.getD_eq_getD_getElem?] using e0) _ _ hrange Try.underlying53 rfl hisize ?_
      exact hK.out _ _ hS (Ks.of rfl rfl) (fun _ _ h => h)
    · intro listed A0 w2 hI hd hnd K hK
      have e0 := hI.depv hd 0 17 _ rfl rfl rfl (by kernel_rfl)
      have e1 := hI.depv hd 1 18 _ rfl rfl rfl (by kernel_rfl)
      have hS := hI.world
      refine wanted_go rfl ?_
      clear hI hd hnd
      go_simp
      go_at_call 59
      refine (HCK2.out w2 (HBW.out.trans (hS.mono HBW.out.size))).mono ?_
      rintro e w3 ⟨rfl, h3⟩
      exact hK.out _ _ (hS.trans (h3.mono hS.size)) (Ks.of rfl rfl) (Ks.keep h3)
    · intro listed A0 w2 hI hd hnd K hK
      have e0 := hI.slot hnd 2 _ rfl (by kernel_rfl)
      have hS := hI.world
      have hrange : w2.rangeAt w.heap.size 0 gl := (HATG.out.fr (Fr.ofBelow hS)).range
      have hisize := HGI.out
      refine wanted_go rfl ?_
      clear hI hd hnd
      refine wp_load_mid 29 (.tmp 2) rfl _ _ (by simpa [Act.eval, Array.getD_eq_getD_getElem?] using e0) _ _ hrange Try.underlying29 rfl hisize ?_
      exact hK.out _ _ hS (Ks.of rfl rfl) (fun _ _ h => h)
    · intro listed A0 w2 hI hd hnd K hK
      have e0 := hI.slot hnd 3 _ rfl (by kernel_rfl)
      have hS := hI.world
      have hrange : w2.rangeAt (w.heap.size + 1) 0 ex := (HATE.out.fr (Fr.ofBelow hS)).range
      have hisize := HEI.out
      refine wanted_go rfl ?_
      clear hI hd hnd
      refine wp_load_mid 53 (.tmp 3) rfl _ _ (by simpa [Act.eval, Array.getD_eq_getD_getElem?] using e0) _ _ hrange Try.underlying53 rfl hisize ?_
      exact hK.out _ _ hS (Ks.of rfl rfl) (fun _ _ h => h)
    · intro listed A0 w2 hI hd hnd K hK
      have e0 := hI.depv hd 3 20 _ rfl rfl rfl (by kernel_rfl)
      have e1 := hI.depv hd 4 21 _ rfl rfl rfl (by kernel_rfl)
      have hS := hI.world
      refine wanted_go rfl ?_
      clear hI hd hnd
      go_simp
      go_at_call 60
      refine (HRC2.out w2 (HBW.out.trans (hS.mono HBW.out.size))).mono ?_
      rintro e w3 ⟨rfl, h3⟩
      exact hK.out _ _ (hS.trans (h3.mono hS.size)) (Ks.of rfl rfl) (Ks.keep h3)
    · intro listed A0 w2 hI hd hnd K hK
      have e0 := hI.depv hd 2 19 _ rfl rfl rfl (by kernel_rfl)
      have e1 := hI.depv hd 5 22 _ rfl rfl rfl (by kernel_rfl)
      have hS := hI.world
      refine wanted_go rfl ?_
      clear hI hd hnd
      go_simp
      exact hK.out _ _ hS (Ks.of rfl rfl) (fun _ _ h => h)
    · intro listed A0 w2 hI hd hnd K hK
      have e0 := hI.depv hd 6 23 _ rfl rfl rfl (by kernel_rfl)
      have hS := hI.world
      refine wanted_go rfl ?_
      clear hI hd hnd
      go_simp
      exact hK.out _ _ hS (Ks.of rfl rfl) (fun _ _ h => h)
  · intro listed A0 w2 hI hall
    obtain ⟨x0, g0, h0⟩ := hI.got 0 _ 17 rfl rfl (hall 0 (by decide))
    obtain ⟨x1, g1, h1⟩ := hI.got 1 _ 18 rfl rfl (hall 1 (by decide))
    obtain ⟨x2, g2, h2⟩ := hI.got 2 _ 19 rfl rfl (hall 2 (by decide))
    obtain ⟨x3, g3, h3⟩ := hI.got 3 _ 20 rfl rfl (hall 3 (by decide))
    obtain ⟨x4, g4, h4⟩ := hI.got 4 _ 21 rfl rfl (hall 4 (by decide))
    obtain ⟨x5, g5, h5⟩ := hI.got 5 _ 22 rfl rfl (hall 5 (by decide))
    obtain ⟨x6, g6, h6⟩ := hI.got 6 _ 23 rfl rfl (hall 6 (by decide))
    obtain ⟨x7, g7, h7⟩ := hI.got 7 _ 4 rfl rfl (hall 7 (by decide))
    have hS := hI.world
    have hA : A0 = _ := hI.tmps [(17, x0), (18, x1), (19, x2), (20, x3), (21, x4), (22, x5), (23, x6), (4, x7)] (by simp only [List.mem_cons, List.not_mem_nil, or_false, forall_eq_or_imp, forall_eq]; exact ⟨g0, g1, g2, g3, g4, g5, g6, g7⟩) (by kernel_rfl)
    obtain rfl : x6 = .bool true := h6 _ rfl
    obtain rfl : x7 = .bool true := h7 _ rfl
    clear h0 g0 h1 g1 h2 g2 h3 g3 h4 g4 h5 g5 h6 g6 h7 g7 hI hall
    simp only [setAll, List.foldl, List.setIfInBounds_toArray, List.set_cons_zero, List.set_cons_succ] at hA
    rw [hA]
    clear hA
    go_wp2_with fail
    go_ret
    exact ⟨rfl, HBW.out.trans (hS.mono HBW.out.size)⟩
end Go.Proofs.Ytnigokmjehemaaa
