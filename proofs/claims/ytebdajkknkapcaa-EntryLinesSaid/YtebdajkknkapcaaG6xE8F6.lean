/- Lists of lines compared. Written by gen_e8.py. -/
import Derived.Test.YtebdajkknkapcaaG6xB0B10
import Derived.Test.YtebdajkknkapcaaG6xB14E6
import Derived.Test.YtebdajkknkapcaaProg
import Derived.WideKeyEntry
import Derived.Maps.RangeWalk
import Derived.Maps.Views
import Derived.Sort.Grow
import Derived.Shelf.SlSortCmp.WholeK
import Derived.Shelf.SlSortCmp.NoneTotal
set_option linter.unusedVariables false
set_option linter.unusedSimpArgs false
set_option maxRecDepth 4000
attribute [local go_sem ↓] Go.wp_at_zero Go.wp_at_succ
namespace Go.Proofs.Ytebdajkknkapcaa
open Go Go.RowKit
set_option maxHeartbeats 2000000 in
theorem same_c (a b' : List XLine) (A B : Option Addr) (c c4 : Nat) (w : World) (ha : ListC LineC 3 w (· < w.heap.size) [.slice A a.length c] a) (hb' : ListC LineC 3 w (· < w.heap.size) [.slice B b'.length c4] b') : Calls Try.prog 28 #[.slice A a.length c, .slice B b'.length c4] w (Quiet w (.bool (decide (a = b')))) := by
 obtain ⟨r, hr⟩ : ∃ r, decide (a = b') = r := ⟨_, rfl⟩
 rw [hr]
 have HR := Lib.hid hr
 have hbn := ha.cap
 have hbn2 := hb'.cap
 obtain ⟨n, hnl⟩ : ∃ n, a.length = n := ⟨_, rfl⟩
 obtain ⟨m, hml⟩ : ∃ n, b'.length = n := ⟨_, rfl⟩
 have HA := Lib.hid ha
 have HB := Lib.hid hb'
 have HN := Lib.hid hnl
 have HM := Lib.hid hml
 rw [hnl] at hbn ⊢
 rw [hml] at hbn2 ⊢
 unfold maxLen at hbn hbn2
 have hn9 : n ≤ 9223372036854775807 := by omega
 have hm9 : m ≤ 9223372036854775807 := by omega
 clear hr ha hb' hnl hml hbn hbn2
 by_cases hl : n = m
 case neg =>
  have hf := Lib.hid (show r = false by rw [← HR.out]; exact decide_eq_false (fun e => hl (by rw [← HN.out, ← HM.out, e])))
  have hl1 : ((n : Int) != (m : Int)) = true := by simp; omega
  clear hl
  go_enter Try.func28, Try.ntmps28
  go_wp2_with fail
  go_ret
  exact ⟨by rw [hf.out]; first | done | rfl, Below.refl _ _⟩
 case pos =>
 subst hl
 go_enter Try.func28, Try.ntmps28
 go_wp2_with fail
 go_loopw [5] (fun i wr => ∃ k : Nat, k ≤ n ∧ i = .int .i64 (k : Int) ∧ Below w.heap.size w wr ∧ ∀ j, j < k → a[j]? = b'[j]?) (fun i _ => n - (intOf i).toNat)
 case atStart => exact ⟨0, by omega, rfl, Below.refl _ _, fun j h => by omega⟩
 case round =>
  obtain ⟨k, hk, rfl, hb, hall⟩ := hrel
  have HALL := Lib.hid hall
  clear hall
  by_cases hlt : k < n
  case pos =>
   have hltI : (k : Int) < (n : Int) := by omega
   have hkl : k < a.length := by rw [HN.out]; exact hlt
   have hkm : k < b'.length := by rw [HM.out]; exact hlt
   obtain ⟨b, o, es, hAe, hbw, hes, hat⟩ := ListC.get HA.out k hkl
   obtain ⟨b4, o4, es4, hAe4, hbw4, hes4, hat4⟩ := ListC.get HB.out k hkm
   subst hAe hAe4
   have hes1 := (LineC.lit hes).1
   have hes2 := (LineC.lit hes4).1
   rw [hes1] at hat
   rw [hes2] at hat4
   obtain ⟨x, hx⟩ : ∃ x, a[k] = x := ⟨_, rfl⟩
   obtain ⟨y, hy⟩ : ∃ x, b'[k] = x := ⟨_, rfl⟩
   rw [hx] at hat
   rw [hy] at hat4
   have HX := Lib.hid (show a[k]? = some x by rw [List.getElem?_eq_getElem hkl, hx])
   have HY := Lib.hid (show b'[k]? = some y by rw [List.getElem?_eq_getElem hkm, hy])
   have AT1 := Lib.hid ((hat.fr (Fr.ofBelow hb)).mono (fun q (hq : q < w.heap.size) => show q < wr.heap.size by have := hb.size; omega))
   have AT2 := Lib.hid ((hat4.fr (Fr.ofBelow hb)).mono (fun q (hq : q < w.heap.size) => show q < wr.heap.size by have := hb.size; omega))
   clear hes hes4 hes1 hes2 hat hat4 hx hy
   by_cases he : x = y
   case neg =>
    have hf := Lib.hid (show r = false by rw [← HR.out]; exact decide_eq_false (fun e => he (by have h1 := HX.out; rw [e, HY.out] at h1; exact (Option.some.inj h1).symm)))
    obtain ⟨a1, a2, a3⟩ := x
    obtain ⟨b1, b2, b3⟩ := y
    have HNEQ := Lib.hid (show ¬ (a1 = b1 ∧ a2 = b2 ∧ a3 = b3) from fun h => he (by rw [h.1, h.2.1, h.2.2]))
    try simp only at AT1 AT2
    clear he
    go_wp2_with fail
    refine wp_region_inv (Ks wr [.val (.slice (some ⟨b, o, none⟩) n c), .val (.int .i64 (k : Int)), .val (.pointer (some ⟨b, o + k * 3, none⟩)), .val (.agg #[.int .i64 a1, .int .i64 a2, .int .i64 a3]), .val (.slice (some ⟨b4, o4, none⟩) n c4), .val (.int .i64 (k : Int)), .val (.pointer (some ⟨b4, o4 + k * 3, none⟩)), .val (.agg #[.int .i64 b1, .int .i64 b2, .int .i64 b3]), .val (.bool true)])
     (fun w' => Below wr.heap.size wr w') (by kernel_rfl) (by kernel_rfl) (by kernel_rfl) (Below.refl _ _).drew ?_ ?_
    · refine ⟨?_, ?_, ?_, ?_, ?_, ?_, ?_, ?_, ?_, trivial⟩
      · intro listed A0 w2 hI hd hnd K hK
        have e0 := hI.slot hnd 0 _ rfl (by kernel_rfl)
        have hS := hI.world
        refine wanted_go rfl ?_
        clear hI hd hnd
        go_simp
        exact kq hK hS rfl
      · intro listed A0 w2 hI hd hnd K hK
        have e0 := hI.slot hnd 5 _ rfl (by kernel_rfl)
        have hS := hI.world
        refine wanted_go rfl ?_
        clear hI hd hnd
        go_simp
        exact kq hK hS rfl
      · intro listed A0 w2 hI hd hnd K hK
        have e0 := hI.depv hd 0 17 _ rfl rfl rfl (by kernel_rfl)
        have e1 := hI.depv hd 1 18 _ rfl rfl rfl (by kernel_rfl)
        have hS := hI.world
        refine wanted_go rfl ?_
        clear hI hd hnd
        go_simp
        exact kq hK hS rfl
      · intro listed A0 w2 hI hd hnd K hK
        have e0 := hI.depv hd 2 19 _ rfl rfl rfl (by kernel_rfl)
        have hS := hI.world
        have hrange : w2.rangeAt b (o + k * 3) [.int .i64 a1, .int .i64 a2, .int .i64 a3] := (AT1.out.fr (Fr.ofBelow hS)).range
        have hisize := info_line
        refine wanted_go rfl ?_
        clear hI hd hnd
        refine wp_load_mid 64 (.tmp 19) rfl _ _ (by simpa [Act.eval, Array.getD_eq_getD_getElem?] using e0) _ _ hrange Try.underlying64 rfl hisize ?_
        exact kq hK hS rfl
      · intro listed A0 w2 hI hd hnd K hK
        have e0 := hI.slot hnd 1 _ rfl (by kernel_rfl)
        have hS := hI.world
        refine wanted_go rfl ?_
        clear hI hd hnd
        go_simp
        exact kq hK hS rfl
      · intro listed A0 w2 hI hd hnd K hK
        have e0 := hI.slot hnd 5 _ rfl (by kernel_rfl)
        have hS := hI.world
        refine wanted_go rfl ?_
        clear hI hd hnd
        go_simp
        exact kq hK hS rfl
      · intro listed A0 w2 hI hd hnd K hK
        have e0 := hI.depv hd 4 21 _ rfl rfl rfl (by kernel_rfl)
        have e1 := hI.depv hd 5 22 _ rfl rfl rfl (by kernel_rfl)
        have hS := hI.world
        refine wanted_go rfl ?_
        clear hI hd hnd
        go_simp
        exact kq hK hS rfl
      · intro listed A0 w2 hI hd hnd K hK
        have e0 := hI.depv hd 6 23 _ rfl rfl rfl (by kernel_rfl)
        have hS := hI.world
        have hrange : w2.rangeAt b4 (o4 + k * 3) [.int .i64 b1, .int .i64 b2, .int .i64 b3] := (AT2.out.fr (Fr.ofBelow hS)).range
        have hisize := info_line
        refine wanted_go rfl ?_
        clear hI hd hnd
        refine wp_load_mid 64 (.tmp 23) rfl _ _ (by simpa [Act.eval, Array.getD_eq_getD_getElem?] using e0) _ _ hrange Try.underlying64 rfl hisize ?_
        exact kq hK hS rfl
      · intro listed A0 w2 hI hd hnd K hK
        have e0 := hI.depv hd 3 20 _ rfl rfl rfl (by kernel_rfl)
        have e1 := hI.depv hd 7 24 _ rfl rfl rfl (by kernel_rfl)
        have hS := hI.world
        have hne := HNEQ.out
        refine wanted_go rfl ?_
        clear hI hd hnd
        go_simp
        by_cases e1 : a1 = b1
        · by_cases e2 : a2 = b2
          · by_cases e3 : a3 = b3
            · exact absurd ⟨e1, e2, e3⟩ hne
            · rw [if_pos e1, if_pos e2, if_neg e3]; exact kq hK hS rfl
          · rw [if_pos e1, if_neg e2]; exact kq hK hS rfl
        · rw [if_neg e1]; exact kq hK hS rfl
    · intro listed A0 w2 hI hall
      obtain ⟨x0, g0, h0⟩ := hI.got 0 _ 17 rfl rfl (hall 0 (by decide))
      obtain ⟨x1, g1, h1⟩ := hI.got 1 _ 18 rfl rfl (hall 1 (by decide))
      obtain ⟨x2, g2, h2⟩ := hI.got 2 _ 19 rfl rfl (hall 2 (by decide))
      obtain ⟨x3, g3, h3⟩ := hI.got 3 _ 20 rfl rfl (hall 3 (by decide))
      obtain ⟨x4, g4, h4⟩ := hI.got 4 _ 21 rfl rfl (hall 4 (by decide))
      obtain ⟨x5, g5, h5⟩ := hI.got 5 _ 22 rfl rfl (hall 5 (by decide))
      obtain ⟨x6, g6, h6⟩ := hI.got 6 _ 23 rfl rfl (hall 6 (by decide))
      obtain ⟨x7, g7, h7⟩ := hI.got 7 _ 24 rfl rfl (hall 7 (by decide))
      obtain ⟨x8, g8, h8⟩ := hI.got 8 _ 25 rfl rfl (hall 8 (by decide))
      have hS := hI.world
      have hA : A0 = _ := hI.tmps [(17, x0), (18, x1), (19, x2), (20, x3), (21, x4), (22, x5), (23, x6), (24, x7), (25, x8)] (by simp only [List.mem_cons, List.not_mem_nil, or_false, forall_eq_or_imp, forall_eq]; exact ⟨g0, g1, g2, g3, g4, g5, g6, g7, g8⟩) (by kernel_rfl)
      obtain rfl : x8 = .bool true := h8 _ rfl
      clear h0 g0 h1 g1 h2 g2 h3 g3 h4 g4 h5 g5 h6 g6 h7 g7 h8 g8 hI hall
      simp only [setAll, List.foldl, List.setIfInBounds_toArray, List.set_cons_zero, List.set_cons_succ] at hA
      rw [hA]
      clear hA
      go_wp2_with fail
      go_ret
      exact ⟨by rw [hf.out]; first | done | rfl, hb.trans (hS.mono hb.size)⟩
   case pos =>
    subst he
    obtain ⟨a1, a2, a3⟩ := x
    try simp only at AT1 AT2
    go_wp2_with fail
    refine wp_region_inv (Ks wr [.val (.slice (some ⟨b, o, none⟩) n c), .val (.int .i64 (k : Int)), .val (.pointer (some ⟨b, o + k * 3, none⟩)), .val (.agg #[.int .i64 a1, .int .i64 a2, .int .i64 a3]), .val (.slice (some ⟨b4, o4, none⟩) n c4), .val (.int .i64 (k : Int)), .val (.pointer (some ⟨b4, o4 + k * 3, none⟩)), .val (.agg #[.int .i64 a1, .int .i64 a2, .int .i64 a3]), .val (.bool false)])
     (fun w' => Below wr.heap.size wr w') (by kernel_rfl) (by kernel_rfl) (by kernel_rfl) (Below.refl _ _).drew ?_ ?_
    · refine ⟨?_, ?_, ?_, ?_, ?_, ?_, ?_, ?_, ?_, trivial⟩
      · intro listed A0 w2 hI hd hnd K hK
        have e0 := hI.slot hnd 0 _ rfl (by kernel_rfl)
        have hS := hI.world
        refine wanted_go rfl ?_
        clear hI hd hnd
        go_simp
        exact kq hK hS rfl
      · intro listed A0 w2 hI hd hnd K hK
        have e0 := hI.slot hnd 5 _ rfl (by kernel_rfl)
        have hS := hI.world
        refine wanted_go rfl ?_
        clear hI hd hnd
        go_simp
        exact kq hK hS rfl
      · intro listed A0 w2 hI hd hnd K hK
        have e0 := hI.depv hd 0 17 _ rfl rfl rfl (by kernel_rfl)
        have e1 := hI.depv hd 1 18 _ rfl rfl rfl (by kernel_rfl)
        have hS := hI.world
        refine wanted_go rfl ?_
        clear hI hd hnd
        go_simp
        exact kq hK hS rfl
      · intro listed A0 w2 hI hd hnd K hK
        have e0 := hI.depv hd 2 19 _ rfl rfl rfl (by kernel_rfl)
        have hS := hI.world
        have hrange : w2.rangeAt b (o + k * 3) [.int .i64 a1, .int .i64 a2, .int .i64 a3] := (AT1.out.fr (Fr.ofBelow hS)).range
        have hisize := info_line
        refine wanted_go rfl ?_
        clear hI hd hnd
        refine wp_load_mid 64 (.tmp 19) rfl _ _ (by simpa [Act.eval, Array.getD_eq_getD_getElem?] using e0) _ _ hrange Try.underlying64 rfl hisize ?_
        exact kq hK hS rfl
      · intro listed A0 w2 hI hd hnd K hK
        have e0 := hI.slot hnd 1 _ rfl (by kernel_rfl)
        have hS := hI.world
        refine wanted_go rfl ?_
        clear hI hd hnd
        go_simp
        exact kq hK hS rfl
      · intro listed A0 w2 hI hd hnd K hK
        have e0 := hI.slot hnd 5 _ rfl (by kernel_rfl)
        have hS := hI.world
        refine wanted_go rfl ?_
        clear hI hd hnd
        go_simp
        exact kq hK hS rfl
      · intro listed A0 w2 hI hd hnd K hK
        have e0 := hI.depv hd 4 21 _ rfl rfl rfl (by kernel_rfl)
        have e1 := hI.depv hd 5 22 _ rfl rfl rfl (by kernel_rfl)
        have hS := hI.world
        refine wanted_go rfl ?_
        clear hI hd hnd
        go_simp
        exact kq hK hS rfl
      · intro listed A0 w2 hI hd hnd K hK
        have e0 := hI.depv hd 6 23 _ rfl rfl rfl (by kernel_rfl)
        have hS := hI.world
        have hrange : w2.rangeAt b4 (o4 + k * 3) [.int .i64 a1, .int .i64 a2, .int .i64 a3] := (AT2.out.fr (Fr.ofBelow hS)).range
        have hisize := info_line
        refine wanted_go rfl ?_
        clear hI hd hnd
        refine wp_load_mid 64 (.tmp 23) rfl _ _ (by simpa [Act.eval, Array.getD_eq_getD_getElem?] using e0) _ _ hrange Try.underlying64 rfl hisize ?_
        exact kq hK hS rfl
      · intro listed A0 w2 hI hd hnd K hK
        have e0 := hI.depv hd 3 20 _ rfl rfl rfl (by kernel_rfl)
        have e1 := hI.depv hd 7 24 _ rfl rfl rfl (by kernel_rfl)
        have hS := hI.world
        refine wanted_go rfl ?_
        clear hI hd hnd
        go_simp
        exact kq hK hS rfl
    · intro listed A0 w2 hI hall
      obtain ⟨x0, g0, h0⟩ := hI.got 0 _ 17 rfl rfl (hall 0 (by decide))
      obtain ⟨x1, g1, h1⟩ := hI.got 1 _ 18 rfl rfl (hall 1 (by decide))
      obtain ⟨x2, g2, h2⟩ := hI.got 2 _ 19 rfl rfl (hall 2 (by decide))
      obtain ⟨x3, g3, h3⟩ := hI.got 3 _ 20 rfl rfl (hall 3 (by decide))
      obtain ⟨x4, g4, h4⟩ := hI.got 4 _ 21 rfl rfl (hall 4 (by decide))
      obtain ⟨x5, g5, h5⟩ := hI.got 5 _ 22 rfl rfl (hall 5 (by decide))
      obtain ⟨x6, g6, h6⟩ := hI.got 6 _ 23 rfl rfl (hall 6 (by decide))
      obtain ⟨x7, g7, h7⟩ := hI.got 7 _ 24 rfl rfl (hall 7 (by decide))
      obtain ⟨x8, g8, h8⟩ := hI.got 8 _ 25 rfl rfl (hall 8 (by decide))
      have hS := hI.world
      have hA : A0 = _ := hI.tmps [(17, x0), (18, x1), (19, x2), (20, x3), (21, x4), (22, x5), (23, x6), (24, x7), (25, x8)] (by simp only [List.mem_cons, List.not_mem_nil, or_false, forall_eq_or_imp, forall_eq]; exact ⟨g0, g1, g2, g3, g4, g5, g6, g7, g8⟩) (by kernel_rfl)
      obtain rfl : x8 = .bool false := h8 _ rfl
      clear h0 g0 h1 g1 h2 g2 h3 g3 h4 g4 h5 g5 h6 g6 h7 g7 h8 g8 hI hall
      simp only [setAll, List.foldl, List.setIfInBounds_toArray, List.set_cons_zero, List.set_cons_succ] at hA
      rw [hA]
      clear hA
      have hbE := hb.trans (hS.mono hb.size)
      clear hS
      go_wp2_with fail
      go_roundw
      case rel => exact ⟨k + 1, by omega, by go_num, hbE, fun j hj => by
       rcases Nat.lt_or_ge j k with h | h
       · exact HALL.out j h
       · have : j = k := by omega
         subst this
         rw [HX.out, HY.out]⟩
      case measure => first | exact meas_v hlt | (simp only [intOf]; omega)
  case neg =>
   have hltI : ¬ (k : Int) < (n : Int) := by omega
   have hf := Lib.hid (show r = true by
    rw [← HR.out]
    refine decide_eq_true (List.ext_getElem? (fun i => ?_))
    rcases Nat.lt_or_ge i k with h | h
    · exact HALL.out i h
    · rw [List.getElem?_eq_none (by rw [HN.out]; omega), List.getElem?_eq_none (by rw [HM.out]; omega)])
   go_wp2_with fail
   go_ret
   exact ⟨by rw [hf.out]; first | done | rfl, hb⟩
end Go.Proofs.Ytebdajkknkapcaa
namespace Go.Proofs.Ytebdajkknkapcaa
open Go Go.RowKit Go.ChangeShapes Go.WideShapes Go.MapKept Go.ChangeMaps
open Go.WideElems (Fit rd rg pl rd_key findIdx_born findIdx_arr modify_last set_self)
open Go.Maps (Keyed)
theorem key_uniq {l : List MapEntry} (hn : (l.map (·.key)).Nodup) {i j : Nat} {a c : MapEntry} (hi : l[i]? = some a) (hj : l[j]? = some c) (h : a.key = c.key) : i = j := by
 obtain ⟨hi1, hi2⟩ := List.getElem?_eq_some_iff.1 hi
 obtain ⟨hj1, hj2⟩ := List.getElem?_eq_some_iff.1 hj
 rcases Nat.lt_trichotomy i j with h' | h' | h'
 · exfalso
   have hp := List.pairwise_iff_getElem.1 hn i j (by simpa using hi1) (by simpa using hj1) h'
   simp only [List.getElem_map] at hp
   rw [hi2, hj2] at hp
   exact hp h
 · exact h'
 · exfalso
   have hp := List.pairwise_iff_getElem.1 hn j i (by simpa using hj1) (by simpa using hi1) h'
   simp only [List.getElem_map] at hp
   rw [hi2, hj2] at hp
   exact hp h.symm
section
variable {H : Type} {P : Program} {w : World} {t k e : TypeId} {R : Value → Option (DataW H × List MemPlace)} {b : Nat} {es : Array MapEntry} {clock : Nat}
theorem op_assign (K : Keyed P k) (ht : P.underlying t = some (.map k e)) {z : Value} (hz : ∀ u : World, (zeroValue e).run P u = .ok z u) (hb : w.heap[b]? = some (.map es clock)) (F : Fit P k R es clock)
 {key : Value} {kl : Lit} (hkey : keyOf P k key = some kl) :
 ∃ (v0 : Value) (st : Nat) (es1 : Array MapEntry) (clock1 : Nat),
  (∀ u : World, (u.heap[b]? = some (.map es clock) ∨ u.heap[b]? = some (.map es1 clock1)) → (Instr.lookup t (.map (some b)) key false).run P u = .ok v0 u ∧ (Instr.mapEntry t (.map (some b)) key).run P u = .ok (.tuple #[v0, goInt st]) (setBlock u b (.map es1 clock1))) ∧
  ∀ val : Value, ∃ es' clock', (∀ u : World, u.heap[b]? = some (.map es1 clock1) → (Instr.entryStore t (.map (some b)) (goInt st) val).run P u = .ok () (setBlock u b (.map es' clock'))) ∧
   (Instr.mapUpdate t (.map (some b)) key val).run P w = .ok () (setBlock w b (.map es' clock')) := by
 obtain ⟨s1, s2, _⟩ := F.stamped
 rcases K.find w hkey es.toList F.keys with ⟨h1, h2⟩ | ⟨j, e0, h1, h2, h3⟩
 · have hself : (es.push ⟨key, z, clock⟩).modify es.size (fun e => { e with key := key }) = es.push ⟨key, z, clock⟩ := by
    apply Array.ext'
    rw [Array.toList_modify, Array.toList_push, ← Array.length_toList, modify_last]
   have hks : ∀ x ∈ (es.push (⟨key, z, clock⟩ : MapEntry)).toList, ∃ l, keyOf P k x.key = some l := fun x hx => by
    simp only [Array.toList_push, List.mem_append, List.mem_singleton] at hx
    rcases hx with hx | rfl
    · exact F.keys x hx
    · exact ⟨kl, hkey⟩
   refine ⟨z, clock, es.push ⟨key, z, clock⟩, clock + 1, fun u hu => ?_, fun val => ⟨es.push ⟨key, val, clock⟩, clock + 1, fun u hu => ?_, ?_⟩⟩
   · rcases hu with hu | hu
     · have h1u : (Instr.findKey k key es.toList).run P u = .ok none u := by
        rcases K.find u hkey es.toList F.keys with ⟨g1, _⟩ | ⟨j, e0, _, g2, g3⟩
        · exact g1
        · exact absurd g3 (h2 e0 (List.mem_of_getElem? g2))
       exact ⟨by simp [Instr.lookup, run_underlying ht, MapKept.run_getObj_map hu, K.check u _ hkey, h1u, hz, Result.andThen],
        by simp [Instr.mapEntry, run_underlying ht, MapKept.run_getObj_map hu, K.check u false hkey, h1u, hz, MapKept.run_setObj_map _ hu, Result.andThen, setBlock]⟩
     · rcases K.find u hkey (es.push (⟨key, z, clock⟩ : MapEntry)).toList hks with ⟨_, g2⟩ | ⟨j, e0, g1, g2, g3⟩
       · exact absurd rfl (g2 ⟨key, z, clock⟩ (by simp))
       · have hj : j = es.size ∧ e0 = ⟨key, z, clock⟩ := by
          rw [Array.toList_push] at g2
          rcases Nat.lt_or_ge j es.toList.length with hl | hl
          · rw [List.getElem?_append_left hl] at g2
            exact absurd g3 (h2 e0 (List.mem_of_getElem? g2))
          · rw [List.getElem?_append_right hl] at g2
            have hl1 := (List.getElem?_eq_some_iff.1 g2).1
            simp only [List.length_singleton] at hl1
            have h0 : j - es.toList.length = 0 := by omega
            rw [h0] at g2
            simp only [List.getElem?_cons_zero, Option.some.injEq] at g2
            exact ⟨by rw [Array.length_toList] at hl h0; omega, g2.symm⟩
         obtain ⟨rfl, rfl⟩ := hj
         simp only [Array.toList_push] at g1
         exact ⟨by simp [Instr.lookup, run_underlying ht, MapKept.run_getObj_map hu, K.check u _ hkey, g1, Result.andThen],
          by simp [Instr.mapEntry, run_underlying ht, MapKept.run_getObj_map hu, K.check u false hkey, g1, K.stays u hkey, hself, MapKept.run_setObj_map _ hu, Result.andThen, setBlock]⟩
   · have hidx : (es.push ⟨key, z, clock⟩).findIdx? (fun e => ((e.born : Nat) : Int) == ((clock : Nat) : Int)) = some es.size := by
      rw [findIdx_arr]
      exact findIdx_born (l := (es.push ⟨key, z, clock⟩).toList) (j := es.size) (e0 := ⟨key, z, clock⟩) (by
       simp only [Array.toList_push, List.map_append, List.map_cons, List.map_nil]
       refine List.nodup_append.2 ⟨s2, by simp, fun a ha c hc e1 => ?_⟩
       simp only [List.mem_singleton] at hc
       obtain ⟨x, hx, rfl⟩ := List.mem_map.1 ha
       have := s1 x hx
       omega) (by simp)
     have hmod : (es.push ⟨key, z, clock⟩).modify es.size (fun e => { e with val := val }) = es.push ⟨key, val, clock⟩ := by
      apply Array.ext'
      rw [Array.toList_modify, Array.toList_push, Array.toList_push, ← Array.length_toList, modify_last]
     simp [Instr.entryStore, MapKept.run_getObj_map hu, asInt, asIntOf, goInt, hidx, hmod, MapKept.run_setObj_map _ hu, Result.andThen, setBlock]
   · simp [Instr.mapUpdate, run_underlying ht, MapKept.run_getObj_map hb, K.check w false hkey, h1, MapKept.run_setObj_map _ hb, Result.andThen, setBlock]
 · have hj : es[j]? = some e0 := by simpa using h2
   have hsame : es.modify j (fun e => { e with key := key }) = es := by
    apply Array.ext'
    rw [Array.toList_modify, modify_eq_set _ _ _ _ h2]
    have : ({ e0 with key := key } : MapEntry) = e0 := by rw [← h3]
    rw [this]
    exact set_self _ _ _ h2
   have hu1 : ∀ u : World, (Instr.findKey k key es.toList).run P u = .ok (some (j, e0.val)) u := fun u => by
    rcases K.find u hkey es.toList F.keys with ⟨_, g2⟩ | ⟨j', e', g1, g2, g3⟩
    · exact absurd h3 (g2 e0 (List.mem_of_getElem? h2))
    · have hne : j' = j := key_uniq F.stamped.2.2 g2 h2 (g3.trans h3.symm)
      subst hne
      rw [h2] at g2
      cases g2
      exact g1
   refine ⟨e0.val, e0.born, es, clock, fun u hu => ?_, fun val => ⟨es.modify j (fun e' => { e' with key := key, val := val }), clock, fun u hu => ?_, ?_⟩⟩
   · have hu : u.heap[b]? = some (.map es clock) := hu.elim id id
     exact ⟨by simp [Instr.lookup, run_underlying ht, MapKept.run_getObj_map hu, K.check u _ hkey, hu1, Result.andThen],
      by simp [Instr.mapEntry, run_underlying ht, MapKept.run_getObj_map hu, K.check u false hkey, hu1, hj, h3, K.stays u hkey, hsame, MapKept.run_setObj_map _ hu, Result.andThen, setBlock]⟩
   · have hidx : es.findIdx? (fun e => ((e.born : Nat) : Int) == ((e0.born : Nat) : Int)) = some j := by
      rw [findIdx_arr]
      exact findIdx_born s2 h2
     have hmod : es.modify j (fun e => { e with val := val }) = es.modify j (fun e' => { e' with key := key, val := val }) := by
      apply Array.ext'
      rw [Array.toList_modify, Array.toList_modify, modify_eq_set _ _ _ _ h2, modify_eq_set _ _ _ _ h2, ← h3]
     simp [Instr.entryStore, MapKept.run_getObj_map hu, asInt, asIntOf, goInt, hidx, hmod, MapKept.run_setObj_map _ hu, Result.andThen, setBlock]
   · simp [Instr.mapUpdate, run_underlying ht, MapKept.run_getObj_map hb, K.check w false hkey, h1, hj, h3, K.stays w hkey, MapKept.run_setObj_map _ hb, Result.andThen, setBlock]
end
end Go.Proofs.Ytebdajkknkapcaa
namespace Go.Proofs.Ytebdajkknkapcaa
open Go Go.RowKit Go.ChangeMaps
open Go.Maps (Keyed)
open Go.WideMaps (KeyLaw)
def MapN {α : Type} (P : Program) (k e : TypeId) (κ : α → Lit) (w : World) (b n : Nat) (f : α → Int) : Prop :=
 ∃ D : UD, w.ownsMap P k (plainElem P e) b n D ∧ ∀ c, D.atKey (κ c) (.lit (.int .i64 0)) = .lit (.int .i64 (f c))
section
variable {α : Type} {P : Program} {k e t : TypeId} {κ : α → Lit} {w w' : World} {b n : Nat} {f : α → Int}
theorem MapN.made (P : Program) (k e : TypeId) (κ : α → Lit) (w : World) : MapN P k e κ (w.alloc (.map #[] 0)) w.heap.size 0 (fun _ => 0) :=
 ⟨_, World.ownsMap_made w P k _, fun _ => rfl⟩
theorem MapN.kept {row : Option Nat} (h : MapN P k e κ w b n f) (hg : w.grownBy w' row) (hne : some b ≠ row) : MapN P k e κ w' b n f := by
 obtain ⟨D, h1, h2⟩ := h
 exact ⟨D, h1.kept hg hne, h2⟩
theorem MapN.lt (h : MapN P k e κ w b n f) : b < w.heap.size := by
 obtain ⟨D, h1, h2⟩ := h
 exact h1.lt
theorem MapN.same (h : MapN P k e κ w b n f) (hb : w'.heap[b]? = w.heap[b]?) : MapN P k e κ w' b n f := by
 obtain ⟨D, ⟨es, clock, h1, h3, h4, h5⟩, h2⟩ := h
 exact ⟨D, ⟨es, clock, hb.trans h1, h3, h4, h5⟩, h2⟩
theorem MapN.fr {Q : Nat → Prop} (h : MapN P k e κ w b n f) (hf : Fr Q w w') (hb : Q b) : MapN P k e κ w' b n f := h.same (hf.block b hb)
theorem MapN.below (h : MapN P k e κ w b n f) (hb : Below w.heap.size w w') : MapN P k e κ w' b n f := h.fr (Fr.ofBelow hb) h.lt
theorem MapN.mono (h : MapN P k e κ w b n f) {n' : Nat} (hn : n ≤ n') : MapN P k e κ w b n' f := by
 obtain ⟨D, h1, h2⟩ := h
 exact ⟨D, h1.mono hn, h2⟩
theorem MapN.eqv {g : α → Int} (h : MapN P k e κ w b n f) (hg : ∀ c, f c = g c) : MapN P k e κ w b n g := by
 obtain ⟨D, h1, h2⟩ := h
 exact ⟨D, h1, fun c => by rw [h2 c, hg c]⟩
theorem setBlock_at {w : World} {b : Nat} {o : Obj} (h : b < w.heap.size) : (setBlock w b o).heap[b]? = some o := by
 simp [setBlock, h]
theorem MapN.assign [DecidableEq α] (h : MapN P k e κ w b n f) (K : Keyed P k) (ht : P.underlying t = some (.map k e)) (he : P.underlying e = some (.int .i64)) (hz : ∀ u : World, (zeroValue e).run P u = .ok (.int .i64 0) u) (hn : n < maxLen) (hκ : ∀ x y, κ x = κ y → x = y) (hl : ∀ x, WideAt.IsKeyLit (κ x))
 {key : Value} {c : α} (hkey : keyOf P k key = some (κ c)) :
 ∃ (st : Nat) (es : Array MapEntry) (clock : Nat) (es1 : Array MapEntry) (clock1 : Nat), w.heap[b]? = some (.map es clock) ∧
  (∀ u : World, (u.heap[b]? = some (.map es clock) ∨ u.heap[b]? = some (.map es1 clock1)) → (Instr.lookup t (.map (some b)) key false).run P u = .ok (.int .i64 (f c)) u ∧ (Instr.mapEntry t (.map (some b)) key).run P u = .ok (.tuple #[.int .i64 (f c), goInt st]) (setBlock u b (.map es1 clock1))) ∧
  ∀ x : Int, (Lit.int .i64 x).wf = true → ∃ es' clock', (∀ u : World, u.heap[b]? = some (.map es1 clock1) → (Instr.entryStore t (.map (some b)) (goInt st) (.int .i64 x)).run P u = .ok () (setBlock u b (.map es' clock'))) ∧
   ∀ u : World, b < u.heap.size → MapN P k e κ (setBlock u b (.map es' clock')) b (n + 1) (fun d => if d = c then x else f d) := by
 obtain ⟨D, h1, h2⟩ := h
 have h1' := h1
 obtain ⟨es, clock, hb, F, hs, hD⟩ := h1'
 obtain ⟨v0, st, es1, clock1, hA, hB⟩ := op_assign K ht hz hb F hkey
 obtain ⟨a, hrun, hat, _⟩ := h1.lookup_int K ht he (hz w) hkey
 have hv : v0 = .int .i64 (f c) := by
  have e1 := (hA w (Or.inl hb)).1
  rw [hrun] at e1
  have e2 := h2 c
  rw [hat] at e2
  simp only [DataW.lit.injEq, Lit.int.injEq, true_and] at e2
  rw [← e2]
  simpa using e1.symm
 subst hv
 refine ⟨st, es, clock, es1, clock1, hb, hA, fun x hx => ?_⟩
 obtain ⟨es', clock', hS, hU⟩ := hB (.int .i64 x)
 refine ⟨es', clock', hS, fun u hu => ?_⟩
 obtain ⟨w2, hrun2, h3, h4⟩ := h1.update K ht hn hkey (plainElem_int he hx)
 rw [hU] at hrun2
 have hw2 : setBlock w b (.map es' clock') = w2 := by simpa using hrun2
 subst hw2
 have hm : Maps.IsMap D := ⟨_, hD⟩
 have hlt := h1.lt
 have hmap : MapN P k e κ (setBlock w b (.map es' clock')) b (n + 1) (fun d => if d = c then x else f d) := ⟨_, h3, fun d => by
  by_cases hd : d = c
  · subst hd
    rw [Maps.atKey_put_same hm (hl d)]; simp
  · rw [Maps.atKey_put_other (fun e => hd (hκ _ _ e)), h2 d]; simp [hd]⟩
 exact hmap.same (by rw [setBlock_at hlt, setBlock_at hu])
end
theorem pair_row : (113 : TypeId) < Try.prog.types.size := of_decide_eq_true (by kernel_rfl)
theorem pair_wide : (match Try.prog.underlying 113 with | some (.array _ _) | some (.struct _) => true | _ => false) = true := by kernel_rfl
theorem pair_law : KeyLaw Try.prog 113 := deep_law_laid try_laidOut (m := 2) (by omega) pair_row (by kernel_rfl) pair_wide
theorem pair_keyed : Keyed Try.prog 113 := Keyed.of_law pair_law
theorem pair_cells : Try.prog.cellsOf 113 = 2 := by kernel_rfl
theorem pair_keyLits {d : Nat} {a z : Int} (ha : intBd a) (hz : intBd z) : Try.prog.keyLits (d + 2) 113 [.int .i64 a, .int .i64 z] = some [.int .i64 a, .int .i64 z] := by
 unfold Program.keyLits
 rw [Try.underlying113]
 have h1 := keyLits_int (d := d) ha
 have h2 := keyLits_int (d := d) hz
 simp [int_cells, pair_cells, h1, h2, List.range_succ]
theorem pair_keyType : Try.prog.keyType 113 = true := by kernel_rfl
theorem pair_formed {a b : Value} : (Value.agg #[a, b]).formed Try.prog 113 = true := by
 simp [Value.formed, Try.underlying113, pair_cells, int_cells]
abbrev PK := {p : Int × Int // intBd p.1 ∧ intBd p.2}
def pKey (c : PK) : Lit := .string (keyBytes [.int .i64 c.1.1, .int .i64 c.1.2])
theorem pKey_of (c : PK) : keyOf Try.prog 113 (.agg #[.int .i64 c.1.1, .int .i64 c.1.2]) = some (pKey c) := by
 obtain ⟨d, hd⟩ := types_size
 unfold keyOf
 rw [Try.underlying113]
 simp only [pair_keyType, pair_formed, Bool.and_self, if_true, hd, Value.cells]
 rw [pair_keyLits c.2.1 c.2.2]; rfl
theorem pKey_inj (x y : PK) (h : pKey x = pKey y) : x = y := by
 have h1 := pKey_of x
 have h2 := pKey_of y
 rw [← h] at h2
 have h3 := pair_keyed.inj h1 h2
 have h4 := congrArg Array.toList (Value.agg.inj h3)
 simp only [List.cons.injEq, Value.int.injEq, true_and, and_true] at h4
 exact Subtype.ext (Prod.ext h4.1 h4.2)
theorem pKey_lit (x : PK) : WideAt.IsKeyLit (pKey x) := trivial
theorem pmap_uty : Try.prog.underlying 112 = some (.map 113 3) := by kernel_rfl
theorem int_zero (w : World) : (zeroValue 3).run Try.prog w = .ok (.int .i64 0) w := by kernel_rfl
abbrev MapP (w : World) (b n : Nat) (f : PK → Int) : Prop := MapN Try.prog 113 3 pKey w b n f
end Go.Proofs.Ytebdajkknkapcaa
namespace Go.Proofs.Ytebdajkknkapcaa
def isAt (a p : Int) (x : XLine) : Bool := x.account == a && x.partner == p
def sumAt (l : List XLine) (a p : Int) : Int := sumL (l.filter (isAt a p))
def ltL (x y : XLine) : Prop := x.account < y.account ∨ (x.account = y.account ∧ x.partner < y.partner)
def IsNorm (l out : List XLine) : Prop := out.Pairwise ltL ∧ ∀ x : XLine, x ∈ out ↔ (x.amount = sumAt l x.account x.partner ∧ x.amount ≠ 0)
theorem sumL_nil : sumL [] = 0 := rfl
theorem sumL_cons (x : XLine) (l : List XLine) : sumL (x :: l) = x.amount + sumL l := by simp [sumL]
theorem sumL_app (a b : List XLine) : sumL (a ++ b) = sumL a + sumL b := by simp [sumL]
theorem sumAt_cons (x : XLine) (l : List XLine) (a p : Int) : sumAt (x :: l) a p = (if isAt a p x then x.amount else 0) + sumAt l a p := by
 unfold sumAt
 cases h : isAt a p x with
 | true => rw [List.filter_cons_of_pos h, sumL_cons]; simp
 | false => rw [List.filter_cons_of_neg (by rw [h]; decide)]; simp
theorem sumAt_app (l m : List XLine) (a p : Int) : sumAt (l ++ m) a p = sumAt l a p + sumAt m a p := by
 unfold sumAt
 rw [List.filter_append, sumL_app]
theorem sumAt_succ {l : List XLine} {k : Nat} (hk : k < l.length) (a p : Int) : sumAt (l.take (k + 1)) a p = sumAt (l.take k) a p + (if isAt a p l[k] then l[k].amount else 0) := by
 rw [List.take_add_one, List.getElem?_eq_getElem hk, sumAt_app]
 show _ + sumAt [l[k]] a p = _
 rw [sumAt_cons]
 show _ + (_ + sumL []) = _
 rw [sumL_nil]; omega
theorem ltL_irrefl (x : XLine) : ¬ ltL x x := fun h => by rcases h with h | ⟨_, h⟩ <;> omega
theorem ltL_asymm {x y : XLine} (h : ltL x y) : ¬ ltL y x := fun h' => by rcases h with h | ⟨h, h2⟩ <;> rcases h' with h' | ⟨h', h2'⟩ <;> omega
theorem ltL_tri (x y : XLine) : ltL x y ∨ (x.account = y.account ∧ x.partner = y.partner) ∨ ltL y x := by
 unfold ltL
 rcases Int.lt_trichotomy x.account y.account with h | h | h
 · exact Or.inl (Or.inl h)
 · rcases Int.lt_trichotomy x.partner y.partner with g | g | g
   · exact Or.inl (Or.inr ⟨h, g⟩)
   · exact Or.inr (Or.inl ⟨h, g⟩)
   · exact Or.inr (Or.inr (Or.inr ⟨h.symm, g⟩))
 · exact Or.inr (Or.inr (Or.inl h))
theorem rising_uniq : ∀ {a b : List XLine}, a.Pairwise ltL → b.Pairwise ltL → (∀ x, x ∈ a ↔ x ∈ b) → a = b
 | [], b, _, _, h => by
  cases b with
  | nil => rfl
  | cons y b => exact absurd ((h y).2 List.mem_cons_self) (by simp)
 | x :: a, b, ha, hb, h => by
  cases b with
  | nil => exact absurd ((h x).1 List.mem_cons_self) (by simp)
  | cons y b =>
   rw [List.pairwise_cons] at ha hb
   have hxy : x = y := by
    rcases List.mem_cons.1 ((h x).1 List.mem_cons_self) with e | h1
    · exact e
    · rcases List.mem_cons.1 ((h y).2 List.mem_cons_self) with e | h2
      · exact e.symm
      · exact absurd (hb.1 x h1) (ltL_asymm (ha.1 y h2))
   subst hxy
   rw [rising_uniq ha.2 hb.2 (fun z => ?_)]
   constructor
   · intro hz
     rcases List.mem_cons.1 ((h z).1 (List.mem_cons_of_mem _ hz)) with e | h1
     · subst e; exact absurd (ha.1 z hz) (ltL_irrefl z)
     · exact h1
   · intro hz
     rcases List.mem_cons.1 ((h z).2 (List.mem_cons_of_mem _ hz)) with e | h1
     · subst e; exact absurd (hb.1 z hz) (ltL_irrefl z)
     · exact h1
theorem IsNorm.uniq {l a b : List XLine} (ha : IsNorm l a) (hb : IsNorm l b) : a = b :=
 rising_uniq ha.1 hb.1 (fun x => (ha.2 x).trans (hb.2 x).symm)
theorem IsNorm.of_sums {l m o : List XLine} (h : ∀ a p, sumAt l a p = sumAt m a p) (ho : IsNorm l o) : IsNorm m o :=
 ⟨ho.1, fun x => by rw [ho.2 x, h]⟩
def absL (l : List XLine) : Int := (l.map (fun x => (x.amount.natAbs : Int))).sum
theorem absL_cons (x : XLine) (l : List XLine) : absL (x :: l) = (x.amount.natAbs : Int) + absL l := by simp [absL]
theorem absL_nonneg : ∀ l : List XLine, 0 ≤ absL l
 | [] => by simp [absL]
 | x :: l => by rw [absL_cons]; have := absL_nonneg l; omega
theorem sumAt_abs : ∀ (l : List XLine) (a p : Int), -absL l ≤ sumAt l a p ∧ sumAt l a p ≤ absL l
 | [], a, p => by simp [sumAt, absL, sumL]
 | x :: l, a, p => by
  have := sumAt_abs l a p
  rw [sumAt_cons, absL_cons]
  split <;> omega
theorem absL_app (a b : List XLine) : absL (a ++ b) = absL a + absL b := by simp [absL]
theorem absL_take (l : List XLine) (k : Nat) : absL (l.take k) ≤ absL l := by
 have h : absL l = absL (l.take k) + absL (l.drop k) := by rw [← absL_app, List.take_append_drop]
 have := absL_nonneg (l.drop k)
 omega
theorem smallL.abs {l : List XLine} (h : smallL l) : absL l ≤ 112589990684262400 := by
 have key : ∀ m : List XLine, (∀ x ∈ m, -1125899906842624 ≤ x.amount ∧ x.amount ≤ 1125899906842624) → absL m ≤ 1125899906842624 * (m.length : Int) := by
  intro m
  induction m with
  | nil => intro _; simp [absL]
  | cons x m ih =>
   intro hm
   have h1 := ih (fun y hy => hm y (List.mem_cons_of_mem _ hy))
   have h2 := hm x List.mem_cons_self
   rw [absL_cons, List.length_cons]
   omega
 have := key l h.1
 have := h.2
 omega
end Go.Proofs.Ytebdajkknkapcaa
namespace Go.Proofs.Ytebdajkknkapcaa
open Go Go.RowKit Go.Sort
def cmpI (x y : Int) : Int := if x < y then -1 else if y < x then 1 else 0
def orI (a b : Int) : Int := if a = 0 then b else a
theorem nan_c (x : Int) (w : World) : Calls Try.prog 116 #[.int .i64 x] w (fun e w' => e = .returned (.bool false) ∧ w' = w) := by
 go_enter Try.func116, Try.ntmps116
 go_wp2_with fail
 go_ret
 exact ⟨rfl, rfl⟩
set_option maxHeartbeats 1000000 in
theorem compare_c (x y : Int) (w : World) : Calls Try.prog 69 #[.int .i64 x, .int .i64 y] w (fun e w' => e = .returned (.int .i64 (cmpI x y)) ∧ w' = w) := by
 obtain ⟨r, hr⟩ : ∃ r, cmpI x y = r := ⟨_, rfl⟩
 rw [hr]
 have HR := Lib.hid hr
 clear hr
 go_enter Try.func69, Try.ntmps69
 by_cases h1 : x < y
 case pos =>
  have hf := Lib.hid (show r = -1 by rw [← HR.out]; unfold cmpI; rw [if_pos h1])
  go_wp2_with (go_at_call 116; refine (nan_c _ _).mono ?_; rintro e w' ⟨rfl, rfl⟩)
  go_ret
  exact ⟨by rw [hf.out]; first | done | rfl, rfl⟩
 case neg =>
 by_cases h2 : y < x
 case pos =>
  have h2' : x > y := h2
  have hf := Lib.hid (show r = 1 by rw [← HR.out]; unfold cmpI; rw [if_neg h1, if_pos h2])
  go_wp2_with (go_at_call 116; refine (nan_c _ _).mono ?_; rintro e w' ⟨rfl, rfl⟩)
  go_ret
  exact ⟨by rw [hf.out]; first | done | rfl, rfl⟩
 case neg =>
  have h2' : ¬ x > y := h2
  have hf := Lib.hid (show r = 0 by rw [← HR.out]; unfold cmpI; rw [if_neg h1, if_neg h2])
  go_wp2_with (go_at_call 116; refine (nan_c _ _).mono ?_; rintro e w' ⟨rfl, rfl⟩)
  go_ret
  exact ⟨by rw [hf.out]; first | done | rfl, rfl⟩
set_option maxHeartbeats 1000000 in
theorem or_c (g : Nat) (a b : Int) (T : TypeId) (w : World) (hg : w.heap[g]? = some (.cells #[.int .i64 a, .int .i64 b] T (0, 0))) : Calls Try.prog 68 #[.slice (some ⟨g, 0, none⟩) 2 2] w (fun e w' => e = .returned (.int .i64 (orI a b)) ∧ w' = w) := by
 obtain ⟨r, hr⟩ : ∃ r, orI a b = r := ⟨_, rfl⟩
 rw [hr]
 have HR := Lib.hid hr
 have HG := Lib.hid hg
 clear hr hg
 go_enter Try.func68, Try.ntmps68
 go_wp2_with fail
 go_loopw [8] (fun i wr => ∃ q : Int, i = .int .i64 q ∧ 0 ≤ q ∧ q ≤ 2 ∧ wr = w ∧ (1 ≤ q → a = 0) ∧ (2 ≤ q → b = 0)) (fun i _ => (2 - intOf i).toNat)
 case atStart => exact ⟨0, rfl, by omega, by omega, rfl, by omega, by omega⟩
 case round =>
  obtain ⟨q, rfl, hq0, hq2, rfl, k1, k2⟩ := hrel
  have K1 := Lib.hid k1
  have K2 := Lib.hid k2
  have c0 := blk_cell HG.out 0
  have c1 := blk_cell HG.out 1
  clear k1 k2
  by_cases hlt : q < 2
  case neg =>
   have hf := Lib.hid (show r = 0 by rw [← HR.out]; unfold orI; rw [if_pos (K1.out (by omega))]; exact K2.out (by omega))
   go_wp2_with fail
   go_ret
   exact ⟨by rw [hf.out]; first | done | rfl, rfl⟩
  case pos =>
  obtain rfl | rfl : q = 0 ∨ q = 1 := by omega
  case inl =>
   by_cases ha : a = 0
   case pos =>
    have ha1 : (a != 0) = false := by simpa using ha
    have HA := Lib.hid ha
    clear ha
    go_wp2_with fail
    go_roundw
    case rel => exact ⟨1, rfl, by omega, by omega, by first | trivial | rfl, fun _ => HA.out, by omega⟩
    case measure => simp only [intOf]; omega
   case neg =>
    have ha1 : (a != 0) = true := by simpa using ha
    have hf := Lib.hid (show r = a by rw [← HR.out]; unfold orI; rw [if_neg ha])
    clear ha
    go_wp2_with fail
    go_ret
    exact ⟨by rw [hf.out]; first | done | rfl, rfl⟩
  case inr =>
   by_cases hb : b = 0
   case pos =>
    have hb1 : (b != 0) = false := by simpa using hb
    have HB := Lib.hid hb
    clear hb
    go_wp2_with fail
    go_roundw
    case rel => exact ⟨2, rfl, by omega, by omega, by first | trivial | rfl, fun _ => K1.out (by omega), fun _ => HB.out⟩
    case measure => simp only [intOf]; omega
   case neg =>
    have hb1 : (b != 0) = true := by simpa using hb
    have hf := Lib.hid (show r = b by rw [← HR.out]; unfold orI; rw [if_pos (K1.out (by omega))])
    clear hb
    go_wp2_with fail
    go_ret
    exact ⟨by rw [hf.out]; first | done | rfl, rfl⟩
def Lays (W w : World) : Prop := ∃ q os, w = grow (W.drewN q) os
theorem Lays.refl (W : World) : Lays W W := ⟨0, #[], by simp [grow]; rfl⟩
theorem drewN_grow (w : World) (os : Array Obj) (n : Nat) : (grow w os).drewN n = grow (w.drewN n) os := rfl
theorem drewN_drewN (w : World) (a b : Nat) : (w.drewN a).drewN b = w.drewN (a + b) := by
 simp [World.drewN, Nat.add_assoc]
theorem Lays.trans {A B C : World} (h : Lays A B) (k : Lays B C) : Lays A C := by
 obtain ⟨a, o1, rfl⟩ := h
 obtain ⟨b, o2, rfl⟩ := k
 exact ⟨a + b, o1 ++ o2, by rw [drewN_grow, drewN_drewN, grow_grow]⟩
theorem Lays.alloc {A B : World} (h : Lays A B) (o : Obj) : Lays A (B.alloc o) := h.trans ⟨0, #[o], by rw [alloc_eq_grow]; rfl⟩
theorem Lays.drew {A B : World} (h : Lays A B) : Lays A B.drew := h.trans ⟨1, #[], by simp [grow]; rfl⟩
theorem Lays.below {A B : World} (h : Lays A B) : Below A.heap.size A B := by
 obtain ⟨a, o, rfl⟩ := h
 refine ⟨rfl, rfl, rfl, by simp [grow, World.drewN], fun k hk => ?_⟩
 show (A.heap ++ o)[k]? = A.heap[k]?
 rw [Array.getElem?_append_left hk]
def IsSl (a b : Int) (v : Value) (w : World) : Prop := ∃ g T, v = .slice (some ⟨g, 0, none⟩) 2 2 ∧ w.heap[g]? = some (.cells #[.int .i64 a, .int .i64 b] T (0, 0))
theorem IsSl.keep (a b : Int) : ∀ v w w', Below w.heap.size w w' → IsSl a b v w → IsSl a b v w' := fun v w w' hb ⟨g, T, e, h⟩ => ⟨g, T, e, (hb.block g (blk_lt h)).trans h⟩
theorem IsSl.made (a b : Int) (T : TypeId) (w : World) : IsSl a b (.slice (some ⟨w.heap.size, 0, none⟩) 2 2) (w.alloc (.cells #[.int .i64 a, .int .i64 b] T)) := ⟨_, T, rfl, heap_alloc_new _ _⟩
def cmpL (x y : XLine) : Int := orI (cmpI x.account y.account) (cmpI x.partner y.partner)
set_option maxHeartbeats 1000000 in
theorem clos_c (x y : XLine) (w : World) : Calls Try.prog 67 #[.agg (lineL x).toArray, .agg (lineL y).toArray] w (fun e w' => e = .returned (.int .i64 (cmpL x y)) ∧ Lays w w') := by
 obtain ⟨xa, xm, xp⟩ := x
 obtain ⟨ya, ym, yp⟩ := y
 show Calls Try.prog 67 #[.agg #[.int .i64 xa, .int .i64 xm, .int .i64 xp], .agg #[.int .i64 ya, .int .i64 ym, .int .i64 yp]] w (fun e w' => e = .returned (.int .i64 (orI (cmpI xa ya) (cmpI xp yp))) ∧ Lays w w')
 go_enter Try.func67, Try.ntmps67
 go_upto_region 1 with fail
 have H := heap_alloc_new w (.cells #[.int .i64 xa, .int .i64 xm, .int .i64 xp] 64)
 have HB := below1 w (.cells #[.int .i64 xa, .int .i64 xm, .int .i64 xp] 64)
 have HS : w.heap.size < (w.alloc (.cells #[.int .i64 xa, .int .i64 xm, .int .i64 xp] 64)).heap.size := blk_lt H
 have HLW : Lays w (w.alloc (.cells #[.int .i64 xa, .int .i64 xm, .int .i64 xp] 64)) := (Lays.refl w).alloc _
 generalize hW : w.alloc (Obj.cells #[.int .i64 xa, .int .i64 xm, .int .i64 xp] 64) = W at *
 have H2 := heap_alloc_new W (.cells #[.int .i64 ya, .int .i64 ym, .int .i64 yp] 64)
 have HB2 := below1 W (.cells #[.int .i64 ya, .int .i64 ym, .int .i64 yp] 64)
 have HS2 : W.heap.size < (W.alloc (.cells #[.int .i64 ya, .int .i64 ym, .int .i64 yp] 64)).heap.size := blk_lt H2
 replace H := alloc_keep H (Obj.cells #[.int .i64 ya, .int .i64 ym, .int .i64 yp] 64)
 have HLW2 : Lays W (W.alloc (.cells #[.int .i64 ya, .int .i64 ym, .int .i64 yp] 64)) := (Lays.refl W).alloc _
 generalize hW2 : W.alloc (Obj.cells #[.int .i64 ya, .int .i64 ym, .int .i64 yp] 64) = W2 at *
 clear hW2
 have eW : W.heap.size = w.heap.size + 1 := by rw [← hW]; simp
 rw [eW] at H2
 clear hW
 have hb2 := HB.trans (HB2.mono HB.size)
 have hs2 := HB2.size
 have LT1 := blk_lt H2
 have LT0 : w.heap.size < W2.heap.size := by omega
 have HH := Lib.hid H
 have HZ := Lib.hid H2
 have EW := Lib.hid eW
 clear H H2 eW
 have HLY := Lib.hid (HLW.trans HLW2)
 have X0 := Lib.hid (blk_cell HH.out 0)
 have X2 := Lib.hid (blk_cell HH.out 2)
 have Y0 := Lib.hid (blk_cell HZ.out 0)
 have Y2 := Lib.hid (blk_cell HZ.out 2)
 have LT0 := Lib.hid LT0
 have LT1 := Lib.hid LT1
 clear HLW HLW2
 refine wp_region_inv (Ks W2 [.val (.pointer (some ⟨w.heap.size, 0, none⟩)), .val (.int .i64 xa), .val (.pointer (some ⟨(w.heap.size + 1), 0, none⟩)), .val (.int .i64 ya), .val (.int .i64 (cmpI xa ya)), .val (.pointer (some ⟨w.heap.size, 2, none⟩)), .val (.int .i64 xp), .val (.pointer (some ⟨(w.heap.size + 1), 2, none⟩)), .val (.int .i64 yp), .val (.int .i64 (cmpI xp yp)), .own (IsSl (cmpI xa ya) (cmpI xp yp)) (IsSl.keep _ _), .val (.int .i64 (orI (cmpI xa ya) (cmpI xp yp))), .val (.int .i64 (orI (cmpI xa ya) (cmpI xp yp)))])
  (fun w' => Lays W2 w') (by kernel_rfl) (by kernel_rfl) (by kernel_rfl) (Lays.refl _).drew ?_ ?_
 · refine ⟨?_, ?_, ?_, ?_, ?_, ?_, ?_, ?_, ?_, ?_, ?_, ?_, ?_, trivial⟩
   · intro listed A0 w2 hI hd hnd K hK
     have e0 := hI.slot hnd 2 _ rfl (by kernel_rfl)
     have hS := hI.world
     refine wanted_go rfl ?_
     clear hI hd hnd
     go_simp
     exact kq hK hS rfl
   · intro listed A0 w2 hI hd hnd K hK
     have e0 := hI.depv hd 0 5 _ rfl rfl rfl (by kernel_rfl)
     have hS := hI.world
     have hcc : w2.cell? ⟨w.heap.size, 0, none⟩ = _ := ((Lays.below hS).cell (p := ⟨w.heap.size, 0, none⟩) LT0.out).trans X0.out
     refine wanted_go rfl ?_
     clear hI hd hnd
     go_simp
     exact kq hK hS rfl
   · intro listed A0 w2 hI hd hnd K hK
     have e0 := hI.slot hnd 3 _ rfl (by kernel_rfl)
     have hS := hI.world
     refine wanted_go rfl ?_
     clear hI hd hnd
     go_simp
     exact kq hK hS rfl
   · intro listed A0 w2 hI hd hnd K hK
     have e0 := hI.depv hd 2 7 _ rfl rfl rfl (by kernel_rfl)
     have hS := hI.world
     have hcc : w2.cell? ⟨(w.heap.size + 1), 0, none⟩ = _ := ((Lays.below hS).cell (p := ⟨(w.heap.size + 1), 0, none⟩) LT1.out).trans Y0.out
     refine wanted_go rfl ?_
     clear hI hd hnd
     go_simp
     exact kq hK hS rfl
   · intro listed A0 w2 hI hd hnd K hK
     have e0 := hI.depv hd 1 6 _ rfl rfl rfl (by kernel_rfl)
     have e1 := hI.depv hd 3 8 _ rfl rfl rfl (by kernel_rfl)
     have hS := hI.world
     refine wanted_go rfl ?_
     clear hI hd hnd
     go_simp
     go_at_call 69
     refine (compare_c xa ya w2).mono ?_
     rintro e w3 ⟨rfl, rfl⟩
     exact kq hK hS rfl
   · intro listed A0 w2 hI hd hnd K hK
     have e0 := hI.slot hnd 2 _ rfl (by kernel_rfl)
     have hS := hI.world
     refine wanted_go rfl ?_
     clear hI hd hnd
     go_simp
     exact kq hK hS rfl
   · intro listed A0 w2 hI hd hnd K hK
     have e0 := hI.depv hd 5 10 _ rfl rfl rfl (by kernel_rfl)
     have hS := hI.world
     have hcc : w2.cell? ⟨w.heap.size, 2, none⟩ = _ := ((Lays.below hS).cell (p := ⟨w.heap.size, 2, none⟩) LT0.out).trans X2.out
     refine wanted_go rfl ?_
     clear hI hd hnd
     go_simp
     exact kq hK hS rfl
   · intro listed A0 w2 hI hd hnd K hK
     have e0 := hI.slot hnd 3 _ rfl (by kernel_rfl)
     have hS := hI.world
     refine wanted_go rfl ?_
     clear hI hd hnd
     go_simp
     exact kq hK hS rfl
   · intro listed A0 w2 hI hd hnd K hK
     have e0 := hI.depv hd 7 12 _ rfl rfl rfl (by kernel_rfl)
     have hS := hI.world
     have hcc : w2.cell? ⟨(w.heap.size + 1), 2, none⟩ = _ := ((Lays.below hS).cell (p := ⟨(w.heap.size + 1), 2, none⟩) LT1.out).trans Y2.out
     refine wanted_go rfl ?_
     clear hI hd hnd
     go_simp
     exact kq hK hS rfl
   · intro listed A0 w2 hI hd hnd K hK
     have e0 := hI.depv hd 6 11 _ rfl rfl rfl (by kernel_rfl)
     have e1 := hI.depv hd 8 13 _ rfl rfl rfl (by kernel_rfl)
     have hS := hI.world
     refine wanted_go rfl ?_
     clear hI hd hnd
     go_simp
     go_at_call 69
     refine (compare_c xp yp w2).mono ?_
     rintro e w3 ⟨rfl, rfl⟩
     exact kq hK hS rfl
   · intro listed A0 w2 hI hd hnd K hK
     have e0 := hI.depv hd 4 9 _ rfl rfl rfl (by kernel_rfl)
     have e1 := hI.depv hd 9 14 _ rfl rfl rfl (by kernel_rfl)
     have hS := hI.world
     refine wanted_go rfl ?_
     clear hI hd hnd
     go_simp
     exact hK.out _ _ (hS.alloc _) (Ks.of rfl (IsSl.made _ _ _ _)) (Ks.keep (below1 w2 _))
   · intro listed A0 w2 hI hd hnd K hK
     obtain ⟨x0, e0, h0⟩ := hI.dep hd 10 15 rfl rfl rfl (by kernel_rfl)
     have hS := hI.world
     obtain ⟨gs, T0, rfl, hgs⟩ := h0
     refine wanted_go rfl ?_
     clear hI hd hnd
     go_simp
     go_at_call 68
     refine (or_c gs _ _ T0 w2 hgs).mono ?_
     rintro e w3 ⟨rfl, rfl⟩
     exact kq hK hS rfl
   · intro listed A0 w2 hI hd hnd K hK
     have e0 := hI.depv hd 11 16 _ rfl rfl rfl (by kernel_rfl)
     have hS := hI.world
     refine wanted_go rfl ?_
     clear hI hd hnd
     go_simp
     exact kq hK hS rfl
 · intro listed A0 w2 hI hall
   obtain ⟨x0, g0, h0⟩ := hI.got 0 _ 5 rfl rfl (hall 0 (by decide))
   obtain ⟨x1, g1, h1⟩ := hI.got 1 _ 6 rfl rfl (hall 1 (by decide))
   obtain ⟨x2, g2, h2⟩ := hI.got 2 _ 7 rfl rfl (hall 2 (by decide))
   obtain ⟨x3, g3, h3⟩ := hI.got 3 _ 8 rfl rfl (hall 3 (by decide))
   obtain ⟨x4, g4, h4⟩ := hI.got 4 _ 9 rfl rfl (hall 4 (by decide))
   obtain ⟨x5, g5, h5⟩ := hI.got 5 _ 10 rfl rfl (hall 5 (by decide))
   obtain ⟨x6, g6, h6⟩ := hI.got 6 _ 11 rfl rfl (hall 6 (by decide))
   obtain ⟨x7, g7, h7⟩ := hI.got 7 _ 12 rfl rfl (hall 7 (by decide))
   obtain ⟨x8, g8, h8⟩ := hI.got 8 _ 13 rfl rfl (hall 8 (by decide))
   obtain ⟨x9, g9, h9⟩ := hI.got 9 _ 14 rfl rfl (hall 9 (by decide))
   obtain ⟨x10, g10, h10⟩ := hI.got 10 _ 15 rfl rfl (hall 10 (by decide))
   obtain ⟨x11, g11, h11⟩ := hI.got 11 _ 16 rfl rfl (hall 11 (by decide))
   obtain ⟨x12, g12, h12⟩ := hI.got 12 _ 4 rfl rfl (hall 12 (by decide))
   have hS := hI.world
   have hA : A0 = _ := hI.tmps [(5, x0), (6, x1), (7, x2), (8, x3), (9, x4), (10, x5), (11, x6), (12, x7), (13, x8), (14, x9), (15, x10), (16, x11), (4, x12)] (by simp only [List.mem_cons, List.not_mem_nil, or_false, forall_eq_or_imp, forall_eq]; exact ⟨g0, g1, g2, g3, g4, g5, g6, g7, g8, g9, g10, g11, g12⟩) (by kernel_rfl)
   obtain rfl : x12 = .int .i64 (orI (cmpI xa ya) (cmpI xp yp)) := h12 _ rfl
   clear h0 g0 h1 g1 h2 g2 h3 g3 h4 g4 h5 g5 h6 g6 h7 g7 h8 g8 h9 g9 h10 g10 h11 g11 h12 g12 hI hall
   simp only [setAll, List.foldl, List.setIfInBounds_toArray, List.set_cons_zero, List.set_cons_succ] at hA
   rw [hA]
   clear hA
   go_wp2_with fail
   go_ret
   exact ⟨rfl, HLY.out.trans hS⟩
end Go.Proofs.Ytebdajkknkapcaa
namespace Go.Proofs.Ytebdajkknkapcaa
open Go Go.RowKit Go.Shelf Go.Lib
open Go.Sort hiding Below
def sortL_ren : Go.Shelf.Ren := ⟨fun | 6 => 66 | 15 => 115 | 14 => 114 | 28 => 160 | 29 => 161 | 20 => 152 | 21 => 153 | 22 => 154 | 23 => 155 | 24 => 156 | 25 => 157 | 26 => 158 | 27 => 159 | 46 => 176 | 47 => 177 | 48 => 178 | 49 => 179 | 50 => 180 | 57 => 195 | n => n, fun | 22 => 40 | 24 => 64 | 25 => 117 | 3 => 3 | 39 => 168 | 0 => 0 | 53 => 205 | 55 => 207 | 4 => 4 | 46 => 199 | 45 => 198 | 50 => 50 | 5 => 5 | 9 => 9 | 66 => 219 | 70 => 223 | 76 => 234 | 77 => 235 | n => n, fun | n => n⟩
theorem sortL : Go.Proofs.SlLaysF0.n6 Try.prog sortL_ren := {
 mixed := by kernel_rfl,
 f6 := ⟨Try.f66.name, by decide, Try.func66.trans (congrArg some (by kernel_rfl))⟩,
 f14 := ⟨Try.f114.name, by decide, Try.func114.trans (congrArg some (by kernel_rfl))⟩,
 f15 := Try.func115.trans (congrArg some (by kernel_rfl)),
 f20 := ⟨Try.f152.name, by decide, Try.func152.trans (congrArg some (by kernel_rfl))⟩,
 f21 := ⟨Try.f153.name, by decide, Try.func153.trans (congrArg some (by kernel_rfl))⟩,
 f22 := ⟨Try.f154.name, by decide, Try.func154.trans (congrArg some (by kernel_rfl))⟩,
 f23 := ⟨Try.f155.name, by decide, Try.func155.trans (congrArg some (by kernel_rfl))⟩,
 f24 := ⟨Try.f156.name, by decide, Try.func156.trans (congrArg some (by kernel_rfl))⟩,
 f25 := ⟨Try.f157.name, by decide, Try.func157.trans (congrArg some (by kernel_rfl))⟩,
 f26 := ⟨Try.f158.name, by decide, Try.func158.trans (congrArg some (by kernel_rfl))⟩,
 f27 := ⟨Try.f159.name, by decide, Try.func159.trans (congrArg some (by kernel_rfl))⟩,
 f28 := Try.func160.trans (congrArg some (by kernel_rfl)),
 f29 := Try.func161.trans (congrArg some (by kernel_rfl)),
 f46 := ⟨Try.f176.name, by decide, Try.func176.trans (congrArg some (by kernel_rfl))⟩,
 f47 := Try.func177.trans (congrArg some (by kernel_rfl)),
 f48 := Try.func178.trans (congrArg some (by kernel_rfl)),
 f49 := ⟨Try.f179.name, by decide, Try.func179.trans (congrArg some (by kernel_rfl))⟩,
 f50 := ⟨Try.f180.name, by decide, Try.func180.trans (congrArg some (by kernel_rfl))⟩,
 f57 := ⟨Try.f195.name, by decide, Try.func195.trans (congrArg some (by kernel_rfl))⟩,
 t0 := Try.underlying0,
 a0 := Try.isAgg0,
 z0 := Try.sizeOf0,
 v0 := Try.zeroValue0,
 t3 := Try.underlying3,
 a3 := Try.isAgg3,
 z3 := Try.sizeOf3,
 v3 := Try.zeroValue3,
 t4 := Try.underlying4,
 a4 := Try.isAgg4,
 z4 := Try.sizeOf4,
 v4 := Try.zeroValue4,
 t5 := Try.underlying5,
 a5 := Try.isAgg5,
 z5 := Try.sizeOf5,
 v5 := Try.zeroValue5,
 t9 := Try.underlying9,
 a9 := Try.isAgg9,
 z9 := Try.sizeOf9,
 v9 := Try.zeroValue9,
 t22 := Try.underlying40,
 a22 := Try.isAgg40,
 z22 := Try.sizeOf40,
 v22 := Try.zeroValue40,
 t25 := Try.underlying117,
 a25 := Try.isAgg117,
 z25 := Try.sizeOf117,
 v25 := Try.zeroValue117,
 t39 := Try.underlying168,
 a39 := Try.isAgg168,
 z39 := Try.sizeOf168,
 v39 := Try.zeroValue168,
 t45 := Try.underlying198,
 a45 := Try.isAgg198,
 z45 := Try.sizeOf198,
 v45 := Try.zeroValue198,
 t46 := Try.underlying199,
 a46 := Try.isAgg199,
 z46 := Try.sizeOf199,
 v46 := Try.zeroValue199,
 t50 := Try.underlying50,
 a50 := Try.isAgg50,
 z50 := Try.sizeOf50,
 v50 := Try.zeroValue50,
 t53 := Try.underlying205,
 a53 := Try.isAgg205,
 z53 := Try.sizeOf205,
 v53 := Try.zeroValue205,
 t55 := Try.underlying207,
 a55 := Try.isAgg207,
 z55 := Try.sizeOf207,
 v55 := Try.zeroValue207,
 t66 := Try.underlying219,
 a66 := Try.isAgg219,
 z66 := Try.sizeOf219,
 v66 := Try.zeroValue219,
 t70 := Try.underlying223,
 a70 := Try.isAgg223,
 z70 := Try.sizeOf223,
 v70 := Try.zeroValue223,
 t76 := Try.underlying234,
 a76 := Try.isAgg234,
 z76 := Try.sizeOf234,
 v76 := Try.zeroValue234,
 t77 := Try.underlying235,
 a77 := Try.isAgg235,
 z77 := Try.sizeOf235,
 v77 := Try.zeroValue235 }
theorem ltOf_cmp (x y : XLine) : ltOf cmpL x y = true ↔ ltL x y := by
 unfold ltOf cmpL orI cmpI ltL
 rw [decide_eq_true_iff]
 by_cases h1 : x.account < y.account
 · simp [h1]
 · by_cases h2 : y.account < x.account
   · simp [h1, h2]; omega
   · have e : x.account = y.account := by omega
     by_cases h3 : x.partner < y.partner
     · simp [h1, h2, h3, e]
     · by_cases h4 : y.partner < x.partner <;> simp [h1, h2, h3, h4, e]
theorem swoL : SWO (ltOf cmpL) where
 irrefl x := by
  cases h : ltOf cmpL x x with
  | false => rfl
  | true => exact absurd ((ltOf_cmp x x).1 h) (ltL_irrefl x)
 trans x y z h1 h2 := by
  rw [ltOf_cmp] at *
  unfold ltL at *
  omega
 ntrans x y z h1 h2 := by
  cases h : ltOf cmpL x z with
  | false => rfl
  | true =>
   have a : ¬ ltL x y := fun e => by rw [(ltOf_cmp x y).2 e] at h1; cases h1
   have b : ¬ ltL y z := fun e => by rw [(ltOf_cmp y z).2 e] at h2; cases h2
   have c := (ltOf_cmp x z).1 h
   unfold ltL at *
   omega
theorem flat_get {α : Type} [Inhabited α] {f : α → List Value} {k : Nat} (hk : 0 < k) (hf : ∀ x, (f x).length = k) : ∀ (l : List α) (j : Nat), j < l.length * k → (l.flatMap f)[j]? = (f (l[j / k]!))[j % k]?
 | [], j, h => by simp at h
 | x :: l, j, h => by
  rw [List.flatMap_cons]
  rcases Nat.lt_or_ge j k with h1 | h1
  · rw [List.getElem?_append_left (by rw [hf]; exact h1), Nat.div_eq_of_lt h1, Nat.mod_eq_of_lt h1]; rfl
  · rw [List.getElem?_append_right (by rw [hf]; exact h1), hf]
    have hl : j - k < l.length * k := by rw [List.length_cons, Nat.add_mul, Nat.one_mul] at h; omega
    rw [flat_get hk hf l (j - k) hl]
    have e1 : j / k = (j - k) / k + 1 := by rw [Nat.div_eq_sub_div hk h1]
    have e2 : j % k = (j - k) % k := (Nat.mod_eq_sub_mod h1)
    rw [e1, e2]; rfl
instance : Inhabited XLine := ⟨{}⟩
theorem blk_sort {w : World} {blk n : Nat} {d : Array XLine} {os : Array Obj} : Below w.heap.size w w → w.heap.size ≤ (sortWorldK lineL 3 w blk 0 n d os).heap.size ∧ ∀ k, k < w.heap.size → k ≠ blk → (sortWorldK lineL 3 w blk 0 n d os).heap[k]? = w.heap[k]? := fun _ => by
 refine ⟨size_sortWorldK_c _ _ _ _ _ _ _ _, fun k hk hne => ?_⟩
 unfold sortWorldK Go.Sort.grow putRowK putRow mapBlock Go.Sort.ahead
 simp only
 rw [Array.getElem?_append_left (by simpa using hk), Array.getElem?_modify, if_neg (fun e => hne e.symm)]
set_option maxHeartbeats 1000000 in
theorem sort_c (out : List XLine) (v : Value) (base : Nat) (w : World) (hown : w.ownsRow base 64 3 v out.length (out.flatMap lineL)) (hb : ∀ x ∈ out, lineBd x) (hn : out.length ≤ 1000) (hbase : base ≤ w.heap.size) :
 Calls Try.prog 66 #[v, .func (.func 67) #[] #[]] w (fun e w' => e = .returned (.tuple #[]) ∧ ∃ out' : List XLine, out'.Perm out ∧ out'.Pairwise (fun x y => ¬ ltL y x) ∧ ListC LineC 3 w' (fun q => base ≤ q ∧ q < w'.heap.size) [v] out' ∧ Below base w w' ∧ w.heap.size ≤ w'.heap.size) := by
 rcases Nat.eq_zero_or_pos out.length with h0 | h0
 · have he : out = [] := List.eq_nil_of_length_eq_zero h0
   subst he
   obtain ⟨p, cap, rfl⟩ : ∃ p cap, v = .slice p 0 cap := by
    rcases hown.2 with ⟨rfl, _⟩ | ⟨g, cap, cur, rfl, _⟩
    · exact ⟨_, _, rfl⟩
    · exact ⟨_, _, rfl⟩
   have hcon := AnyF.slices_SortFunc_none sortL p cap (.func (.func 67) #[] #[]) w
   refine (show Calls Try.prog 66 #[.slice p 0 cap, .func (.func 67) #[] #[]] w _ from hcon).mono ?_
   rintro e w' ⟨rfl, rfl⟩
   refine ⟨rfl, [], List.Perm.refl _, List.Pairwise.nil, ?_, Below.refl _ _, Nat.le_refl _⟩
   have hc : 0 ≤ cap ∧ cap ≤ maxLen := by
    rcases hown.2 with ⟨e, _⟩ | ⟨g, cap', cur, e, _, _, h1, h2, _⟩
    · simp only [Value.slice.injEq] at e
      obtain ⟨_, _, rfl⟩ := e
      exact ⟨Nat.le_refl _, by unfold maxLen; decide⟩
    · simp only [Value.slice.injEq] at e
      obtain ⟨_, _, rfl⟩ := e
      exact ⟨Nat.zero_le _, h2⟩
   exact ⟨p, cap, rfl, hc.1, hc.2, fun h => absurd h (by simp)⟩
 · obtain ⟨g, cap, rfl, hbg, hgw, hcl, hcm⟩ : ∃ g cap, v = .slice (some ⟨g, 0, none⟩) out.length cap ∧ base ≤ g ∧ g < w.heap.size ∧ out.length ≤ cap ∧ cap ≤ maxLen := by
    rcases hown.2 with ⟨_, hz⟩ | ⟨g, cap, cur, hv, h1, h2, h3, h4, _⟩
    · omega
    · exact ⟨g, cap, hv, h1, blk_lt h2, h3, h4⟩
   have hH : HoldsK lineL 3 w g 0 out.toArray := by
    intro j hj
    rw [size_flatK] at hj
    have hj' : j < out.length * 3 := by simpa using hj
    rw [get_flatK _ _ _ _ hj]
    have hg := flat_get (f := lineL) (k := 3) (by omega) (fun _ => rfl) out j hj'
    have e1 : out.toArray[j / 3]! = out[j / 3]! := by simp
    have hmod : j % 3 < (lineL out[j / 3]!).length := by show j % 3 < 3; omega
    rw [List.getElem?_eq_getElem hmod] at hg
    have hc := hown.cells (g := g) rfl j _ hg
    have hf := own_unfrozen hown (g := g) rfl j
    rw [Addr.add_lit] at hc hf
    rw [e1, getElem!_pos (lineL out[j / 3]!) (j % 3) hmod]
    exact ⟨hc, hf⟩
   have hcmp : CmpLays Try.prog 67 (#[] : Array Value) lineL 3 cmpL g 0 out.toArray.size w := fun m os dk hdk x y => clos_c x y _
   have eg : ∀ args w, (callFunc 67 args).run Try.prog w = .ok (.enter 67 args) w := enters_of Try.func67 (by kernel_rfl) rfl
   have hcon := AnyQ.slices_SortFunc sortL 3 Try.isAgg64 Try.sizeOf64 lineL (fun _ => rfl) (fun x v hv => by simp [lineL] at hv; rcases hv with rfl | rfl | rfl <;> rfl) cmpL swoL 67 #[] g 0 cap out.toArray w eg hcmp hH hgw (by simp; omega)
   have hsz : out.toArray.size = out.length := by simp
   rw [hsz] at hcon
   refine (show Calls Try.prog 66 #[.slice (some ⟨g, 0, none⟩) out.length cap, .func (.func 67) #[] #[]] w _ from hcon).mono ?_
   rintro e w' ⟨rfl, d', n, os, hp, hs, rfl⟩
   obtain ⟨hp1, _, hp3⟩ := hp
   have hd : d'.size = out.length := by simpa using hp1
   have hperm : d'.toList.Perm out := by
    have e1 : (d'.extract 0 out.length).toList = d'.toList := by rw [← hd]; simp
    have e2 : (out.toArray.extract 0 out.length).toList = out := by simp
    rw [e1, e2] at hp3
    exact hp3
   have hH' := holdsK_sortWorldK_c lineL 3 w g 0 out.toArray d' n os hH hgw hp1
   obtain ⟨hz1, hz2⟩ := blk_sort (w := w) (blk := g) (n := n) (d := d') (os := os) (Below.refl _ _)
   refine ⟨rfl, d'.toList, hperm, ?_, ?_, ⟨rfl, rfl, rfl, hz1, fun k hk => hz2 k (by omega) (by omega)⟩, hz1⟩
   · rw [List.pairwise_iff_getElem]
     intro i j hi hj hij hlt
     have hi' : i < d'.size := by simpa using hi
     have hj' : j < d'.size := by simpa using hj
     have h1 := hs i j (Nat.zero_le _) hij (by omega)
     rw [getElem!_pos d' i hi', getElem!_pos d' j hj'] at h1
     have h2 := (ltOf_cmp d'[j] d'[i]).2 hlt
     rw [h1] at h2
     cases h2
   · have hlen : d'.toList.length = out.length := by simpa using hd
     rw [← hlen]
     refine ⟨_, cap, rfl, by omega, hcm, fun _ => ⟨g, 0, rfl, ⟨hbg, by omega⟩, fun i x hx => ?_⟩⟩
     obtain ⟨hi, hxi⟩ := List.getElem?_eq_some_iff.1 hx
     have hi' : i < d'.size := by simpa using hi
     have hbx := hb x (hperm.mem_iff.1 (List.mem_of_getElem? hx))
     refine ⟨lineL x, ⟨[_], [_], [_], rfl, ⟨rfl, hbx.1⟩, ⟨rfl, hbx.2.1⟩, ⟨rfl, hbx.2.2⟩⟩, ⟨⟨hbg, by show g < _; omega⟩, fun j u hj => ?_⟩⟩
     have hjl : j < 3 := (List.getElem?_eq_some_iff.1 hj).1
     have hc := hH'.cell hi' hjl
     rw [getElem!_pos d' i hi'] at hc
     have hxd : d'[i] = x := by rw [← hxi]; simp
     rw [hxd, getElem!_pos (lineL x) j hjl] at hc
     rw [Addr.add_lit]
     obtain ⟨_, hju⟩ := List.getElem?_eq_some_iff.1 hj
     rw [hju] at hc
     exact hc
end Go.Proofs.Ytebdajkknkapcaa
