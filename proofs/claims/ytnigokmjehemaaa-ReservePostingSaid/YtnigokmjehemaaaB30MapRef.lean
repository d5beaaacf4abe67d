/- The reference's mapping Valid. Written by gen_b30.py. -/
import Derived.Test.YtnigokmjehemaaaProg
import Derived.Test.YtnigokmjehemaaaB27MapValid
import Derived.Deep.QuietTactic
namespace Go.Proofs.Ytnigokmjehemaaa
open Go Go.RowKit
set_option linter.unusedVariables false
set_option linter.unusedSimpArgs false
set_option maxRecDepth 4000
attribute [local go_sem ↓] Go.wp_at_zero Go.wp_at_succ
theorem link_twice {ec ch : List XAccount} {ls : List XLink} {k j : Nat} {l : XLink} (hk : ls[k]? = some l) (hj : j < k) (hl : j < ls.length) (h1 : ls[j].from_ = l.from_) (h3 : ls[j].since = l.since) : linkRow ec ch ls k = false := by
  rw [linkRow_at hk]
  have : ((ls.take k).any fun k => k.from_ == l.from_ && k.since == l.since) = true := by
    rw [List.any_eq_true]
    exact ⟨ls[j], by rw [List.mem_take_iff_getElem]; exact ⟨j, by omega, rfl⟩, by simp [h1, h3]⟩
  rw [this]; simp
theorem link_once {ec ch : List XAccount} {ls : List XLink} {k : Nat} {l : XLink} (hk : ls[k]? = some l) (hb : linkB ec ch l = true) (h : ∀ j (hl : j < ls.length), j < k → ¬ (ls[j].from_ = l.from_ ∧ ls[j].since = l.since)) : linkRow ec ch ls k = true := by
  rw [linkRow_at hk, hb]
  have : ((ls.take k).any fun k => k.from_ == l.from_ && k.since == l.since) = false := by
    rw [List.any_eq_false]
    intro x hx
    rw [List.mem_take_iff_getElem] at hx
    obtain ⟨j, hj, rfl⟩ := hx
    simpa using h j (by omega) (by omega)
  rw [this]; rfl
theorem link_bad {ec ch : List XAccount} {ls : List XLink} {k : Nat} {l : XLink} (hk : ls[k]? = some l) (hb : linkB ec ch l = false) : linkRow ec ch ls k = false := by rw [linkRow_at hk, hb]; rfl
set_option maxHeartbeats 4000000 in
theorem rmapValid_c (s cu : ByteArray) (Ac Al Ah : Option Addr) (n m nl cc cl hc : Nat) (jo : Bool) (ec ch : List XAccount) (ls : List XLink) (w : World) (hN : ec.length = n) (hM : ch.length = m) (hNL : ls.length = nl) (hec : ListC AccountC 4 w (· < w.heap.size) [.slice Ac ec.length cc] ec) (hls : ListC LinkC 3 w (· < w.heap.size) [.slice Al ls.length cl] ls) (hch : ListC AccountC 4 w (· < w.heap.size) [.slice Ah ch.length hc] ch) (hn : ec.length ≤ 1000) (hm : ch.length ≤ 1000) (hnl : ls.length ≤ 1000) :
    Calls Try.prog 131 #[.agg (entL s cu Ac n cc Al nl cl jo).toArray, .slice Ah m hc] w (Quiet w (.bool (mapB ec ch ls))) := by
  obtain ⟨r, hr⟩ : ∃ r, mapB ec ch ls = r := ⟨_, rfl⟩
  rw [hr]
  have HR := Lib.hid hr
  have HV1 := Lib.hid (fun (w2 : World) (hb : Below w.heap.size w w2) => rvalid_n hM (chart_keep hch hb) hm true)
  have HV2 := Lib.hid (fun (w2 : World) (hb : Below w.heap.size w w2) => rvalid_n hN (chart_keep hec hb) hn false)
  have HF1 := Lib.hid (fun (w2 : World) (hb : Below w.heap.size w w2) (c : Int) (hc : intBd c) {o : XAccount} {s : Bool} (ho : accO (findA ec c) = o) (hs : (findA ec c).isSome = s) => rfind_n hN (chart_keep hec hb) hn c hc ho hs)
  have HF2 := Lib.hid (fun (w2 : World) (hb : Below w.heap.size w w2) (c : Int) (hc : intBd c) {o : XAccount} {s : Bool} (ho : accO (findA ch c) = o) (hs : (findA ch c).isSome = s) => rfind_n hM (chart_keep hch hb) hm c hc ho hs)
  have HLS := Lib.hid hls
  have HNL := Lib.hid hNL
  rw [hNL] at hnl
  clear hr hec hch hN hM hls hNL hn hm
  show Calls Try.prog 131 #[.agg #[.string s, .string cu, .slice Ac n cc, .slice Al nl cl, .bool jo], .slice Ah m hc] w (Quiet w (.bool r))
  go_enter Try.func131, Try.ntmps131
  go_upto_region 1 with fail
  have H := heap_alloc_new w (.cells #[.string s, .string cu, .slice Ac n cc, .slice Al nl cl, .bool jo] 113)
  have HB := below1 w (.cells #[.string s, .string cu, .slice Ac n cc, .slice Al nl cl, .bool jo] 113)
  have HS : w.heap.size < (w.alloc (.cells #[.string s, .string cu, .slice Ac n cc, .slice Al nl cl, .bool jo] 113)).heap.size := blk_lt H
  generalize hW : w.alloc (Obj.cells #[.string s, .string cu, .slice Ac n cc, .slice Al nl cl, .bool jo] 113) = W at *
  clear hW
  have HH := Lib.hid H
  clear H
  go_wp2_with fail
  refine (HV1.out W HB).mono ?_
  rintro e w2 ⟨rfl, hb2⟩
  have hb02 := HB.trans (hb2.mono HB.size)
  cases hc1 : chartB ch true with
  | false =>
    have hf := Lib.hid (show r = false by rw [← HR.out]; unfold mapB; rw [hc1]; rfl)
    go_wp2_with fail
    go_ret
    exact ⟨by rw [hf.out]; first | done | rfl, hb02⟩
  | true =>
  have HC1 := Lib.hid hc1
  have G2 := (hb2.block _ HS).trans HH.out
  have e2 := blk_cell G2 2
  have hs2 := hb2.size
  clear hc1
  go_wp2_with fail
  refine (HV2.out w2 hb02).mono ?_
  rintro e w3 ⟨rfl, hb3⟩
  have hb03 := hb02.trans (hb3.mono hb02.size)
  have hs3 := hb3.size
  have G3 := (hb3.block _ (by omega)).trans G2
  have e3 := blk_cell G3 3
  clear e2 G2
  cases hc2 : chartB ec false with
  | false =>
    have hf := Lib.hid (show r = false by rw [← HR.out]; unfold mapB; rw [hc2, Bool.and_false]; rfl)
    go_wp2_with fail
    go_ret
    exact ⟨by rw [hf.out]; first | done | rfl, hb03⟩
  | true =>
  have HC2 := Lib.hid hc2
  clear hc2
  by_cases hle : nl ≤ 400
  case neg =>
    have hleI : (400 : Int) < (nl : Int) := by omega
    have hf := Lib.hid (show r = false by rw [← HR.out]; unfold mapB; rw [HNL.out, decide_eq_false hle, Bool.and_false]; rfl)
    go_wp2_with fail
    go_ret
    exact ⟨by rw [hf.out]; first | done | rfl, hb03⟩
  case pos =>
  have hleI : ¬ (400 : Int) < (nl : Int) := by omega
  have HG3 := Lib.hid G3
  clear G3
  go_wp2_with fail
  go_loopw [5] (fun i wr => ∃ k : Nat, k ≤ nl ∧ i = .int .i64 (k : Int) ∧ Below w3.heap.size w3 wr ∧ ∀ j, j < k → linkRow ec ch ls j = true) (fun i _ => nl - (intOf i).toNat)
  case atStart => exact ⟨0, by omega, rfl, Below.refl _ _, fun j hj => by omega⟩
  case round =>
    obtain ⟨k, hk, rfl, hb, hall⟩ := hrel
    have HA := Lib.hid hall
    have hsz := hb.size
    clear hall e3
    have hb0 := hb03.trans (hb.mono hb03.size)
    have ER := (hb.block w.heap.size (by omega)).trans HG3.out
    have e3 := blk_cell ER 3
    by_cases hlt : k < nl
    case pos =>
      have hltI : (k : Int) < (nl : Int) := by omega
      have hkl : k < ls.length := by rw [HNL.out]; exact hlt
      obtain ⟨b, o, hAe, hbw, hel⟩ := ListC.base HLS.out (by omega)
      subst hAe
      obtain ⟨es1, hes, hat⟩ := hel k hkl
      have HEL := Lib.hid hel
      obtain ⟨hes1, hlb⟩ := LinkC.lit hes
      obtain ⟨l, hl⟩ : ∃ l, ls[k] = l := ⟨_, rfl⟩
      rw [hl] at hes1 hlb
      have HL := Lib.hid (show ls[k]? = some l by rw [List.getElem?_eq_getElem hkl, hl])
      obtain ⟨o1, ho1⟩ : ∃ o, accO (findA ec l.from_) = o := ⟨_, rfl⟩
      obtain ⟨s1, hs1⟩ : ∃ s, (findA ec l.from_).isSome = s := ⟨_, rfl⟩
      obtain ⟨o2, ho2⟩ : ∃ o, accO (findA ch l.to_) = o := ⟨_, rfl⟩
      obtain ⟨s2, hs2⟩ : ∃ s, (findA ch l.to_).isSome = s := ⟨_, rfl⟩
      have HLB := Lib.hid (linkB_eq ho1 hs1 ho2 hs2)
      obtain ⟨l1, l2, l3⟩ := l
      subst hes1
      obtain ⟨b1, b2, b3⟩ := hlb
      simp only at b1 b2 b3 ho1 hs1 ho2 hs2
      have HFA := Lib.hid (fun (w2 : World) (hb : Below w.heap.size w w2) => HF1.out w2 hb l1 b1 ho1 hs1)
      have HFB := Lib.hid (fun (w2 : World) (hb : Below w.heap.size w w2) => HF2.out w2 hb l2 b2 ho2 hs2)
      have HAR := Lib.hid ((hat.fr (Fr.ofBelow hb0)).range)
      clear hes hat hl hel b1 b2 ho1 hs1 ho2 hs2
      go_upto_region 7 with (show wpList _ _ _ (Oper.mk (some 38) _ _ _ _ _ :: _) _ _; refine wpList_load_mid rfl 182 (.tmp 37) rfl b (o + k * 3) rfl [.int .i64 l1, .int .i64 l2, .int .i64 l3] _ HAR.out Try.underlying182 rfl info_link ?_)
      have H6 := heap_alloc_new wr (.cells #[.int .i64 l1, .int .i64 l2, .int .i64 l3] 182)
      have HB6 := below1 wr (.cells #[.int .i64 l1, .int .i64 l2, .int .i64 l3] 182)
      have HS6 : wr.heap.size < (wr.alloc (.cells #[.int .i64 l1, .int .i64 l2, .int .i64 l3] 182)).heap.size := blk_lt H6
      replace ER := alloc_keep ER (Obj.cells #[.int .i64 l1, .int .i64 l2, .int .i64 l3] 182)
      generalize hW6 : wr.alloc (Obj.cells #[.int .i64 l1, .int .i64 l2, .int .i64 l3] 182) = W6 at *
      clear hW6
      have hs6 := HB6.size
      have hb06 := hb0.trans (HB6.mono hb0.size)
      have e2 := blk_cell ER 2
      have f0 := blk_cell H6 0
      have HX6 := Lib.hid H6
      have HE6 := Lib.hid ER
      clear H6 ER e3
      go_wp2_with fail
      refine (HFA.out W6 hb06).mono ?_
      rintro e w7 ⟨rfl, hb7⟩
      have hs7 := hb7.size
      have hb67 := HB6.trans (hb7.mono HB6.size)
      have K7 := (hb7.block _ HS6).trans HX6.out
      obtain ⟨p1, p2, p3, p4⟩ := o1
      go_upto_region 8 with fail
      have H8 := heap_alloc_new w7 (.cells #[.int .i64 p1, .int .i64 p2, .int .i64 p3, .int .i64 p4] 157)
      have HB8 := below1 w7 (.cells #[.int .i64 p1, .int .i64 p2, .int .i64 p3, .int .i64 p4] 157)
      have HS8 : w7.heap.size < (w7.alloc (.cells #[.int .i64 p1, .int .i64 p2, .int .i64 p3, .int .i64 p4] 157)).heap.size := blk_lt H8
      replace K7 := alloc_keep K7 (Obj.cells #[.int .i64 p1, .int .i64 p2, .int .i64 p3, .int .i64 p4] 157)
      generalize hW8 : w7.alloc (Obj.cells #[.int .i64 p1, .int .i64 p2, .int .i64 p3, .int .i64 p4] 157) = W8 at *
      clear hW8
      have hs8 := HB8.size
      have hb68 := hb67.trans (HB8.mono hb67.size)
      have hb08 := hb0.trans (hb68.mono hb0.size)
      have f1 := blk_cell K7 1
      have HK8 := Lib.hid K7
      have HP8 := Lib.hid H8
      clear K7 H8 e2 f0
      go_wp2_with fail
      refine (HFB.out W8 hb08).mono ?_
      rintro e w9 ⟨rfl, hb9⟩
      have hs9 := hb9.size
      have hb69 := hb68.trans (hb9.mono hb68.size)
      have K9 := (hb9.block _ (by omega)).trans HK8.out
      have P9 := (hb9.block _ (by omega)).trans HP8.out
      obtain ⟨q1, q2, q3, q4⟩ := o2
      go_upto_region 9 with fail
      have H10 := heap_alloc_new w9 (.cells #[.int .i64 q1, .int .i64 q2, .int .i64 q3, .int .i64 q4] 157)
      have HB10 := below1 w9 (.cells #[.int .i64 q1, .int .i64 q2, .int .i64 q3, .int .i64 q4] 157)
      have HS10 : w9.heap.size < (w9.alloc (.cells #[.int .i64 q1, .int .i64 q2, .int .i64 q3, .int .i64 q4] 157)).heap.size := blk_lt H10
      replace K9 := alloc_keep K9 (Obj.cells #[.int .i64 q1, .int .i64 q2, .int .i64 q3, .int .i64 q4] 157)
      replace P9 := alloc_keep P9 (Obj.cells #[.int .i64 q1, .int .i64 q2, .int .i64 q3, .int .i64 q4] 157)
      generalize hW10 : w9.alloc (Obj.cells #[.int .i64 q1, .int .i64 q2, .int .i64 q3, .int .i64 q4] 157) = W10 at *
      clear hW10
      have hs10 := HB10.size
      have hb610 := hb69.trans (HB10.mono hb69.size)
      have hb010 := hb0.trans (hb610.mono hb0.size)
      have f2 := blk_cell K9 2
      have g1 := blk_cell P9 1
      have k1 := blk_cell H10 1
      have HK10 := Lib.hid K9
      clear K9 P9 H10 f1
      cases s1 with
      | false =>
        have hf := Lib.hid (show r = false by rw [← HR.out]; exact mapB_row hkl (link_bad HL.out (by rw [HLB.out]; rfl)))
        go_wp2_with fail
        go_ret
        exact ⟨by rw [hf.out]; first | done | rfl, hb010⟩
      | true =>
      cases s2 with
      | false =>
        have hf := Lib.hid (show r = false by rw [← HR.out]; exact mapB_row hkl (link_bad HL.out (by rw [HLB.out]; rfl)))
        go_wp2_with fail
        go_ret
        exact ⟨by rw [hf.out]; first | done | rfl, hb010⟩
      | true =>
      by_cases h1 : p2 = q2
      case neg =>
        have h1' : (p2 != q2) = true := by simpa using h1
        have hf := Lib.hid (show r = false by rw [← HR.out]; exact mapB_row hkl (link_bad HL.out (by rw [HLB.out]; simp [h1])))
        go_wp2_with fail
        go_ret
        exact ⟨by rw [hf.out]; first | done | rfl, hb010⟩
      case pos =>
      have h1' : (p2 != q2) = false := by simpa using h1
      have HLD := Lib.hid (show linkB ec ch ⟨l1, l2, l3⟩ = decide (inD l3) by rw [HLB.out, h1]; simp)
      obtain ⟨d, hd⟩ : ∃ d, decide (inD l3) = d := ⟨_, rfl⟩
      have hcall := rdvalid_c l3 W10
      rw [hd] at hcall
      have HD := Lib.hid hd
      clear hd
      go_wp2_with fail
      refine hcall.mono ?_
      clear hcall
      rintro e w11 ⟨rfl, hb11⟩
      have hs11 := hb11.size
      have hb611 := hb610.trans (hb11.mono hb610.size)
      have hb011 := hb010.trans (hb11.mono hb010.size)
      cases d with
      | false =>
        have hf := Lib.hid (show r = false by rw [← HR.out]; exact mapB_row hkl (link_bad HL.out (HLD.out.trans HD.out)))
        go_wp2_with fail
        go_ret
        exact ⟨by rw [hf.out]; first | done | rfl, hb011⟩
      | true =>
      have K11 := Lib.hid ((hb11.block _ (by omega)).trans HK10.out)
      have E11 := Lib.hid (((hb7.trans ((HB8.mono hs7).trans ((hb9.mono (by omega)).trans ((HB10.mono (by omega)).trans (hb11.mono (by omega)))))).block _ (by omega)).trans HE6.out)
      clear f2 g1 k1
      go_wp2_with fail
      go_loopw [11] (fun i wi => ∃ j : Nat, j ≤ k ∧ i = .int .i64 (j : Int) ∧ Below w11.heap.size w11 wi ∧ ∀ j' (hl : j' < ls.length), j' < j → ¬ (ls[j'].from_ = l1 ∧ ls[j'].since = l3)) (fun i _ => k - (intOf i).toNat)
      case atStart => exact ⟨0, by omega, rfl, Below.refl _ _, fun j hj h => by omega⟩
      case round =>
        obtain ⟨j, hj, rfl, hbi, halli⟩ := hrel
        have HAI := Lib.hid halli
        have hsi := hbi.size
        clear halli
        have hb0i := hb011.trans (hbi.mono hb011.size)
        by_cases hjk : j < k
        case pos =>
          have hjkI : (j : Int) < (k : Int) := by omega
          have hjnI : (j : Int) < (nl : Int) := by omega
          have hjl : j < ls.length := by rw [HNL.out]; omega
          obtain ⟨es2, hes2, hat2⟩ := HEL.out j hjl
          obtain ⟨hes3, _⟩ := LinkC.lit hes2
          obtain ⟨x2, hx2⟩ : ∃ x2, ls[j] = x2 := ⟨_, rfl⟩
          rw [hx2] at hes3
          have HX2 := Lib.hid hx2
          obtain ⟨j1, j2, j3⟩ := x2
          subst hes3
          have hat3 := hat2.fr (Fr.ofBelow hb0i)
          have c0 := hat3.c (j := 0) rfl
          have c2 := hat3.c (j := 2) rfl
          rw [Nat.add_zero] at c0
          have KI := (hbi.block _ (by omega)).trans K11.out
          have EI := (hbi.block _ (by omega)).trans E11.out
          have f0 := blk_cell KI 0
          have f2 := blk_cell KI 2
          have e3 := blk_cell EI 3
          clear hes2 hat2 hat3 hx2 KI EI
          by_cases ha : j1 = l1
          case neg =>
            have ha' : (j1 == l1) = false := by simpa using ha
            have HN2 := Lib.hid (show ¬ (j1 = l1 ∧ j3 = l3) from fun h => ha h.1)
            clear ha
            go_wp2_with fail
            go_quiet (fail)
            go_wp2_with fail
            go_roundw
            case rel => exact ⟨j + 1, by omega, by go_num, ((Fr.ofBelow hbi).drewN _).below, fun j' hj' hjj => by
              rcases Nat.lt_or_ge j' j with h | h
              · exact HAI.out j' hj' h
              · have : j' = j := by omega
                subst this
                rw [HX2.out]
                exact HN2.out⟩
            case measure => first | exact meas_v hjk | (simp only [intOf]; omega)
          case pos =>
          have ha' : (j1 == l1) = true := by simpa using ha
          by_cases hc3 : j3 = l3
          case neg =>
            have hc' : (j3 == l3) = false := by simpa using hc3
            have HN2 := Lib.hid (show ¬ (j1 = l1 ∧ j3 = l3) from fun h => hc3 h.2)
            clear ha hc3
            go_wp2_with fail
            go_quiet (fail)
            go_wp2_with fail
            go_roundw
            case rel => exact ⟨j + 1, by omega, by go_num, ((Fr.ofBelow hbi).drewN _).below, fun j' hj' hjj => by
              rcases Nat.lt_or_ge j' j with h | h
              · exact HAI.out j' hj' h
              · have : j' = j := by omega
                subst this
                rw [HX2.out]
                exact HN2.out⟩
            case measure => first | exact meas_v hjk | (simp only [intOf]; omega)
          case pos =>
            have hc' : (j3 == l3) = true := by simpa using hc3
            have hf := Lib.hid (show r = false by rw [← HR.out]; exact mapB_row hkl (link_twice HL.out hjk hjl (by rw [HX2.out]; exact ha) (by rw [HX2.out]; exact hc3)))
            clear ha hc3
            go_wp2_with fail
            go_quiet (fail)
            go_wp2_with fail
            go_ret
            exact ⟨by rw [hf.out]; first | done | rfl, ((Fr.ofBelow hb0i).drewN _).below⟩
        case neg =>
          have hjkI : ¬ (j : Int) < (k : Int) := by omega
          have HRW := Lib.hid (show linkRow ec ch ls k = true from link_once HL.out (HLD.out.trans HD.out) (fun j' hl' hjk' => HAI.out j' hl' (by omega)))
          go_wp2_with fail
          go_roundw
          case rel => exact ⟨k + 1, by omega, by go_num, hb.trans ((hb611.trans (hbi.mono hb611.size)).mono hsz), fun i hi => by
            rcases Nat.lt_or_ge i k with h | h
            · exact HA.out i h
            · have : i = k := by omega
              subst this
              exact HRW.out⟩
          case measure => first | exact meas_v hlt | (simp only [intOf]; omega)
    case neg =>
      have hltI : ¬ (k : Int) < (nl : Int) := by omega
      have hf := Lib.hid (show r = true by
        rw [← HR.out]; unfold mapB linksB
        rw [HC1.out, HC2.out, HNL.out, decide_eq_true hle, all_range_true (fun j hj => HA.out j (by omega))]; rfl)
      go_wp2_with fail
      go_ret
      exact ⟨by rw [hf.out]; first | done | rfl, hb0⟩
end Go.Proofs.Ytnigokmjehemaaa
