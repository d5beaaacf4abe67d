/- Mappings, in the program. Written by gen_b26.py. -/
import Derived.Test.YtnigokmjehemaaaProg
import Derived.Test.YtnigokmjehemaaaB16ValidRef
import Derived.Test.YtnigokmjehemaaaB22Accounts
namespace Go.Proofs.Ytnigokmjehemaaa
open Go Go.RowKit
open Go.Maps (Keyed)
set_option linter.unusedVariables false
set_option linter.unusedSimpArgs false
set_option maxRecDepth 4000
attribute [local go_sem ↓] Go.wp_at_zero Go.wp_at_succ
theorem find_n {l : List XAccount} {A : Option Addr} {c n : Nat} {w : World} (hN : l.length = n) (hl : ListC AccountC 4 w (· < w.heap.size) [.slice A l.length c] l) (hn : l.length ≤ 1000) (code : Int) (hc : intBd code) {o : XAccount} {s : Bool} (ho : accO (findA l code) = o) (hs : (findA l code).isSome = s) : Calls Try.prog 141 #[.slice A n c, .int .i64 code] w (Quiet w (.tuple #[.agg (accL o).toArray, .bool s])) := by
  subst hN ho hs
  exact find_c l A c code w hl hc hn
theorem rfind_n {l : List XAccount} {A : Option Addr} {c n : Nat} {w : World} (hN : l.length = n) (hl : ListC AccountC 4 w (· < w.heap.size) [.slice A l.length c] l) (hn : l.length ≤ 1000) (code : Int) (hc : intBd code) {o : XAccount} {s : Bool} (ho : accO (findA l code) = o) (hs : (findA l code).isSome = s) : Calls Try.prog 108 #[.slice A n c, .int .i64 code] w (Quiet w (.tuple #[.agg (accL o).toArray, .bool s])) := by
  subst hN ho hs
  exact rfind_c l A c code w hl hc hn
theorem valid_n {l : List XAccount} {A : Option Addr} {c n : Nat} {w : World} (hN : l.length = n) (hl : ListC AccountC 4 w (· < w.heap.size) [.slice A l.length c] l) (hn : l.length ≤ 1000) (g : Bool) : Calls Try.prog 161 #[.slice A n c, .bool g] w (Quiet w (.bool (chartB l g))) := by
  subst hN
  exact chartValid_c l A c g w hl hn
theorem rvalid_n {l : List XAccount} {A : Option Addr} {c n : Nat} {w : World} (hN : l.length = n) (hl : ListC AccountC 4 w (· < w.heap.size) [.slice A l.length c] l) (hn : l.length ≤ 1000) (g : Bool) : Calls Try.prog 126 #[.slice A n c, .bool g] w (Quiet w (.bool (chartB l g))) := by
  subst hN
  rw [chart_both]
  exact rchartValid_c l A c g w hl hn
theorem linkB_eq {ec ch : List XAccount} {l : XLink} {o1 o2 : XAccount} {s1 s2 : Bool} (h1 : accO (findA ec l.from_) = o1) (h2 : (findA ec l.from_).isSome = s1) (h3 : accO (findA ch l.to_) = o2) (h4 : (findA ch l.to_).isSome = s2) : linkB ec ch l = (s1 && (s2 && (o1.kind == o2.kind && decide (inD l.since)))) := by
  unfold linkB
  subst h1 h2 h3 h4
  cases findA ec l.from_ with
  | none => rfl
  | some a => cases findA ch l.to_ with
    | none => rfl
    | some b => rfl
theorem linkRow_at {ec ch : List XAccount} {ls : List XLink} {k : Nat} {l : XLink} (h : ls[k]? = some l) : linkRow ec ch ls k = (linkB ec ch l && !((ls.take k).any fun k => k.from_ == l.from_ && k.since == l.since)) := by unfold linkRow; rw [h]
set_option maxHeartbeats 2000000 in
theorem link_c (s cu : ByteArray) (Ac Al Ah : Option Addr) (n m cc nl cl hc : Nat) (jo : Bool) (ec ch : List XAccount) (l : XLink) (w : World) (hN : ec.length = n) (hM : ch.length = m) (hec : ListC AccountC 4 w (· < w.heap.size) [.slice Ac ec.length cc] ec) (hch : ListC AccountC 4 w (· < w.heap.size) [.slice Ah ch.length hc] ch) (hl : linkBd l) (hn : ec.length ≤ 1000) (hm : ch.length ≤ 1000) :
    Calls Try.prog 193 #[.agg (entL s cu Ac n cc Al nl cl jo).toArray, .slice Ah m hc, .agg (linkL l).toArray] w (Quiet w (.bool (linkB ec ch l))) := by
  obtain ⟨r, hr⟩ : ∃ r, linkB ec ch l = r := ⟨_, rfl⟩
  rw [hr]
  obtain ⟨o1, ho1⟩ : ∃ o, accO (findA ec l.from_) = o := ⟨_, rfl⟩
  obtain ⟨s1, hs1⟩ : ∃ s, (findA ec l.from_).isSome = s := ⟨_, rfl⟩
  obtain ⟨o2, ho2⟩ : ∃ o, accO (findA ch l.to_) = o := ⟨_, rfl⟩
  obtain ⟨s2, hs2⟩ : ∃ s, (findA ch l.to_).isSome = s := ⟨_, rfl⟩
  have HR := Lib.hid (hr.symm.trans (linkB_eq ho1 hs1 ho2 hs2))
  obtain ⟨l1, l2, l3⟩ := l
  obtain ⟨b1, b2, b3⟩ := hl
  simp only at b1 b2 b3 ho1 hs1 ho2 hs2
  have HF1 := Lib.hid (fun (w2 : World) (hb : Below w.heap.size w w2) => find_n hN (chart_keep hec hb) hn l1 b1 ho1 hs1)
  have HF2 := Lib.hid (fun (w2 : World) (hb : Below w.heap.size w w2) => find_n hM (chart_keep hch hb) hm l2 b2 ho2 hs2)
  clear hr ho1 hs1 ho2 hs2 hec hch hN hM hn hm b1 b2
  show Calls Try.prog 193 #[.agg #[.string s, .string cu, .slice Ac n cc, .slice Al nl cl, .bool jo], .slice Ah m hc, .agg #[.int .i64 l1, .int .i64 l2, .int .i64 l3]] w (Quiet w (.bool r))
  go_enter Try.func193, Try.ntmps193
  go_upto_region 1 with fail
  have H := heap_alloc_new w (.cells #[.string s, .string cu, .slice Ac n cc, .slice Al nl cl, .bool jo] 113)
  have HB := below1 w (.cells #[.string s, .string cu, .slice Ac n cc, .slice Al nl cl, .bool jo] 113)
  have HS : w.heap.size < (w.alloc (.cells #[.string s, .string cu, .slice Ac n cc, .slice Al nl cl, .bool jo] 113)).heap.size := blk_lt H
  generalize hW : w.alloc (Obj.cells #[.string s, .string cu, .slice Ac n cc, .slice Al nl cl, .bool jo] 113) = W at *
  have H2 := heap_alloc_new W (.cells #[.int .i64 l1, .int .i64 l2, .int .i64 l3] 182)
  have HB2 := below1 W (.cells #[.int .i64 l1, .int .i64 l2, .int .i64 l3] 182)
  have HS2 : W.heap.size < (W.alloc (.cells #[.int .i64 l1, .int .i64 l2, .int .i64 l3] 182)).heap.size := blk_lt H2
  replace H := alloc_keep H (Obj.cells #[.int .i64 l1, .int .i64 l2, .int .i64 l3] 182)
  generalize hW2 : W.alloc (Obj.cells #[.int .i64 l1, .int .i64 l2, .int .i64 l3] 182) = W2 at *
  clear hW2
  have eW : W.heap.size = w.heap.size + 1 := by rw [← hW]; simp
  rw [eW] at H2
  clear hW
  have hb2 := HB.trans (HB2.mono HB.size)
  have e2 := blk_cell H 2
  have f0 := blk_cell H2 0
  have HH := Lib.hid H
  have HH2 := Lib.hid H2
  clear H H2
  go_wp2_with fail
  refine (HF1.out W2 hb2).mono ?_
  rintro e w3 ⟨rfl, hb3⟩
  have hb03 := hb2.trans (hb3.mono hb2.size)
  have K3 := (hb3.block _ (blk_lt HH2.out)).trans HH2.out
  obtain ⟨p1, p2, p3, p4⟩ := o1
  go_upto_region 2 with fail
  have H4 := heap_alloc_new w3 (.cells #[.int .i64 p1, .int .i64 p2, .int .i64 p3, .int .i64 p4] 157)
  have HB4 := below1 w3 (.cells #[.int .i64 p1, .int .i64 p2, .int .i64 p3, .int .i64 p4] 157)
  have HS4 : w3.heap.size < (w3.alloc (.cells #[.int .i64 p1, .int .i64 p2, .int .i64 p3, .int .i64 p4] 157)).heap.size := blk_lt H4
  replace K3 := alloc_keep K3 (Obj.cells #[.int .i64 p1, .int .i64 p2, .int .i64 p3, .int .i64 p4] 157)
  generalize hW4 : w3.alloc (Obj.cells #[.int .i64 p1, .int .i64 p2, .int .i64 p3, .int .i64 p4] 157) = W4 at *
  clear hW4
  have hb04 := hb03.trans (HB4.mono hb03.size)
  have f1 := blk_cell K3 1
  have HK3 := Lib.hid K3
  have HH4 := Lib.hid H4
  clear K3 H4 e2 f0
  go_wp2_with fail
  refine (HF2.out W4 hb04).mono ?_
  rintro e w5 ⟨rfl, hb5⟩
  have hb05 := hb04.trans (hb5.mono hb04.size)
  have K5 := (hb5.block _ (blk_lt HK3.out)).trans HK3.out
  have G5 := (hb5.block _ (blk_lt HH4.out)).trans HH4.out
  obtain ⟨q1, q2, q3, q4⟩ := o2
  go_upto_region 3 with fail
  have H6 := heap_alloc_new w5 (.cells #[.int .i64 q1, .int .i64 q2, .int .i64 q3, .int .i64 q4] 157)
  have HB6 := below1 w5 (.cells #[.int .i64 q1, .int .i64 q2, .int .i64 q3, .int .i64 q4] 157)
  have HS6 : w5.heap.size < (w5.alloc (.cells #[.int .i64 q1, .int .i64 q2, .int .i64 q3, .int .i64 q4] 157)).heap.size := blk_lt H6
  replace K5 := alloc_keep K5 (Obj.cells #[.int .i64 q1, .int .i64 q2, .int .i64 q3, .int .i64 q4] 157)
  replace G5 := alloc_keep G5 (Obj.cells #[.int .i64 q1, .int .i64 q2, .int .i64 q3, .int .i64 q4] 157)
  generalize hW6 : w5.alloc (Obj.cells #[.int .i64 q1, .int .i64 q2, .int .i64 q3, .int .i64 q4] 157) = W6 at *
  clear hW6
  have hb06 := hb05.trans (HB6.mono hb05.size)
  have f2 := blk_cell K5 2
  have g1 := blk_cell G5 1
  have k1 := blk_cell H6 1
  clear K5 G5 H6 f1
  cases s1 with
  | false =>
    have hf := Lib.hid (show r = false by rw [HR.out]; rfl)
    go_wp2_with fail
    go_ret
    exact ⟨by rw [hf.out]; first | done | rfl, hb06⟩
  | true =>
  cases s2 with
  | false =>
    have hf := Lib.hid (show r = false by rw [HR.out]; rfl)
    go_wp2_with fail
    go_ret
    exact ⟨by rw [hf.out]; first | done | rfl, hb06⟩
  | true =>
  by_cases h1 : p2 = q2
  case neg =>
    have h1' : (p2 == q2) = false := by simpa using h1
    have hf := Lib.hid (show r = false by rw [HR.out, h1']; rfl)
    go_wp2_with fail
    go_ret
    exact ⟨by rw [hf.out]; first | done | rfl, hb06⟩
  case pos =>
    have h1' : (p2 == q2) = true := by simpa using h1
    have hf := Lib.hid (show r = decide (inD l3) by rw [HR.out, h1']; rfl)
    obtain ⟨d, hd⟩ : ∃ d, decide (inD l3) = d := ⟨_, rfl⟩
    have hcall := dvalid_c l3 W6
    rw [hd] at hcall
    have HD := Lib.hid hd
    clear hd
    go_wp2_with fail
    refine hcall.mono ?_
    clear hcall
    rintro e w7 ⟨rfl, hb7⟩
    go_wp2_with fail
    go_ret
    exact ⟨by rw [hf.out, HD.out]; first | done | rfl, hb06.trans (hb7.mono hb06.size)⟩
end Go.Proofs.Ytnigokmjehemaaa
