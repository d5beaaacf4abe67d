/- The reference's ParseBooks. Written by gen_r4.py. -/
import Derived.Test.YtgdibeegheddmaaYR3RefGroup
import Derived.Test.YtgdibeegheddmaaYPa
import Derived.Deep.CutBlock
namespace Go.Proofs.Ytgdibeegheddmaa
open Go Go.RowKit
set_option linter.unusedVariables false
set_option linter.unusedSimpArgs false
attribute [local go_sem ↓] Go.wp_at_zero Go.wp_at_succ
theorem GroupC.lit {w : World} {Q : Nat → Prop} {cs : List Value} {x : XGroup} (h : GroupC w Q cs x) : ∃ gs c1 c2 c3 Ag mg kg r1 r2 r3 r4 r5 r6 r7 r8 r9 r10 r11 r12 r13 r14 r15 Ae me ke, cs = [.string gs, .int .i64 c1, .int .i64 c2, .int .i64 c3, .slice Ag mg kg, .int .i64 r1, .int .i64 r2, .int .i64 r3, .int .i64 r4, .int .i64 r5, .int .i64 r6, .int .i64 r7, .int .i64 r8, .int .i64 r9, .int .i64 r10, .int .i64 r11, .int .i64 r12, .int .i64 r13, .int .i64 r14, .int .i64 r15, .slice Ae me ke] := by
  obtain ⟨_, _, _, _, _, e, h0, ⟨_, _, _, e1, ⟨a0, _⟩, ⟨a1, _⟩, ⟨a2, _⟩⟩, ⟨_, _, e2, _⟩, ⟨_, _, _, _, _, _, _, _, _, _, _, _, _, _, _, e3, ⟨b0, _⟩, ⟨b1, _⟩, ⟨b2, _⟩, ⟨b3, _⟩, ⟨b4, _⟩, ⟨b5, _⟩, ⟨b6, _⟩, ⟨b7, _⟩, ⟨b8, _⟩, ⟨b9, _⟩, ⟨b10, _⟩, ⟨b11, _⟩, ⟨b12, _⟩, ⟨b13, _⟩, ⟨b14, _⟩⟩, ⟨_, _, e4, _⟩⟩ := h
  have e0 : _ = _ := h0
  rw [e, e0, e1, a0, a1, a2, e2, e3, b0, b1, b2, b3, b4, b5, b6, b7, b8, b9, b10, b11, b12, b13, b14, e4]
  exact ⟨_, _, _, _, _, _, _, _, _, _, _, _, _, _, _, _, _, _, _, _, _, _, _, _, _, rfl⟩
/-- The data of books that are read so far. -/
def DB0 (cg : List Value) (xg : XGroup) (w : World) (Q : Nat → Prop) : Prop := GroupC w Q cg xg
theorem dB0 (cg : List Value) (xg : XGroup) : Dat (DB0 cg xg) := ⟨fun d f => GroupC.fr d f, fun d q => GroupC.mono d q⟩
def DB1 (cg : List Value) (xg : XGroup) (v1 : Value) (x1 : List XEntry) (w : World) (Q : Nat → Prop) : Prop := DB0 cg xg w Q ∧ ListC EntryC 7 w Q [v1] x1
theorem dB1 (cg : List Value) (xg : XGroup) (v1 : Value) (x1 : List XEntry) : Dat (DB1 cg xg v1 x1) := ⟨fun d f => ⟨(dB0 cg xg).fr d.1 f, d.2.fr (fun h => EntryC.fr h f) f⟩, fun d q => ⟨(dB0 cg xg).mono d.1 q, d.2.mono (fun h => EntryC.mono h q) q⟩⟩
def DB2 (cg : List Value) (xg : XGroup) (v1 : Value) (x1 : List XEntry) (v2 : Value) (x2 : List XRate) (w : World) (Q : Nat → Prop) : Prop := DB1 cg xg v1 x1 w Q ∧ ListC RateC 4 w Q [v2] x2
theorem dB2 (cg : List Value) (xg : XGroup) (v1 : Value) (x1 : List XEntry) (v2 : Value) (x2 : List XRate) : Dat (DB2 cg xg v1 x1 v2 x2) := ⟨fun d f => ⟨(dB1 cg xg v1 x1).fr d.1 f, d.2.fr (fun h => RateC.fr h f) f⟩, fun d q => ⟨(dB1 cg xg v1 x1).mono d.1 q, d.2.mono (fun h => RateC.mono h q) q⟩⟩
def DB3 (cg : List Value) (xg : XGroup) (v1 : Value) (x1 : List XEntry) (v2 : Value) (x2 : List XRate) (v3 : Value) (x3 : List XHolding) (w : World) (Q : Nat → Prop) : Prop := DB2 cg xg v1 x1 v2 x2 w Q ∧ ListC HoldingC 4 w Q [v3] x3
theorem dB3 (cg : List Value) (xg : XGroup) (v1 : Value) (x1 : List XEntry) (v2 : Value) (x2 : List XRate) (v3 : Value) (x3 : List XHolding) : Dat (DB3 cg xg v1 x1 v2 x2 v3 x3) := ⟨fun d f => ⟨(dB2 cg xg v1 x1 v2 x2).fr d.1 f, d.2.fr (fun h => HoldingC.fr h f) f⟩, fun d q => ⟨(dB2 cg xg v1 x1 v2 x2).mono d.1 q, d.2.mono (fun h => HoldingC.mono h q) q⟩⟩
def DB4 (cg : List Value) (xg : XGroup) (v1 : Value) (x1 : List XEntry) (v2 : Value) (x2 : List XRate) (v3 : Value) (x3 : List XHolding) (v4 : Value) (x4 : List XMatch) (w : World) (Q : Nat → Prop) : Prop := DB3 cg xg v1 x1 v2 x2 v3 x3 w Q ∧ ListC MatchC 4 w Q [v4] x4
theorem dB4 (cg : List Value) (xg : XGroup) (v1 : Value) (x1 : List XEntry) (v2 : Value) (x2 : List XRate) (v3 : Value) (x3 : List XHolding) (v4 : Value) (x4 : List XMatch) : Dat (DB4 cg xg v1 x1 v2 x2 v3 x3 v4 x4) := ⟨fun d f => ⟨(dB3 cg xg v1 x1 v2 x2 v3 x3).fr d.1 f, d.2.fr (fun h => MatchC.fr h f) f⟩, fun d q => ⟨(dB3 cg xg v1 x1 v2 x2 v3 x3).mono d.1 q, d.2.mono (fun h => MatchC.mono h q) q⟩⟩
def DB5 (cg : List Value) (xg : XGroup) (v1 : Value) (x1 : List XEntry) (v2 : Value) (x2 : List XRate) (v3 : Value) (x3 : List XHolding) (v4 : Value) (x4 : List XMatch) (v5 : Value) (x5 : List XStock) (w : World) (Q : Nat → Prop) : Prop := DB4 cg xg v1 x1 v2 x2 v3 x3 v4 x4 w Q ∧ ListC StockC 5 w Q [v5] x5
theorem dB5 (cg : List Value) (xg : XGroup) (v1 : Value) (x1 : List XEntry) (v2 : Value) (x2 : List XRate) (v3 : Value) (x3 : List XHolding) (v4 : Value) (x4 : List XMatch) (v5 : Value) (x5 : List XStock) : Dat (DB5 cg xg v1 x1 v2 x2 v3 x3 v4 x4 v5 x5) := ⟨fun d f => ⟨(dB4 cg xg v1 x1 v2 x2 v3 x3 v4 x4).fr d.1 f, d.2.fr (fun h => StockC.fr h f) f⟩, fun d q => ⟨(dB4 cg xg v1 x1 v2 x2 v3 x3 v4 x4).mono d.1 q, d.2.mono (fun h => StockC.mono h q) q⟩⟩
theorem GS.to {D E : World → (Nat → Prop) → Prop} {z : Array Value} {zt : TypeId} {w W : World} {r g X : Nat} {t : TypeId} {row : Array Value} {st : Option (List UInt8)} (h : GS D z zt w W r g X t row st) (e : E W (fun k => r < k ∧ k ≠ g ∧ k ≠ X ∧ k < W.heap.size)) : GS E z zt w W r g X t row st :=
  ⟨h.rq, h.x, h.res, h.fr, e, h.wX, h.rX, h.gX, h.rg⟩
set_option maxHeartbeats 16000000 in
set_option maxRecDepth 100000 in
theorem rParseBooks_c (A : Option Addr) (c : Nat) (L : List UInt8) (w : World) (h : Rd w (· < w.heap.size) A L.length 1 (bv L)) (hc : L.length ≤ c) (hl : L.length ≤ 1000000) :
    Calls Try.prog 31 #[.slice A L.length c] w (PPost BooksC {} w (parseBks L)) := by
  have HL := Lib.hid h
  obtain ⟨rr, hrr⟩ : ∃ rr, rr = parseBks L := ⟨_, rfl⟩
  rw [← hrr]
  have HRR := Lib.hid hrr
  clear h hrr
  go_enter Try.func31, Try.ntmps31
  go_upto_region 2 with fail
  have h2 := heap2 w (.cells #[.string ⟨#[]⟩, .int .i64 0, .int .i64 0, .int .i64 0, .slice none 0 0, .int .i64 0, .int .i64 0, .int .i64 0, .int .i64 0, .int .i64 0, .int .i64 0, .int .i64 0, .int .i64 0, .int .i64 0, .int .i64 0, .int .i64 0, .int .i64 0, .int .i64 0, .int .i64 0, .int .i64 0, .slice none 0 0, .slice none 0 0, .slice none 0 0, .slice none 0 0, .slice none 0 0, .slice none 0 0, .string ⟨#[]⟩] 67) (.cells #[.slice A L.length c, .bool false] 99)
  generalize hW : (w.alloc (.cells #[.string ⟨#[]⟩, .int .i64 0, .int .i64 0, .int .i64 0, .slice none 0 0, .int .i64 0, .int .i64 0, .int .i64 0, .int .i64 0, .int .i64 0, .int .i64 0, .int .i64 0, .int .i64 0, .int .i64 0, .int .i64 0, .int .i64 0, .int .i64 0, .int .i64 0, .int .i64 0, .int .i64 0, .slice none 0 0, .slice none 0 0, .slice none 0 0, .slice none 0 0, .slice none 0 0, .slice none 0 0, .string ⟨#[]⟩] 67)).alloc (.cells #[.slice A L.length c, .bool false] 99) = W at *
  obtain ⟨H0, H1, HS, HF⟩ := h2
  clear hW
  have hR0 : RQ W (w.heap.size + 1) (some L) := ⟨A, c, L, false, H1, (HL.out.fr HF).mono (fun k hk => by omega), hc, by omega, (fun h => by cases h), (fun l h => by injection h with h; exact ⟨rfl, h.symm⟩)⟩
  have hWs : w.heap.size + 2 = W.heap.size := by omega
  have HRES0 := Lib.hid H0
  have HRQ0 := Lib.hid hR0
  have HFW := Lib.hid HF
  clear H0 H1 HS HF hR0
  go_wp2_with fail
  refine (Group_rr (w.heap.size + 1) (some L) W HRQ0.out).mono ?_
  rintro e W1 ⟨cg, xg, rfl, hcg, hvg, hR1, hf1⟩
  obtain ⟨gs, c1, c2, c3, Ag, mg, kg, r1, r2, r3, r4, r5, r6, r7, r8, r9, r10, r11, r12, r13, r14, r15, Ae, me, ke, rfl⟩ := GroupC.lit hcg
  have HCG := Lib.hid hcg
  have VG := Lib.hid hvg
  have HR1 := Lib.hid hR1
  have HRES1 := Lib.hid ((hf1.block w.heap.size ⟨by omega, by omega⟩).trans HRES0.out)
  have HF1 := Lib.hid (Fr.trans HFW.out (hf1.mono (fun i (hi : i < w.heap.size) => ⟨by omega, by omega⟩)))
  have h1s : W.heap.size ≤ W1.heap.size := hf1.size
  clear hcg hvg hR1 hf1 HRES0 HRQ0 HFW
  go_upto_region 3 with (refine wpList_store_fresh2 rfl 67 (.tmp 5) (.tmp 16) rfl rfl W1 _ 67 #[.string gs, .int .i64 c1, .int .i64 c2, .int .i64 c3, .slice Ag mg kg, .int .i64 r1, .int .i64 r2, .int .i64 r3, .int .i64 r4, .int .i64 r5, .int .i64 r6, .int .i64 r7, .int .i64 r8, .int .i64 r9, .int .i64 r10, .int .i64 r11, .int .i64 r12, .int .i64 r13, .int .i64 r14, .int .i64 r15, .slice Ae me ke, .slice none 0 0, .slice none 0 0, .slice none 0 0, .slice none 0 0, .slice none 0 0, .string ⟨#[]⟩] rfl rfl info67 rfl (by simp only [List.all_toArray, List.all_cons, List.all_nil, Value.oneCell', Bool.and_true]) ?_; intro U0 S1 S2 S3; replace S1 := Lib.hid S1)
  have hGS : GS (DB0 [.string gs, .int .i64 c1, .int .i64 c2, .int .i64 c3, .slice Ag mg kg, .int .i64 r1, .int .i64 r2, .int .i64 r3, .int .i64 r4, .int .i64 r5, .int .i64 r6, .int .i64 r7, .int .i64 r8, .int .i64 r9, .int .i64 r10, .int .i64 r11, .int .i64 r12, .int .i64 r13, .int .i64 r14, .int .i64 r15, .slice Ae me ke] xg) #[.string ⟨#[]⟩, .int .i64 0, .int .i64 0, .int .i64 0, .slice none 0 0, .int .i64 0, .int .i64 0, .int .i64 0, .int .i64 0, .int .i64 0, .int .i64 0, .int .i64 0, .int .i64 0, .int .i64 0, .int .i64 0, .int .i64 0, .int .i64 0, .int .i64 0, .int .i64 0, .int .i64 0, .slice none 0 0, .slice none 0 0, .slice none 0 0, .slice none 0 0, .slice none 0 0, .slice none 0 0, .string ⟨#[]⟩] 67 w U0 w.heap.size (w.heap.size + 1) W1.heap.size 67 #[.string gs, .int .i64 c1, .int .i64 c2, .int .i64 c3, .slice Ag mg kg, .int .i64 r1, .int .i64 r2, .int .i64 r3, .int .i64 r4, .int .i64 r5, .int .i64 r6, .int .i64 r7, .int .i64 r8, .int .i64 r9, .int .i64 r10, .int .i64 r11, .int .i64 r12, .int .i64 r13, .int .i64 r14, .int .i64 r15, .slice Ae me ke, .slice none 0 0, .slice none 0 0, .slice none 0 0, .slice none 0 0, .slice none 0 0, .string ⟨#[]⟩] (cGroup.st (some L)) := ⟨HR1.out.fr (Fr.ofBelow S2) (fun k hk => by omega), S1.out, (S2.block w.heap.size (by omega)).trans HRES1.out, Fr.trans (HF1.out.mono (fun k hk => hk.1)) ((Fr.ofBelow S2).mono (fun k hk => by have : k < w.heap.size := hk.1; show k < W1.heap.size; omega)), GroupC.mono (GroupC.fr HCG.out ((Fr.ofBelow S2).mono (fun k hk => hk.2))) (fun k hk => ⟨by have := hk.1; omega, by have := hk.1; omega, by have := hk.2; omega, by have := hk.2; omega⟩), by omega, by omega, by omega, by omega⟩
  obtain ⟨X, hX⟩ : ∃ X, W1.heap.size = X := ⟨_, rfl⟩
  obtain ⟨g, hg⟩ : ∃ g, w.heap.size + 1 = g := ⟨_, rfl⟩
  rw [hX, hg] at hGS
  rw [hX, hg]
  have G := Lib.hid hGS
  have HGW := Lib.hid hg
  clear hGS hX hg S1 S2 S3 HR1 HRES1 HF1 HCG
  obtain ⟨st0, hst⟩ : ∃ s, cGroup.st (some L) = s := ⟨_, rfl⟩
  rw [hst] at G
  have HST0 := Lib.hid hst
  clear hst
  have hXU := G.out.lt
  have hgX := G.out.gX
  have hrX := G.out.rX
  go_wp2_with fail
  refine (count_r g _ U0 G.out.rq).mono ?_
  rintro e W ⟨n, rfl, hn8, hcnt, hRW, hFW⟩
  obtain ⟨oi0, hoi, hLP0⟩ := cnt_list cEntry encEntry_pos hcnt hRW.len
  rw [← hoi] at hRW
  have HLP := Lib.hid hLP0
  have HRW := Lib.hid hRW
  have HFW := Lib.hid hFW
  clear hcnt hRW hFW hoi hLP0
  go_upto_block 0 with fail
  go_cut [6] from 19 to 36 (fun (s : Value) (wc : World) => ∃ (x1 : List XEntry) (A1 : Option Addr) (k1 : Nat), (cList cEntry).vl st0 x1 ∧ GS (DB1 [.string gs, .int .i64 c1, .int .i64 c2, .int .i64 c3, .slice Ag mg kg, .int .i64 r1, .int .i64 r2, .int .i64 r3, .int .i64 r4, .int .i64 r5, .int .i64 r6, .int .i64 r7, .int .i64 r8, .int .i64 r9, .int .i64 r10, .int .i64 r11, .int .i64 r12, .int .i64 r13, .int .i64 r14, .int .i64 r15, .slice Ae me ke] xg (.slice A1 x1.length k1) x1) #[.string ⟨#[]⟩, .int .i64 0, .int .i64 0, .int .i64 0, .slice none 0 0, .int .i64 0, .int .i64 0, .int .i64 0, .int .i64 0, .int .i64 0, .int .i64 0, .int .i64 0, .int .i64 0, .int .i64 0, .int .i64 0, .int .i64 0, .int .i64 0, .int .i64 0, .int .i64 0, .int .i64 0, .slice none 0 0, .slice none 0 0, .slice none 0 0, .slice none 0 0, .slice none 0 0, .slice none 0 0, .string ⟨#[]⟩] 67 w wc w.heap.size g X 67 #[.string gs, .int .i64 c1, .int .i64 c2, .int .i64 c3, .slice Ag mg kg, .int .i64 r1, .int .i64 r2, .int .i64 r3, .int .i64 r4, .int .i64 r5, .int .i64 r6, .int .i64 r7, .int .i64 r8, .int .i64 r9, .int .i64 r10, .int .i64 r11, .int .i64 r12, .int .i64 r13, .int .i64 r14, .int .i64 r15, .slice Ae me ke, .slice A1 x1.length k1, .slice none 0 0, .slice none 0 0, .slice none 0 0, .slice none 0 0, .string ⟨#[]⟩] ((cList cEntry).st st0))
  case first =>
    go_wp2_with fail
    have SW := Lib.hid ((HFW.out.block X ⟨hXU, by omega⟩).trans G.out.x)
    obtain ⟨i0, hi0, hz0, hz1, hz2⟩ := info_parts info34z
    go_loopw [6] (fun m wr => ∃ (j k : Nat) (oi : Option (List UInt8)) (xs : List XEntry) (ess : List (List Value)) (v : Value), m = .int .i64 (j : Int) ∧ j + k = n ∧ LP cEntry st0 (n : Int) k oi xs ∧ RQ wr g oi ∧ LInv EntryC 7 34 U0 wr v xs ess ∧ Fr (fun k => k < U0.heap.size ∧ k ≠ g ∧ k ≠ X) U0 wr ∧ wr.heap[X]? = some (.cells #[.string gs, .int .i64 c1, .int .i64 c2, .int .i64 c3, .slice Ag mg kg, .int .i64 r1, .int .i64 r2, .int .i64 r3, .int .i64 r4, .int .i64 r5, .int .i64 r6, .int .i64 r7, .int .i64 r8, .int .i64 r9, .int .i64 r10, .int .i64 r11, .int .i64 r12, .int .i64 r13, .int .i64 r14, .int .i64 r15, .slice Ae me ke, v, .slice none 0 0, .slice none 0 0, .slice none 0 0, .slice none 0 0, .string ⟨#[]⟩] 67 (0, 0))) (fun m _ => (intOf m).toNat)
    case atStart => exact ⟨n, 0, oi0, [], [], _, rfl, rfl, HLP.out, HRW.out, LInv.nil _ _, HFW.out.mono (fun k hk => ⟨hk.1, hk.2.1⟩), SW.out⟩
    case round =>
      obtain ⟨j, k, oi, xs, ess, v, rfl, hjk, hLP, hRR, hLI, hFF, hX0⟩ := hrel
      obtain ⟨bad, p1, hp1, hp2⟩ := hRR.open
      have hvo := fun k (e : Value.ownBlock _ = some k) => (hLI.own.lt k e).1
      have hwr : U0.heap.size ≤ wr.heap.size := hFF.size
      obtain ⟨vA, vn, vc, rfl⟩ := own_shape hLI.own
      have cX := blk_cell hX0 21
      have fX : wr.frozen? ⟨X, 21, none⟩ = false := blk_frozen hX0 21
      have HX0 := Lib.hid hX0
      have HL := Lib.hid hLP
      have HRR := Lib.hid hRR
      have HLI := Lib.hid hLI
      have HFF := Lib.hid hFF
      have HVO := Lib.hid hvo
      have HB1 := Lib.hid hp1
      have HB2 := Lib.hid hp2
      have HJK := Lib.hid hjk
      clear hLP hRR hLI hFF hvo hp1 hp2 hjk hX0
      rcases Nat.eq_zero_or_pos j with hj | hj
      · subst hj
        have hout := HL.out.out (.inr (by have := HJK.out; omega))
        have HST2 := Lib.hid hout.1
        have HVL := Lib.hid hout.2
        clear hout
        have hls := HLI.out.out (fun h hq => EntryC.mono h hq)
        obtain ⟨Aq, kq, hq⟩ := hls.slice
        injection hq with hq1 hq2 hq3
        subst hq1 hq2 hq3
        have G2 := Lib.hid ((G.out.loop (dB0 [.string gs, .int .i64 c1, .int .i64 c2, .int .i64 c3, .slice Ag mg kg, .int .i64 r1, .int .i64 r2, .int .i64 r3, .int .i64 r4, .int .i64 r5, .int .i64 r6, .int .i64 r7, .int .i64 r8, .int .i64 r9, .int .i64 r10, .int .i64 r11, .int .i64 r12, .int .i64 r13, .int .i64 r14, .int .i64 r15, .slice Ae me ke] xg) HFF.out HRR.out HX0.out))
        have G3 := Lib.hid (G2.out.to (E := (DB1 [.string gs, .int .i64 c1, .int .i64 c2, .int .i64 c3, .slice Ag mg kg, .int .i64 r1, .int .i64 r2, .int .i64 r3, .int .i64 r4, .int .i64 r5, .int .i64 r6, .int .i64 r7, .int .i64 r8, .int .i64 r9, .int .i64 r10, .int .i64 r11, .int .i64 r12, .int .i64 r13, .int .i64 r14, .int .i64 r15, .slice Ae me ke] xg (.slice vA xs.length vc) xs)) ⟨G2.out.dat, hls.mono (fun h => EntryC.mono h (fun k (hk : Nw U0 wr k) => ⟨by have := hk.1; omega, by have := hk.1; omega, by have := hk.1; omega, hk.2⟩)) (fun k (hk : Nw U0 wr k) => ⟨by have := hk.1; omega, by have := hk.1; omega, by have := hk.1; omega, hk.2⟩)⟩)
        clear hls G2
        go_wp2_with fail
        go_meet
        case rel => exact ⟨xs, _, _, HVL.out, by rw [HST2.out]; exact G3.out⟩
      · have hj8 : j ≤ 100000000 := by have := HJK.out; omega
        have hd : decide ((0 : Int) < (j : Int)) = true := decide_eq_true (by omega)
        cases oi with
        | none =>
          have hbad := HB1.out rfl
          subst hbad
          have hout := HL.out.out (.inl (by first | rfl | trivial))
          have HST2 := Lib.hid hout.1
          have HVL := Lib.hid hout.2
          clear hout
          have hls := HLI.out.out (fun h hq => EntryC.mono h hq)
          obtain ⟨Aq, kq, hq⟩ := hls.slice
          injection hq with hq1 hq2 hq3
          subst hq1 hq2 hq3
          have G2 := Lib.hid ((G.out.loop (dB0 [.string gs, .int .i64 c1, .int .i64 c2, .int .i64 c3, .slice Ag mg kg, .int .i64 r1, .int .i64 r2, .int .i64 r3, .int .i64 r4, .int .i64 r5, .int .i64 r6, .int .i64 r7, .int .i64 r8, .int .i64 r9, .int .i64 r10, .int .i64 r11, .int .i64 r12, .int .i64 r13, .int .i64 r14, .int .i64 r15, .slice Ae me ke] xg) HFF.out HRR.out HX0.out))
          have G3 := Lib.hid (G2.out.to (E := (DB1 [.string gs, .int .i64 c1, .int .i64 c2, .int .i64 c3, .slice Ag mg kg, .int .i64 r1, .int .i64 r2, .int .i64 r3, .int .i64 r4, .int .i64 r5, .int .i64 r6, .int .i64 r7, .int .i64 r8, .int .i64 r9, .int .i64 r10, .int .i64 r11, .int .i64 r12, .int .i64 r13, .int .i64 r14, .int .i64 r15, .slice Ae me ke] xg (.slice vA xs.length vc) xs)) ⟨G2.out.dat, hls.mono (fun h => EntryC.mono h (fun k (hk : Nw U0 wr k) => ⟨by have := hk.1; omega, by have := hk.1; omega, by have := hk.1; omega, hk.2⟩)) (fun k (hk : Nw U0 wr k) => ⟨by have := hk.1; omega, by have := hk.1; omega, by have := hk.1; omega, hk.2⟩)⟩)
          clear hls G2
          go_wp2_with fail
          go_meet
          case rel => exact ⟨xs, _, _, HVL.out, by rw [HST2.out]; exact G3.out⟩
        | some r =>
          have hbad := HB2.out r rfl
          subst hbad
          have hRd := HRR.out.drew
          go_wp2_with fail
          have hk8 := HL.out.len
          go_region_law (first | (go_simp; go_at_call 47; refine (Entry_rr g _ _ hRd).mono ?_; rintro e w3 ⟨es, x3, rfl, c3, z3, r3, f3⟩; obtain ⟨i1, i2, i3, i4, i5, s1, a1, m1, k1, rfl⟩ := EntryC.lit c3; have hF3 : Ro g wr w3 := Ro.trans (show Ro g wr wr.drew from ⟨rfl, rfl, rfl, Nat.le_refl _, fun _ _ => rfl⟩) f3; have LI3 := Lib.hid (HLI.out.keep (w2 := w3) (hF3.mono (fun k hk => ⟨hk.2, by have := hk.1; omega⟩)) (fun h hf => EntryC.fr h hf) (fun h hq => EntryC.mono h hq)); have HX3 := Lib.hid ((hF3.block X ⟨by omega, by omega⟩).trans HX0.out); have cX3 := blk_cell HX3.out 21; have hXlt : X < w3.heap.size := blk_lt HX3.out; have hXne : ¬ X = w3.heap.size := (by omega); have HF3 := Lib.hid hF3; have hs3 := hF3.size; have hs4 : wr.heap.size ≤ w3.heap.size := hF3.size; have R3 := Lib.hid r3; have Z3 := Lib.hid z3; have C3 := Lib.hid (EntryC.mono (Q' := fun k => wr.heap.size ≤ k ∧ k < w3.heap.size) c3 (fun k hk => hk)); clear hF3 r3 f3 z3 c3) | (refine step_app _ (by rfl) _ _ 61 (by rfl) U0.heap.size 34 i0 _ 7 80 Try.underlying61 hi0 hz0 hz1 hz2 (by rfl) (by decide) (.slice vA vn vc) xs.length ess.flatten (by rfl) (by exact (LI3.out.own.alloc _)) (fun _ => True) (some ⟨w3.heap.size, 0, none⟩) 1 1 [.int .i64 i1, .int .i64 i2, .int .i64 i3, .int .i64 i4, .int .i64 i5, .string s1, .slice a1 m1 k1] (by rfl) (by exact (row1 w3 [.int .i64 i1, .int .i64 i2, .int .i64 i3, .int .i64 i4, .int .i64 i5, .string s1, .slice a1 m1 k1] 34 7 rfl)) (by simp [Value.oneCell']) (by simp only [maxLen]; omega) (by omega) (by simp; omega) ?_; intro v4 w4 hown4 hg4 hat4; obtain ⟨vA2, vn2, vc2, rfl⟩ := own_shape hown4; have hX4 : w4.heap[X]? = _ := (hg4.block X (by simp; omega) (fun e => by have := HVO.out X e.symm; omega)).trans ((Below.heap_alloc w3 _ X (by omega)).trans HX3.out); have cX4 := blk_cell hX4 21; have fX4 : w4.frozen? ⟨X, 21, none⟩ = false := blk_frozen hX4 21))
          all_goals
            have HO4 := Lib.hid hown4
            have HG4 := Lib.hid hg4
            have HA4 := Lib.hid hat4
            have HX4 := Lib.hid hX4
            clear hown4 hg4 hat4 hX4
            go_wp2_with fail
            go_roundw
            case rel =>
              have hUw3 : U0.heap.size ≤ w3.heap.size := by omega
              have hfr := rfr (w := U0) HG4.out HVO.out hUw3
              have hfs : Fr (fun k => k ≠ X) w4 (w4.setCell ⟨X, 21, none⟩ (.slice vA2 vn2 vc2)) := (Fr.refl _ w4).setCell (p := ⟨X, 21, none⟩) (fun h => h rfl) _
              have hal : Fr (fun k => k < w3.heap.size) w3 (w3.alloc (.cells #[.int .i64 i1, .int .i64 i2, .int .i64 i3, .int .i64 i4, .int .i64 i5, .string s1, .slice a1 m1 k1] 34)) := (Fr.refl _ w3).alloc (fun k hk => hk) _
              have hLIa := LI3.out.keep (w2 := w3.alloc (.cells #[.int .i64 i1, .int .i64 i2, .int .i64 i3, .int .i64 i4, .int .i64 i5, .string s1, .slice a1 m1 k1] 34)) (hal.mono (fun k hk => hk.2)) (fun h hf => EntryC.fr h hf) (fun h hq => EntryC.mono h hq)
              have hown3 : ∀ k, (Value.slice vA vn vc).ownBlock = some k → k < wr.heap.size := fun k e => (HLI.out.own.lt k e).2
              have hES : EntryC (w3.alloc (.cells #[.int .i64 i1, .int .i64 i2, .int .i64 i3, .int .i64 i4, .int .i64 i5, .string s1, .slice a1 m1 k1] 34)) (Qe U0 (w3.alloc (.cells #[.int .i64 i1, .int .i64 i2, .int .i64 i3, .int .i64 i4, .int .i64 i5, .string s1, .slice a1 m1 k1] 34)) (.slice vA vn vc)) [.int .i64 i1, .int .i64 i2, .int .i64 i3, .int .i64 i4, .int .i64 i5, .string s1, .slice a1 m1 k1] x3 := EntryC.mono (EntryC.fr C3.out (hal.mono (fun k hk => hk.2))) (fun k hk => ⟨by have := hk.1; omega, by have := hk.2; have := hal.size; omega, fun e => by have := hown3 k e; have := hk.1; omega⟩)
              have hLIb := hLIa.app (es := [.int .i64 i1, .int .i64 i2, .int .i64 i3, .int .i64 i4, .int .i64 i5, .string s1, .slice a1 m1 k1]) (x := x3) HO4.out rfl HG4.out HA4.out hES (fun h hf => EntryC.fr h hf) (fun h hq => EntryC.mono h hq)
              refine ⟨j - 1, k + 1, Cod.st cEntry (some r), _, _, .slice vA2 vn2 vc2, by go_num, by have := HJK.out; omega, HL.out.step (by have := HJK.out; omega) encEntry_pos (x := x3) Z3.out, ?_, hLIb.keep (hfs.mono (fun k hk => by show k ≠ X; have := hk.1; omega)) (fun h hf => EntryC.fr h hf) (fun h hq => EntryC.mono h hq), ?_, heap_setCell_same HX4.out 21 _⟩
              · exact R3.out.fr (Q := fun k => k < X) (Fr.trans (hfr.mono (fun k hk => Nat.lt_trans hk hXU)) (hfs.mono (fun k hk => Nat.ne_of_lt hk))) (fun k hk => by show k < X; omega)
              · exact Fr.trans HFF.out (Fr.trans (HF3.out.mono (fun k hk => ⟨by have := hk.1; omega, hk.2.1⟩)) (Fr.trans (hfr.mono (fun k hk => hk.1)) (hfs.mono (fun k hk => hk.2.2))))
            case measure =>
              have e : wrap64 ((j : Int) - 1) = ((j - 1 : Nat) : Int) := by unfold wrap64; omega
              simp only [intOf, e]
              omega
  case rest =>
  obtain ⟨x1, A1, k1, hv, hG⟩ := hcut
  have V1 := Lib.hid hv
  have G := Lib.hid hG
  obtain ⟨st1, hst⟩ : ∃ s, (cList cEntry).st st0 = s := ⟨_, rfl⟩
  rw [hst] at G
  have HST1 := Lib.hid hst
  clear hst hv hG
  obtain ⟨U1, hU⟩ : ∃ U, U = wc := ⟨_, rfl⟩
  rw [← hU] at G
  rw [← hU]
  clear hU HLP HRW HFW hXU hgX hrX
  have hXU := G.out.lt
  have hgX := G.out.gX
  have hrX := G.out.rX
  go_wp2_with fail
  refine (count_r g _ U1 G.out.rq).mono ?_
  rintro e W ⟨n, rfl, hn8, hcnt, hRW, hFW⟩
  obtain ⟨oi0, hoi, hLP0⟩ := cnt_list cRate encRate_pos hcnt hRW.len
  rw [← hoi] at hRW
  have HLP := Lib.hid hLP0
  have HRW := Lib.hid hRW
  have HFW := Lib.hid hFW
  clear hcnt hRW hFW hoi hLP0
  go_upto_block 2 with fail
  go_cut [7] from 39 to 56 (fun (s : Value) (wc : World) => ∃ (x2 : List XRate) (A2 : Option Addr) (k2 : Nat), (cList cRate).vl st1 x2 ∧ GS (DB2 [.string gs, .int .i64 c1, .int .i64 c2, .int .i64 c3, .slice Ag mg kg, .int .i64 r1, .int .i64 r2, .int .i64 r3, .int .i64 r4, .int .i64 r5, .int .i64 r6, .int .i64 r7, .int .i64 r8, .int .i64 r9, .int .i64 r10, .int .i64 r11, .int .i64 r12, .int .i64 r13, .int .i64 r14, .int .i64 r15, .slice Ae me ke] xg (.slice A1 x1.length k1) x1 (.slice A2 x2.length k2) x2) #[.string ⟨#[]⟩, .int .i64 0, .int .i64 0, .int .i64 0, .slice none 0 0, .int .i64 0, .int .i64 0, .int .i64 0, .int .i64 0, .int .i64 0, .int .i64 0, .int .i64 0, .int .i64 0, .int .i64 0, .int .i64 0, .int .i64 0, .int .i64 0, .int .i64 0, .int .i64 0, .int .i64 0, .slice none 0 0, .slice none 0 0, .slice none 0 0, .slice none 0 0, .slice none 0 0, .slice none 0 0, .string ⟨#[]⟩] 67 w wc w.heap.size g X 67 #[.string gs, .int .i64 c1, .int .i64 c2, .int .i64 c3, .slice Ag mg kg, .int .i64 r1, .int .i64 r2, .int .i64 r3, .int .i64 r4, .int .i64 r5, .int .i64 r6, .int .i64 r7, .int .i64 r8, .int .i64 r9, .int .i64 r10, .int .i64 r11, .int .i64 r12, .int .i64 r13, .int .i64 r14, .int .i64 r15, .slice Ae me ke, .slice A1 x1.length k1, .slice A2 x2.length k2, .slice none 0 0, .slice none 0 0, .slice none 0 0, .string ⟨#[]⟩] ((cList cRate).st st1))
  case first =>
    go_wp2_with fail
    have SW := Lib.hid ((HFW.out.block X ⟨hXU, by omega⟩).trans G.out.x)
    obtain ⟨i0, hi0, hz0, hz1, hz2⟩ := info_parts info36z
    go_loopw [7] (fun m wr => ∃ (j k : Nat) (oi : Option (List UInt8)) (xs : List XRate) (ess : List (List Value)) (v : Value), m = .int .i64 (j : Int) ∧ j + k = n ∧ LP cRate st1 (n : Int) k oi xs ∧ RQ wr g oi ∧ LInv RateC 4 36 U1 wr v xs ess ∧ Fr (fun k => k < U1.heap.size ∧ k ≠ g ∧ k ≠ X) U1 wr ∧ wr.heap[X]? = some (.cells #[.string gs, .int .i64 c1, .int .i64 c2, .int .i64 c3, .slice Ag mg kg, .int .i64 r1, .int .i64 r2, .int .i64 r3, .int .i64 r4, .int .i64 r5, .int .i64 r6, .int .i64 r7, .int .i64 r8, .int .i64 r9, .int .i64 r10, .int .i64 r11, .int .i64 r12, .int .i64 r13, .int .i64 r14, .int .i64 r15, .slice Ae me ke, .slice A1 x1.length k1, v, .slice none 0 0, .slice none 0 0, .slice none 0 0, .string ⟨#[]⟩] 67 (0, 0))) (fun m _ => (intOf m).toNat)
    case atStart => exact ⟨n, 0, oi0, [], [], _, rfl, rfl, HLP.out, HRW.out, LInv.nil _ _, HFW.out.mono (fun k hk => ⟨hk.1, hk.2.1⟩), SW.out⟩
    case round =>
      obtain ⟨j, k, oi, xs, ess, v, rfl, hjk, hLP, hRR, hLI, hFF, hX0⟩ := hrel
      obtain ⟨bad, p1, hp1, hp2⟩ := hRR.open
      have hvo := fun k (e : Value.ownBlock _ = some k) => (hLI.own.lt k e).1
      have hwr : U1.heap.size ≤ wr.heap.size := hFF.size
      obtain ⟨vA, vn, vc, rfl⟩ := own_shape hLI.own
      have cX := blk_cell hX0 22
      have fX : wr.frozen? ⟨X, 22, none⟩ = false := blk_frozen hX0 22
      have HX0 := Lib.hid hX0
      have HL := Lib.hid hLP
      have HRR := Lib.hid hRR
      have HLI := Lib.hid hLI
      have HFF := Lib.hid hFF
      have HVO := Lib.hid hvo
      have HB1 := Lib.hid hp1
      have HB2 := Lib.hid hp2
      have HJK := Lib.hid hjk
      clear hLP hRR hLI hFF hvo hp1 hp2 hjk hX0
      rcases Nat.eq_zero_or_pos j with hj | hj
      · subst hj
        have hout := HL.out.out (.inr (by have := HJK.out; omega))
        have HST2 := Lib.hid hout.1
        have HVL := Lib.hid hout.2
        clear hout
        have hls := HLI.out.out (fun h hq => RateC.mono h hq)
        obtain ⟨Aq, kq, hq⟩ := hls.slice
        injection hq with hq1 hq2 hq3
        subst hq1 hq2 hq3
        have G2 := Lib.hid ((G.out.loop (dB1 [.string gs, .int .i64 c1, .int .i64 c2, .int .i64 c3, .slice Ag mg kg, .int .i64 r1, .int .i64 r2, .int .i64 r3, .int .i64 r4, .int .i64 r5, .int .i64 r6, .int .i64 r7, .int .i64 r8, .int .i64 r9, .int .i64 r10, .int .i64 r11, .int .i64 r12, .int .i64 r13, .int .i64 r14, .int .i64 r15, .slice Ae me ke] xg (.slice A1 x1.length k1) x1) HFF.out HRR.out HX0.out))
        have G3 := Lib.hid (G2.out.to (E := (DB2 [.string gs, .int .i64 c1, .int .i64 c2, .int .i64 c3, .slice Ag mg kg, .int .i64 r1, .int .i64 r2, .int .i64 r3, .int .i64 r4, .int .i64 r5, .int .i64 r6, .int .i64 r7, .int .i64 r8, .int .i64 r9, .int .i64 r10, .int .i64 r11, .int .i64 r12, .int .i64 r13, .int .i64 r14, .int .i64 r15, .slice Ae me ke] xg (.slice A1 x1.length k1) x1 (.slice vA xs.length vc) xs)) ⟨G2.out.dat, hls.mono (fun h => RateC.mono h (fun k (hk : Nw U1 wr k) => ⟨by have := hk.1; omega, by have := hk.1; omega, by have := hk.1; omega, hk.2⟩)) (fun k (hk : Nw U1 wr k) => ⟨by have := hk.1; omega, by have := hk.1; omega, by have := hk.1; omega, hk.2⟩)⟩)
        clear hls G2
        go_wp2_with fail
        go_meet
        case rel => exact ⟨xs, _, _, HVL.out, by rw [HST2.out]; exact G3.out⟩
      · have hj8 : j ≤ 100000000 := by have := HJK.out; omega
        have hd : decide ((0 : Int) < (j : Int)) = true := decide_eq_true (by omega)
        cases oi with
        | none =>
          have hbad := HB1.out rfl
          subst hbad
          have hout := HL.out.out (.inl (by first | rfl | trivial))
          have HST2 := Lib.hid hout.1
          have HVL := Lib.hid hout.2
          clear hout
          have hls := HLI.out.out (fun h hq => RateC.mono h hq)
          obtain ⟨Aq, kq, hq⟩ := hls.slice
          injection hq with hq1 hq2 hq3
          subst hq1 hq2 hq3
          have G2 := Lib.hid ((G.out.loop (dB1 [.string gs, .int .i64 c1, .int .i64 c2, .int .i64 c3, .slice Ag mg kg, .int .i64 r1, .int .i64 r2, .int .i64 r3, .int .i64 r4, .int .i64 r5, .int .i64 r6, .int .i64 r7, .int .i64 r8, .int .i64 r9, .int .i64 r10, .int .i64 r11, .int .i64 r12, .int .i64 r13, .int .i64 r14, .int .i64 r15, .slice Ae me ke] xg (.slice A1 x1.length k1) x1) HFF.out HRR.out HX0.out))
          have G3 := Lib.hid (G2.out.to (E := (DB2 [.string gs, .int .i64 c1, .int .i64 c2, .int .i64 c3, .slice Ag mg kg, .int .i64 r1, .int .i64 r2, .int .i64 r3, .int .i64 r4, .int .i64 r5, .int .i64 r6, .int .i64 r7, .int .i64 r8, .int .i64 r9, .int .i64 r10, .int .i64 r11, .int .i64 r12, .int .i64 r13, .int .i64 r14, .int .i64 r15, .slice Ae me ke] xg (.slice A1 x1.length k1) x1 (.slice vA xs.length vc) xs)) ⟨G2.out.dat, hls.mono (fun h => RateC.mono h (fun k (hk : Nw U1 wr k) => ⟨by have := hk.1; omega, by have := hk.1; omega, by have := hk.1; omega, hk.2⟩)) (fun k (hk : Nw U1 wr k) => ⟨by have := hk.1; omega, by have := hk.1; omega, by have := hk.1; omega, hk.2⟩)⟩)
          clear hls G2
          go_wp2_with fail
          go_meet
          case rel => exact ⟨xs, _, _, HVL.out, by rw [HST2.out]; exact G3.out⟩
        | some r =>
          have hbad := HB2.out r rfl
          subst hbad
          have hRd := HRR.out.drew
          go_wp2_with fail
          have hk8 := HL.out.len
          go_region_law (first | (go_simp; go_at_call 48; refine (Rate_rr g _ _ hRd).mono ?_; rintro e w3 ⟨es, x3, rfl, c3, z3, r3, f3⟩; obtain ⟨s1, i1, i2, i3, rfl⟩ := RateC.lit c3; have hF3 : Ro g wr w3 := Ro.trans (show Ro g wr wr.drew from ⟨rfl, rfl, rfl, Nat.le_refl _, fun _ _ => rfl⟩) f3; have LI3 := Lib.hid (HLI.out.keep (w2 := w3) (hF3.mono (fun k hk => ⟨hk.2, by have := hk.1; omega⟩)) (fun h hf => RateC.fr h hf) (fun h hq => RateC.mono h hq)); have HX3 := Lib.hid ((hF3.block X ⟨by omega, by omega⟩).trans HX0.out); have cX3 := blk_cell HX3.out 22; have hXlt : X < w3.heap.size := blk_lt HX3.out; have hXne : ¬ X = w3.heap.size := (by omega); have HF3 := Lib.hid hF3; have hs3 := hF3.size; have hs4 : wr.heap.size ≤ w3.heap.size := hF3.size; have R3 := Lib.hid r3; have Z3 := Lib.hid z3; have C3 := Lib.hid (RateC.mono (Q' := fun k => wr.heap.size ≤ k ∧ k < w3.heap.size) c3 (fun k hk => hk)); clear hF3 r3 f3 z3 c3) | (refine step_app _ (by rfl) _ _ 62 (by rfl) U1.heap.size 36 i0 _ 4 40 Try.underlying62 hi0 hz0 hz1 hz2 (by rfl) (by decide) (.slice vA vn vc) xs.length ess.flatten (by rfl) (by exact (LI3.out.own.alloc _)) (fun _ => True) (some ⟨w3.heap.size, 0, none⟩) 1 1 [.string s1, .int .i64 i1, .int .i64 i2, .int .i64 i3] (by rfl) (by exact (row1 w3 [.string s1, .int .i64 i1, .int .i64 i2, .int .i64 i3] 36 4 rfl)) (by simp [Value.oneCell']) (by simp only [maxLen]; omega) (by omega) (by simp; omega) ?_; intro v4 w4 hown4 hg4 hat4; obtain ⟨vA2, vn2, vc2, rfl⟩ := own_shape hown4; have hX4 : w4.heap[X]? = _ := (hg4.block X (by simp; omega) (fun e => by have := HVO.out X e.symm; omega)).trans ((Below.heap_alloc w3 _ X (by omega)).trans HX3.out); have cX4 := blk_cell hX4 22; have fX4 : w4.frozen? ⟨X, 22, none⟩ = false := blk_frozen hX4 22))
          all_goals
            have HO4 := Lib.hid hown4
            have HG4 := Lib.hid hg4
            have HA4 := Lib.hid hat4
            have HX4 := Lib.hid hX4
            clear hown4 hg4 hat4 hX4
            go_wp2_with fail
            go_roundw
            case rel =>
              have hUw3 : U1.heap.size ≤ w3.heap.size := by omega
              have hfr := rfr (w := U1) HG4.out HVO.out hUw3
              have hfs : Fr (fun k => k ≠ X) w4 (w4.setCell ⟨X, 22, none⟩ (.slice vA2 vn2 vc2)) := (Fr.refl _ w4).setCell (p := ⟨X, 22, none⟩) (fun h => h rfl) _
              have hal : Fr (fun k => k < w3.heap.size) w3 (w3.alloc (.cells #[.string s1, .int .i64 i1, .int .i64 i2, .int .i64 i3] 36)) := (Fr.refl _ w3).alloc (fun k hk => hk) _
              have hLIa := LI3.out.keep (w2 := w3.alloc (.cells #[.string s1, .int .i64 i1, .int .i64 i2, .int .i64 i3] 36)) (hal.mono (fun k hk => hk.2)) (fun h hf => RateC.fr h hf) (fun h hq => RateC.mono h hq)
              have hown3 : ∀ k, (Value.slice vA vn vc).ownBlock = some k → k < wr.heap.size := fun k e => (HLI.out.own.lt k e).2
              have hES : RateC (w3.alloc (.cells #[.string s1, .int .i64 i1, .int .i64 i2, .int .i64 i3] 36)) (Qe U1 (w3.alloc (.cells #[.string s1, .int .i64 i1, .int .i64 i2, .int .i64 i3] 36)) (.slice vA vn vc)) [.string s1, .int .i64 i1, .int .i64 i2, .int .i64 i3] x3 := RateC.mono (RateC.fr C3.out (hal.mono (fun k hk => hk.2))) (fun k hk => ⟨by have := hk.1; omega, by have := hk.2; have := hal.size; omega, fun e => by have := hown3 k e; have := hk.1; omega⟩)
              have hLIb := hLIa.app (es := [.string s1, .int .i64 i1, .int .i64 i2, .int .i64 i3]) (x := x3) HO4.out rfl HG4.out HA4.out hES (fun h hf => RateC.fr h hf) (fun h hq => RateC.mono h hq)
              refine ⟨j - 1, k + 1, Cod.st cRate (some r), _, _, .slice vA2 vn2 vc2, by go_num, by have := HJK.out; omega, HL.out.step (by have := HJK.out; omega) encRate_pos (x := x3) Z3.out, ?_, hLIb.keep (hfs.mono (fun k hk => by show k ≠ X; have := hk.1; omega)) (fun h hf => RateC.fr h hf) (fun h hq => RateC.mono h hq), ?_, heap_setCell_same HX4.out 22 _⟩
              · exact R3.out.fr (Q := fun k => k < X) (Fr.trans (hfr.mono (fun k hk => Nat.lt_trans hk hXU)) (hfs.mono (fun k hk => Nat.ne_of_lt hk))) (fun k hk => by show k < X; omega)
              · exact Fr.trans HFF.out (Fr.trans (HF3.out.mono (fun k hk => ⟨by have := hk.1; omega, hk.2.1⟩)) (Fr.trans (hfr.mono (fun k hk => hk.1)) (hfs.mono (fun k hk => hk.2.2))))
            case measure =>
              have e : wrap64 ((j : Int) - 1) = ((j - 1 : Nat) : Int) := by unfold wrap64; omega
              simp only [intOf, e]
              omega
  case rest =>
  obtain ⟨x2, A2, k2, hv, hG⟩ := hcut
  have V2 := Lib.hid hv
  have G := Lib.hid hG
  obtain ⟨st2, hst⟩ : ∃ s, (cList cRate).st st1 = s := ⟨_, rfl⟩
  rw [hst] at G
  have HST2 := Lib.hid hst
  clear hst hv hG
  obtain ⟨U2, hU⟩ : ∃ U, U = wc := ⟨_, rfl⟩
  rw [← hU] at G
  rw [← hU]
  clear hU HLP HRW HFW hXU hgX hrX
  have hXU := G.out.lt
  have hgX := G.out.gX
  have hrX := G.out.rX
  go_wp2_with fail
  refine (count_r g _ U2 G.out.rq).mono ?_
  rintro e W ⟨n, rfl, hn8, hcnt, hRW, hFW⟩
  obtain ⟨oi0, hoi, hLP0⟩ := cnt_list cHolding encHolding_pos hcnt hRW.len
  rw [← hoi] at hRW
  have HLP := Lib.hid hLP0
  have HRW := Lib.hid hRW
  have HFW := Lib.hid hFW
  clear hcnt hRW hFW hoi hLP0
  go_upto_block 4 with fail
  go_cut [8] from 59 to 76 (fun (s : Value) (wc : World) => ∃ (x3 : List XHolding) (A3 : Option Addr) (k3 : Nat), (cList cHolding).vl st2 x3 ∧ GS (DB3 [.string gs, .int .i64 c1, .int .i64 c2, .int .i64 c3, .slice Ag mg kg, .int .i64 r1, .int .i64 r2, .int .i64 r3, .int .i64 r4, .int .i64 r5, .int .i64 r6, .int .i64 r7, .int .i64 r8, .int .i64 r9, .int .i64 r10, .int .i64 r11, .int .i64 r12, .int .i64 r13, .int .i64 r14, .int .i64 r15, .slice Ae me ke] xg (.slice A1 x1.length k1) x1 (.slice A2 x2.length k2) x2 (.slice A3 x3.length k3) x3) #[.string ⟨#[]⟩, .int .i64 0, .int .i64 0, .int .i64 0, .slice none 0 0, .int .i64 0, .int .i64 0, .int .i64 0, .int .i64 0, .int .i64 0, .int .i64 0, .int .i64 0, .int .i64 0, .int .i64 0, .int .i64 0, .int .i64 0, .int .i64 0, .int .i64 0, .int .i64 0, .int .i64 0, .slice none 0 0, .slice none 0 0, .slice none 0 0, .slice none 0 0, .slice none 0 0, .slice none 0 0, .string ⟨#[]⟩] 67 w wc w.heap.size g X 67 #[.string gs, .int .i64 c1, .int .i64 c2, .int .i64 c3, .slice Ag mg kg, .int .i64 r1, .int .i64 r2, .int .i64 r3, .int .i64 r4, .int .i64 r5, .int .i64 r6, .int .i64 r7, .int .i64 r8, .int .i64 r9, .int .i64 r10, .int .i64 r11, .int .i64 r12, .int .i64 r13, .int .i64 r14, .int .i64 r15, .slice Ae me ke, .slice A1 x1.length k1, .slice A2 x2.length k2, .slice A3 x3.length k3, .slice none 0 0, .slice none 0 0, .string ⟨#[]⟩] ((cList cHolding).st st2))
  case first =>
    go_wp2_with fail
    have SW := Lib.hid ((HFW.out.block X ⟨hXU, by omega⟩).trans G.out.x)
    obtain ⟨i0, hi0, hz0, hz1, hz2⟩ := info_parts info38z
    go_loopw [8] (fun m wr => ∃ (j k : Nat) (oi : Option (List UInt8)) (xs : List XHolding) (ess : List (List Value)) (v : Value), m = .int .i64 (j : Int) ∧ j + k = n ∧ LP cHolding st2 (n : Int) k oi xs ∧ RQ wr g oi ∧ LInv HoldingC 4 38 U2 wr v xs ess ∧ Fr (fun k => k < U2.heap.size ∧ k ≠ g ∧ k ≠ X) U2 wr ∧ wr.heap[X]? = some (.cells #[.string gs, .int .i64 c1, .int .i64 c2, .int .i64 c3, .slice Ag mg kg, .int .i64 r1, .int .i64 r2, .int .i64 r3, .int .i64 r4, .int .i64 r5, .int .i64 r6, .int .i64 r7, .int .i64 r8, .int .i64 r9, .int .i64 r10, .int .i64 r11, .int .i64 r12, .int .i64 r13, .int .i64 r14, .int .i64 r15, .slice Ae me ke, .slice A1 x1.length k1, .slice A2 x2.length k2, v, .slice none 0 0, .slice none 0 0, .string ⟨#[]⟩] 67 (0, 0))) (fun m _ => (intOf m).toNat)
    case atStart => exact ⟨n, 0, oi0, [], [], _, rfl, rfl, HLP.out, HRW.out, LInv.nil _ _, HFW.out.mono (fun k hk => ⟨hk.1, hk.2.1⟩), SW.out⟩
    case round =>
      obtain ⟨j, k, oi, xs, ess, v, rfl, hjk, hLP, hRR, hLI, hFF, hX0⟩ := hrel
      obtain ⟨bad, p1, hp1, hp2⟩ := hRR.open
      have hvo := fun k (e : Value.ownBlock _ = some k) => (hLI.own.lt k e).1
      have hwr : U2.heap.size ≤ wr.heap.size := hFF.size
      obtain ⟨vA, vn, vc, rfl⟩ := own_shape hLI.own
      have cX := blk_cell hX0 23
      have fX : wr.frozen? ⟨X, 23, none⟩ = false := blk_frozen hX0 23
      have HX0 := Lib.hid hX0
      have HL := Lib.hid hLP
      have HRR := Lib.hid hRR
      have HLI := Lib.hid hLI
      have HFF := Lib.hid hFF
      have HVO := Lib.hid hvo
      have HB1 := Lib.hid hp1
      have HB2 := Lib.hid hp2
      have HJK := Lib.hid hjk
      clear hLP hRR hLI hFF hvo hp1 hp2 hjk hX0
      rcases Nat.eq_zero_or_pos j with hj | hj
      · subst hj
        have hout := HL.out.out (.inr (by have := HJK.out; omega))
        have HST2 := Lib.hid hout.1
        have HVL := Lib.hid hout.2
        clear hout
        have hls := HLI.out.out (fun h hq => HoldingC.mono h hq)
        obtain ⟨Aq, kq, hq⟩ := hls.slice
        injection hq with hq1 hq2 hq3
        subst hq1 hq2 hq3
        have G2 := Lib.hid ((G.out.loop (dB2 [.string gs, .int .i64 c1, .int .i64 c2, .int .i64 c3, .slice Ag mg kg, .int .i64 r1, .int .i64 r2, .int .i64 r3, .int .i64 r4, .int .i64 r5, .int .i64 r6, .int .i64 r7, .int .i64 r8, .int .i64 r9, .int .i64 r10, .int .i64 r11, .int .i64 r12, .int .i64 r13, .int .i64 r14, .int .i64 r15, .slice Ae me ke] xg (.slice A1 x1.length k1) x1 (.slice A2 x2.length k2) x2) HFF.out HRR.out HX0.out))
        have G3 := Lib.hid (G2.out.to (E := (DB3 [.string gs, .int .i64 c1, .int .i64 c2, .int .i64 c3, .slice Ag mg kg, .int .i64 r1, .int .i64 r2, .int .i64 r3, .int .i64 r4, .int .i64 r5, .int .i64 r6, .int .i64 r7, .int .i64 r8, .int .i64 r9, .int .i64 r10, .int .i64 r11, .int .i64 r12, .int .i64 r13, .int .i64 r14, .int .i64 r15, .slice Ae me ke] xg (.slice A1 x1.length k1) x1 (.slice A2 x2.length k2) x2 (.slice vA xs.length vc) xs)) ⟨G2.out.dat, hls.mono (fun h => HoldingC.mono h (fun k (hk : Nw U2 wr k) => ⟨by have := hk.1; omega, by have := hk.1; omega, by have := hk.1; omega, hk.2⟩)) (fun k (hk : Nw U2 wr k) => ⟨by have := hk.1; omega, by have := hk.1; omega, by have := hk.1; omega, hk.2⟩)⟩)
        clear hls G2
        go_wp2_with fail
        go_meet
        case rel => exact ⟨xs, _, _, HVL.out, by rw [HST2.out]; exact G3.out⟩
      · have hj8 : j ≤ 100000000 := by have := HJK.out; omega
        have hd : decide ((0 : Int) < (j : Int)) = true := decide_eq_true (by omega)
        cases oi with
        | none =>
          have hbad := HB1.out rfl
          subst hbad
          have hout := HL.out.out (.inl (by first | rfl | trivial))
          have HST2 := Lib.hid hout.1
          have HVL := Lib.hid hout.2
          clear hout
          have hls := HLI.out.out (fun h hq => HoldingC.mono h hq)
          obtain ⟨Aq, kq, hq⟩ := hls.slice
          injection hq with hq1 hq2 hq3
          subst hq1 hq2 hq3
          have G2 := Lib.hid ((G.out.loop (dB2 [.string gs, .int .i64 c1, .int .i64 c2, .int .i64 c3, .slice Ag mg kg, .int .i64 r1, .int .i64 r2, .int .i64 r3, .int .i64 r4, .int .i64 r5, .int .i64 r6, .int .i64 r7, .int .i64 r8, .int .i64 r9, .int .i64 r10, .int .i64 r11, .int .i64 r12, .int .i64 r13, .int .i64 r14, .int .i64 r15, .slice Ae me ke] xg (.slice A1 x1.length k1) x1 (.slice A2 x2.length k2) x2) HFF.out HRR.out HX0.out))
          have G3 := Lib.hid (G2.out.to (E := (DB3 [.string gs, .int .i64 c1, .int .i64 c2, .int .i64 c3, .slice Ag mg kg, .int .i64 r1, .int .i64 r2, .int .i64 r3, .int .i64 r4, .int .i64 r5, .int .i64 r6, .int .i64 r7, .int .i64 r8, .int .i64 r9, .int .i64 r10, .int .i64 r11, .int .i64 r12, .int .i64 r13, .int .i64 r14, .int .i64 r15, .slice Ae me ke] xg (.slice A1 x1.length k1) x1 (.slice A2 x2.length k2) x2 (.slice vA xs.length vc) xs)) ⟨G2.out.dat, hls.mono (fun h => HoldingC.mono h (fun k (hk : Nw U2 wr k) => ⟨by have := hk.1; omega, by have := hk.1; omega, by have := hk.1; omega, hk.2⟩)) (fun k (hk : Nw U2 wr k) => ⟨by have := hk.1; omega, by have := hk.1; omega, by have := hk.1; omega, hk.2⟩)⟩)
          clear hls G2
          go_wp2_with fail
          go_meet
          case rel => exact ⟨xs, _, _, HVL.out, by rw [HST2.out]; exact G3.out⟩
        | some r =>
          have hbad := HB2.out r rfl
          subst hbad
          have hRd := HRR.out.drew
          go_wp2_with fail
          have hk8 := HL.out.len
          go_region_law (first | (go_simp; go_at_call 49; refine (Holding_rr g _ _ hRd).mono ?_; rintro e w3 ⟨es, x3, rfl, c3, z3, r3, f3⟩; obtain ⟨i1, i2, i3, i4, rfl⟩ := HoldingC.lit c3; have hF3 : Ro g wr w3 := Ro.trans (show Ro g wr wr.drew from ⟨rfl, rfl, rfl, Nat.le_refl _, fun _ _ => rfl⟩) f3; have LI3 := Lib.hid (HLI.out.keep (w2 := w3) (hF3.mono (fun k hk => ⟨hk.2, by have := hk.1; omega⟩)) (fun h hf => HoldingC.fr h hf) (fun h hq => HoldingC.mono h hq)); have HX3 := Lib.hid ((hF3.block X ⟨by omega, by omega⟩).trans HX0.out); have cX3 := blk_cell HX3.out 23; have hXlt : X < w3.heap.size := blk_lt HX3.out; have hXne : ¬ X = w3.heap.size := (by omega); have HF3 := Lib.hid hF3; have hs3 := hF3.size; have hs4 : wr.heap.size ≤ w3.heap.size := hF3.size; have R3 := Lib.hid r3; have Z3 := Lib.hid z3; have C3 := Lib.hid (HoldingC.mono (Q' := fun k => wr.heap.size ≤ k ∧ k < w3.heap.size) c3 (fun k hk => hk)); clear hF3 r3 f3 z3 c3) | (refine step_app _ (by rfl) _ _ 63 (by rfl) U2.heap.size 38 i0 _ 4 32 Try.underlying63 hi0 hz0 hz1 hz2 (by rfl) (by decide) (.slice vA vn vc) xs.length ess.flatten (by rfl) (by exact (LI3.out.own.alloc _)) (fun _ => True) (some ⟨w3.heap.size, 0, none⟩) 1 1 [.int .i64 i1, .int .i64 i2, .int .i64 i3, .int .i64 i4] (by rfl) (by exact (row1 w3 [.int .i64 i1, .int .i64 i2, .int .i64 i3, .int .i64 i4] 38 4 rfl)) (by simp [Value.oneCell']) (by simp only [maxLen]; omega) (by omega) (by simp; omega) ?_; intro v4 w4 hown4 hg4 hat4; obtain ⟨vA2, vn2, vc2, rfl⟩ := own_shape hown4; have hX4 : w4.heap[X]? = _ := (hg4.block X (by simp; omega) (fun e => by have := HVO.out X e.symm; omega)).trans ((Below.heap_alloc w3 _ X (by omega)).trans HX3.out); have cX4 := blk_cell hX4 23; have fX4 : w4.frozen? ⟨X, 23, none⟩ = false := blk_frozen hX4 23))
          all_goals
            have HO4 := Lib.hid hown4
            have HG4 := Lib.hid hg4
            have HA4 := Lib.hid hat4
            have HX4 := Lib.hid hX4
            clear hown4 hg4 hat4 hX4
            go_wp2_with fail
            go_roundw
            case rel =>
              have hUw3 : U2.heap.size ≤ w3.heap.size := by omega
              have hfr := rfr (w := U2) HG4.out HVO.out hUw3
              have hfs : Fr (fun k => k ≠ X) w4 (w4.setCell ⟨X, 23, none⟩ (.slice vA2 vn2 vc2)) := (Fr.refl _ w4).setCell (p := ⟨X, 23, none⟩) (fun h => h rfl) _
              have hal : Fr (fun k => k < w3.heap.size) w3 (w3.alloc (.cells #[.int .i64 i1, .int .i64 i2, .int .i64 i3, .int .i64 i4] 38)) := (Fr.refl _ w3).alloc (fun k hk => hk) _
              have hLIa := LI3.out.keep (w2 := w3.alloc (.cells #[.int .i64 i1, .int .i64 i2, .int .i64 i3, .int .i64 i4] 38)) (hal.mono (fun k hk => hk.2)) (fun h hf => HoldingC.fr h hf) (fun h hq => HoldingC.mono h hq)
              have hown3 : ∀ k, (Value.slice vA vn vc).ownBlock = some k → k < wr.heap.size := fun k e => (HLI.out.own.lt k e).2
              have hES : HoldingC (w3.alloc (.cells #[.int .i64 i1, .int .i64 i2, .int .i64 i3, .int .i64 i4] 38)) (Qe U2 (w3.alloc (.cells #[.int .i64 i1, .int .i64 i2, .int .i64 i3, .int .i64 i4] 38)) (.slice vA vn vc)) [.int .i64 i1, .int .i64 i2, .int .i64 i3, .int .i64 i4] x3 := HoldingC.mono (HoldingC.fr C3.out (hal.mono (fun k hk => hk.2))) (fun k hk => ⟨by have := hk.1; omega, by have := hk.2; have := hal.size; omega, fun e => by have := hown3 k e; have := hk.1; omega⟩)
              have hLIb := hLIa.app (es := [.int .i64 i1, .int .i64 i2, .int .i64 i3, .int .i64 i4]) (x := x3) HO4.out rfl HG4.out HA4.out hES (fun h hf => HoldingC.fr h hf) (fun h hq => HoldingC.mono h hq)
              refine ⟨j - 1, k + 1, Cod.st cHolding (some r), _, _, .slice vA2 vn2 vc2, by go_num, by have := HJK.out; omega, HL.out.step (by have := HJK.out; omega) encHolding_pos (x := x3) Z3.out, ?_, hLIb.keep (hfs.mono (fun k hk => by show k ≠ X; have := hk.1; omega)) (fun h hf => HoldingC.fr h hf) (fun h hq => HoldingC.mono h hq), ?_, heap_setCell_same HX4.out 23 _⟩
              · exact R3.out.fr (Q := fun k => k < X) (Fr.trans (hfr.mono (fun k hk => Nat.lt_trans hk hXU)) (hfs.mono (fun k hk => Nat.ne_of_lt hk))) (fun k hk => by show k < X; omega)
              · exact Fr.trans HFF.out (Fr.trans (HF3.out.mono (fun k hk => ⟨by have := hk.1; omega, hk.2.1⟩)) (Fr.trans (hfr.mono (fun k hk => hk.1)) (hfs.mono (fun k hk => hk.2.2))))
            case measure =>
              have e : wrap64 ((j : Int) - 1) = ((j - 1 : Nat) : Int) := by unfold wrap64; omega
              simp only [intOf, e]
              omega
  case rest =>
  obtain ⟨x3, A3, k3, hv, hG⟩ := hcut
  have V3 := Lib.hid hv
  have G := Lib.hid hG
  obtain ⟨st3, hst⟩ : ∃ s, (cList cHolding).st st2 = s := ⟨_, rfl⟩
  rw [hst] at G
  have HST3 := Lib.hid hst
  clear hst hv hG
  obtain ⟨U3, hU⟩ : ∃ U, U = wc := ⟨_, rfl⟩
  rw [← hU] at G
  rw [← hU]
  clear hU HLP HRW HFW hXU hgX hrX
  have hXU := G.out.lt
  have hgX := G.out.gX
  have hrX := G.out.rX
  go_wp2_with fail
  refine (count_r g _ U3 G.out.rq).mono ?_
  rintro e W ⟨n, rfl, hn8, hcnt, hRW, hFW⟩
  obtain ⟨oi0, hoi, hLP0⟩ := cnt_list cMatch encMatch_pos hcnt hRW.len
  rw [← hoi] at hRW
  have HLP := Lib.hid hLP0
  have HRW := Lib.hid hRW
  have HFW := Lib.hid hFW
  clear hcnt hRW hFW hoi hLP0
  go_upto_block 6 with fail
  go_cut [9] from 79 to 96 (fun (s : Value) (wc : World) => ∃ (x4 : List XMatch) (A4 : Option Addr) (k4 : Nat), (cList cMatch).vl st3 x4 ∧ GS (DB4 [.string gs, .int .i64 c1, .int .i64 c2, .int .i64 c3, .slice Ag mg kg, .int .i64 r1, .int .i64 r2, .int .i64 r3, .int .i64 r4, .int .i64 r5, .int .i64 r6, .int .i64 r7, .int .i64 r8, .int .i64 r9, .int .i64 r10, .int .i64 r11, .int .i64 r12, .int .i64 r13, .int .i64 r14, .int .i64 r15, .slice Ae me ke] xg (.slice A1 x1.length k1) x1 (.slice A2 x2.length k2) x2 (.slice A3 x3.length k3) x3 (.slice A4 x4.length k4) x4) #[.string ⟨#[]⟩, .int .i64 0, .int .i64 0, .int .i64 0, .slice none 0 0, .int .i64 0, .int .i64 0, .int .i64 0, .int .i64 0, .int .i64 0, .int .i64 0, .int .i64 0, .int .i64 0, .int .i64 0, .int .i64 0, .int .i64 0, .int .i64 0, .int .i64 0, .int .i64 0, .int .i64 0, .slice none 0 0, .slice none 0 0, .slice none 0 0, .slice none 0 0, .slice none 0 0, .slice none 0 0, .string ⟨#[]⟩] 67 w wc w.heap.size g X 67 #[.string gs, .int .i64 c1, .int .i64 c2, .int .i64 c3, .slice Ag mg kg, .int .i64 r1, .int .i64 r2, .int .i64 r3, .int .i64 r4, .int .i64 r5, .int .i64 r6, .int .i64 r7, .int .i64 r8, .int .i64 r9, .int .i64 r10, .int .i64 r11, .int .i64 r12, .int .i64 r13, .int .i64 r14, .int .i64 r15, .slice Ae me ke, .slice A1 x1.length k1, .slice A2 x2.length k2, .slice A3 x3.length k3, .slice A4 x4.length k4, .slice none 0 0, .string ⟨#[]⟩] ((cList cMatch).st st3))
  case first =>
    go_wp2_with fail
    have SW := Lib.hid ((HFW.out.block X ⟨hXU, by omega⟩).trans G.out.x)
    obtain ⟨i0, hi0, hz0, hz1, hz2⟩ := info_parts info41z
    go_loopw [9] (fun m wr => ∃ (j k : Nat) (oi : Option (List UInt8)) (xs : List XMatch) (ess : List (List Value)) (v : Value), m = .int .i64 (j : Int) ∧ j + k = n ∧ LP cMatch st3 (n : Int) k oi xs ∧ RQ wr g oi ∧ LInv MatchC 4 41 U3 wr v xs ess ∧ Fr (fun k => k < U3.heap.size ∧ k ≠ g ∧ k ≠ X) U3 wr ∧ wr.heap[X]? = some (.cells #[.string gs, .int .i64 c1, .int .i64 c2, .int .i64 c3, .slice Ag mg kg, .int .i64 r1, .int .i64 r2, .int .i64 r3, .int .i64 r4, .int .i64 r5, .int .i64 r6, .int .i64 r7, .int .i64 r8, .int .i64 r9, .int .i64 r10, .int .i64 r11, .int .i64 r12, .int .i64 r13, .int .i64 r14, .int .i64 r15, .slice Ae me ke, .slice A1 x1.length k1, .slice A2 x2.length k2, .slice A3 x3.length k3, v, .slice none 0 0, .string ⟨#[]⟩] 67 (0, 0))) (fun m _ => (intOf m).toNat)
    case atStart => exact ⟨n, 0, oi0, [], [], _, rfl, rfl, HLP.out, HRW.out, LInv.nil _ _, HFW.out.mono (fun k hk => ⟨hk.1, hk.2.1⟩), SW.out⟩
    case round =>
      obtain ⟨j, k, oi, xs, ess, v, rfl, hjk, hLP, hRR, hLI, hFF, hX0⟩ := hrel
      obtain ⟨bad, p1, hp1, hp2⟩ := hRR.open
      have hvo := fun k (e : Value.ownBlock _ = some k) => (hLI.own.lt k e).1
      have hwr : U3.heap.size ≤ wr.heap.size := hFF.size
      obtain ⟨vA, vn, vc, rfl⟩ := own_shape hLI.own
      have cX := blk_cell hX0 24
      have fX : wr.frozen? ⟨X, 24, none⟩ = false := blk_frozen hX0 24
      have HX0 := Lib.hid hX0
      have HL := Lib.hid hLP
      have HRR := Lib.hid hRR
      have HLI := Lib.hid hLI
      have HFF := Lib.hid hFF
      have HVO := Lib.hid hvo
      have HB1 := Lib.hid hp1
      have HB2 := Lib.hid hp2
      have HJK := Lib.hid hjk
      clear hLP hRR hLI hFF hvo hp1 hp2 hjk hX0
      rcases Nat.eq_zero_or_pos j with hj | hj
      · subst hj
        have hout := HL.out.out (.inr (by have := HJK.out; omega))
        have HST2 := Lib.hid hout.1
        have HVL := Lib.hid hout.2
        clear hout
        have hls := HLI.out.out (fun h hq => MatchC.mono h hq)
        obtain ⟨Aq, kq, hq⟩ := hls.slice
        injection hq with hq1 hq2 hq3
        subst hq1 hq2 hq3
        have G2 := Lib.hid ((G.out.loop (dB3 [.string gs, .int .i64 c1, .int .i64 c2, .int .i64 c3, .slice Ag mg kg, .int .i64 r1, .int .i64 r2, .int .i64 r3, .int .i64 r4, .int .i64 r5, .int .i64 r6, .int .i64 r7, .int .i64 r8, .int .i64 r9, .int .i64 r10, .int .i64 r11, .int .i64 r12, .int .i64 r13, .int .i64 r14, .int .i64 r15, .slice Ae me ke] xg (.slice A1 x1.length k1) x1 (.slice A2 x2.length k2) x2 (.slice A3 x3.length k3) x3) HFF.out HRR.out HX0.out))
        have G3 := Lib.hid (G2.out.to (E := (DB4 [.string gs, .int .i64 c1, .int .i64 c2, .int .i64 c3, .slice Ag mg kg, .int .i64 r1, .int .i64 r2, .int .i64 r3, .int .i64 r4, .int .i64 r5, .int .i64 r6, .int .i64 r7, .int .i64 r8, .int .i64 r9, .int .i64 r10, .int .i64 r11, .int .i64 r12, .int .i64 r13, .int .i64 r14, .int .i64 r15, .slice Ae me ke] xg (.slice A1 x1.length k1) x1 (.slice A2 x2.length k2) x2 (.slice A3 x3.length k3) x3 (.slice vA xs.length vc) xs)) ⟨G2.out.dat, hls.mono (fun h => MatchC.mono h (fun k (hk : Nw U3 wr k) => ⟨by have := hk.1; omega, by have := hk.1; omega, by have := hk.1; omega, hk.2⟩)) (fun k (hk : Nw U3 wr k) => ⟨by have := hk.1; omega, by have := hk.1; omega, by have := hk.1; omega, hk.2⟩)⟩)
        clear hls G2
        go_wp2_with fail
        go_meet
        case rel => exact ⟨xs, _, _, HVL.out, by rw [HST2.out]; exact G3.out⟩
      · have hj8 : j ≤ 100000000 := by have := HJK.out; omega
        have hd : decide ((0 : Int) < (j : Int)) = true := decide_eq_true (by omega)
        cases oi with
        | none =>
          have hbad := HB1.out rfl
          subst hbad
          have hout := HL.out.out (.inl (by first | rfl | trivial))
          have HST2 := Lib.hid hout.1
          have HVL := Lib.hid hout.2
          clear hout
          have hls := HLI.out.out (fun h hq => MatchC.mono h hq)
          obtain ⟨Aq, kq, hq⟩ := hls.slice
          injection hq with hq1 hq2 hq3
          subst hq1 hq2 hq3
          have G2 := Lib.hid ((G.out.loop (dB3 [.string gs, .int .i64 c1, .int .i64 c2, .int .i64 c3, .slice Ag mg kg, .int .i64 r1, .int .i64 r2, .int .i64 r3, .int .i64 r4, .int .i64 r5, .int .i64 r6, .int .i64 r7, .int .i64 r8, .int .i64 r9, .int .i64 r10, .int .i64 r11, .int .i64 r12, .int .i64 r13, .int .i64 r14, .int .i64 r15, .slice Ae me ke] xg (.slice A1 x1.length k1) x1 (.slice A2 x2.length k2) x2 (.slice A3 x3.length k3) x3) HFF.out HRR.out HX0.out))
          have G3 := Lib.hid (G2.out.to (E := (DB4 [.string gs, .int .i64 c1, .int .i64 c2, .int .i64 c3, .slice Ag mg kg, .int .i64 r1, .int .i64 r2, .int .i64 r3, .int .i64 r4, .int .i64 r5, .int .i64 r6, .int .i64 r7, .int .i64 r8, .int .i64 r9, .int .i64 r10, .int .i64 r11, .int .i64 r12, .int .i64 r13, .int .i64 r14, .int .i64 r15, .slice Ae me ke] xg (.slice A1 x1.length k1) x1 (.slice A2 x2.length k2) x2 (.slice A3 x3.length k3) x3 (.slice vA xs.length vc) xs)) ⟨G2.out.dat, hls.mono (fun h => MatchC.mono h (fun k (hk : Nw U3 wr k) => ⟨by have := hk.1; omega, by have := hk.1; omega, by have := hk.1; omega, hk.2⟩)) (fun k (hk : Nw U3 wr k) => ⟨by have := hk.1; omega, by have := hk.1; omega, by have := hk.1; omega, hk.2⟩)⟩)
          clear hls G2
          go_wp2_with fail
          go_meet
          case rel => exact ⟨xs, _, _, HVL.out, by rw [HST2.out]; exact G3.out⟩
        | some r =>
          have hbad := HB2.out r rfl
          subst hbad
          have hRd := HRR.out.drew
          go_wp2_with fail
          have hk8 := HL.out.len
          go_region_law (first | (go_simp; go_at_call 50; refine (Match_rr g _ _ hRd).mono ?_; rintro e w3 ⟨es, x3, rfl, c3, z3, r3, f3⟩; obtain ⟨i1, a1, m1, k1, a2, m2, k2, i2, rfl⟩ := MatchC.lit c3; have hF3 : Ro g wr w3 := Ro.trans (show Ro g wr wr.drew from ⟨rfl, rfl, rfl, Nat.le_refl _, fun _ _ => rfl⟩) f3; have LI3 := Lib.hid (HLI.out.keep (w2 := w3) (hF3.mono (fun k hk => ⟨hk.2, by have := hk.1; omega⟩)) (fun h hf => MatchC.fr h hf) (fun h hq => MatchC.mono h hq)); have HX3 := Lib.hid ((hF3.block X ⟨by omega, by omega⟩).trans HX0.out); have cX3 := blk_cell HX3.out 24; have hXlt : X < w3.heap.size := blk_lt HX3.out; have hXne : ¬ X = w3.heap.size := (by omega); have HF3 := Lib.hid hF3; have hs3 := hF3.size; have hs4 : wr.heap.size ≤ w3.heap.size := hF3.size; have R3 := Lib.hid r3; have Z3 := Lib.hid z3; have C3 := Lib.hid (MatchC.mono (Q' := fun k => wr.heap.size ≤ k ∧ k < w3.heap.size) c3 (fun k hk => hk)); clear hF3 r3 f3 z3 c3) | (refine step_app _ (by rfl) _ _ 64 (by rfl) U3.heap.size 41 i0 _ 4 64 Try.underlying64 hi0 hz0 hz1 hz2 (by rfl) (by decide) (.slice vA vn vc) xs.length ess.flatten (by rfl) (by exact (LI3.out.own.alloc _)) (fun _ => True) (some ⟨w3.heap.size, 0, none⟩) 1 1 [.int .i64 i1, .slice a1 m1 k1, .slice a2 m2 k2, .int .i64 i2] (by rfl) (by exact (row1 w3 [.int .i64 i1, .slice a1 m1 k1, .slice a2 m2 k2, .int .i64 i2] 41 4 rfl)) (by simp [Value.oneCell']) (by simp only [maxLen]; omega) (by omega) (by simp; omega) ?_; intro v4 w4 hown4 hg4 hat4; obtain ⟨vA2, vn2, vc2, rfl⟩ := own_shape hown4; have hX4 : w4.heap[X]? = _ := (hg4.block X (by simp; omega) (fun e => by have := HVO.out X e.symm; omega)).trans ((Below.heap_alloc w3 _ X (by omega)).trans HX3.out); have cX4 := blk_cell hX4 24; have fX4 : w4.frozen? ⟨X, 24, none⟩ = false := blk_frozen hX4 24))
          all_goals
            have HO4 := Lib.hid hown4
            have HG4 := Lib.hid hg4
            have HA4 := Lib.hid hat4
            have HX4 := Lib.hid hX4
            clear hown4 hg4 hat4 hX4
            go_wp2_with fail
            go_roundw
            case rel =>
              have hUw3 : U3.heap.size ≤ w3.heap.size := by omega
              have hfr := rfr (w := U3) HG4.out HVO.out hUw3
              have hfs : Fr (fun k => k ≠ X) w4 (w4.setCell ⟨X, 24, none⟩ (.slice vA2 vn2 vc2)) := (Fr.refl _ w4).setCell (p := ⟨X, 24, none⟩) (fun h => h rfl) _
              have hal : Fr (fun k => k < w3.heap.size) w3 (w3.alloc (.cells #[.int .i64 i1, .slice a1 m1 k1, .slice a2 m2 k2, .int .i64 i2] 41)) := (Fr.refl _ w3).alloc (fun k hk => hk) _
              have hLIa := LI3.out.keep (w2 := w3.alloc (.cells #[.int .i64 i1, .slice a1 m1 k1, .slice a2 m2 k2, .int .i64 i2] 41)) (hal.mono (fun k hk => hk.2)) (fun h hf => MatchC.fr h hf) (fun h hq => MatchC.mono h hq)
              have hown3 : ∀ k, (Value.slice vA vn vc).ownBlock = some k → k < wr.heap.size := fun k e => (HLI.out.own.lt k e).2
              have hES : MatchC (w3.alloc (.cells #[.int .i64 i1, .slice a1 m1 k1, .slice a2 m2 k2, .int .i64 i2] 41)) (Qe U3 (w3.alloc (.cells #[.int .i64 i1, .slice a1 m1 k1, .slice a2 m2 k2, .int .i64 i2] 41)) (.slice vA vn vc)) [.int .i64 i1, .slice a1 m1 k1, .slice a2 m2 k2, .int .i64 i2] x3 := MatchC.mono (MatchC.fr C3.out (hal.mono (fun k hk => hk.2))) (fun k hk => ⟨by have := hk.1; omega, by have := hk.2; have := hal.size; omega, fun e => by have := hown3 k e; have := hk.1; omega⟩)
              have hLIb := hLIa.app (es := [.int .i64 i1, .slice a1 m1 k1, .slice a2 m2 k2, .int .i64 i2]) (x := x3) HO4.out rfl HG4.out HA4.out hES (fun h hf => MatchC.fr h hf) (fun h hq => MatchC.mono h hq)
              refine ⟨j - 1, k + 1, Cod.st cMatch (some r), _, _, .slice vA2 vn2 vc2, by go_num, by have := HJK.out; omega, HL.out.step (by have := HJK.out; omega) encMatch_pos (x := x3) Z3.out, ?_, hLIb.keep (hfs.mono (fun k hk => by show k ≠ X; have := hk.1; omega)) (fun h hf => MatchC.fr h hf) (fun h hq => MatchC.mono h hq), ?_, heap_setCell_same HX4.out 24 _⟩
              · exact R3.out.fr (Q := fun k => k < X) (Fr.trans (hfr.mono (fun k hk => Nat.lt_trans hk hXU)) (hfs.mono (fun k hk => Nat.ne_of_lt hk))) (fun k hk => by show k < X; omega)
              · exact Fr.trans HFF.out (Fr.trans (HF3.out.mono (fun k hk => ⟨by have := hk.1; omega, hk.2.1⟩)) (Fr.trans (hfr.mono (fun k hk => hk.1)) (hfs.mono (fun k hk => hk.2.2))))
            case measure =>
              have e : wrap64 ((j : Int) - 1) = ((j - 1 : Nat) : Int) := by unfold wrap64; omega
              simp only [intOf, e]
              omega
  case rest =>
  obtain ⟨x4, A4, k4, hv, hG⟩ := hcut
  have V4 := Lib.hid hv
  have G := Lib.hid hG
  obtain ⟨st4, hst⟩ : ∃ s, (cList cMatch).st st3 = s := ⟨_, rfl⟩
  rw [hst] at G
  have HST4 := Lib.hid hst
  clear hst hv hG
  obtain ⟨U4, hU⟩ : ∃ U, U = wc := ⟨_, rfl⟩
  rw [← hU] at G
  rw [← hU]
  clear hU HLP HRW HFW hXU hgX hrX
  have hXU := G.out.lt
  have hgX := G.out.gX
  have hrX := G.out.rX
  go_wp2_with fail
  refine (count_r g _ U4 G.out.rq).mono ?_
  rintro e W ⟨n, rfl, hn8, hcnt, hRW, hFW⟩
  obtain ⟨oi0, hoi, hLP0⟩ := cnt_list cStock encStock_pos hcnt hRW.len
  rw [← hoi] at hRW
  have HLP := Lib.hid hLP0
  have HRW := Lib.hid hRW
  have HFW := Lib.hid hFW
  clear hcnt hRW hFW hoi hLP0
  go_upto_block 8 with fail
  go_cut [10] from 99 to 116 (fun (s : Value) (wc : World) => ∃ (x5 : List XStock) (A5 : Option Addr) (k5 : Nat), (cList cStock).vl st4 x5 ∧ GS (DB5 [.string gs, .int .i64 c1, .int .i64 c2, .int .i64 c3, .slice Ag mg kg, .int .i64 r1, .int .i64 r2, .int .i64 r3, .int .i64 r4, .int .i64 r5, .int .i64 r6, .int .i64 r7, .int .i64 r8, .int .i64 r9, .int .i64 r10, .int .i64 r11, .int .i64 r12, .int .i64 r13, .int .i64 r14, .int .i64 r15, .slice Ae me ke] xg (.slice A1 x1.length k1) x1 (.slice A2 x2.length k2) x2 (.slice A3 x3.length k3) x3 (.slice A4 x4.length k4) x4 (.slice A5 x5.length k5) x5) #[.string ⟨#[]⟩, .int .i64 0, .int .i64 0, .int .i64 0, .slice none 0 0, .int .i64 0, .int .i64 0, .int .i64 0, .int .i64 0, .int .i64 0, .int .i64 0, .int .i64 0, .int .i64 0, .int .i64 0, .int .i64 0, .int .i64 0, .int .i64 0, .int .i64 0, .int .i64 0, .int .i64 0, .slice none 0 0, .slice none 0 0, .slice none 0 0, .slice none 0 0, .slice none 0 0, .slice none 0 0, .string ⟨#[]⟩] 67 w wc w.heap.size g X 67 #[.string gs, .int .i64 c1, .int .i64 c2, .int .i64 c3, .slice Ag mg kg, .int .i64 r1, .int .i64 r2, .int .i64 r3, .int .i64 r4, .int .i64 r5, .int .i64 r6, .int .i64 r7, .int .i64 r8, .int .i64 r9, .int .i64 r10, .int .i64 r11, .int .i64 r12, .int .i64 r13, .int .i64 r14, .int .i64 r15, .slice Ae me ke, .slice A1 x1.length k1, .slice A2 x2.length k2, .slice A3 x3.length k3, .slice A4 x4.length k4, .slice A5 x5.length k5, .string ⟨#[]⟩] ((cList cStock).st st4))
  case first =>
    go_wp2_with fail
    have SW := Lib.hid ((HFW.out.block X ⟨hXU, by omega⟩).trans G.out.x)
    obtain ⟨i0, hi0, hz0, hz1, hz2⟩ := info_parts info43z
    go_loopw [10] (fun m wr => ∃ (j k : Nat) (oi : Option (List UInt8)) (xs : List XStock) (ess : List (List Value)) (v : Value), m = .int .i64 (j : Int) ∧ j + k = n ∧ LP cStock st4 (n : Int) k oi xs ∧ RQ wr g oi ∧ LInv StockC 5 43 U4 wr v xs ess ∧ Fr (fun k => k < U4.heap.size ∧ k ≠ g ∧ k ≠ X) U4 wr ∧ wr.heap[X]? = some (.cells #[.string gs, .int .i64 c1, .int .i64 c2, .int .i64 c3, .slice Ag mg kg, .int .i64 r1, .int .i64 r2, .int .i64 r3, .int .i64 r4, .int .i64 r5, .int .i64 r6, .int .i64 r7, .int .i64 r8, .int .i64 r9, .int .i64 r10, .int .i64 r11, .int .i64 r12, .int .i64 r13, .int .i64 r14, .int .i64 r15, .slice Ae me ke, .slice A1 x1.length k1, .slice A2 x2.length k2, .slice A3 x3.length k3, .slice A4 x4.length k4, v, .string ⟨#[]⟩] 67 (0, 0))) (fun m _ => (intOf m).toNat)
    case atStart => exact ⟨n, 0, oi0, [], [], _, rfl, rfl, HLP.out, HRW.out, LInv.nil _ _, HFW.out.mono (fun k hk => ⟨hk.1, hk.2.1⟩), SW.out⟩
    case round =>
      obtain ⟨j, k, oi, xs, ess, v, rfl, hjk, hLP, hRR, hLI, hFF, hX0⟩ := hrel
      obtain ⟨bad, p1, hp1, hp2⟩ := hRR.open
      have hvo := fun k (e : Value.ownBlock _ = some k) => (hLI.own.lt k e).1
      have hwr : U4.heap.size ≤ wr.heap.size := hFF.size
      obtain ⟨vA, vn, vc, rfl⟩ := own_shape hLI.own
      have cX := blk_cell hX0 25
      have fX : wr.frozen? ⟨X, 25, none⟩ = false := blk_frozen hX0 25
      have HX0 := Lib.hid hX0
      have HL := Lib.hid hLP
      have HRR := Lib.hid hRR
      have HLI := Lib.hid hLI
      have HFF := Lib.hid hFF
      have HVO := Lib.hid hvo
      have HB1 := Lib.hid hp1
      have HB2 := Lib.hid hp2
      have HJK := Lib.hid hjk
      clear hLP hRR hLI hFF hvo hp1 hp2 hjk hX0
      rcases Nat.eq_zero_or_pos j with hj | hj
      · subst hj
        have hout := HL.out.out (.inr (by have := HJK.out; omega))
        have HST2 := Lib.hid hout.1
        have HVL := Lib.hid hout.2
        clear hout
        have hls := HLI.out.out (fun h hq => StockC.mono h hq)
        obtain ⟨Aq, kq, hq⟩ := hls.slice
        injection hq with hq1 hq2 hq3
        subst hq1 hq2 hq3
        have G2 := Lib.hid ((G.out.loop (dB4 [.string gs, .int .i64 c1, .int .i64 c2, .int .i64 c3, .slice Ag mg kg, .int .i64 r1, .int .i64 r2, .int .i64 r3, .int .i64 r4, .int .i64 r5, .int .i64 r6, .int .i64 r7, .int .i64 r8, .int .i64 r9, .int .i64 r10, .int .i64 r11, .int .i64 r12, .int .i64 r13, .int .i64 r14, .int .i64 r15, .slice Ae me ke] xg (.slice A1 x1.length k1) x1 (.slice A2 x2.length k2) x2 (.slice A3 x3.length k3) x3 (.slice A4 x4.length k4) x4) HFF.out HRR.out HX0.out))
        have G3 := Lib.hid (G2.out.to (E := (DB5 [.string gs, .int .i64 c1, .int .i64 c2, .int .i64 c3, .slice Ag mg kg, .int .i64 r1, .int .i64 r2, .int .i64 r3, .int .i64 r4, .int .i64 r5, .int .i64 r6, .int .i64 r7, .int .i64 r8, .int .i64 r9, .int .i64 r10, .int .i64 r11, .int .i64 r12, .int .i64 r13, .int .i64 r14, .int .i64 r15, .slice Ae me ke] xg (.slice A1 x1.length k1) x1 (.slice A2 x2.length k2) x2 (.slice A3 x3.length k3) x3 (.slice A4 x4.length k4) x4 (.slice vA xs.length vc) xs)) ⟨G2.out.dat, hls.mono (fun h => StockC.mono h (fun k (hk : Nw U4 wr k) => ⟨by have := hk.1; omega, by have := hk.1; omega, by have := hk.1; omega, hk.2⟩)) (fun k (hk : Nw U4 wr k) => ⟨by have := hk.1; omega, by have := hk.1; omega, by have := hk.1; omega, hk.2⟩)⟩)
        clear hls G2
        go_wp2_with fail
        go_meet
        case rel => exact ⟨xs, _, _, HVL.out, by rw [HST2.out]; exact G3.out⟩
      · have hj8 : j ≤ 100000000 := by have := HJK.out; omega
        have hd : decide ((0 : Int) < (j : Int)) = true := decide_eq_true (by omega)
        cases oi with
        | none =>
          have hbad := HB1.out rfl
          subst hbad
          have hout := HL.out.out (.inl (by first | rfl | trivial))
          have HST2 := Lib.hid hout.1
          have HVL := Lib.hid hout.2
          clear hout
          have hls := HLI.out.out (fun h hq => StockC.mono h hq)
          obtain ⟨Aq, kq, hq⟩ := hls.slice
          injection hq with hq1 hq2 hq3
          subst hq1 hq2 hq3
          have G2 := Lib.hid ((G.out.loop (dB4 [.string gs, .int .i64 c1, .int .i64 c2, .int .i64 c3, .slice Ag mg kg, .int .i64 r1, .int .i64 r2, .int .i64 r3, .int .i64 r4, .int .i64 r5, .int .i64 r6, .int .i64 r7, .int .i64 r8, .int .i64 r9, .int .i64 r10, .int .i64 r11, .int .i64 r12, .int .i64 r13, .int .i64 r14, .int .i64 r15, .slice Ae me ke] xg (.slice A1 x1.length k1) x1 (.slice A2 x2.length k2) x2 (.slice A3 x3.length k3) x3 (.slice A4 x4.length k4) x4) HFF.out HRR.out HX0.out))
          have G3 := Lib.hid (G2.out.to (E := (DB5 [.string gs, .int .i64 c1, .int .i64 c2, .int .i64 c3, .slice Ag mg kg, .int .i64 r1, .int .i64 r2, .int .i64 r3, .int .i64 r4, .int .i64 r5, .int .i64 r6, .int .i64 r7, .int .i64 r8, .int .i64 r9, .int .i64 r10, .int .i64 r11, .int .i64 r12, .int .i64 r13, .int .i64 r14, .int .i64 r15, .slice Ae me ke] xg (.slice A1 x1.length k1) x1 (.slice A2 x2.length k2) x2 (.slice A3 x3.length k3) x3 (.slice A4 x4.length k4) x4 (.slice vA xs.length vc) xs)) ⟨G2.out.dat, hls.mono (fun h => StockC.mono h (fun k (hk : Nw U4 wr k) => ⟨by have := hk.1; omega, by have := hk.1; omega, by have := hk.1; omega, hk.2⟩)) (fun k (hk : Nw U4 wr k) => ⟨by have := hk.1; omega, by have := hk.1; omega, by have := hk.1; omega, hk.2⟩)⟩)
          clear hls G2
          go_wp2_with fail
          go_meet
          case rel => exact ⟨xs, _, _, HVL.out, by rw [HST2.out]; exact G3.out⟩
        | some r =>
          have hbad := HB2.out r rfl
          subst hbad
          have hRd := HRR.out.drew
          go_wp2_with fail
          have hk8 := HL.out.len
          go_region_law (first | (go_simp; go_at_call 51; refine (Stock_rr g _ _ hRd).mono ?_; rintro e w3 ⟨es, x3, rfl, c3, z3, r3, f3⟩; obtain ⟨i1, i2, i3, i4, i5, rfl⟩ := StockC.lit c3; have hF3 : Ro g wr w3 := Ro.trans (show Ro g wr wr.drew from ⟨rfl, rfl, rfl, Nat.le_refl _, fun _ _ => rfl⟩) f3; have LI3 := Lib.hid (HLI.out.keep (w2 := w3) (hF3.mono (fun k hk => ⟨hk.2, by have := hk.1; omega⟩)) (fun h hf => StockC.fr h hf) (fun h hq => StockC.mono h hq)); have HX3 := Lib.hid ((hF3.block X ⟨by omega, by omega⟩).trans HX0.out); have cX3 := blk_cell HX3.out 25; have hXlt : X < w3.heap.size := blk_lt HX3.out; have hXne : ¬ X = w3.heap.size := (by omega); have HF3 := Lib.hid hF3; have hs3 := hF3.size; have hs4 : wr.heap.size ≤ w3.heap.size := hF3.size; have R3 := Lib.hid r3; have Z3 := Lib.hid z3; have C3 := Lib.hid (StockC.mono (Q' := fun k => wr.heap.size ≤ k ∧ k < w3.heap.size) c3 (fun k hk => hk)); clear hF3 r3 f3 z3 c3) | (refine step_app _ (by rfl) _ _ 65 (by rfl) U4.heap.size 43 i0 _ 5 40 Try.underlying65 hi0 hz0 hz1 hz2 (by rfl) (by decide) (.slice vA vn vc) xs.length ess.flatten (by rfl) (by exact (LI3.out.own.alloc _)) (fun _ => True) (some ⟨w3.heap.size, 0, none⟩) 1 1 [.int .i64 i1, .int .i64 i2, .int .i64 i3, .int .i64 i4, .int .i64 i5] (by rfl) (by exact (row1 w3 [.int .i64 i1, .int .i64 i2, .int .i64 i3, .int .i64 i4, .int .i64 i5] 43 5 rfl)) (by simp [Value.oneCell']) (by simp only [maxLen]; omega) (by omega) (by simp; omega) ?_; intro v4 w4 hown4 hg4 hat4; obtain ⟨vA2, vn2, vc2, rfl⟩ := own_shape hown4; have hX4 : w4.heap[X]? = _ := (hg4.block X (by simp; omega) (fun e => by have := HVO.out X e.symm; omega)).trans ((Below.heap_alloc w3 _ X (by omega)).trans HX3.out); have cX4 := blk_cell hX4 25; have fX4 : w4.frozen? ⟨X, 25, none⟩ = false := blk_frozen hX4 25))
          all_goals
            have HO4 := Lib.hid hown4
            have HG4 := Lib.hid hg4
            have HA4 := Lib.hid hat4
            have HX4 := Lib.hid hX4
            clear hown4 hg4 hat4 hX4
            go_wp2_with fail
            go_roundw
            case rel =>
              have hUw3 : U4.heap.size ≤ w3.heap.size := by omega
              have hfr := rfr (w := U4) HG4.out HVO.out hUw3
              have hfs : Fr (fun k => k ≠ X) w4 (w4.setCell ⟨X, 25, none⟩ (.slice vA2 vn2 vc2)) := (Fr.refl _ w4).setCell (p := ⟨X, 25, none⟩) (fun h => h rfl) _
              have hal : Fr (fun k => k < w3.heap.size) w3 (w3.alloc (.cells #[.int .i64 i1, .int .i64 i2, .int .i64 i3, .int .i64 i4, .int .i64 i5] 43)) := (Fr.refl _ w3).alloc (fun k hk => hk) _
              have hLIa := LI3.out.keep (w2 := w3.alloc (.cells #[.int .i64 i1, .int .i64 i2, .int .i64 i3, .int .i64 i4, .int .i64 i5] 43)) (hal.mono (fun k hk => hk.2)) (fun h hf => StockC.fr h hf) (fun h hq => StockC.mono h hq)
              have hown3 : ∀ k, (Value.slice vA vn vc).ownBlock = some k → k < wr.heap.size := fun k e => (HLI.out.own.lt k e).2
              have hES : StockC (w3.alloc (.cells #[.int .i64 i1, .int .i64 i2, .int .i64 i3, .int .i64 i4, .int .i64 i5] 43)) (Qe U4 (w3.alloc (.cells #[.int .i64 i1, .int .i64 i2, .int .i64 i3, .int .i64 i4, .int .i64 i5] 43)) (.slice vA vn vc)) [.int .i64 i1, .int .i64 i2, .int .i64 i3, .int .i64 i4, .int .i64 i5] x3 := StockC.mono (StockC.fr C3.out (hal.mono (fun k hk => hk.2))) (fun k hk => ⟨by have := hk.1; omega, by have := hk.2; have := hal.size; omega, fun e => by have := hown3 k e; have := hk.1; omega⟩)
              have hLIb := hLIa.app (es := [.int .i64 i1, .int .i64 i2, .int .i64 i3, .int .i64 i4, .int .i64 i5]) (x := x3) HO4.out rfl HG4.out HA4.out hES (fun h hf => StockC.fr h hf) (fun h hq => StockC.mono h hq)
              refine ⟨j - 1, k + 1, Cod.st cStock (some r), _, _, .slice vA2 vn2 vc2, by go_num, by have := HJK.out; omega, HL.out.step (by have := HJK.out; omega) encStock_pos (x := x3) Z3.out, ?_, hLIb.keep (hfs.mono (fun k hk => by show k ≠ X; have := hk.1; omega)) (fun h hf => StockC.fr h hf) (fun h hq => StockC.mono h hq), ?_, heap_setCell_same HX4.out 25 _⟩
              · exact R3.out.fr (Q := fun k => k < X) (Fr.trans (hfr.mono (fun k hk => Nat.lt_trans hk hXU)) (hfs.mono (fun k hk => Nat.ne_of_lt hk))) (fun k hk => by show k < X; omega)
              · exact Fr.trans HFF.out (Fr.trans (HF3.out.mono (fun k hk => ⟨by have := hk.1; omega, hk.2.1⟩)) (Fr.trans (hfr.mono (fun k hk => hk.1)) (hfs.mono (fun k hk => hk.2.2))))
            case measure =>
              have e : wrap64 ((j : Int) - 1) = ((j - 1 : Nat) : Int) := by unfold wrap64; omega
              simp only [intOf, e]
              omega
  case rest =>
  obtain ⟨x5, A5, k5, hv, hG⟩ := hcut
  have V5 := Lib.hid hv
  have G := Lib.hid hG
  obtain ⟨st5, hst⟩ : ∃ s, (cList cStock).st st4 = s := ⟨_, rfl⟩
  rw [hst] at G
  have HST5 := Lib.hid hst
  clear hst hv hG
  obtain ⟨U5, hU⟩ : ∃ U, U = wc := ⟨_, rfl⟩
  rw [← hU] at G
  rw [← hU]
  clear hU HLP HRW HFW hXU hgX hrX
  go_wp2_with fail
  refine (rtext_r g _ U5 G.out.rq).mono ?_
  rintro e U6 ⟨s, rfl, hvs, hR, hF⟩
  have VS := Lib.hid hvs
  have G6 := Lib.hid (G.out.step (dB5 [.string gs, .int .i64 c1, .int .i64 c2, .int .i64 c3, .slice Ag mg kg, .int .i64 r1, .int .i64 r2, .int .i64 r3, .int .i64 r4, .int .i64 r5, .int .i64 r6, .int .i64 r7, .int .i64 r8, .int .i64 r9, .int .i64 r10, .int .i64 r11, .int .i64 r12, .int .i64 r13, .int .i64 r14, .int .i64 r15, .slice Ae me ke] xg (.slice A1 x1.length k1) x1 (.slice A2 x2.length k2) x2 (.slice A3 x3.length k3) x3 (.slice A4 x4.length k4) x4 (.slice A5 x5.length k5) x5) hF hR)
  have cX := blk_cell G6.out.x 26
  have fX : U6.frozen? ⟨X, 26, none⟩ = false := blk_frozen G6.out.x 26
  have S1 : Hid ((U6.setCell ⟨X, 26, none⟩ (.string s)).heap[X]? = some (.cells #[.string gs, .int .i64 c1, .int .i64 c2, .int .i64 c3, .slice Ag mg kg, .int .i64 r1, .int .i64 r2, .int .i64 r3, .int .i64 r4, .int .i64 r5, .int .i64 r6, .int .i64 r7, .int .i64 r8, .int .i64 r9, .int .i64 r10, .int .i64 r11, .int .i64 r12, .int .i64 r13, .int .i64 r14, .int .i64 r15, .slice Ae me ke, .slice A1 x1.length k1, .slice A2 x2.length k2, .slice A3 x3.length k3, .slice A4 x4.length k4, .slice A5 x5.length k5, .string s] 67 (0, 0))) := Lib.hid (heap_setCell_same G6.out.x 26 (.string s))
  have S2 : Fr (fun k => k ≠ X) U6 (U6.setCell ⟨X, 26, none⟩ (.string s)) := (Fr.refl _ U6).setCell (p := ⟨X, 26, none⟩) (fun h => h rfl) _
  have HG7 := Lib.hid (G6.out.store (dB5 [.string gs, .int .i64 c1, .int .i64 c2, .int .i64 c3, .slice Ag mg kg, .int .i64 r1, .int .i64 r2, .int .i64 r3, .int .i64 r4, .int .i64 r5, .int .i64 r6, .int .i64 r7, .int .i64 r8, .int .i64 r9, .int .i64 r10, .int .i64 r11, .int .i64 r12, .int .i64 r13, .int .i64 r14, .int .i64 r15, .slice Ae me ke] xg (.slice A1 x1.length k1) x1 (.slice A2 x2.length k2) x2 (.slice A3 x3.length k3) x3 (.slice A4 x4.length k4) x4 (.slice A5 x5.length k5) x5) S2 S1.out)
  clear hvs hR hF S1 S2 G G6
  go_upto_region 24 with fail
  obtain ⟨U7, hU7⟩ : ∃ U, U = U6.setCell ⟨X, 26, none⟩ (.string s) := ⟨_, rfl⟩
  have G := HG7
  rw [← hU7] at G
  rw [← hU7]
  clear hU7 HG7 cX fX
  have HRES := Lib.hid G.out.res
  have HT := Lib.hid G.out.x
  have HBW := Lib.hid (G.out.fr.mono (Q' := fun i => i < w.heap.size) (fun i hi => ⟨hi, by have := HGW.out; have : i < w.heap.size := hi; omega⟩))
  have HCB := Lib.hid (show BooksC U7 (fun k => w.heap.size < k ∧ k ≠ g ∧ k ≠ X ∧ k < U7.heap.size) [.string gs, .int .i64 c1, .int .i64 c2, .int .i64 c3, .slice Ag mg kg, .int .i64 r1, .int .i64 r2, .int .i64 r3, .int .i64 r4, .int .i64 r5, .int .i64 r6, .int .i64 r7, .int .i64 r8, .int .i64 r9, .int .i64 r10, .int .i64 r11, .int .i64 r12, .int .i64 r13, .int .i64 r14, .int .i64 r15, .slice Ae me ke, .slice A1 x1.length k1, .slice A2 x2.length k2, .slice A3 x3.length k3, .slice A4 x4.length k4, .slice A5 x5.length k5, .string s] { group := xg, entries := x1, rates := x2, holdings := x3, matches_ := x4, stocks := x5, rules := s } from ⟨[.string gs, .int .i64 c1, .int .i64 c2, .int .i64 c3, .slice Ag mg kg, .int .i64 r1, .int .i64 r2, .int .i64 r3, .int .i64 r4, .int .i64 r5, .int .i64 r6, .int .i64 r7, .int .i64 r8, .int .i64 r9, .int .i64 r10, .int .i64 r11, .int .i64 r12, .int .i64 r13, .int .i64 r14, .int .i64 r15, .slice Ae me ke], [.slice A1 x1.length k1], [.slice A2 x2.length k2], [.slice A3 x3.length k3], [.slice A4 x4.length k4], [.slice A5 x5.length k5], [.string s], rfl, G.out.dat.1.1.1.1.1, G.out.dat.1.1.1.1.2, G.out.dat.1.1.1.2, G.out.dat.1.1.2, G.out.dat.1.2, G.out.dat.2, rfl⟩)
  have hst : cBooks.st (some L) = cStr.st st5 := by
    rw [← HST5.out, ← HST4.out, ← HST3.out, ← HST2.out, ← HST1.out, ← HST0.out]
    simp only [cBooks, Cod.st_iso, Cod.st_pair]
  have HV := Lib.hid (show cBooks.vl (some L) { group := xg, entries := x1, rates := x2, holdings := x3, matches_ := x4, stocks := x5, rules := s } from Cod.vl_iso (Cod.vl_pair VG.out (by rw [HST0.out]; exact Cod.vl_pair V1.out (by rw [HST1.out]; exact Cod.vl_pair V2.out (by rw [HST2.out]; exact Cod.vl_pair V3.out (by rw [HST3.out]; exact Cod.vl_pair V4.out (by rw [HST4.out]; exact Cod.vl_pair V5.out (by rw [HST5.out]; exact VS.out))))))))
  have HRV := G.out.rq
  rw [← hst] at HRV
  have hXw : w.heap.size < X := G.out.rX
  clear hst G VS VG V1 V2 V3 V4 V5 HST0 HST1 HST2 HST3 HST4 HST5
  obtain ⟨A9, c9, L9, bad9, hG9, hrd9, hLc9, hLL9, hst9, hst8⟩ := HRV
  have d0 := blk_cell hG9 0
  have d1 := blk_cell hG9 1
  clear hG9 hrd9
  cases hs : cBooks.st (some L) with
  | none =>
    have hb := hst9 hs
    subst hb
    have HN := Lib.hid (show rr = none by
      have h' : Option.map (·.2) (cBooks.dec L) = none := hs
      rw [Option.map_eq_none_iff] at h'
      rw [HRR.out]; unfold parseBks; rw [h']; split <;> rfl)
    clear hs hst9 hst8
    go_wp2_with (refine wpList_store_row rfl 67 (.tmp 2) (.tmp 137) rfl w.heap.size zBk.toArray rfl rfl 67 _ HRES.out zszB rfl zoneB ?_)
    have hfr := fr_setRow U7 w.heap.size zBk.toArray
    (try simp only [Exit.inBlock, Exit.then])
    refine bodyPost_ret (v := .tuple #[.agg zBk.toArray, .int .i64 4]) (results_cell_tmp rfl _ _ w.heap.size 67 _ (0, 0) _ rfl (heap_setRow HRES.out _) Try.underlying67 rfl zszB _ rfl) rfl ⟨zBk, {}, 4, rfl, zBkC _ _, (Fr.trans HBW.out (hfr.mono (fun i hi => by show i ≠ w.heap.size; have : i < w.heap.size := hi; omega))).below, .inr ⟨HN.out, rfl, rfl⟩⟩
  | some r =>
    obtain ⟨hb, hr⟩ := hst8 r hs
    subst hb hr
    have HDF := Lib.hid (show cBooks.dec L = some (({ group := xg, entries := x1, rates := x2, holdings := x3, matches_ := x4, stocks := x5, rules := s } : XBooks), r) by
      have h' : Option.map (·.2) (cBooks.dec L) = some r := hs
      rw [Option.map_eq_some_iff] at h'
      obtain ⟨p, hp, rfl⟩ := h'
      have := HV.out p hp
      rw [hp, ← this])
    clear hs hst9 hst8
    obtain ⟨m, hm⟩ : ∃ m, r.length = m := ⟨_, rfl⟩
    rw [hm] at d0 d1
    by_cases hr0 : 0 < r.length
    · have hr0I : (0 : Int) < (m : Int) := by omega
      have HN := Lib.hid (show rr = none by
        rw [HRR.out]; unfold parseBks; rw [HDF.out]
        cases r with
        | nil => exact absurd hr0 (by simp)
        | cons a r => split <;> rfl)
      clear hr0 hm hLc9 hLL9
      go_wp2_with (refine wpList_store_row rfl 67 (.tmp 2) (.tmp 137) rfl w.heap.size zBk.toArray rfl rfl 67 _ HRES.out zszB rfl zoneB ?_)
      have hfr := fr_setRow U7 w.heap.size zBk.toArray
      (try simp only [Exit.inBlock, Exit.then])
      refine bodyPost_ret (v := .tuple #[.agg zBk.toArray, .int .i64 4]) (results_cell_tmp rfl _ _ w.heap.size 67 _ (0, 0) _ rfl (heap_setRow HRES.out _) Try.underlying67 rfl zszB _ rfl) rfl ⟨zBk, {}, 4, rfl, zBkC _ _, (Fr.trans HBW.out (hfr.mono (fun i hi => by show i ≠ w.heap.size; have : i < w.heap.size := hi; omega))).below, .inr ⟨HN.out, rfl, rfl⟩⟩
    · have hr0I : ¬ (0 : Int) < (m : Int) := by omega
      have hre : r = [] := by
        cases r with
        | nil => rfl
        | cons a r => exact absurd (Nat.zero_lt_succ _) hr0
      have HRE := Lib.hid hre
      clear hr0 hre hm hLc9 hLL9
      have hbigI : ¬ (8388608 : Int) < (L.length : Int) := by omega
      have HY := Lib.hid (show rr = some ({ group := xg, entries := x1, rates := x2, holdings := x3, matches_ := x4, stocks := x5, rules := s } : XBooks) by rw [HRR.out]; unfold parseBks; rw [if_neg (by omega), HDF.out, HRE.out])
      have HCS := Lib.hid (size67 HCB.out.len)
      have HSZ := Lib.hid (show zBk.toArray.size = ([.string gs, .int .i64 c1, .int .i64 c2, .int .i64 c3, .slice Ag mg kg, .int .i64 r1, .int .i64 r2, .int .i64 r3, .int .i64 r4, .int .i64 r5, .int .i64 r6, .int .i64 r7, .int .i64 r8, .int .i64 r9, .int .i64 r10, .int .i64 r11, .int .i64 r12, .int .i64 r13, .int .i64 r14, .int .i64 r15, .slice Ae me ke, .slice A1 x1.length k1, .slice A2 x2.length k2, .slice A3 x3.length k3, .slice A4 x4.length k4, .slice A5 x5.length k5, .string s] : List Value).toArray.size by rw [List.size_toArray, List.size_toArray, HCB.out.len]; rfl)
      have HONE := Lib.hid HCB.out.one
      go_wp2_with (first | refine wpList_load_row rfl 67 (.tmp 5) rfl X rfl 67 #[.string gs, .int .i64 c1, .int .i64 c2, .int .i64 c3, .slice Ag mg kg, .int .i64 r1, .int .i64 r2, .int .i64 r3, .int .i64 r4, .int .i64 r5, .int .i64 r6, .int .i64 r7, .int .i64 r8, .int .i64 r9, .int .i64 r10, .int .i64 r11, .int .i64 r12, .int .i64 r13, .int .i64 r14, .int .i64 r15, .slice Ae me ke, .slice A1 x1.length k1, .slice A2 x2.length k2, .slice A3 x3.length k3, .slice A4 x4.length k4, .slice A5 x5.length k5, .string s] (0, 0) _ HT.out Try.underlying67 rfl HCS.out ?_ | refine wpList_store_row rfl 67 (.tmp 2) (.tmp 138) rfl w.heap.size #[.string gs, .int .i64 c1, .int .i64 c2, .int .i64 c3, .slice Ag mg kg, .int .i64 r1, .int .i64 r2, .int .i64 r3, .int .i64 r4, .int .i64 r5, .int .i64 r6, .int .i64 r7, .int .i64 r8, .int .i64 r9, .int .i64 r10, .int .i64 r11, .int .i64 r12, .int .i64 r13, .int .i64 r14, .int .i64 r15, .slice Ae me ke, .slice A1 x1.length k1, .slice A2 x2.length k2, .slice A3 x3.length k3, .slice A4 x4.length k4, .slice A5 x5.length k5, .string s] rfl rfl 67 _ HRES.out HCS.out HSZ.out HONE.out ?_)
      have hfr := fr_setRow U7 w.heap.size #[.string gs, .int .i64 c1, .int .i64 c2, .int .i64 c3, .slice Ag mg kg, .int .i64 r1, .int .i64 r2, .int .i64 r3, .int .i64 r4, .int .i64 r5, .int .i64 r6, .int .i64 r7, .int .i64 r8, .int .i64 r9, .int .i64 r10, .int .i64 r11, .int .i64 r12, .int .i64 r13, .int .i64 r14, .int .i64 r15, .slice Ae me ke, .slice A1 x1.length k1, .slice A2 x2.length k2, .slice A3 x3.length k3, .slice A4 x4.length k4, .slice A5 x5.length k5, .string s]
      (try simp only [Exit.inBlock, Exit.then])
      refine bodyPost_ret (v := .tuple #[.agg #[.string gs, .int .i64 c1, .int .i64 c2, .int .i64 c3, .slice Ag mg kg, .int .i64 r1, .int .i64 r2, .int .i64 r3, .int .i64 r4, .int .i64 r5, .int .i64 r6, .int .i64 r7, .int .i64 r8, .int .i64 r9, .int .i64 r10, .int .i64 r11, .int .i64 r12, .int .i64 r13, .int .i64 r14, .int .i64 r15, .slice Ae me ke, .slice A1 x1.length k1, .slice A2 x2.length k2, .slice A3 x3.length k3, .slice A4 x4.length k4, .slice A5 x5.length k5, .string s], .int .i64 0]) (results_cell_tmp rfl _ _ w.heap.size 67 _ (0, 0) _ rfl (heap_setRow HRES.out _) Try.underlying67 rfl HCS.out _ rfl) rfl ⟨[.string gs, .int .i64 c1, .int .i64 c2, .int .i64 c3, .slice Ag mg kg, .int .i64 r1, .int .i64 r2, .int .i64 r3, .int .i64 r4, .int .i64 r5, .int .i64 r6, .int .i64 r7, .int .i64 r8, .int .i64 r9, .int .i64 r10, .int .i64 r11, .int .i64 r12, .int .i64 r13, .int .i64 r14, .int .i64 r15, .slice Ae me ke, .slice A1 x1.length k1, .slice A2 x2.length k2, .slice A3 x3.length k3, .slice A4 x4.length k4, .slice A5 x5.length k5, .string s], _, 0, rfl, ?_, (Fr.trans HBW.out (hfr.mono (fun i hi => by show i ≠ w.heap.size; have : i < w.heap.size := hi; omega))).below, .inl ⟨_, HY.out, rfl, rfl⟩⟩
      exact BooksC.mono (BooksC.fr HCB.out (hfr.mono (fun i hi => by have := hi.1; omega))) (fun i hi => ⟨by have := hi.1; omega, by have := hi.2; have := hfr.size; omega⟩)
end Go.Proofs.Ytgdibeegheddmaa
