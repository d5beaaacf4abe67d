/- The reference's ParseEvent. Written by gen_n6.py. -/
import Derived.Test.YtgdibeegheddmaaZN5RefEntry
import Derived.Test.YtgdibeegheddmaaZMa
import Derived.Deep.MidRow
namespace Go.Proofs.Ytgdibeegheddmaa
open Go Go.RowKit
set_option linter.unusedVariables false
set_option linter.unusedSimpArgs false
attribute [local go_sem ↓] Go.wp_at_zero Go.wp_at_succ
theorem Ro.kp {g X s : Nat} {w1 w2 : World} (h : Ro g w1 w2) (hX : X < w1.heap.size) : ∀ k, k ≠ g → k ≤ X → w2.heap[k]? = w1.heap[k]? := fun k hk hkX => h.block k ⟨by omega, hk⟩
set_option maxHeartbeats 2000000 in
set_option maxRecDepth 100000 in
theorem rParse_1 (A : Option Addr) (c : Nat) (L : List UInt8) (w : World) (h : Rd w (· < w.heap.size) A L.length 1 (bv L)) (hc : L.length ≤ c) (hl : L.length ≤ 1000000) (l1 : List UInt8) (hd : decInt L = some (1, l1)) :
    Calls Try.prog 24 #[.slice A L.length c] w (PPost EventC {} w (parseEv L)) := by
  have HL := Lib.hid h
  obtain ⟨rr, hrr⟩ : ∃ rr, rr = parseEv L := ⟨_, rfl⟩
  rw [← hrr]
  have HRR := Lib.hid hrr
  clear h hrr
  go_enter Try.func24, Try.ntmps24
  go_upto_region 2 with fail
  have h2 := heap2 w (.cells #[.int .i64 0, .int .i64 0, .int .i64 0, .int .i64 0, .int .i64 0, .int .i64 0, .string ⟨#[]⟩, .slice none 0 0, .string ⟨#[]⟩, .int .i64 0, .int .i64 0, .int .i64 0, .int .i64 0, .int .i64 0, .int .i64 0, .int .i64 0, .int .i64 0, .slice none 0 0, .slice none 0 0, .int .i64 0, .int .i64 0, .int .i64 0, .int .i64 0, .int .i64 0, .int .i64 0, .int .i64 0, .int .i64 0, .string ⟨#[]⟩] 45) (.cells #[.slice A L.length c, .bool false] 99)
  generalize hW : (w.alloc (.cells #[.int .i64 0, .int .i64 0, .int .i64 0, .int .i64 0, .int .i64 0, .int .i64 0, .string ⟨#[]⟩, .slice none 0 0, .string ⟨#[]⟩, .int .i64 0, .int .i64 0, .int .i64 0, .int .i64 0, .int .i64 0, .int .i64 0, .int .i64 0, .int .i64 0, .slice none 0 0, .slice none 0 0, .int .i64 0, .int .i64 0, .int .i64 0, .int .i64 0, .int .i64 0, .int .i64 0, .int .i64 0, .int .i64 0, .string ⟨#[]⟩] 45)).alloc (.cells #[.slice A L.length c, .bool false] 99) = W at *
  obtain ⟨H0, H1, HS, HF⟩ := h2
  clear hW
  have hbW : Below w.heap.size w W := HF.below
  have hR0 : RQ W (w.heap.size + 1) (some L) := ⟨A, c, L, false, H1, (HL.out.fr HF).mono (fun k hk => by omega), hc, by omega, (fun h => by cases h), (fun l h => by injection h with h; exact ⟨rfl, h.symm⟩)⟩
  have hWs : w.heap.size + 2 = W.heap.size := by omega
  have HRES0 := Lib.hid H0
  have HRQ0 := Lib.hid hR0
  clear H0 H1 HS HF hR0
  go_wp2_with fail
  refine (rint_r (w.heap.size + 1) (some L) W HRQ0.out).mono ?_
  rintro e W1 ⟨n, rfl, hnb, hv, hR1, hf1, h0⟩
  have hnk : n = 1 := (hv _ hd).symm
  subst hnk
  have HD := Lib.hid hd
  have HDE := Lib.hid (show decEv L = decF 1 l1 by simp [decEv, hd])
  have hR1 : RQ W1 (w.heap.size + 1) (some l1) := by
    have e : cInt.st (some L) = some l1 := by show Option.map (·.2) (decInt L) = some l1; rw [hd]; rfl
    rw [← e]; exact hR1
  clear hd
  have HRES1 := Lib.hid ((hf1.block w.heap.size ⟨by omega, by omega⟩).trans HRES0.out)
  have hb1 : Below w.heap.size w W1 := hbW.trans ((hf1.mono (fun i (hi : i < w.heap.size) => ⟨by omega, by omega⟩)).below)
  have h1s : W.heap.size ≤ W1.heap.size := hf1.size
  clear hv hf1 h0 HRES0 HRQ0 hbW
  go_upto_region 3 with (refine wpList_store_fresh2 rfl 45 (.tmp 5) (.tmp 11) rfl rfl W1 _ 45 #[.int .i64 1, .int .i64 0, .int .i64 0, .int .i64 0, .int .i64 0, .int .i64 0, .string ⟨#[]⟩, .slice none 0 0, .string ⟨#[]⟩, .int .i64 0, .int .i64 0, .int .i64 0, .int .i64 0, .int .i64 0, .int .i64 0, .int .i64 0, .int .i64 0, .slice none 0 0, .slice none 0 0, .int .i64 0, .int .i64 0, .int .i64 0, .int .i64 0, .int .i64 0, .int .i64 0, .int .i64 0, .int .i64 0, .string ⟨#[]⟩] rfl rfl info45 rfl (by simp only [List.all_toArray, List.all_cons, List.all_nil, Value.oneCell', Bool.and_true]) ?_; intro U S1 S2 S3; replace S1 := Lib.hid S1)
  have hbU := Lib.hid (Fr.trans (Fr.ofBelow hb1) ((Fr.ofBelow S2).mono (fun k (hk : k < w.heap.size) => by show k < W1.heap.size; omega)))
  have HRES := Lib.hid ((S2.block w.heap.size (by omega)).trans HRES1.out)
  have HRU := Lib.hid (hR1.fr (Fr.ofBelow S2) (fun k hk => by omega))
  obtain ⟨X, hX⟩ : ∃ X, W1.heap.size = X := ⟨_, rfl⟩
  have hXw : w.heap.size + 1 < X := by omega
  have hXU : X < U.heap.size := by omega
  have SX : Hid (U.heap[X]? = some (.cells #[.int .i64 1, .int .i64 0, .int .i64 0, .int .i64 0, .int .i64 0, .int .i64 0, .string ⟨#[]⟩, .slice none 0 0, .string ⟨#[]⟩, .int .i64 0, .int .i64 0, .int .i64 0, .int .i64 0, .int .i64 0, .int .i64 0, .int .i64 0, .int .i64 0, .slice none 0 0, .slice none 0 0, .int .i64 0, .int .i64 0, .int .i64 0, .int .i64 0, .int .i64 0, .int .i64 0, .int .i64 0, .int .i64 0, .string ⟨#[]⟩] 45 (0, 0))) := by rw [← hX]; exact S1
  rw [hX]
  clear hX S1 S2 S3 hb1 HRES1 hR1 h1s
  have c0 : U.cell? ⟨X, 0, none⟩ = some (.int .i64 1) := blk_cell SX.out 0
  go_wp2_with fail
  refine (Entry_rr (w.heap.size + 1) _ U HRU.out).mono ?_
  rintro e W2 ⟨ce, xe, rfl, hce, hve, hR2, hf2⟩
  have hlm := hce.len
  have HT2 := (hf2.block X ⟨hXU, by omega⟩).trans SX.out
  have HRES2 := (hf2.block w.heap.size ⟨by omega, by omega⟩).trans HRES.out
  have TH : W2.there X 1 ce.toArray.size := there_of_block HT2 _ _ (by simp [hlm])
  have HI2 := Lib.hid (show (Try.prog.info? 34).map (·.size) = some ce.toArray.size by rw [info34, List.size_toArray, hlm])
  have HONE1 := Lib.hid hce.one
  have fS := fr_setCells (b := X) ce 1 W2
  have G2 := heap_setCells ce 1 W2 _ HT2
  have hput : putAt [Value.int .i64 1, .int .i64 0, .int .i64 0, .int .i64 0, .int .i64 0, .int .i64 0, .string ⟨#[]⟩, .slice none 0 0, .string ⟨#[]⟩, .int .i64 0, .int .i64 0, .int .i64 0, .int .i64 0, .int .i64 0, .int .i64 0, .int .i64 0, .int .i64 0, .slice none 0 0, .slice none 0 0, .int .i64 0, .int .i64 0, .int .i64 0, .int .i64 0, .int .i64 0, .int .i64 0, .int .i64 0, .int .i64 0, .string ⟨#[]⟩] 1 ce = (evCells 1 ce zRate zHolding zMatch zStock 0 0 ⟨#[]⟩) := by
    have := putAt_head .nilFunc ([Value.int .i64 1]) zEntry (zRate ++ zHolding ++ zMatch ++ zStock ++ [Value.int .i64 0] ++ [Value.int .i64 0] ++ [Value.string ⟨#[]⟩]) ce 1 (by simp [zEntry, zRate, zHolding, zMatch, zStock]) (by rw [hlm]; rfl)
    simpa only [evCells, zEntry, zRate, zHolding, zMatch, zStock, List.append_assoc, List.cons_append, List.nil_append] using this
  rw [hput] at G2
  obtain ⟨V, hV⟩ : ∃ V, V = W2.setCells X 1 ce := ⟨_, rfl⟩
  have HCE := Lib.hid (hce.mono (Q' := fun i => X < i ∧ i < W2.heap.size) (fun i hi => ⟨by have := hi.1; omega, hi.2⟩))
  have HVV := Lib.hid (vl_mapF (f := fun a => { kind := 1, entry := a }) decF_1 hve)
  have HTH := Lib.hid TH
  have hRV0 := hR2.fr (Q := fun i => i ≠ X) fS (fun i hi => by show i ≠ X; omega)
  have hRV : RQ (W2.setCells X 1 ce) (w.heap.size + 1) (stF 1 (some l1)) := by rw [st_mapF (f := fun a => { kind := 1, entry := a }) decF_1]; exact hRV0
  have fV : Fr (· < w.heap.size) U (W2.setCells X 1 ce) := Fr.trans (hf2.mono (fun i (hi : i < w.heap.size) => ⟨by omega, by omega⟩)) (fS.mono (fun i (hi : i < w.heap.size) => by show i ≠ X; omega))
  have hCV : EventC (W2.setCells X 1 ce) (fun i => X < i ∧ i < W2.heap.size) (evCells 1 ce zRate zHolding zMatch zStock 0 0 ⟨#[]⟩) { kind := 1, entry := xe } := evC (by unfold intBd; omega) (EntryC.fr HCE.out (fS.mono (fun i hi => by show i ≠ X; have := hi.1; omega))) (zRateC _ _) (zHoldingC _ _) (zMatchC _ _) (zStockC _ _) bd0 bd0
  have HRESV := (fS.block w.heap.size (by show w.heap.size ≠ X; omega)).trans HRES2
  have hsz := fS.size
  have HSTORE := Lib.hid (And.intro TH (And.intro HI2.out HONE1.out))
  clear hlm hce hve hR2 hf2 HT2 hRV0 hput TH HRES2 c0
  go_upto_region 24 with (refine wpList_store_mid rfl 34 (.tmp 19) (.tmp 18) rfl X 1 ce.toArray rfl rfl HSTORE.out.1 HSTORE.out.2.1 HSTORE.out.2.2 ?_)
  (try simp only [List.toList_toArray])
  rw [← hV] at hCV fV hRV G2 HRESV hsz
  rw [← hV]
  clear hV HRES HSTORE HTH
  have HRES := Lib.hid HRESV
  have HT := Lib.hid G2
  have HC := Lib.hid (hCV.mono (Q' := fun i => w.heap.size + 1 < i ∧ i < V.heap.size) (fun i hi => ⟨by have := hi.1; omega, by have := hi.2; omega⟩))
  have HRV := Lib.hid hRV
  have hbV := Lib.hid (Fr.trans hbU.out fV)
  clear HRESV G2 hCV hRV fV fS HRU SX HCE hbU
  obtain ⟨A3, c3, L3, bad3, hG3, hrd3, hLc3, hLL3, hst3, hst4⟩ := HRV.out
  have d0 := blk_cell hG3 0
  have d1 := blk_cell hG3 1
  clear hG3 hrd3
  cases hs3 : stF 1 (some l1) with
  | none =>
    have hb := hst3 hs3
    subst hb
    have HN := Lib.hid (show rr = none by rw [HRR.out]; unfold parseEv; rw [HDE.out, stF_none hs3]; split <;> rfl)
    clear hs3 hst3 hst4
    go_wp2_with (refine wpList_store_row rfl 45 (.tmp 2) (.tmp 79) rfl w.heap.size zCells rfl rfl 45 _ HRES.out zsz rfl zone ?_)
    have hfr := fr_setRow V w.heap.size zCells
    (try simp only [Exit.inBlock, Exit.then])
    refine bodyPost_ret (v := .tuple #[.agg zCells, .int .i64 4]) (results_cell_tmp rfl _ _ w.heap.size 45 _ (0, 0) _ rfl (heap_setRow HRES.out _) Try.underlying45 rfl zsz _ rfl) rfl ⟨zEv 0, {}, 4, rfl, evC bd0 (zEntryC _ _) (zRateC _ _) (zHoldingC _ _) (zMatchC _ _) (zStockC _ _) bd0 bd0, (Fr.trans hbV.out (hfr.mono (fun i hi => by show i ≠ w.heap.size; have : i < w.heap.size := hi; omega))).below, .inr ⟨HN.out, rfl, rfl⟩⟩
  | some r =>
    obtain ⟨hb, hr⟩ := hst4 r hs3
    subst hb hr
    have HDF := Lib.hid (stF_some hs3 HVV.out)
    clear hs3 hst3 hst4
    obtain ⟨m, hm⟩ : ∃ m, r.length = m := ⟨_, rfl⟩
    rw [hm] at d0 d1
    by_cases hr0 : 0 < r.length
    · have hr0I : (0 : Int) < (m : Int) := by omega
      have HN := Lib.hid (show rr = none by
        rw [HRR.out]; unfold parseEv; rw [HDE.out, HDF.out]
        cases r with
        | nil => exact absurd hr0 (by simp)
        | cons a r => split <;> rfl)
      clear hr0 hm hLc3 hLL3
      go_wp2_with (refine wpList_store_row rfl 45 (.tmp 2) (.tmp 79) rfl w.heap.size zCells rfl rfl 45 _ HRES.out zsz rfl zone ?_)
      have hfr := fr_setRow V w.heap.size zCells
      (try simp only [Exit.inBlock, Exit.then])
      refine bodyPost_ret (v := .tuple #[.agg zCells, .int .i64 4]) (results_cell_tmp rfl _ _ w.heap.size 45 _ (0, 0) _ rfl (heap_setRow HRES.out _) Try.underlying45 rfl zsz _ rfl) rfl ⟨zEv 0, {}, 4, rfl, evC bd0 (zEntryC _ _) (zRateC _ _) (zHoldingC _ _) (zMatchC _ _) (zStockC _ _) bd0 bd0, (Fr.trans hbV.out (hfr.mono (fun i hi => by show i ≠ w.heap.size; have : i < w.heap.size := hi; omega))).below, .inr ⟨HN.out, rfl, rfl⟩⟩
    · have hr0I : ¬ (0 : Int) < (m : Int) := by omega
      have hre : r = [] := by
        cases r with
        | nil => rfl
        | cons a r => exact absurd (Nat.zero_lt_succ _) hr0
      have HRE := Lib.hid hre
      clear hr0 hre hm hLc3 hLL3
      by_cases hbig : 65536 < L.length
      · have hbigI : (65536 : Int) < (L.length : Int) := by omega
        have HN := Lib.hid (show rr = none by rw [HRR.out]; unfold parseEv; rw [if_pos hbig])
        clear hbig
        go_wp2_with (refine wpList_store_row rfl 45 (.tmp 2) (.tmp 79) rfl w.heap.size zCells rfl rfl 45 _ HRES.out zsz rfl zone ?_)
        have hfr := fr_setRow V w.heap.size zCells
        (try simp only [Exit.inBlock, Exit.then])
        refine bodyPost_ret (v := .tuple #[.agg zCells, .int .i64 4]) (results_cell_tmp rfl _ _ w.heap.size 45 _ (0, 0) _ rfl (heap_setRow HRES.out _) Try.underlying45 rfl zsz _ rfl) rfl ⟨zEv 0, {}, 4, rfl, evC bd0 (zEntryC _ _) (zRateC _ _) (zHoldingC _ _) (zMatchC _ _) (zStockC _ _) bd0 bd0, (Fr.trans hbV.out (hfr.mono (fun i hi => by show i ≠ w.heap.size; have : i < w.heap.size := hi; omega))).below, .inr ⟨HN.out, rfl, rfl⟩⟩
      · have hbigI : ¬ (65536 : Int) < (L.length : Int) := by omega
        have HY := Lib.hid (show rr = some { kind := 1, entry := xe } by rw [HRR.out]; unfold parseEv; rw [if_neg hbig, HDE.out, HDF.out, HRE.out])
        have HCS := Lib.hid (size45 HC.out.len)
        have HSZ := Lib.hid (zsize HC.out)
        have HONE := Lib.hid HC.out.one
        clear hbig
        go_wp2_with (first | refine wpList_load_row rfl 45 (.tmp 5) rfl X rfl 45 (evCells 1 ce zRate zHolding zMatch zStock 0 0 ⟨#[]⟩).toArray (0, 0) _ HT.out Try.underlying45 rfl HCS.out ?_ | refine wpList_store_row rfl 45 (.tmp 2) (.tmp 80) rfl w.heap.size (evCells 1 ce zRate zHolding zMatch zStock 0 0 ⟨#[]⟩).toArray rfl rfl 45 _ HRES.out HCS.out HSZ.out HONE.out ?_)
        have hfr := fr_setRow V w.heap.size (evCells 1 ce zRate zHolding zMatch zStock 0 0 ⟨#[]⟩).toArray
        (try simp only [Exit.inBlock, Exit.then])
        refine bodyPost_ret (v := .tuple #[.agg (evCells 1 ce zRate zHolding zMatch zStock 0 0 ⟨#[]⟩).toArray, .int .i64 0]) (results_cell_tmp rfl _ _ w.heap.size 45 _ (0, 0) _ rfl (heap_setRow HRES.out _) Try.underlying45 rfl HCS.out _ rfl) rfl ⟨(evCells 1 ce zRate zHolding zMatch zStock 0 0 ⟨#[]⟩), { kind := 1, entry := xe }, 0, rfl, ?_, (Fr.trans hbV.out (hfr.mono (fun i hi => by show i ≠ w.heap.size; have : i < w.heap.size := hi; omega))).below, .inl ⟨_, HY.out, rfl, rfl⟩⟩
        exact EventC.mono (EventC.fr HC.out (hfr.mono (fun i hi => by have := hi.1; omega))) (fun i hi => ⟨by have := hi.1; omega, by have := hi.2; have := hfr.size; omega⟩)
set_option maxHeartbeats 2000000 in
set_option maxRecDepth 100000 in
theorem rParse_2 (A : Option Addr) (c : Nat) (L : List UInt8) (w : World) (h : Rd w (· < w.heap.size) A L.length 1 (bv L)) (hc : L.length ≤ c) (hl : L.length ≤ 1000000) (l1 : List UInt8) (hd : decInt L = some (2, l1)) :
    Calls Try.prog 24 #[.slice A L.length c] w (PPost EventC {} w (parseEv L)) := by
  have HL := Lib.hid h
  obtain ⟨rr, hrr⟩ : ∃ rr, rr = parseEv L := ⟨_, rfl⟩
  rw [← hrr]
  have HRR := Lib.hid hrr
  clear h hrr
  go_enter Try.func24, Try.ntmps24
  go_upto_region 2 with fail
  have h2 := heap2 w (.cells #[.int .i64 0, .int .i64 0, .int .i64 0, .int .i64 0, .int .i64 0, .int .i64 0, .string ⟨#[]⟩, .slice none 0 0, .string ⟨#[]⟩, .int .i64 0, .int .i64 0, .int .i64 0, .int .i64 0, .int .i64 0, .int .i64 0, .int .i64 0, .int .i64 0, .slice none 0 0, .slice none 0 0, .int .i64 0, .int .i64 0, .int .i64 0, .int .i64 0, .int .i64 0, .int .i64 0, .int .i64 0, .int .i64 0, .string ⟨#[]⟩] 45) (.cells #[.slice A L.length c, .bool false] 99)
  generalize hW : (w.alloc (.cells #[.int .i64 0, .int .i64 0, .int .i64 0, .int .i64 0, .int .i64 0, .int .i64 0, .string ⟨#[]⟩, .slice none 0 0, .string ⟨#[]⟩, .int .i64 0, .int .i64 0, .int .i64 0, .int .i64 0, .int .i64 0, .int .i64 0, .int .i64 0, .int .i64 0, .slice none 0 0, .slice none 0 0, .int .i64 0, .int .i64 0, .int .i64 0, .int .i64 0, .int .i64 0, .int .i64 0, .int .i64 0, .int .i64 0, .string ⟨#[]⟩] 45)).alloc (.cells #[.slice A L.length c, .bool false] 99) = W at *
  obtain ⟨H0, H1, HS, HF⟩ := h2
  clear hW
  have hbW : Below w.heap.size w W := HF.below
  have hR0 : RQ W (w.heap.size + 1) (some L) := ⟨A, c, L, false, H1, (HL.out.fr HF).mono (fun k hk => by omega), hc, by omega, (fun h => by cases h), (fun l h => by injection h with h; exact ⟨rfl, h.symm⟩)⟩
  have hWs : w.heap.size + 2 = W.heap.size := by omega
  have HRES0 := Lib.hid H0
  have HRQ0 := Lib.hid hR0
  clear H0 H1 HS HF hR0
  go_wp2_with fail
  refine (rint_r (w.heap.size + 1) (some L) W HRQ0.out).mono ?_
  rintro e W1 ⟨n, rfl, hnb, hv, hR1, hf1, h0⟩
  have hnk : n = 2 := (hv _ hd).symm
  subst hnk
  have HD := Lib.hid hd
  have HDE := Lib.hid (show decEv L = decF 2 l1 by simp [decEv, hd])
  have hR1 : RQ W1 (w.heap.size + 1) (some l1) := by
    have e : cInt.st (some L) = some l1 := by show Option.map (·.2) (decInt L) = some l1; rw [hd]; rfl
    rw [← e]; exact hR1
  clear hd
  have HRES1 := Lib.hid ((hf1.block w.heap.size ⟨by omega, by omega⟩).trans HRES0.out)
  have hb1 : Below w.heap.size w W1 := hbW.trans ((hf1.mono (fun i (hi : i < w.heap.size) => ⟨by omega, by omega⟩)).below)
  have h1s : W.heap.size ≤ W1.heap.size := hf1.size
  clear hv hf1 h0 HRES0 HRQ0 hbW
  go_upto_region 3 with (refine wpList_store_fresh2 rfl 45 (.tmp 5) (.tmp 11) rfl rfl W1 _ 45 #[.int .i64 2, .int .i64 0, .int .i64 0, .int .i64 0, .int .i64 0, .int .i64 0, .string ⟨#[]⟩, .slice none 0 0, .string ⟨#[]⟩, .int .i64 0, .int .i64 0, .int .i64 0, .int .i64 0, .int .i64 0, .int .i64 0, .int .i64 0, .int .i64 0, .slice none 0 0, .slice none 0 0, .int .i64 0, .int .i64 0, .int .i64 0, .int .i64 0, .int .i64 0, .int .i64 0, .int .i64 0, .int .i64 0, .string ⟨#[]⟩] rfl rfl info45 rfl (by simp only [List.all_toArray, List.all_cons, List.all_nil, Value.oneCell', Bool.and_true]) ?_; intro U S1 S2 S3; replace S1 := Lib.hid S1)
  have hbU := Lib.hid (Fr.trans (Fr.ofBelow hb1) ((Fr.ofBelow S2).mono (fun k (hk : k < w.heap.size) => by show k < W1.heap.size; omega)))
  have HRES := Lib.hid ((S2.block w.heap.size (by omega)).trans HRES1.out)
  have HRU := Lib.hid (hR1.fr (Fr.ofBelow S2) (fun k hk => by omega))
  obtain ⟨X, hX⟩ : ∃ X, W1.heap.size = X := ⟨_, rfl⟩
  have hXw : w.heap.size + 1 < X := by omega
  have hXU : X < U.heap.size := by omega
  have SX : Hid (U.heap[X]? = some (.cells #[.int .i64 2, .int .i64 0, .int .i64 0, .int .i64 0, .int .i64 0, .int .i64 0, .string ⟨#[]⟩, .slice none 0 0, .string ⟨#[]⟩, .int .i64 0, .int .i64 0, .int .i64 0, .int .i64 0, .int .i64 0, .int .i64 0, .int .i64 0, .int .i64 0, .slice none 0 0, .slice none 0 0, .int .i64 0, .int .i64 0, .int .i64 0, .int .i64 0, .int .i64 0, .int .i64 0, .int .i64 0, .int .i64 0, .string ⟨#[]⟩] 45 (0, 0))) := by rw [← hX]; exact S1
  rw [hX]
  clear hX S1 S2 S3 hb1 HRES1 hR1 h1s
  have c0 : U.cell? ⟨X, 0, none⟩ = some (.int .i64 2) := blk_cell SX.out 0
  go_wp2_with fail
  refine (Rate_rr (w.heap.size + 1) _ U HRU.out).mono ?_
  rintro e W2 ⟨ce, xe, rfl, hce, hve, hR2, hf2⟩
  have hlm := hce.len
  have HT2 := (hf2.block X ⟨hXU, by omega⟩).trans SX.out
  have HRES2 := (hf2.block w.heap.size ⟨by omega, by omega⟩).trans HRES.out
  have TH : W2.there X 8 ce.toArray.size := there_of_block HT2 _ _ (by simp [hlm])
  have HI2 := Lib.hid (show (Try.prog.info? 36).map (·.size) = some ce.toArray.size by rw [info36, List.size_toArray, hlm])
  have HONE1 := Lib.hid hce.one
  have fS := fr_setCells (b := X) ce 8 W2
  have G2 := heap_setCells ce 8 W2 _ HT2
  have hput : putAt [Value.int .i64 2, .int .i64 0, .int .i64 0, .int .i64 0, .int .i64 0, .int .i64 0, .string ⟨#[]⟩, .slice none 0 0, .string ⟨#[]⟩, .int .i64 0, .int .i64 0, .int .i64 0, .int .i64 0, .int .i64 0, .int .i64 0, .int .i64 0, .int .i64 0, .slice none 0 0, .slice none 0 0, .int .i64 0, .int .i64 0, .int .i64 0, .int .i64 0, .int .i64 0, .int .i64 0, .int .i64 0, .int .i64 0, .string ⟨#[]⟩] 8 ce = (evCells 2 zEntry ce zHolding zMatch zStock 0 0 ⟨#[]⟩) := by
    have := putAt_head .nilFunc ([Value.int .i64 2] ++ zEntry) zRate (zHolding ++ zMatch ++ zStock ++ [Value.int .i64 0] ++ [Value.int .i64 0] ++ [Value.string ⟨#[]⟩]) ce 8 (by simp [zEntry, zRate, zHolding, zMatch, zStock]) (by rw [hlm]; rfl)
    simpa only [evCells, zEntry, zRate, zHolding, zMatch, zStock, List.append_assoc, List.cons_append, List.nil_append] using this
  rw [hput] at G2
  obtain ⟨V, hV⟩ : ∃ V, V = W2.setCells X 8 ce := ⟨_, rfl⟩
  have HCE := Lib.hid (hce.mono (Q' := fun i => X < i ∧ i < W2.heap.size) (fun i hi => ⟨by have := hi.1; omega, hi.2⟩))
  have HVV := Lib.hid (vl_mapF (f := fun a => { kind := 2, rate := a }) decF_2 hve)
  have HTH := Lib.hid TH
  have hRV0 := hR2.fr (Q := fun i => i ≠ X) fS (fun i hi => by show i ≠ X; omega)
  have hRV : RQ (W2.setCells X 8 ce) (w.heap.size + 1) (stF 2 (some l1)) := by rw [st_mapF (f := fun a => { kind := 2, rate := a }) decF_2]; exact hRV0
  have fV : Fr (· < w.heap.size) U (W2.setCells X 8 ce) := Fr.trans (hf2.mono (fun i (hi : i < w.heap.size) => ⟨by omega, by omega⟩)) (fS.mono (fun i (hi : i < w.heap.size) => by show i ≠ X; omega))
  have hCV : EventC (W2.setCells X 8 ce) (fun i => X < i ∧ i < W2.heap.size) (evCells 2 zEntry ce zHolding zMatch zStock 0 0 ⟨#[]⟩) { kind := 2, rate := xe } := evC (by unfold intBd; omega) (zEntryC _ _) (RateC.fr HCE.out (fS.mono (fun i hi => by show i ≠ X; have := hi.1; omega))) (zHoldingC _ _) (zMatchC _ _) (zStockC _ _) bd0 bd0
  have HRESV := (fS.block w.heap.size (by show w.heap.size ≠ X; omega)).trans HRES2
  have hsz := fS.size
  have HSTORE := Lib.hid (And.intro TH (And.intro HI2.out HONE1.out))
  clear hlm hce hve hR2 hf2 HT2 hRV0 hput TH HRES2 c0
  go_upto_region 24 with (refine wpList_store_mid rfl 36 (.tmp 24) (.tmp 23) rfl X 8 ce.toArray rfl rfl HSTORE.out.1 HSTORE.out.2.1 HSTORE.out.2.2 ?_)
  (try simp only [List.toList_toArray])
  rw [← hV] at hCV fV hRV G2 HRESV hsz
  rw [← hV]
  clear hV HRES HSTORE HTH
  have HRES := Lib.hid HRESV
  have HT := Lib.hid G2
  have HC := Lib.hid (hCV.mono (Q' := fun i => w.heap.size + 1 < i ∧ i < V.heap.size) (fun i hi => ⟨by have := hi.1; omega, by have := hi.2; omega⟩))
  have HRV := Lib.hid hRV
  have hbV := Lib.hid (Fr.trans hbU.out fV)
  clear HRESV G2 hCV hRV fV fS HRU SX HCE hbU
  obtain ⟨A3, c3, L3, bad3, hG3, hrd3, hLc3, hLL3, hst3, hst4⟩ := HRV.out
  have d0 := blk_cell hG3 0
  have d1 := blk_cell hG3 1
  clear hG3 hrd3
  cases hs3 : stF 2 (some l1) with
  | none =>
    have hb := hst3 hs3
    subst hb
    have HN := Lib.hid (show rr = none by rw [HRR.out]; unfold parseEv; rw [HDE.out, stF_none hs3]; split <;> rfl)
    clear hs3 hst3 hst4
    go_wp2_with (refine wpList_store_row rfl 45 (.tmp 2) (.tmp 79) rfl w.heap.size zCells rfl rfl 45 _ HRES.out zsz rfl zone ?_)
    have hfr := fr_setRow V w.heap.size zCells
    (try simp only [Exit.inBlock, Exit.then])
    refine bodyPost_ret (v := .tuple #[.agg zCells, .int .i64 4]) (results_cell_tmp rfl _ _ w.heap.size 45 _ (0, 0) _ rfl (heap_setRow HRES.out _) Try.underlying45 rfl zsz _ rfl) rfl ⟨zEv 0, {}, 4, rfl, evC bd0 (zEntryC _ _) (zRateC _ _) (zHoldingC _ _) (zMatchC _ _) (zStockC _ _) bd0 bd0, (Fr.trans hbV.out (hfr.mono (fun i hi => by show i ≠ w.heap.size; have : i < w.heap.size := hi; omega))).below, .inr ⟨HN.out, rfl, rfl⟩⟩
  | some r =>
    obtain ⟨hb, hr⟩ := hst4 r hs3
    subst hb hr
    have HDF := Lib.hid (stF_some hs3 HVV.out)
    clear hs3 hst3 hst4
    obtain ⟨m, hm⟩ : ∃ m, r.length = m := ⟨_, rfl⟩
    rw [hm] at d0 d1
    by_cases hr0 : 0 < r.length
    · have hr0I : (0 : Int) < (m : Int) := by omega
      have HN := Lib.hid (show rr = none by
        rw [HRR.out]; unfold parseEv; rw [HDE.out, HDF.out]
        cases r with
        | nil => exact absurd hr0 (by simp)
        | cons a r => split <;> rfl)
      clear hr0 hm hLc3 hLL3
      go_wp2_with (refine wpList_store_row rfl 45 (.tmp 2) (.tmp 79) rfl w.heap.size zCells rfl rfl 45 _ HRES.out zsz rfl zone ?_)
      have hfr := fr_setRow V w.heap.size zCells
      (try simp only [Exit.inBlock, Exit.then])
      refine bodyPost_ret (v := .tuple #[.agg zCells, .int .i64 4]) (results_cell_tmp rfl _ _ w.heap.size 45 _ (0, 0) _ rfl (heap_setRow HRES.out _) Try.underlying45 rfl zsz _ rfl) rfl ⟨zEv 0, {}, 4, rfl, evC bd0 (zEntryC _ _) (zRateC _ _) (zHoldingC _ _) (zMatchC _ _) (zStockC _ _) bd0 bd0, (Fr.trans hbV.out (hfr.mono (fun i hi => by show i ≠ w.heap.size; have : i < w.heap.size := hi; omega))).below, .inr ⟨HN.out, rfl, rfl⟩⟩
    · have hr0I : ¬ (0 : Int) < (m : Int) := by omega
      have hre : r = [] := by
        cases r with
        | nil => rfl
        | cons a r => exact absurd (Nat.zero_lt_succ _) hr0
      have HRE := Lib.hid hre
      clear hr0 hre hm hLc3 hLL3
      by_cases hbig : 65536 < L.length
      · have hbigI : (65536 : Int) < (L.length : Int) := by omega
        have HN := Lib.hid (show rr = none by rw [HRR.out]; unfold parseEv; rw [if_pos hbig])
        clear hbig
        go_wp2_with (refine wpList_store_row rfl 45 (.tmp 2) (.tmp 79) rfl w.heap.size zCells rfl rfl 45 _ HRES.out zsz rfl zone ?_)
        have hfr := fr_setRow V w.heap.size zCells
        (try simp only [Exit.inBlock, Exit.then])
        refine bodyPost_ret (v := .tuple #[.agg zCells, .int .i64 4]) (results_cell_tmp rfl _ _ w.heap.size 45 _ (0, 0) _ rfl (heap_setRow HRES.out _) Try.underlying45 rfl zsz _ rfl) rfl ⟨zEv 0, {}, 4, rfl, evC bd0 (zEntryC _ _) (zRateC _ _) (zHoldingC _ _) (zMatchC _ _) (zStockC _ _) bd0 bd0, (Fr.trans hbV.out (hfr.mono (fun i hi => by show i ≠ w.heap.size; have : i < w.heap.size := hi; omega))).below, .inr ⟨HN.out, rfl, rfl⟩⟩
      · have hbigI : ¬ (65536 : Int) < (L.length : Int) := by omega
        have HY := Lib.hid (show rr = some { kind := 2, rate := xe } by rw [HRR.out]; unfold parseEv; rw [if_neg hbig, HDE.out, HDF.out, HRE.out])
        have HCS := Lib.hid (size45 HC.out.len)
        have HSZ := Lib.hid (zsize HC.out)
        have HONE := Lib.hid HC.out.one
        clear hbig
        go_wp2_with (first | refine wpList_load_row rfl 45 (.tmp 5) rfl X rfl 45 (evCells 2 zEntry ce zHolding zMatch zStock 0 0 ⟨#[]⟩).toArray (0, 0) _ HT.out Try.underlying45 rfl HCS.out ?_ | refine wpList_store_row rfl 45 (.tmp 2) (.tmp 80) rfl w.heap.size (evCells 2 zEntry ce zHolding zMatch zStock 0 0 ⟨#[]⟩).toArray rfl rfl 45 _ HRES.out HCS.out HSZ.out HONE.out ?_)
        have hfr := fr_setRow V w.heap.size (evCells 2 zEntry ce zHolding zMatch zStock 0 0 ⟨#[]⟩).toArray
        (try simp only [Exit.inBlock, Exit.then])
        refine bodyPost_ret (v := .tuple #[.agg (evCells 2 zEntry ce zHolding zMatch zStock 0 0 ⟨#[]⟩).toArray, .int .i64 0]) (results_cell_tmp rfl _ _ w.heap.size 45 _ (0, 0) _ rfl (heap_setRow HRES.out _) Try.underlying45 rfl HCS.out _ rfl) rfl ⟨(evCells 2 zEntry ce zHolding zMatch zStock 0 0 ⟨#[]⟩), { kind := 2, rate := xe }, 0, rfl, ?_, (Fr.trans hbV.out (hfr.mono (fun i hi => by show i ≠ w.heap.size; have : i < w.heap.size := hi; omega))).below, .inl ⟨_, HY.out, rfl, rfl⟩⟩
        exact EventC.mono (EventC.fr HC.out (hfr.mono (fun i hi => by have := hi.1; omega))) (fun i hi => ⟨by have := hi.1; omega, by have := hi.2; have := hfr.size; omega⟩)
set_option maxHeartbeats 2000000 in
set_option maxRecDepth 100000 in
theorem rParse_3 (A : Option Addr) (c : Nat) (L : List UInt8) (w : World) (h : Rd w (· < w.heap.size) A L.length 1 (bv L)) (hc : L.length ≤ c) (hl : L.length ≤ 1000000) (l1 : List UInt8) (hd : decInt L = some (3, l1)) :
    Calls Try.prog 24 #[.slice A L.length c] w (PPost EventC {} w (parseEv L)) := by
  have HL := Lib.hid h
  obtain ⟨rr, hrr⟩ : ∃ rr, rr = parseEv L := ⟨_, rfl⟩
  rw [← hrr]
  have HRR := Lib.hid hrr
  clear h hrr
  go_enter Try.func24, Try.ntmps24
  go_upto_region 2 with fail
  have h2 := heap2 w (.cells #[.int .i64 0, .int .i64 0, .int .i64 0, .int .i64 0, .int .i64 0, .int .i64 0, .string ⟨#[]⟩, .slice none 0 0, .string ⟨#[]⟩, .int .i64 0, .int .i64 0, .int .i64 0, .int .i64 0, .int .i64 0, .int .i64 0, .int .i64 0, .int .i64 0, .slice none 0 0, .slice none 0 0, .int .i64 0, .int .i64 0, .int .i64 0, .int .i64 0, .int .i64 0, .int .i64 0, .int .i64 0, .int .i64 0, .string ⟨#[]⟩] 45) (.cells #[.slice A L.length c, .bool false] 99)
  generalize hW : (w.alloc (.cells #[.int .i64 0, .int .i64 0, .int .i64 0, .int .i64 0, .int .i64 0, .int .i64 0, .string ⟨#[]⟩, .slice none 0 0, .string ⟨#[]⟩, .int .i64 0, .int .i64 0, .int .i64 0, .int .i64 0, .int .i64 0, .int .i64 0, .int .i64 0, .int .i64 0, .slice none 0 0, .slice none 0 0, .int .i64 0, .int .i64 0, .int .i64 0, .int .i64 0, .int .i64 0, .int .i64 0, .int .i64 0, .int .i64 0, .string ⟨#[]⟩] 45)).alloc (.cells #[.slice A L.length c, .bool false] 99) = W at *
  obtain ⟨H0, H1, HS, HF⟩ := h2
  clear hW
  have hbW : Below w.heap.size w W := HF.below
  have hR0 : RQ W (w.heap.size + 1) (some L) := ⟨A, c, L, false, H1, (HL.out.fr HF).mono (fun k hk => by omega), hc, by omega, (fun h => by cases h), (fun l h => by injection h with h; exact ⟨rfl, h.symm⟩)⟩
  have hWs : w.heap.size + 2 = W.heap.size := by omega
  have HRES0 := Lib.hid H0
  have HRQ0 := Lib.hid hR0
  clear H0 H1 HS HF hR0
  go_wp2_with fail
  refine (rint_r (w.heap.size + 1) (some L) W HRQ0.out).mono ?_
  rintro e W1 ⟨n, rfl, hnb, hv, hR1, hf1, h0⟩
  have hnk : n = 3 := (hv _ hd).symm
  subst hnk
  have HD := Lib.hid hd
  have HDE := Lib.hid (show decEv L = decF 3 l1 by simp [decEv, hd])
  have hR1 : RQ W1 (w.heap.size + 1) (some l1) := by
    have e : cInt.st (some L) = some l1 := by show Option.map (·.2) (decInt L) = some l1; rw [hd]; rfl
    rw [← e]; exact hR1
  clear hd
  have HRES1 := Lib.hid ((hf1.block w.heap.size ⟨by omega, by omega⟩).trans HRES0.out)
  have hb1 : Below w.heap.size w W1 := hbW.trans ((hf1.mono (fun i (hi : i < w.heap.size) => ⟨by omega, by omega⟩)).below)
  have h1s : W.heap.size ≤ W1.heap.size := hf1.size
  clear hv hf1 h0 HRES0 HRQ0 hbW
  go_upto_region 3 with (refine wpList_store_fresh2 rfl 45 (.tmp 5) (.tmp 11) rfl rfl W1 _ 45 #[.int .i64 3, .int .i64 0, .int .i64 0, .int .i64 0, .int .i64 0, .int .i64 0, .string ⟨#[]⟩, .slice none 0 0, .string ⟨#[]⟩, .int .i64 0, .int .i64 0, .int .i64 0, .int .i64 0, .int .i64 0, .int .i64 0, .int .i64 0, .int .i64 0, .slice none 0 0, .slice none 0 0, .int .i64 0, .int .i64 0, .int .i64 0, .int .i64 0, .int .i64 0, .int .i64 0, .int .i64 0, .int .i64 0, .string ⟨#[]⟩] rfl rfl info45 rfl (by simp only [List.all_toArray, List.all_cons, List.all_nil, Value.oneCell', Bool.and_true]) ?_; intro U S1 S2 S3; replace S1 := Lib.hid S1)
  have hbU := Lib.hid (Fr.trans (Fr.ofBelow hb1) ((Fr.ofBelow S2).mono (fun k (hk : k < w.heap.size) => by show k < W1.heap.size; omega)))
  have HRES := Lib.hid ((S2.block w.heap.size (by omega)).trans HRES1.out)
  have HRU := Lib.hid (hR1.fr (Fr.ofBelow S2) (fun k hk => by omega))
  obtain ⟨X, hX⟩ : ∃ X, W1.heap.size = X := ⟨_, rfl⟩
  have hXw : w.heap.size + 1 < X := by omega
  have hXU : X < U.heap.size := by omega
  have SX : Hid (U.heap[X]? = some (.cells #[.int .i64 3, .int .i64 0, .int .i64 0, .int .i64 0, .int .i64 0, .int .i64 0, .string ⟨#[]⟩, .slice none 0 0, .string ⟨#[]⟩, .int .i64 0, .int .i64 0, .int .i64 0, .int .i64 0, .int .i64 0, .int .i64 0, .int .i64 0, .int .i64 0, .slice none 0 0, .slice none 0 0, .int .i64 0, .int .i64 0, .int .i64 0, .int .i64 0, .int .i64 0, .int .i64 0, .int .i64 0, .int .i64 0, .string ⟨#[]⟩] 45 (0, 0))) := by rw [← hX]; exact S1
  rw [hX]
  clear hX S1 S2 S3 hb1 HRES1 hR1 h1s
  have c0 : U.cell? ⟨X, 0, none⟩ = some (.int .i64 3) := blk_cell SX.out 0
  go_wp2_with fail
  refine (Holding_rr (w.heap.size + 1) _ U HRU.out).mono ?_
  rintro e W2 ⟨ce, xe, rfl, hce, hve, hR2, hf2⟩
  have hlm := hce.len
  have HT2 := (hf2.block X ⟨hXU, by omega⟩).trans SX.out
  have HRES2 := (hf2.block w.heap.size ⟨by omega, by omega⟩).trans HRES.out
  have TH : W2.there X 12 ce.toArray.size := there_of_block HT2 _ _ (by simp [hlm])
  have HI2 := Lib.hid (show (Try.prog.info? 38).map (·.size) = some ce.toArray.size by rw [info38, List.size_toArray, hlm])
  have HONE1 := Lib.hid hce.one
  have fS := fr_setCells (b := X) ce 12 W2
  have G2 := heap_setCells ce 12 W2 _ HT2
  have hput : putAt [Value.int .i64 3, .int .i64 0, .int .i64 0, .int .i64 0, .int .i64 0, .int .i64 0, .string ⟨#[]⟩, .slice none 0 0, .string ⟨#[]⟩, .int .i64 0, .int .i64 0, .int .i64 0, .int .i64 0, .int .i64 0, .int .i64 0, .int .i64 0, .int .i64 0, .slice none 0 0, .slice none 0 0, .int .i64 0, .int .i64 0, .int .i64 0, .int .i64 0, .int .i64 0, .int .i64 0, .int .i64 0, .int .i64 0, .string ⟨#[]⟩] 12 ce = (evCells 3 zEntry zRate ce zMatch zStock 0 0 ⟨#[]⟩) := by
    have := putAt_head .nilFunc ([Value.int .i64 3] ++ zEntry ++ zRate) zHolding (zMatch ++ zStock ++ [Value.int .i64 0] ++ [Value.int .i64 0] ++ [Value.string ⟨#[]⟩]) ce 12 (by simp [zEntry, zRate, zHolding, zMatch, zStock]) (by rw [hlm]; rfl)
    simpa only [evCells, zEntry, zRate, zHolding, zMatch, zStock, List.append_assoc, List.cons_append, List.nil_append] using this
  rw [hput] at G2
  obtain ⟨V, hV⟩ : ∃ V, V = W2.setCells X 12 ce := ⟨_, rfl⟩
  have HCE := Lib.hid (hce.mono (Q' := fun i => X < i ∧ i < W2.heap.size) (fun i hi => ⟨by have := hi.1; omega, hi.2⟩))
  have HVV := Lib.hid (vl_mapF (f := fun a => { kind := 3, holding := a }) decF_3 hve)
  have HTH := Lib.hid TH
  have hRV0 := hR2.fr (Q := fun i => i ≠ X) fS (fun i hi => by show i ≠ X; omega)
  have hRV : RQ (W2.setCells X 12 ce) (w.heap.size + 1) (stF 3 (some l1)) := by rw [st_mapF (f := fun a => { kind := 3, holding := a }) decF_3]; exact hRV0
  have fV : Fr (· < w.heap.size) U (W2.setCells X 12 ce) := Fr.trans (hf2.mono (fun i (hi : i < w.heap.size) => ⟨by omega, by omega⟩)) (fS.mono (fun i (hi : i < w.heap.size) => by show i ≠ X; omega))
  have hCV : EventC (W2.setCells X 12 ce) (fun i => X < i ∧ i < W2.heap.size) (evCells 3 zEntry zRate ce zMatch zStock 0 0 ⟨#[]⟩) { kind := 3, holding := xe } := evC (by unfold intBd; omega) (zEntryC _ _) (zRateC _ _) (HoldingC.fr HCE.out (fS.mono (fun i hi => by show i ≠ X; have := hi.1; omega))) (zMatchC _ _) (zStockC _ _) bd0 bd0
  have HRESV := (fS.block w.heap.size (by show w.heap.size ≠ X; omega)).trans HRES2
  have hsz := fS.size
  have HSTORE := Lib.hid (And.intro TH (And.intro HI2.out HONE1.out))
  clear hlm hce hve hR2 hf2 HT2 hRV0 hput TH HRES2 c0
  go_upto_region 24 with (refine wpList_store_mid rfl 38 (.tmp 29) (.tmp 28) rfl X 12 ce.toArray rfl rfl HSTORE.out.1 HSTORE.out.2.1 HSTORE.out.2.2 ?_)
  (try simp only [List.toList_toArray])
  rw [← hV] at hCV fV hRV G2 HRESV hsz
  rw [← hV]
  clear hV HRES HSTORE HTH
  have HRES := Lib.hid HRESV
  have HT := Lib.hid G2
  have HC := Lib.hid (hCV.mono (Q' := fun i => w.heap.size + 1 < i ∧ i < V.heap.size) (fun i hi => ⟨by have := hi.1; omega, by have := hi.2; omega⟩))
  have HRV := Lib.hid hRV
  have hbV := Lib.hid (Fr.trans hbU.out fV)
  clear HRESV G2 hCV hRV fV fS HRU SX HCE hbU
  obtain ⟨A3, c3, L3, bad3, hG3, hrd3, hLc3, hLL3, hst3, hst4⟩ := HRV.out
  have d0 := blk_cell hG3 0
  have d1 := blk_cell hG3 1
  clear hG3 hrd3
  cases hs3 : stF 3 (some l1) with
  | none =>
    have hb := hst3 hs3
    subst hb
    have HN := Lib.hid (show rr = none by rw [HRR.out]; unfold parseEv; rw [HDE.out, stF_none hs3]; split <;> rfl)
    clear hs3 hst3 hst4
    go_wp2_with (refine wpList_store_row rfl 45 (.tmp 2) (.tmp 79) rfl w.heap.size zCells rfl rfl 45 _ HRES.out zsz rfl zone ?_)
    have hfr := fr_setRow V w.heap.size zCells
    (try simp only [Exit.inBlock, Exit.then])
    refine bodyPost_ret (v := .tuple #[.agg zCells, .int .i64 4]) (results_cell_tmp rfl _ _ w.heap.size 45 _ (0, 0) _ rfl (heap_setRow HRES.out _) Try.underlying45 rfl zsz _ rfl) rfl ⟨zEv 0, {}, 4, rfl, evC bd0 (zEntryC _ _) (zRateC _ _) (zHoldingC _ _) (zMatchC _ _) (zStockC _ _) bd0 bd0, (Fr.trans hbV.out (hfr.mono (fun i hi => by show i ≠ w.heap.size; have : i < w.heap.size := hi; omega))).below, .inr ⟨HN.out, rfl, rfl⟩⟩
  | some r =>
    obtain ⟨hb, hr⟩ := hst4 r hs3
    subst hb hr
    have HDF := Lib.hid (stF_some hs3 HVV.out)
    clear hs3 hst3 hst4
    obtain ⟨m, hm⟩ : ∃ m, r.length = m := ⟨_, rfl⟩
    rw [hm] at d0 d1
    by_cases hr0 : 0 < r.length
    · have hr0I : (0 : Int) < (m : Int) := by omega
      have HN := Lib.hid (show rr = none by
        rw [HRR.out]; unfold parseEv; rw [HDE.out, HDF.out]
        cases r with
        | nil => exact absurd hr0 (by simp)
        | cons a r => split <;> rfl)
      clear hr0 hm hLc3 hLL3
      go_wp2_with (refine wpList_store_row rfl 45 (.tmp 2) (.tmp 79) rfl w.heap.size zCells rfl rfl 45 _ HRES.out zsz rfl zone ?_)
      have hfr := fr_setRow V w.heap.size zCells
      (try simp only [Exit.inBlock, Exit.then])
      refine bodyPost_ret (v := .tuple #[.agg zCells, .int .i64 4]) (results_cell_tmp rfl _ _ w.heap.size 45 _ (0, 0) _ rfl (heap_setRow HRES.out _) Try.underlying45 rfl zsz _ rfl) rfl ⟨zEv 0, {}, 4, rfl, evC bd0 (zEntryC _ _) (zRateC _ _) (zHoldingC _ _) (zMatchC _ _) (zStockC _ _) bd0 bd0, (Fr.trans hbV.out (hfr.mono (fun i hi => by show i ≠ w.heap.size; have : i < w.heap.size := hi; omega))).below, .inr ⟨HN.out, rfl, rfl⟩⟩
    · have hr0I : ¬ (0 : Int) < (m : Int) := by omega
      have hre : r = [] := by
        cases r with
        | nil => rfl
        | cons a r => exact absurd (Nat.zero_lt_succ _) hr0
      have HRE := Lib.hid hre
      clear hr0 hre hm hLc3 hLL3
      by_cases hbig : 65536 < L.length
      · have hbigI : (65536 : Int) < (L.length : Int) := by omega
        have HN := Lib.hid (show rr = none by rw [HRR.out]; unfold parseEv; rw [if_pos hbig])
        clear hbig
        go_wp2_with (refine wpList_store_row rfl 45 (.tmp 2) (.tmp 79) rfl w.heap.size zCells rfl rfl 45 _ HRES.out zsz rfl zone ?_)
        have hfr := fr_setRow V w.heap.size zCells
        (try simp only [Exit.inBlock, Exit.then])
        refine bodyPost_ret (v := .tuple #[.agg zCells, .int .i64 4]) (results_cell_tmp rfl _ _ w.heap.size 45 _ (0, 0) _ rfl (heap_setRow HRES.out _) Try.underlying45 rfl zsz _ rfl) rfl ⟨zEv 0, {}, 4, rfl, evC bd0 (zEntryC _ _) (zRateC _ _) (zHoldingC _ _) (zMatchC _ _) (zStockC _ _) bd0 bd0, (Fr.trans hbV.out (hfr.mono (fun i hi => by show i ≠ w.heap.size; have : i < w.heap.size := hi; omega))).below, .inr ⟨HN.out, rfl, rfl⟩⟩
      · have hbigI : ¬ (65536 : Int) < (L.length : Int) := by omega
        have HY := Lib.hid (show rr = some { kind := 3, holding := xe } by rw [HRR.out]; unfold parseEv; rw [if_neg hbig, HDE.out, HDF.out, HRE.out])
        have HCS := Lib.hid (size45 HC.out.len)
        have HSZ := Lib.hid (zsize HC.out)
        have HONE := Lib.hid HC.out.one
        clear hbig
        go_wp2_with (first | refine wpList_load_row rfl 45 (.tmp 5) rfl X rfl 45 (evCells 3 zEntry zRate ce zMatch zStock 0 0 ⟨#[]⟩).toArray (0, 0) _ HT.out Try.underlying45 rfl HCS.out ?_ | refine wpList_store_row rfl 45 (.tmp 2) (.tmp 80) rfl w.heap.size (evCells 3 zEntry zRate ce zMatch zStock 0 0 ⟨#[]⟩).toArray rfl rfl 45 _ HRES.out HCS.out HSZ.out HONE.out ?_)
        have hfr := fr_setRow V w.heap.size (evCells 3 zEntry zRate ce zMatch zStock 0 0 ⟨#[]⟩).toArray
        (try simp only [Exit.inBlock, Exit.then])
        refine bodyPost_ret (v := .tuple #[.agg (evCells 3 zEntry zRate ce zMatch zStock 0 0 ⟨#[]⟩).toArray, .int .i64 0]) (results_cell_tmp rfl _ _ w.heap.size 45 _ (0, 0) _ rfl (heap_setRow HRES.out _) Try.underlying45 rfl HCS.out _ rfl) rfl ⟨(evCells 3 zEntry zRate ce zMatch zStock 0 0 ⟨#[]⟩), { kind := 3, holding := xe }, 0, rfl, ?_, (Fr.trans hbV.out (hfr.mono (fun i hi => by show i ≠ w.heap.size; have : i < w.heap.size := hi; omega))).below, .inl ⟨_, HY.out, rfl, rfl⟩⟩
        exact EventC.mono (EventC.fr HC.out (hfr.mono (fun i hi => by have := hi.1; omega))) (fun i hi => ⟨by have := hi.1; omega, by have := hi.2; have := hfr.size; omega⟩)
set_option maxHeartbeats 2000000 in
set_option maxRecDepth 100000 in
theorem rParse_4 (A : Option Addr) (c : Nat) (L : List UInt8) (w : World) (h : Rd w (· < w.heap.size) A L.length 1 (bv L)) (hc : L.length ≤ c) (hl : L.length ≤ 1000000) (l1 : List UInt8) (hd : decInt L = some (4, l1)) :
    Calls Try.prog 24 #[.slice A L.length c] w (PPost EventC {} w (parseEv L)) := by
  have HL := Lib.hid h
  obtain ⟨rr, hrr⟩ : ∃ rr, rr = parseEv L := ⟨_, rfl⟩
  rw [← hrr]
  have HRR := Lib.hid hrr
  clear h hrr
  go_enter Try.func24, Try.ntmps24
  go_upto_region 2 with fail
  have h2 := heap2 w (.cells #[.int .i64 0, .int .i64 0, .int .i64 0, .int .i64 0, .int .i64 0, .int .i64 0, .string ⟨#[]⟩, .slice none 0 0, .string ⟨#[]⟩, .int .i64 0, .int .i64 0, .int .i64 0, .int .i64 0, .int .i64 0, .int .i64 0, .int .i64 0, .int .i64 0, .slice none 0 0, .slice none 0 0, .int .i64 0, .int .i64 0, .int .i64 0, .int .i64 0, .int .i64 0, .int .i64 0, .int .i64 0, .int .i64 0, .string ⟨#[]⟩] 45) (.cells #[.slice A L.length c, .bool false] 99)
  generalize hW : (w.alloc (.cells #[.int .i64 0, .int .i64 0, .int .i64 0, .int .i64 0, .int .i64 0, .int .i64 0, .string ⟨#[]⟩, .slice none 0 0, .string ⟨#[]⟩, .int .i64 0, .int .i64 0, .int .i64 0, .int .i64 0, .int .i64 0, .int .i64 0, .int .i64 0, .int .i64 0, .slice none 0 0, .slice none 0 0, .int .i64 0, .int .i64 0, .int .i64 0, .int .i64 0, .int .i64 0, .int .i64 0, .int .i64 0, .int .i64 0, .string ⟨#[]⟩] 45)).alloc (.cells #[.slice A L.length c, .bool false] 99) = W at *
  obtain ⟨H0, H1, HS, HF⟩ := h2
  clear hW
  have hbW : Below w.heap.size w W := HF.below
  have hR0 : RQ W (w.heap.size + 1) (some L) := ⟨A, c, L, false, H1, (HL.out.fr HF).mono (fun k hk => by omega), hc, by omega, (fun h => by cases h), (fun l h => by injection h with h; exact ⟨rfl, h.symm⟩)⟩
  have hWs : w.heap.size + 2 = W.heap.size := by omega
  have HRES0 := Lib.hid H0
  have HRQ0 := Lib.hid hR0
  clear H0 H1 HS HF hR0
  go_wp2_with fail
  refine (rint_r (w.heap.size + 1) (some L) W HRQ0.out).mono ?_
  rintro e W1 ⟨n, rfl, hnb, hv, hR1, hf1, h0⟩
  have hnk : n = 4 := (hv _ hd).symm
  subst hnk
  have HD := Lib.hid hd
  have HDE := Lib.hid (show decEv L = decF 4 l1 by simp [decEv, hd])
  have hR1 : RQ W1 (w.heap.size + 1) (some l1) := by
    have e : cInt.st (some L) = some l1 := by show Option.map (·.2) (decInt L) = some l1; rw [hd]; rfl
    rw [← e]; exact hR1
  clear hd
  have HRES1 := Lib.hid ((hf1.block w.heap.size ⟨by omega, by omega⟩).trans HRES0.out)
  have hb1 : Below w.heap.size w W1 := hbW.trans ((hf1.mono (fun i (hi : i < w.heap.size) => ⟨by omega, by omega⟩)).below)
  have h1s : W.heap.size ≤ W1.heap.size := hf1.size
  clear hv hf1 h0 HRES0 HRQ0 hbW
  go_upto_region 3 with (refine wpList_store_fresh2 rfl 45 (.tmp 5) (.tmp 11) rfl rfl W1 _ 45 #[.int .i64 4, .int .i64 0, .int .i64 0, .int .i64 0, .int .i64 0, .int .i64 0, .string ⟨#[]⟩, .slice none 0 0, .string ⟨#[]⟩, .int .i64 0, .int .i64 0, .int .i64 0, .int .i64 0, .int .i64 0, .int .i64 0, .int .i64 0, .int .i64 0, .slice none 0 0, .slice none 0 0, .int .i64 0, .int .i64 0, .int .i64 0, .int .i64 0, .int .i64 0, .int .i64 0, .int .i64 0, .int .i64 0, .string ⟨#[]⟩] rfl rfl info45 rfl (by simp only [List.all_toArray, List.all_cons, List.all_nil, Value.oneCell', Bool.and_true]) ?_; intro U S1 S2 S3; replace S1 := Lib.hid S1)
  have hbU := Lib.hid (Fr.trans (Fr.ofBelow hb1) ((Fr.ofBelow S2).mono (fun k (hk : k < w.heap.size) => by show k < W1.heap.size; omega)))
  have HRES := Lib.hid ((S2.block w.heap.size (by omega)).trans HRES1.out)
  have HRU := Lib.hid (hR1.fr (Fr.ofBelow S2) (fun k hk => by omega))
  obtain ⟨X, hX⟩ : ∃ X, W1.heap.size = X := ⟨_, rfl⟩
  have hXw : w.heap.size + 1 < X := by omega
  have hXU : X < U.heap.size := by omega
  have SX : Hid (U.heap[X]? = some (.cells #[.int .i64 4, .int .i64 0, .int .i64 0, .int .i64 0, .int .i64 0, .int .i64 0, .string ⟨#[]⟩, .slice none 0 0, .string ⟨#[]⟩, .int .i64 0, .int .i64 0, .int .i64 0, .int .i64 0, .int .i64 0, .int .i64 0, .int .i64 0, .int .i64 0, .slice none 0 0, .slice none 0 0, .int .i64 0, .int .i64 0, .int .i64 0, .int .i64 0, .int .i64 0, .int .i64 0, .int .i64 0, .int .i64 0, .string ⟨#[]⟩] 45 (0, 0))) := by rw [← hX]; exact S1
  rw [hX]
  clear hX S1 S2 S3 hb1 HRES1 hR1 h1s
  have c0 : U.cell? ⟨X, 0, none⟩ = some (.int .i64 4) := blk_cell SX.out 0
  go_wp2_with fail
  refine (Match_rr (w.heap.size + 1) _ U HRU.out).mono ?_
  rintro e W2 ⟨ce, xe, rfl, hce, hve, hR2, hf2⟩
  have hlm := hce.len
  have HT2 := (hf2.block X ⟨hXU, by omega⟩).trans SX.out
  have HRES2 := (hf2.block w.heap.size ⟨by omega, by omega⟩).trans HRES.out
  have TH : W2.there X 16 ce.toArray.size := there_of_block HT2 _ _ (by simp [hlm])
  have HI2 := Lib.hid (show (Try.prog.info? 41).map (·.size) = some ce.toArray.size by rw [info41, List.size_toArray, hlm])
  have HONE1 := Lib.hid hce.one
  have fS := fr_setCells (b := X) ce 16 W2
  have G2 := heap_setCells ce 16 W2 _ HT2
  have hput : putAt [Value.int .i64 4, .int .i64 0, .int .i64 0, .int .i64 0, .int .i64 0, .int .i64 0, .string ⟨#[]⟩, .slice none 0 0, .string ⟨#[]⟩, .int .i64 0, .int .i64 0, .int .i64 0, .int .i64 0, .int .i64 0, .int .i64 0, .int .i64 0, .int .i64 0, .slice none 0 0, .slice none 0 0, .int .i64 0, .int .i64 0, .int .i64 0, .int .i64 0, .int .i64 0, .int .i64 0, .int .i64 0, .int .i64 0, .string ⟨#[]⟩] 16 ce = (evCells 4 zEntry zRate zHolding ce zStock 0 0 ⟨#[]⟩) := by
    have := putAt_head .nilFunc ([Value.int .i64 4] ++ zEntry ++ zRate ++ zHolding) zMatch (zStock ++ [Value.int .i64 0] ++ [Value.int .i64 0] ++ [Value.string ⟨#[]⟩]) ce 16 (by simp [zEntry, zRate, zHolding, zMatch, zStock]) (by rw [hlm]; rfl)
    simpa only [evCells, zEntry, zRate, zHolding, zMatch, zStock, List.append_assoc, List.cons_append, List.nil_append] using this
  rw [hput] at G2
  obtain ⟨V, hV⟩ : ∃ V, V = W2.setCells X 16 ce := ⟨_, rfl⟩
  have HCE := Lib.hid (hce.mono (Q' := fun i => X < i ∧ i < W2.heap.size) (fun i hi => ⟨by have := hi.1; omega, hi.2⟩))
  have HVV := Lib.hid (vl_mapF (f := fun a => { kind := 4, match_ := a }) decF_4 hve)
  have HTH := Lib.hid TH
  have hRV0 := hR2.fr (Q := fun i => i ≠ X) fS (fun i hi => by show i ≠ X; omega)
  have hRV : RQ (W2.setCells X 16 ce) (w.heap.size + 1) (stF 4 (some l1)) := by rw [st_mapF (f := fun a => { kind := 4, match_ := a }) decF_4]; exact hRV0
  have fV : Fr (· < w.heap.size) U (W2.setCells X 16 ce) := Fr.trans (hf2.mono (fun i (hi : i < w.heap.size) => ⟨by omega, by omega⟩)) (fS.mono (fun i (hi : i < w.heap.size) => by show i ≠ X; omega))
  have hCV : EventC (W2.setCells X 16 ce) (fun i => X < i ∧ i < W2.heap.size) (evCells 4 zEntry zRate zHolding ce zStock 0 0 ⟨#[]⟩) { kind := 4, match_ := xe } := evC (by unfold intBd; omega) (zEntryC _ _) (zRateC _ _) (zHoldingC _ _) (MatchC.fr HCE.out (fS.mono (fun i hi => by show i ≠ X; have := hi.1; omega))) (zStockC _ _) bd0 bd0
  have HRESV := (fS.block w.heap.size (by show w.heap.size ≠ X; omega)).trans HRES2
  have hsz := fS.size
  have HSTORE := Lib.hid (And.intro TH (And.intro HI2.out HONE1.out))
  clear hlm hce hve hR2 hf2 HT2 hRV0 hput TH HRES2 c0
  go_upto_region 24 with (refine wpList_store_mid rfl 41 (.tmp 34) (.tmp 33) rfl X 16 ce.toArray rfl rfl HSTORE.out.1 HSTORE.out.2.1 HSTORE.out.2.2 ?_)
  (try simp only [List.toList_toArray])
  rw [← hV] at hCV fV hRV G2 HRESV hsz
  rw [← hV]
  clear hV HRES HSTORE HTH
  have HRES := Lib.hid HRESV
  have HT := Lib.hid G2
  have HC := Lib.hid (hCV.mono (Q' := fun i => w.heap.size + 1 < i ∧ i < V.heap.size) (fun i hi => ⟨by have := hi.1; omega, by have := hi.2; omega⟩))
  have HRV := Lib.hid hRV
  have hbV := Lib.hid (Fr.trans hbU.out fV)
  clear HRESV G2 hCV hRV fV fS HRU SX HCE hbU
  obtain ⟨A3, c3, L3, bad3, hG3, hrd3, hLc3, hLL3, hst3, hst4⟩ := HRV.out
  have d0 := blk_cell hG3 0
  have d1 := blk_cell hG3 1
  clear hG3 hrd3
  cases hs3 : stF 4 (some l1) with
  | none =>
    have hb := hst3 hs3
    subst hb
    have HN := Lib.hid (show rr = none by rw [HRR.out]; unfold parseEv; rw [HDE.out, stF_none hs3]; split <;> rfl)
    clear hs3 hst3 hst4
    go_wp2_with (refine wpList_store_row rfl 45 (.tmp 2) (.tmp 79) rfl w.heap.size zCells rfl rfl 45 _ HRES.out zsz rfl zone ?_)
    have hfr := fr_setRow V w.heap.size zCells
    (try simp only [Exit.inBlock, Exit.then])
    refine bodyPost_ret (v := .tuple #[.agg zCells, .int .i64 4]) (results_cell_tmp rfl _ _ w.heap.size 45 _ (0, 0) _ rfl (heap_setRow HRES.out _) Try.underlying45 rfl zsz _ rfl) rfl ⟨zEv 0, {}, 4, rfl, evC bd0 (zEntryC _ _) (zRateC _ _) (zHoldingC _ _) (zMatchC _ _) (zStockC _ _) bd0 bd0, (Fr.trans hbV.out (hfr.mono (fun i hi => by show i ≠ w.heap.size; have : i < w.heap.size := hi; omega))).below, .inr ⟨HN.out, rfl, rfl⟩⟩
  | some r =>
    obtain ⟨hb, hr⟩ := hst4 r hs3
    subst hb hr
    have HDF := Lib.hid (stF_some hs3 HVV.out)
    clear hs3 hst3 hst4
    obtain ⟨m, hm⟩ : ∃ m, r.length = m := ⟨_, rfl⟩
    rw [hm] at d0 d1
    by_cases hr0 : 0 < r.length
    · have hr0I : (0 : Int) < (m : Int) := by omega
      have HN := Lib.hid (show rr = none by
        rw [HRR.out]; unfold parseEv; rw [HDE.out, HDF.out]
        cases r with
        | nil => exact absurd hr0 (by simp)
        | cons a r => split <;> rfl)
      clear hr0 hm hLc3 hLL3
      go_wp2_with (refine wpList_store_row rfl 45 (.tmp 2) (.tmp 79) rfl w.heap.size zCells rfl rfl 45 _ HRES.out zsz rfl zone ?_)
      have hfr := fr_setRow V w.heap.size zCells
      (try simp only [Exit.inBlock, Exit.then])
      refine bodyPost_ret (v := .tuple #[.agg zCells, .int .i64 4]) (results_cell_tmp rfl _ _ w.heap.size 45 _ (0, 0) _ rfl (heap_setRow HRES.out _) Try.underlying45 rfl zsz _ rfl) rfl ⟨zEv 0, {}, 4, rfl, evC bd0 (zEntryC _ _) (zRateC _ _) (zHoldingC _ _) (zMatchC _ _) (zStockC _ _) bd0 bd0, (Fr.trans hbV.out (hfr.mono (fun i hi => by show i ≠ w.heap.size; have : i < w.heap.size := hi; omega))).below, .inr ⟨HN.out, rfl, rfl⟩⟩
    · have hr0I : ¬ (0 : Int) < (m : Int) := by omega
      have hre : r = [] := by
        cases r with
        | nil => rfl
        | cons a r => exact absurd (Nat.zero_lt_succ _) hr0
      have HRE := Lib.hid hre
      clear hr0 hre hm hLc3 hLL3
      by_cases hbig : 65536 < L.length
      · have hbigI : (65536 : Int) < (L.length : Int) := by omega
        have HN := Lib.hid (show rr = none by rw [HRR.out]; unfold parseEv; rw [if_pos hbig])
        clear hbig
        go_wp2_with (refine wpList_store_row rfl 45 (.tmp 2) (.tmp 79) rfl w.heap.size zCells rfl rfl 45 _ HRES.out zsz rfl zone ?_)
        have hfr := fr_setRow V w.heap.size zCells
        (try simp only [Exit.inBlock, Exit.then])
        refine bodyPost_ret (v := .tuple #[.agg zCells, .int .i64 4]) (results_cell_tmp rfl _ _ w.heap.size 45 _ (0, 0) _ rfl (heap_setRow HRES.out _) Try.underlying45 rfl zsz _ rfl) rfl ⟨zEv 0, {}, 4, rfl, evC bd0 (zEntryC _ _) (zRateC _ _) (zHoldingC _ _) (zMatchC _ _) (zStockC _ _) bd0 bd0, (Fr.trans hbV.out (hfr.mono (fun i hi => by show i ≠ w.heap.size; have : i < w.heap.size := hi; omega))).below, .inr ⟨HN.out, rfl, rfl⟩⟩
      · have hbigI : ¬ (65536 : Int) < (L.length : Int) := by omega
        have HY := Lib.hid (show rr = some { kind := 4, match_ := xe } by rw [HRR.out]; unfold parseEv; rw [if_neg hbig, HDE.out, HDF.out, HRE.out])
        have HCS := Lib.hid (size45 HC.out.len)
        have HSZ := Lib.hid (zsize HC.out)
        have HONE := Lib.hid HC.out.one
        clear hbig
        go_wp2_with (first | refine wpList_load_row rfl 45 (.tmp 5) rfl X rfl 45 (evCells 4 zEntry zRate zHolding ce zStock 0 0 ⟨#[]⟩).toArray (0, 0) _ HT.out Try.underlying45 rfl HCS.out ?_ | refine wpList_store_row rfl 45 (.tmp 2) (.tmp 80) rfl w.heap.size (evCells 4 zEntry zRate zHolding ce zStock 0 0 ⟨#[]⟩).toArray rfl rfl 45 _ HRES.out HCS.out HSZ.out HONE.out ?_)
        have hfr := fr_setRow V w.heap.size (evCells 4 zEntry zRate zHolding ce zStock 0 0 ⟨#[]⟩).toArray
        (try simp only [Exit.inBlock, Exit.then])
        refine bodyPost_ret (v := .tuple #[.agg (evCells 4 zEntry zRate zHolding ce zStock 0 0 ⟨#[]⟩).toArray, .int .i64 0]) (results_cell_tmp rfl _ _ w.heap.size 45 _ (0, 0) _ rfl (heap_setRow HRES.out _) Try.underlying45 rfl HCS.out _ rfl) rfl ⟨(evCells 4 zEntry zRate zHolding ce zStock 0 0 ⟨#[]⟩), { kind := 4, match_ := xe }, 0, rfl, ?_, (Fr.trans hbV.out (hfr.mono (fun i hi => by show i ≠ w.heap.size; have : i < w.heap.size := hi; omega))).below, .inl ⟨_, HY.out, rfl, rfl⟩⟩
        exact EventC.mono (EventC.fr HC.out (hfr.mono (fun i hi => by have := hi.1; omega))) (fun i hi => ⟨by have := hi.1; omega, by have := hi.2; have := hfr.size; omega⟩)
set_option maxHeartbeats 2000000 in
set_option maxRecDepth 100000 in
theorem rParse_5 (A : Option Addr) (c : Nat) (L : List UInt8) (w : World) (h : Rd w (· < w.heap.size) A L.length 1 (bv L)) (hc : L.length ≤ c) (hl : L.length ≤ 1000000) (l1 : List UInt8) (hd : decInt L = some (5, l1)) :
    Calls Try.prog 24 #[.slice A L.length c] w (PPost EventC {} w (parseEv L)) := by
  have HL := Lib.hid h
  obtain ⟨rr, hrr⟩ : ∃ rr, rr = parseEv L := ⟨_, rfl⟩
  rw [← hrr]
  have HRR := Lib.hid hrr
  clear h hrr
  go_enter Try.func24, Try.ntmps24
  go_upto_region 2 with fail
  have h2 := heap2 w (.cells #[.int .i64 0, .int .i64 0, .int .i64 0, .int .i64 0, .int .i64 0, .int .i64 0, .string ⟨#[]⟩, .slice none 0 0, .string ⟨#[]⟩, .int .i64 0, .int .i64 0, .int .i64 0, .int .i64 0, .int .i64 0, .int .i64 0, .int .i64 0, .int .i64 0, .slice none 0 0, .slice none 0 0, .int .i64 0, .int .i64 0, .int .i64 0, .int .i64 0, .int .i64 0, .int .i64 0, .int .i64 0, .int .i64 0, .string ⟨#[]⟩] 45) (.cells #[.slice A L.length c, .bool false] 99)
  generalize hW : (w.alloc (.cells #[.int .i64 0, .int .i64 0, .int .i64 0, .int .i64 0, .int .i64 0, .int .i64 0, .string ⟨#[]⟩, .slice none 0 0, .string ⟨#[]⟩, .int .i64 0, .int .i64 0, .int .i64 0, .int .i64 0, .int .i64 0, .int .i64 0, .int .i64 0, .int .i64 0, .slice none 0 0, .slice none 0 0, .int .i64 0, .int .i64 0, .int .i64 0, .int .i64 0, .int .i64 0, .int .i64 0, .int .i64 0, .int .i64 0, .string ⟨#[]⟩] 45)).alloc (.cells #[.slice A L.length c, .bool false] 99) = W at *
  obtain ⟨H0, H1, HS, HF⟩ := h2
  clear hW
  have hbW : Below w.heap.size w W := HF.below
  have hR0 : RQ W (w.heap.size + 1) (some L) := ⟨A, c, L, false, H1, (HL.out.fr HF).mono (fun k hk => by omega), hc, by omega, (fun h => by cases h), (fun l h => by injection h with h; exact ⟨rfl, h.symm⟩)⟩
  have hWs : w.heap.size + 2 = W.heap.size := by omega
  have HRES0 := Lib.hid H0
  have HRQ0 := Lib.hid hR0
  clear H0 H1 HS HF hR0
  go_wp2_with fail
  refine (rint_r (w.heap.size + 1) (some L) W HRQ0.out).mono ?_
  rintro e W1 ⟨n, rfl, hnb, hv, hR1, hf1, h0⟩
  have hnk : n = 5 := (hv _ hd).symm
  subst hnk
  have HD := Lib.hid hd
  have HDE := Lib.hid (show decEv L = decF 5 l1 by simp [decEv, hd])
  have hR1 : RQ W1 (w.heap.size + 1) (some l1) := by
    have e : cInt.st (some L) = some l1 := by show Option.map (·.2) (decInt L) = some l1; rw [hd]; rfl
    rw [← e]; exact hR1
  clear hd
  have HRES1 := Lib.hid ((hf1.block w.heap.size ⟨by omega, by omega⟩).trans HRES0.out)
  have hb1 : Below w.heap.size w W1 := hbW.trans ((hf1.mono (fun i (hi : i < w.heap.size) => ⟨by omega, by omega⟩)).below)
  have h1s : W.heap.size ≤ W1.heap.size := hf1.size
  clear hv hf1 h0 HRES0 HRQ0 hbW
  go_upto_region 3 with (refine wpList_store_fresh2 rfl 45 (.tmp 5) (.tmp 11) rfl rfl W1 _ 45 #[.int .i64 5, .int .i64 0, .int .i64 0, .int .i64 0, .int .i64 0, .int .i64 0, .string ⟨#[]⟩, .slice none 0 0, .string ⟨#[]⟩, .int .i64 0, .int .i64 0, .int .i64 0, .int .i64 0, .int .i64 0, .int .i64 0, .int .i64 0, .int .i64 0, .slice none 0 0, .slice none 0 0, .int .i64 0, .int .i64 0, .int .i64 0, .int .i64 0, .int .i64 0, .int .i64 0, .int .i64 0, .int .i64 0, .string ⟨#[]⟩] rfl rfl info45 rfl (by simp only [List.all_toArray, List.all_cons, List.all_nil, Value.oneCell', Bool.and_true]) ?_; intro U S1 S2 S3; replace S1 := Lib.hid S1)
  have hbU := Lib.hid (Fr.trans (Fr.ofBelow hb1) ((Fr.ofBelow S2).mono (fun k (hk : k < w.heap.size) => by show k < W1.heap.size; omega)))
  have HRES := Lib.hid ((S2.block w.heap.size (by omega)).trans HRES1.out)
  have HRU := Lib.hid (hR1.fr (Fr.ofBelow S2) (fun k hk => by omega))
  obtain ⟨X, hX⟩ : ∃ X, W1.heap.size = X := ⟨_, rfl⟩
  have hXw : w.heap.size + 1 < X := by omega
  have hXU : X < U.heap.size := by omega
  have SX : Hid (U.heap[X]? = some (.cells #[.int .i64 5, .int .i64 0, .int .i64 0, .int .i64 0, .int .i64 0, .int .i64 0, .string ⟨#[]⟩, .slice none 0 0, .string ⟨#[]⟩, .int .i64 0, .int .i64 0, .int .i64 0, .int .i64 0, .int .i64 0, .int .i64 0, .int .i64 0, .int .i64 0, .slice none 0 0, .slice none 0 0, .int .i64 0, .int .i64 0, .int .i64 0, .int .i64 0, .int .i64 0, .int .i64 0, .int .i64 0, .int .i64 0, .string ⟨#[]⟩] 45 (0, 0))) := by rw [← hX]; exact S1
  rw [hX]
  clear hX S1 S2 S3 hb1 HRES1 hR1 h1s
  have c0 : U.cell? ⟨X, 0, none⟩ = some (.int .i64 5) := blk_cell SX.out 0
  go_wp2_with fail
  refine (rint_r (w.heap.size + 1) _ U HRU.out).mono ?_
  rintro e Wa ⟨a, rfl, hba, hva, hRa, hfa, -⟩
  have HTa := Lib.hid ((hfa.block X ⟨hXU, by omega⟩).trans SX.out)
  have HRESa := Lib.hid ((hfa.block w.heap.size ⟨by omega, by omega⟩).trans HRES.out)
  have HVa := Lib.hid hva
  have HRa := Lib.hid hRa
  have hza := hfa.size
  have hbA := Lib.hid (Fr.trans hbU.out (hfa.mono (fun i (hi : i < w.heap.size) => ⟨by omega, by omega⟩)))
  clear hva hRa hfa c0 hbU HRES SX HRU
  go_wp2_with fail
  refine (rint_r (w.heap.size + 1) _ Wa HRa.out).mono ?_
  rintro e Wb ⟨b, rfl, hbb, hvb, hRb, hfb, -⟩
  have HTb := (hfb.block X ⟨by omega, by omega⟩).trans HTa.out
  have HRESb := (hfb.block w.heap.size ⟨by omega, by omega⟩).trans HRESa.out
  have HVb := Lib.hid hvb
  have hzb := hfb.size
  have hbB := Fr.trans hbA.out (hfb.mono (fun i (hi : i < w.heap.size) => ⟨by omega, by omega⟩))
  have c25 : Wb.cell? ⟨X, 25, none⟩ = some (.int .i64 0) := blk_cell HTb 25
  have z25 : Wb.frozen? ⟨X, 25, none⟩ = false := blk_frozen HTb 25
  have c26 : Wb.cell? ⟨X, 26, none⟩ = some (.int .i64 0) := blk_cell HTb 26
  have z26 : Wb.frozen? ⟨X, 26, none⟩ = false := blk_frozen HTb 26
  have c00 : Wb.cell? ⟨X, 0, none⟩ = some (.int .i64 5) := blk_cell HTb 0
  have fS : Fr (fun i => i ≠ X) Wb ((Wb.setCell ⟨X, 25, none⟩ (.int .i64 a)).setCell ⟨X, 26, none⟩ (.int .i64 b)) := Fr.setCell (p := ⟨X, 26, none⟩) (Fr.setCell (p := ⟨X, 25, none⟩) (Fr.refl _ Wb) (fun h => h rfl) _) (fun h => h rfl) _
  have G2 : ((Wb.setCell ⟨X, 25, none⟩ (.int .i64 a)).setCell ⟨X, 26, none⟩ (.int .i64 b)).heap[X]? = some (.cells (evCells 5 zEntry zRate zHolding zMatch zStock a b ⟨#[]⟩).toArray 45 (0, 0)) := heap_setCell_same (heap_setCell_same HTb 25 _) 26 _
  have hRV0 := hRb.fr (Q := fun i => i ≠ X) fS (fun i hi => by show i ≠ X; omega)
  have fV : Fr (· < w.heap.size) w ((Wb.setCell ⟨X, 25, none⟩ (.int .i64 a)).setCell ⟨X, 26, none⟩ (.int .i64 b)) := Fr.trans hbB (fS.mono (fun i (hi : i < w.heap.size) => by show i ≠ X; omega))
  have HRESV := (fS.block w.heap.size (by show w.heap.size ≠ X; omega)).trans HRESb
  obtain ⟨V, hV⟩ : ∃ V, V = (Wb.setCell ⟨X, 25, none⟩ (.int .i64 a)).setCell ⟨X, 26, none⟩ (.int .i64 b) := ⟨_, rfl⟩
  have hsz := fS.size
  have HHTb := Lib.hid HTb
  have HHRESb := Lib.hid HRESb
  clear hvb hRb hfb HTb HRESb hbA HTa HRESa HRa
  go_upto_region 24 with fail
  rw [← hV] at fV hRV0 G2 HRESV hsz
  rw [← hV]
  clear hV fS
  have HRES := Lib.hid HRESV
  have HT := Lib.hid G2
  have HC := Lib.hid (show EventC V (fun i => w.heap.size + 1 < i ∧ i < V.heap.size) (evCells 5 zEntry zRate zHolding zMatch zStock a b ⟨#[]⟩) { kind := 5, a := a, b := b } from evC (k := 5) (a := a) (b := b) (s := ⟨#[]⟩) (by unfold intBd; omega) (zEntryC _ _) (zRateC _ _) (zHoldingC _ _) (zMatchC _ _) (zStockC _ _) hba hbb)
  have HVV := Lib.hid (vl_mapF (c := cAB) (f := fun a => { kind := 5, a := a.1, b := a.2 }) decF_5 (Cod.vl_pair HVa.out HVb.out))
  have HRV : Hid (RQ V (w.heap.size + 1) (stF 5 (some l1))) := Lib.hid (by rw [st_mapF (c := cAB) (f := fun a => { kind := 5, a := a.1, b := a.2 }) decF_5, show cAB.st (some l1) = cInt.st (cInt.st (some l1)) from Cod.st_pair _ _ _]; exact hRV0)
  have hbV := Lib.hid fV
  clear HRESV G2 hRV0 fV c25 c26 z25 z26 c00 HHTb HHRESb
  obtain ⟨A3, c3, L3, bad3, hG3, hrd3, hLc3, hLL3, hst3, hst4⟩ := HRV.out
  have d0 := blk_cell hG3 0
  have d1 := blk_cell hG3 1
  clear hG3 hrd3
  cases hs3 : stF 5 (some l1) with
  | none =>
    have hb := hst3 hs3
    subst hb
    have HN := Lib.hid (show rr = none by rw [HRR.out]; unfold parseEv; rw [HDE.out, stF_none hs3]; split <;> rfl)
    clear hs3 hst3 hst4
    go_wp2_with (refine wpList_store_row rfl 45 (.tmp 2) (.tmp 79) rfl w.heap.size zCells rfl rfl 45 _ HRES.out zsz rfl zone ?_)
    have hfr := fr_setRow V w.heap.size zCells
    (try simp only [Exit.inBlock, Exit.then])
    refine bodyPost_ret (v := .tuple #[.agg zCells, .int .i64 4]) (results_cell_tmp rfl _ _ w.heap.size 45 _ (0, 0) _ rfl (heap_setRow HRES.out _) Try.underlying45 rfl zsz _ rfl) rfl ⟨zEv 0, {}, 4, rfl, evC bd0 (zEntryC _ _) (zRateC _ _) (zHoldingC _ _) (zMatchC _ _) (zStockC _ _) bd0 bd0, (Fr.trans hbV.out (hfr.mono (fun i hi => by show i ≠ w.heap.size; have : i < w.heap.size := hi; omega))).below, .inr ⟨HN.out, rfl, rfl⟩⟩
  | some r =>
    obtain ⟨hb, hr⟩ := hst4 r hs3
    subst hb hr
    have HDF := Lib.hid (stF_some hs3 HVV.out)
    clear hs3 hst3 hst4
    obtain ⟨m, hm⟩ : ∃ m, r.length = m := ⟨_, rfl⟩
    rw [hm] at d0 d1
    by_cases hr0 : 0 < r.length
    · have hr0I : (0 : Int) < (m : Int) := by omega
      have HN := Lib.hid (show rr = none by
        rw [HRR.out]; unfold parseEv; rw [HDE.out, HDF.out]
        cases r with
        | nil => exact absurd hr0 (by simp)
        | cons a r => split <;> rfl)
      clear hr0 hm hLc3 hLL3
      go_wp2_with (refine wpList_store_row rfl 45 (.tmp 2) (.tmp 79) rfl w.heap.size zCells rfl rfl 45 _ HRES.out zsz rfl zone ?_)
      have hfr := fr_setRow V w.heap.size zCells
      (try simp only [Exit.inBlock, Exit.then])
      refine bodyPost_ret (v := .tuple #[.agg zCells, .int .i64 4]) (results_cell_tmp rfl _ _ w.heap.size 45 _ (0, 0) _ rfl (heap_setRow HRES.out _) Try.underlying45 rfl zsz _ rfl) rfl ⟨zEv 0, {}, 4, rfl, evC bd0 (zEntryC _ _) (zRateC _ _) (zHoldingC _ _) (zMatchC _ _) (zStockC _ _) bd0 bd0, (Fr.trans hbV.out (hfr.mono (fun i hi => by show i ≠ w.heap.size; have : i < w.heap.size := hi; omega))).below, .inr ⟨HN.out, rfl, rfl⟩⟩
    · have hr0I : ¬ (0 : Int) < (m : Int) := by omega
      have hre : r = [] := by
        cases r with
        | nil => rfl
        | cons a r => exact absurd (Nat.zero_lt_succ _) hr0
      have HRE := Lib.hid hre
      clear hr0 hre hm hLc3 hLL3
      by_cases hbig : 65536 < L.length
      · have hbigI : (65536 : Int) < (L.length : Int) := by omega
        have HN := Lib.hid (show rr = none by rw [HRR.out]; unfold parseEv; rw [if_pos hbig])
        clear hbig
        go_wp2_with (refine wpList_store_row rfl 45 (.tmp 2) (.tmp 79) rfl w.heap.size zCells rfl rfl 45 _ HRES.out zsz rfl zone ?_)
        have hfr := fr_setRow V w.heap.size zCells
        (try simp only [Exit.inBlock, Exit.then])
        refine bodyPost_ret (v := .tuple #[.agg zCells, .int .i64 4]) (results_cell_tmp rfl _ _ w.heap.size 45 _ (0, 0) _ rfl (heap_setRow HRES.out _) Try.underlying45 rfl zsz _ rfl) rfl ⟨zEv 0, {}, 4, rfl, evC bd0 (zEntryC _ _) (zRateC _ _) (zHoldingC _ _) (zMatchC _ _) (zStockC _ _) bd0 bd0, (Fr.trans hbV.out (hfr.mono (fun i hi => by show i ≠ w.heap.size; have : i < w.heap.size := hi; omega))).below, .inr ⟨HN.out, rfl, rfl⟩⟩
      · have hbigI : ¬ (65536 : Int) < (L.length : Int) := by omega
        have HY := Lib.hid (show rr = some { kind := 5, a := a, b := b } by rw [HRR.out]; unfold parseEv; rw [if_neg hbig, HDE.out, HDF.out, HRE.out])
        have HCS := Lib.hid (size45 HC.out.len)
        have HSZ := Lib.hid (zsize HC.out)
        have HONE := Lib.hid HC.out.one
        clear hbig
        go_wp2_with (first | refine wpList_load_row rfl 45 (.tmp 5) rfl X rfl 45 (evCells 5 zEntry zRate zHolding zMatch zStock a b ⟨#[]⟩).toArray (0, 0) _ HT.out Try.underlying45 rfl HCS.out ?_ | refine wpList_store_row rfl 45 (.tmp 2) (.tmp 80) rfl w.heap.size (evCells 5 zEntry zRate zHolding zMatch zStock a b ⟨#[]⟩).toArray rfl rfl 45 _ HRES.out HCS.out HSZ.out HONE.out ?_)
        have hfr := fr_setRow V w.heap.size (evCells 5 zEntry zRate zHolding zMatch zStock a b ⟨#[]⟩).toArray
        (try simp only [Exit.inBlock, Exit.then])
        refine bodyPost_ret (v := .tuple #[.agg (evCells 5 zEntry zRate zHolding zMatch zStock a b ⟨#[]⟩).toArray, .int .i64 0]) (results_cell_tmp rfl _ _ w.heap.size 45 _ (0, 0) _ rfl (heap_setRow HRES.out _) Try.underlying45 rfl HCS.out _ rfl) rfl ⟨(evCells 5 zEntry zRate zHolding zMatch zStock a b ⟨#[]⟩), { kind := 5, a := a, b := b }, 0, rfl, ?_, (Fr.trans hbV.out (hfr.mono (fun i hi => by show i ≠ w.heap.size; have : i < w.heap.size := hi; omega))).below, .inl ⟨_, HY.out, rfl, rfl⟩⟩
        exact EventC.mono (EventC.fr HC.out (hfr.mono (fun i hi => by have := hi.1; omega))) (fun i hi => ⟨by have := hi.1; omega, by have := hi.2; have := hfr.size; omega⟩)
set_option maxHeartbeats 2000000 in
set_option maxRecDepth 100000 in
theorem rParse_6 (A : Option Addr) (c : Nat) (L : List UInt8) (w : World) (h : Rd w (· < w.heap.size) A L.length 1 (bv L)) (hc : L.length ≤ c) (hl : L.length ≤ 1000000) (l1 : List UInt8) (hd : decInt L = some (6, l1)) :
    Calls Try.prog 24 #[.slice A L.length c] w (PPost EventC {} w (parseEv L)) := by
  have HL := Lib.hid h
  obtain ⟨rr, hrr⟩ : ∃ rr, rr = parseEv L := ⟨_, rfl⟩
  rw [← hrr]
  have HRR := Lib.hid hrr
  clear h hrr
  go_enter Try.func24, Try.ntmps24
  go_upto_region 2 with fail
  have h2 := heap2 w (.cells #[.int .i64 0, .int .i64 0, .int .i64 0, .int .i64 0, .int .i64 0, .int .i64 0, .string ⟨#[]⟩, .slice none 0 0, .string ⟨#[]⟩, .int .i64 0, .int .i64 0, .int .i64 0, .int .i64 0, .int .i64 0, .int .i64 0, .int .i64 0, .int .i64 0, .slice none 0 0, .slice none 0 0, .int .i64 0, .int .i64 0, .int .i64 0, .int .i64 0, .int .i64 0, .int .i64 0, .int .i64 0, .int .i64 0, .string ⟨#[]⟩] 45) (.cells #[.slice A L.length c, .bool false] 99)
  generalize hW : (w.alloc (.cells #[.int .i64 0, .int .i64 0, .int .i64 0, .int .i64 0, .int .i64 0, .int .i64 0, .string ⟨#[]⟩, .slice none 0 0, .string ⟨#[]⟩, .int .i64 0, .int .i64 0, .int .i64 0, .int .i64 0, .int .i64 0, .int .i64 0, .int .i64 0, .int .i64 0, .slice none 0 0, .slice none 0 0, .int .i64 0, .int .i64 0, .int .i64 0, .int .i64 0, .int .i64 0, .int .i64 0, .int .i64 0, .int .i64 0, .string ⟨#[]⟩] 45)).alloc (.cells #[.slice A L.length c, .bool false] 99) = W at *
  obtain ⟨H0, H1, HS, HF⟩ := h2
  clear hW
  have hbW : Below w.heap.size w W := HF.below
  have hR0 : RQ W (w.heap.size + 1) (some L) := ⟨A, c, L, false, H1, (HL.out.fr HF).mono (fun k hk => by omega), hc, by omega, (fun h => by cases h), (fun l h => by injection h with h; exact ⟨rfl, h.symm⟩)⟩
  have hWs : w.heap.size + 2 = W.heap.size := by omega
  have HRES0 := Lib.hid H0
  have HRQ0 := Lib.hid hR0
  clear H0 H1 HS HF hR0
  go_wp2_with fail
  refine (rint_r (w.heap.size + 1) (some L) W HRQ0.out).mono ?_
  rintro e W1 ⟨n, rfl, hnb, hv, hR1, hf1, h0⟩
  have hnk : n = 6 := (hv _ hd).symm
  subst hnk
  have HD := Lib.hid hd
  have HDE := Lib.hid (show decEv L = decF 6 l1 by simp [decEv, hd])
  have hR1 : RQ W1 (w.heap.size + 1) (some l1) := by
    have e : cInt.st (some L) = some l1 := by show Option.map (·.2) (decInt L) = some l1; rw [hd]; rfl
    rw [← e]; exact hR1
  clear hd
  have HRES1 := Lib.hid ((hf1.block w.heap.size ⟨by omega, by omega⟩).trans HRES0.out)
  have hb1 : Below w.heap.size w W1 := hbW.trans ((hf1.mono (fun i (hi : i < w.heap.size) => ⟨by omega, by omega⟩)).below)
  have h1s : W.heap.size ≤ W1.heap.size := hf1.size
  clear hv hf1 h0 HRES0 HRQ0 hbW
  go_upto_region 3 with (refine wpList_store_fresh2 rfl 45 (.tmp 5) (.tmp 11) rfl rfl W1 _ 45 #[.int .i64 6, .int .i64 0, .int .i64 0, .int .i64 0, .int .i64 0, .int .i64 0, .string ⟨#[]⟩, .slice none 0 0, .string ⟨#[]⟩, .int .i64 0, .int .i64 0, .int .i64 0, .int .i64 0, .int .i64 0, .int .i64 0, .int .i64 0, .int .i64 0, .slice none 0 0, .slice none 0 0, .int .i64 0, .int .i64 0, .int .i64 0, .int .i64 0, .int .i64 0, .int .i64 0, .int .i64 0, .int .i64 0, .string ⟨#[]⟩] rfl rfl info45 rfl (by simp only [List.all_toArray, List.all_cons, List.all_nil, Value.oneCell', Bool.and_true]) ?_; intro U S1 S2 S3; replace S1 := Lib.hid S1)
  have hbU := Lib.hid (Fr.trans (Fr.ofBelow hb1) ((Fr.ofBelow S2).mono (fun k (hk : k < w.heap.size) => by show k < W1.heap.size; omega)))
  have HRES := Lib.hid ((S2.block w.heap.size (by omega)).trans HRES1.out)
  have HRU := Lib.hid (hR1.fr (Fr.ofBelow S2) (fun k hk => by omega))
  obtain ⟨X, hX⟩ : ∃ X, W1.heap.size = X := ⟨_, rfl⟩
  have hXw : w.heap.size + 1 < X := by omega
  have hXU : X < U.heap.size := by omega
  have SX : Hid (U.heap[X]? = some (.cells #[.int .i64 6, .int .i64 0, .int .i64 0, .int .i64 0, .int .i64 0, .int .i64 0, .string ⟨#[]⟩, .slice none 0 0, .string ⟨#[]⟩, .int .i64 0, .int .i64 0, .int .i64 0, .int .i64 0, .int .i64 0, .int .i64 0, .int .i64 0, .int .i64 0, .slice none 0 0, .slice none 0 0, .int .i64 0, .int .i64 0, .int .i64 0, .int .i64 0, .int .i64 0, .int .i64 0, .int .i64 0, .int .i64 0, .string ⟨#[]⟩] 45 (0, 0))) := by rw [← hX]; exact S1
  rw [hX]
  clear hX S1 S2 S3 hb1 HRES1 hR1 h1s
  have c0 : U.cell? ⟨X, 0, none⟩ = some (.int .i64 6) := blk_cell SX.out 0
  go_wp2_with fail
  refine (Stock_rr (w.heap.size + 1) _ U HRU.out).mono ?_
  rintro e W2 ⟨ce, xe, rfl, hce, hve, hR2, hf2⟩
  have hlm := hce.len
  have HT2 := (hf2.block X ⟨hXU, by omega⟩).trans SX.out
  have HRES2 := (hf2.block w.heap.size ⟨by omega, by omega⟩).trans HRES.out
  have TH : W2.there X 20 ce.toArray.size := there_of_block HT2 _ _ (by simp [hlm])
  have HI2 := Lib.hid (show (Try.prog.info? 43).map (·.size) = some ce.toArray.size by rw [info43, List.size_toArray, hlm])
  have HONE1 := Lib.hid hce.one
  have fS := fr_setCells (b := X) ce 20 W2
  have G2 := heap_setCells ce 20 W2 _ HT2
  have hput : putAt [Value.int .i64 6, .int .i64 0, .int .i64 0, .int .i64 0, .int .i64 0, .int .i64 0, .string ⟨#[]⟩, .slice none 0 0, .string ⟨#[]⟩, .int .i64 0, .int .i64 0, .int .i64 0, .int .i64 0, .int .i64 0, .int .i64 0, .int .i64 0, .int .i64 0, .slice none 0 0, .slice none 0 0, .int .i64 0, .int .i64 0, .int .i64 0, .int .i64 0, .int .i64 0, .int .i64 0, .int .i64 0, .int .i64 0, .string ⟨#[]⟩] 20 ce = (evCells 6 zEntry zRate zHolding zMatch ce 0 0 ⟨#[]⟩) := by
    have := putAt_head .nilFunc ([Value.int .i64 6] ++ zEntry ++ zRate ++ zHolding ++ zMatch) zStock ([Value.int .i64 0] ++ [Value.int .i64 0] ++ [Value.string ⟨#[]⟩]) ce 20 (by simp [zEntry, zRate, zHolding, zMatch, zStock]) (by rw [hlm]; rfl)
    simpa only [evCells, zEntry, zRate, zHolding, zMatch, zStock, List.append_assoc, List.cons_append, List.nil_append] using this
  rw [hput] at G2
  obtain ⟨V, hV⟩ : ∃ V, V = W2.setCells X 20 ce := ⟨_, rfl⟩
  have HCE := Lib.hid (hce.mono (Q' := fun i => X < i ∧ i < W2.heap.size) (fun i hi => ⟨by have := hi.1; omega, hi.2⟩))
  have HVV := Lib.hid (vl_mapF (f := fun a => { kind := 6, stock := a }) decF_6 hve)
  have HTH := Lib.hid TH
  have hRV0 := hR2.fr (Q := fun i => i ≠ X) fS (fun i hi => by show i ≠ X; omega)
  have hRV : RQ (W2.setCells X 20 ce) (w.heap.size + 1) (stF 6 (some l1)) := by rw [st_mapF (f := fun a => { kind := 6, stock := a }) decF_6]; exact hRV0
  have fV : Fr (· < w.heap.size) U (W2.setCells X 20 ce) := Fr.trans (hf2.mono (fun i (hi : i < w.heap.size) => ⟨by omega, by omega⟩)) (fS.mono (fun i (hi : i < w.heap.size) => by show i ≠ X; omega))
  have hCV : EventC (W2.setCells X 20 ce) (fun i => X < i ∧ i < W2.heap.size) (evCells 6 zEntry zRate zHolding zMatch ce 0 0 ⟨#[]⟩) { kind := 6, stock := xe } := evC (by unfold intBd; omega) (zEntryC _ _) (zRateC _ _) (zHoldingC _ _) (zMatchC _ _) (StockC.fr HCE.out (fS.mono (fun i hi => by show i ≠ X; have := hi.1; omega))) bd0 bd0
  have HRESV := (fS.block w.heap.size (by show w.heap.size ≠ X; omega)).trans HRES2
  have hsz := fS.size
  have HSTORE := Lib.hid (And.intro TH (And.intro HI2.out HONE1.out))
  clear hlm hce hve hR2 hf2 HT2 hRV0 hput TH HRES2 c0
  go_upto_region 24 with (refine wpList_store_mid rfl 43 (.tmp 39) (.tmp 38) rfl X 20 ce.toArray rfl rfl HSTORE.out.1 HSTORE.out.2.1 HSTORE.out.2.2 ?_)
  (try simp only [List.toList_toArray])
  rw [← hV] at hCV fV hRV G2 HRESV hsz
  rw [← hV]
  clear hV HRES HSTORE HTH
  have HRES := Lib.hid HRESV
  have HT := Lib.hid G2
  have HC := Lib.hid (hCV.mono (Q' := fun i => w.heap.size + 1 < i ∧ i < V.heap.size) (fun i hi => ⟨by have := hi.1; omega, by have := hi.2; omega⟩))
  have HRV := Lib.hid hRV
  have hbV := Lib.hid (Fr.trans hbU.out fV)
  clear HRESV G2 hCV hRV fV fS HRU SX HCE hbU
  obtain ⟨A3, c3, L3, bad3, hG3, hrd3, hLc3, hLL3, hst3, hst4⟩ := HRV.out
  have d0 := blk_cell hG3 0
  have d1 := blk_cell hG3 1
  clear hG3 hrd3
  cases hs3 : stF 6 (some l1) with
  | none =>
    have hb := hst3 hs3
    subst hb
    have HN := Lib.hid (show rr = none by rw [HRR.out]; unfold parseEv; rw [HDE.out, stF_none hs3]; split <;> rfl)
    clear hs3 hst3 hst4
    go_wp2_with (refine wpList_store_row rfl 45 (.tmp 2) (.tmp 79) rfl w.heap.size zCells rfl rfl 45 _ HRES.out zsz rfl zone ?_)
    have hfr := fr_setRow V w.heap.size zCells
    (try simp only [Exit.inBlock, Exit.then])
    refine bodyPost_ret (v := .tuple #[.agg zCells, .int .i64 4]) (results_cell_tmp rfl _ _ w.heap.size 45 _ (0, 0) _ rfl (heap_setRow HRES.out _) Try.underlying45 rfl zsz _ rfl) rfl ⟨zEv 0, {}, 4, rfl, evC bd0 (zEntryC _ _) (zRateC _ _) (zHoldingC _ _) (zMatchC _ _) (zStockC _ _) bd0 bd0, (Fr.trans hbV.out (hfr.mono (fun i hi => by show i ≠ w.heap.size; have : i < w.heap.size := hi; omega))).below, .inr ⟨HN.out, rfl, rfl⟩⟩
  | some r =>
    obtain ⟨hb, hr⟩ := hst4 r hs3
    subst hb hr
    have HDF := Lib.hid (stF_some hs3 HVV.out)
    clear hs3 hst3 hst4
    obtain ⟨m, hm⟩ : ∃ m, r.length = m := ⟨_, rfl⟩
    rw [hm] at d0 d1
    by_cases hr0 : 0 < r.length
    · have hr0I : (0 : Int) < (m : Int) := by omega
      have HN := Lib.hid (show rr = none by
        rw [HRR.out]; unfold parseEv; rw [HDE.out, HDF.out]
        cases r with
        | nil => exact absurd hr0 (by simp)
        | cons a r => split <;> rfl)
      clear hr0 hm hLc3 hLL3
      go_wp2_with (refine wpList_store_row rfl 45 (.tmp 2) (.tmp 79) rfl w.heap.size zCells rfl rfl 45 _ HRES.out zsz rfl zone ?_)
      have hfr := fr_setRow V w.heap.size zCells
      (try simp only [Exit.inBlock, Exit.then])
      refine bodyPost_ret (v := .tuple #[.agg zCells, .int .i64 4]) (results_cell_tmp rfl _ _ w.heap.size 45 _ (0, 0) _ rfl (heap_setRow HRES.out _) Try.underlying45 rfl zsz _ rfl) rfl ⟨zEv 0, {}, 4, rfl, evC bd0 (zEntryC _ _) (zRateC _ _) (zHoldingC _ _) (zMatchC _ _) (zStockC _ _) bd0 bd0, (Fr.trans hbV.out (hfr.mono (fun i hi => by show i ≠ w.heap.size; have : i < w.heap.size := hi; omega))).below, .inr ⟨HN.out, rfl, rfl⟩⟩
    · have hr0I : ¬ (0 : Int) < (m : Int) := by omega
      have hre : r = [] := by
        cases r with
        | nil => rfl
        | cons a r => exact absurd (Nat.zero_lt_succ _) hr0
      have HRE := Lib.hid hre
      clear hr0 hre hm hLc3 hLL3
      by_cases hbig : 65536 < L.length
      · have hbigI : (65536 : Int) < (L.length : Int) := by omega
        have HN := Lib.hid (show rr = none by rw [HRR.out]; unfold parseEv; rw [if_pos hbig])
        clear hbig
        go_wp2_with (refine wpList_store_row rfl 45 (.tmp 2) (.tmp 79) rfl w.heap.size zCells rfl rfl 45 _ HRES.out zsz rfl zone ?_)
        have hfr := fr_setRow V w.heap.size zCells
        (try simp only [Exit.inBlock, Exit.then])
        refine bodyPost_ret (v := .tuple #[.agg zCells, .int .i64 4]) (results_cell_tmp rfl _ _ w.heap.size 45 _ (0, 0) _ rfl (heap_setRow HRES.out _) Try.underlying45 rfl zsz _ rfl) rfl ⟨zEv 0, {}, 4, rfl, evC bd0 (zEntryC _ _) (zRateC _ _) (zHoldingC _ _) (zMatchC _ _) (zStockC _ _) bd0 bd0, (Fr.trans hbV.out (hfr.mono (fun i hi => by show i ≠ w.heap.size; have : i < w.heap.size := hi; omega))).below, .inr ⟨HN.out, rfl, rfl⟩⟩
      · have hbigI : ¬ (65536 : Int) < (L.length : Int) := by omega
        have HY := Lib.hid (show rr = some { kind := 6, stock := xe } by rw [HRR.out]; unfold parseEv; rw [if_neg hbig, HDE.out, HDF.out, HRE.out])
        have HCS := Lib.hid (size45 HC.out.len)
        have HSZ := Lib.hid (zsize HC.out)
        have HONE := Lib.hid HC.out.one
        clear hbig
        go_wp2_with (first | refine wpList_load_row rfl 45 (.tmp 5) rfl X rfl 45 (evCells 6 zEntry zRate zHolding zMatch ce 0 0 ⟨#[]⟩).toArray (0, 0) _ HT.out Try.underlying45 rfl HCS.out ?_ | refine wpList_store_row rfl 45 (.tmp 2) (.tmp 80) rfl w.heap.size (evCells 6 zEntry zRate zHolding zMatch ce 0 0 ⟨#[]⟩).toArray rfl rfl 45 _ HRES.out HCS.out HSZ.out HONE.out ?_)
        have hfr := fr_setRow V w.heap.size (evCells 6 zEntry zRate zHolding zMatch ce 0 0 ⟨#[]⟩).toArray
        (try simp only [Exit.inBlock, Exit.then])
        refine bodyPost_ret (v := .tuple #[.agg (evCells 6 zEntry zRate zHolding zMatch ce 0 0 ⟨#[]⟩).toArray, .int .i64 0]) (results_cell_tmp rfl _ _ w.heap.size 45 _ (0, 0) _ rfl (heap_setRow HRES.out _) Try.underlying45 rfl HCS.out _ rfl) rfl ⟨(evCells 6 zEntry zRate zHolding zMatch ce 0 0 ⟨#[]⟩), { kind := 6, stock := xe }, 0, rfl, ?_, (Fr.trans hbV.out (hfr.mono (fun i hi => by show i ≠ w.heap.size; have : i < w.heap.size := hi; omega))).below, .inl ⟨_, HY.out, rfl, rfl⟩⟩
        exact EventC.mono (EventC.fr HC.out (hfr.mono (fun i hi => by have := hi.1; omega))) (fun i hi => ⟨by have := hi.1; omega, by have := hi.2; have := hfr.size; omega⟩)
set_option maxHeartbeats 2000000 in
set_option maxRecDepth 100000 in
theorem rParse_7 (A : Option Addr) (c : Nat) (L : List UInt8) (w : World) (h : Rd w (· < w.heap.size) A L.length 1 (bv L)) (hc : L.length ≤ c) (hl : L.length ≤ 1000000) (l1 : List UInt8) (hd : decInt L = some (7, l1)) :
    Calls Try.prog 24 #[.slice A L.length c] w (PPost EventC {} w (parseEv L)) := by
  have HL := Lib.hid h
  obtain ⟨rr, hrr⟩ : ∃ rr, rr = parseEv L := ⟨_, rfl⟩
  rw [← hrr]
  have HRR := Lib.hid hrr
  clear h hrr
  go_enter Try.func24, Try.ntmps24
  go_upto_region 2 with fail
  have h2 := heap2 w (.cells #[.int .i64 0, .int .i64 0, .int .i64 0, .int .i64 0, .int .i64 0, .int .i64 0, .string ⟨#[]⟩, .slice none 0 0, .string ⟨#[]⟩, .int .i64 0, .int .i64 0, .int .i64 0, .int .i64 0, .int .i64 0, .int .i64 0, .int .i64 0, .int .i64 0, .slice none 0 0, .slice none 0 0, .int .i64 0, .int .i64 0, .int .i64 0, .int .i64 0, .int .i64 0, .int .i64 0, .int .i64 0, .int .i64 0, .string ⟨#[]⟩] 45) (.cells #[.slice A L.length c, .bool false] 99)
  generalize hW : (w.alloc (.cells #[.int .i64 0, .int .i64 0, .int .i64 0, .int .i64 0, .int .i64 0, .int .i64 0, .string ⟨#[]⟩, .slice none 0 0, .string ⟨#[]⟩, .int .i64 0, .int .i64 0, .int .i64 0, .int .i64 0, .int .i64 0, .int .i64 0, .int .i64 0, .int .i64 0, .slice none 0 0, .slice none 0 0, .int .i64 0, .int .i64 0, .int .i64 0, .int .i64 0, .int .i64 0, .int .i64 0, .int .i64 0, .int .i64 0, .string ⟨#[]⟩] 45)).alloc (.cells #[.slice A L.length c, .bool false] 99) = W at *
  obtain ⟨H0, H1, HS, HF⟩ := h2
  clear hW
  have hbW : Below w.heap.size w W := HF.below
  have hR0 : RQ W (w.heap.size + 1) (some L) := ⟨A, c, L, false, H1, (HL.out.fr HF).mono (fun k hk => by omega), hc, by omega, (fun h => by cases h), (fun l h => by injection h with h; exact ⟨rfl, h.symm⟩)⟩
  have hWs : w.heap.size + 2 = W.heap.size := by omega
  have HRES0 := Lib.hid H0
  have HRQ0 := Lib.hid hR0
  clear H0 H1 HS HF hR0
  go_wp2_with fail
  refine (rint_r (w.heap.size + 1) (some L) W HRQ0.out).mono ?_
  rintro e W1 ⟨n, rfl, hnb, hv, hR1, hf1, h0⟩
  have hnk : n = 7 := (hv _ hd).symm
  subst hnk
  have HD := Lib.hid hd
  have HDE := Lib.hid (show decEv L = decF 7 l1 by simp [decEv, hd])
  have hR1 : RQ W1 (w.heap.size + 1) (some l1) := by
    have e : cInt.st (some L) = some l1 := by show Option.map (·.2) (decInt L) = some l1; rw [hd]; rfl
    rw [← e]; exact hR1
  clear hd
  have HRES1 := Lib.hid ((hf1.block w.heap.size ⟨by omega, by omega⟩).trans HRES0.out)
  have hb1 : Below w.heap.size w W1 := hbW.trans ((hf1.mono (fun i (hi : i < w.heap.size) => ⟨by omega, by omega⟩)).below)
  have h1s : W.heap.size ≤ W1.heap.size := hf1.size
  clear hv hf1 h0 HRES0 HRQ0 hbW
  go_upto_region 3 with (refine wpList_store_fresh2 rfl 45 (.tmp 5) (.tmp 11) rfl rfl W1 _ 45 #[.int .i64 7, .int .i64 0, .int .i64 0, .int .i64 0, .int .i64 0, .int .i64 0, .string ⟨#[]⟩, .slice none 0 0, .string ⟨#[]⟩, .int .i64 0, .int .i64 0, .int .i64 0, .int .i64 0, .int .i64 0, .int .i64 0, .int .i64 0, .int .i64 0, .slice none 0 0, .slice none 0 0, .int .i64 0, .int .i64 0, .int .i64 0, .int .i64 0, .int .i64 0, .int .i64 0, .int .i64 0, .int .i64 0, .string ⟨#[]⟩] rfl rfl info45 rfl (by simp only [List.all_toArray, List.all_cons, List.all_nil, Value.oneCell', Bool.and_true]) ?_; intro U S1 S2 S3; replace S1 := Lib.hid S1)
  have hbU := Lib.hid (Fr.trans (Fr.ofBelow hb1) ((Fr.ofBelow S2).mono (fun k (hk : k < w.heap.size) => by show k < W1.heap.size; omega)))
  have HRES := Lib.hid ((S2.block w.heap.size (by omega)).trans HRES1.out)
  have HRU := Lib.hid (hR1.fr (Fr.ofBelow S2) (fun k hk => by omega))
  obtain ⟨X, hX⟩ : ∃ X, W1.heap.size = X := ⟨_, rfl⟩
  have hXw : w.heap.size + 1 < X := by omega
  have hXU : X < U.heap.size := by omega
  have SX : Hid (U.heap[X]? = some (.cells #[.int .i64 7, .int .i64 0, .int .i64 0, .int .i64 0, .int .i64 0, .int .i64 0, .string ⟨#[]⟩, .slice none 0 0, .string ⟨#[]⟩, .int .i64 0, .int .i64 0, .int .i64 0, .int .i64 0, .int .i64 0, .int .i64 0, .int .i64 0, .int .i64 0, .slice none 0 0, .slice none 0 0, .int .i64 0, .int .i64 0, .int .i64 0, .int .i64 0, .int .i64 0, .int .i64 0, .int .i64 0, .int .i64 0, .string ⟨#[]⟩] 45 (0, 0))) := by rw [← hX]; exact S1
  rw [hX]
  clear hX S1 S2 S3 hb1 HRES1 hR1 h1s
  have c0 : U.cell? ⟨X, 0, none⟩ = some (.int .i64 7) := blk_cell SX.out 0
  go_wp2_with fail
  refine (rtext_r (w.heap.size + 1) _ U HRU.out).mono ?_
  rintro e W2 ⟨s, rfl, hve, hR2, hf2⟩
  have HT2 := (hf2.block X ⟨hXU, by omega⟩).trans SX.out
  have HRES2 := (hf2.block w.heap.size ⟨by omega, by omega⟩).trans HRES.out
  have c27 : W2.cell? ⟨X, 27, none⟩ = some (.string ⟨#[]⟩) := blk_cell HT2 27
  have z27 : W2.frozen? ⟨X, 27, none⟩ = false := blk_frozen HT2 27
  obtain ⟨V, hV⟩ : ∃ V, V = W2.setCell ⟨X, 27, none⟩ (.string s) := ⟨_, rfl⟩
  have fS : Fr (fun i => i ≠ X) W2 (W2.setCell ⟨X, 27, none⟩ (.string s)) := Fr.setCell (p := ⟨X, 27, none⟩) (Fr.refl _ W2) (fun h => h rfl) _
  have G2 : (W2.setCell ⟨X, 27, none⟩ (.string s)).heap[X]? = some (.cells (evCells 7 zEntry zRate zHolding zMatch zStock 0 0 s).toArray 45 (0, 0)) := heap_setCell_same HT2 27 _
  have HVV := Lib.hid (vl_mapF (f := fun a => { kind := 7, text := a }) decF_7 hve)
  have hRV0 := hR2.fr (Q := fun i => i ≠ X) fS (fun i hi => by show i ≠ X; omega)
  have hRV : RQ (W2.setCell ⟨X, 27, none⟩ (.string s)) (w.heap.size + 1) (stF 7 (some l1)) := by rw [st_mapF (f := fun a => { kind := 7, text := a }) decF_7]; exact hRV0
  have fV : Fr (· < w.heap.size) U (W2.setCell ⟨X, 27, none⟩ (.string s)) := Fr.trans (hf2.mono (fun i (hi : i < w.heap.size) => ⟨by omega, by omega⟩)) (fS.mono (fun i (hi : i < w.heap.size) => by show i ≠ X; omega))
  have HRESV := (fS.block w.heap.size (by show w.heap.size ≠ X; omega)).trans HRES2
  clear hve hR2 hf2 hRV0 HRES2 c0
  have HT2' := Lib.hid HT2
  clear HT2
  go_upto_region 24 with fail
  rw [← hV] at fV hRV G2 HRESV
  rw [← hV]
  clear hV HRES fS
  have HRES := Lib.hid HRESV
  have HT := Lib.hid G2
  have HC := Lib.hid (show EventC V (fun i => w.heap.size + 1 < i ∧ i < V.heap.size) (evCells 7 zEntry zRate zHolding zMatch zStock 0 0 s) { kind := 7, text := s } from evC (k := 7) (s := s) (by unfold intBd; omega) (zEntryC _ _) (zRateC _ _) (zHoldingC _ _) (zMatchC _ _) (zStockC _ _) bd0 bd0)
  have HRV := Lib.hid hRV
  have hbV := Lib.hid (Fr.trans hbU.out fV)
  clear HRESV G2 hRV fV HRU SX hbU c27 z27
  obtain ⟨A3, c3, L3, bad3, hG3, hrd3, hLc3, hLL3, hst3, hst4⟩ := HRV.out
  have d0 := blk_cell hG3 0
  have d1 := blk_cell hG3 1
  clear hG3 hrd3
  cases hs3 : stF 7 (some l1) with
  | none =>
    have hb := hst3 hs3
    subst hb
    have HN := Lib.hid (show rr = none by rw [HRR.out]; unfold parseEv; rw [HDE.out, stF_none hs3]; split <;> rfl)
    clear hs3 hst3 hst4
    go_wp2_with (refine wpList_store_row rfl 45 (.tmp 2) (.tmp 79) rfl w.heap.size zCells rfl rfl 45 _ HRES.out zsz rfl zone ?_)
    have hfr := fr_setRow V w.heap.size zCells
    (try simp only [Exit.inBlock, Exit.then])
    refine bodyPost_ret (v := .tuple #[.agg zCells, .int .i64 4]) (results_cell_tmp rfl _ _ w.heap.size 45 _ (0, 0) _ rfl (heap_setRow HRES.out _) Try.underlying45 rfl zsz _ rfl) rfl ⟨zEv 0, {}, 4, rfl, evC bd0 (zEntryC _ _) (zRateC _ _) (zHoldingC _ _) (zMatchC _ _) (zStockC _ _) bd0 bd0, (Fr.trans hbV.out (hfr.mono (fun i hi => by show i ≠ w.heap.size; have : i < w.heap.size := hi; omega))).below, .inr ⟨HN.out, rfl, rfl⟩⟩
  | some r =>
    obtain ⟨hb, hr⟩ := hst4 r hs3
    subst hb hr
    have HDF := Lib.hid (stF_some hs3 HVV.out)
    clear hs3 hst3 hst4
    obtain ⟨m, hm⟩ : ∃ m, r.length = m := ⟨_, rfl⟩
    rw [hm] at d0 d1
    by_cases hr0 : 0 < r.length
    · have hr0I : (0 : Int) < (m : Int) := by omega
      have HN := Lib.hid (show rr = none by
        rw [HRR.out]; unfold parseEv; rw [HDE.out, HDF.out]
        cases r with
        | nil => exact absurd hr0 (by simp)
        | cons a r => split <;> rfl)
      clear hr0 hm hLc3 hLL3
      go_wp2_with (refine wpList_store_row rfl 45 (.tmp 2) (.tmp 79) rfl w.heap.size zCells rfl rfl 45 _ HRES.out zsz rfl zone ?_)
      have hfr := fr_setRow V w.heap.size zCells
      (try simp only [Exit.inBlock, Exit.then])
      refine bodyPost_ret (v := .tuple #[.agg zCells, .int .i64 4]) (results_cell_tmp rfl _ _ w.heap.size 45 _ (0, 0) _ rfl (heap_setRow HRES.out _) Try.underlying45 rfl zsz _ rfl) rfl ⟨zEv 0, {}, 4, rfl, evC bd0 (zEntryC _ _) (zRateC _ _) (zHoldingC _ _) (zMatchC _ _) (zStockC _ _) bd0 bd0, (Fr.trans hbV.out (hfr.mono (fun i hi => by show i ≠ w.heap.size; have : i < w.heap.size := hi; omega))).below, .inr ⟨HN.out, rfl, rfl⟩⟩
    · have hr0I : ¬ (0 : Int) < (m : Int) := by omega
      have hre : r = [] := by
        cases r with
        | nil => rfl
        | cons a r => exact absurd (Nat.zero_lt_succ _) hr0
      have HRE := Lib.hid hre
      clear hr0 hre hm hLc3 hLL3
      by_cases hbig : 65536 < L.length
      · have hbigI : (65536 : Int) < (L.length : Int) := by omega
        have HN := Lib.hid (show rr = none by rw [HRR.out]; unfold parseEv; rw [if_pos hbig])
        clear hbig
        go_wp2_with (refine wpList_store_row rfl 45 (.tmp 2) (.tmp 79) rfl w.heap.size zCells rfl rfl 45 _ HRES.out zsz rfl zone ?_)
        have hfr := fr_setRow V w.heap.size zCells
        (try simp only [Exit.inBlock, Exit.then])
        refine bodyPost_ret (v := .tuple #[.agg zCells, .int .i64 4]) (results_cell_tmp rfl _ _ w.heap.size 45 _ (0, 0) _ rfl (heap_setRow HRES.out _) Try.underlying45 rfl zsz _ rfl) rfl ⟨zEv 0, {}, 4, rfl, evC bd0 (zEntryC _ _) (zRateC _ _) (zHoldingC _ _) (zMatchC _ _) (zStockC _ _) bd0 bd0, (Fr.trans hbV.out (hfr.mono (fun i hi => by show i ≠ w.heap.size; have : i < w.heap.size := hi; omega))).below, .inr ⟨HN.out, rfl, rfl⟩⟩
      · have hbigI : ¬ (65536 : Int) < (L.length : Int) := by omega
        have HY := Lib.hid (show rr = some { kind := 7, text := s } by rw [HRR.out]; unfold parseEv; rw [if_neg hbig, HDE.out, HDF.out, HRE.out])
        have HCS := Lib.hid (size45 HC.out.len)
        have HSZ := Lib.hid (zsize HC.out)
        have HONE := Lib.hid HC.out.one
        clear hbig
        go_wp2_with (first | refine wpList_load_row rfl 45 (.tmp 5) rfl X rfl 45 (evCells 7 zEntry zRate zHolding zMatch zStock 0 0 s).toArray (0, 0) _ HT.out Try.underlying45 rfl HCS.out ?_ | refine wpList_store_row rfl 45 (.tmp 2) (.tmp 80) rfl w.heap.size (evCells 7 zEntry zRate zHolding zMatch zStock 0 0 s).toArray rfl rfl 45 _ HRES.out HCS.out HSZ.out HONE.out ?_)
        have hfr := fr_setRow V w.heap.size (evCells 7 zEntry zRate zHolding zMatch zStock 0 0 s).toArray
        (try simp only [Exit.inBlock, Exit.then])
        refine bodyPost_ret (v := .tuple #[.agg (evCells 7 zEntry zRate zHolding zMatch zStock 0 0 s).toArray, .int .i64 0]) (results_cell_tmp rfl _ _ w.heap.size 45 _ (0, 0) _ rfl (heap_setRow HRES.out _) Try.underlying45 rfl HCS.out _ rfl) rfl ⟨(evCells 7 zEntry zRate zHolding zMatch zStock 0 0 s), { kind := 7, text := s }, 0, rfl, ?_, (Fr.trans hbV.out (hfr.mono (fun i hi => by show i ≠ w.heap.size; have : i < w.heap.size := hi; omega))).below, .inl ⟨_, HY.out, rfl, rfl⟩⟩
        exact EventC.mono (EventC.fr HC.out (hfr.mono (fun i hi => by have := hi.1; omega))) (fun i hi => ⟨by have := hi.1; omega, by have := hi.2; have := hfr.size; omega⟩)
set_option maxHeartbeats 2000000 in
set_option maxRecDepth 100000 in
theorem rParse_8 (A : Option Addr) (c : Nat) (L : List UInt8) (w : World) (h : Rd w (· < w.heap.size) A L.length 1 (bv L)) (hc : L.length ≤ c) (hl : L.length ≤ 1000000) (l1 : List UInt8) (hd : decInt L = some (8, l1)) :
    Calls Try.prog 24 #[.slice A L.length c] w (PPost EventC {} w (parseEv L)) := by
  have HL := Lib.hid h
  obtain ⟨rr, hrr⟩ : ∃ rr, rr = parseEv L := ⟨_, rfl⟩
  rw [← hrr]
  have HRR := Lib.hid hrr
  clear h hrr
  go_enter Try.func24, Try.ntmps24
  go_upto_region 2 with fail
  have h2 := heap2 w (.cells #[.int .i64 0, .int .i64 0, .int .i64 0, .int .i64 0, .int .i64 0, .int .i64 0, .string ⟨#[]⟩, .slice none 0 0, .string ⟨#[]⟩, .int .i64 0, .int .i64 0, .int .i64 0, .int .i64 0, .int .i64 0, .int .i64 0, .int .i64 0, .int .i64 0, .slice none 0 0, .slice none 0 0, .int .i64 0, .int .i64 0, .int .i64 0, .int .i64 0, .int .i64 0, .int .i64 0, .int .i64 0, .int .i64 0, .string ⟨#[]⟩] 45) (.cells #[.slice A L.length c, .bool false] 99)
  generalize hW : (w.alloc (.cells #[.int .i64 0, .int .i64 0, .int .i64 0, .int .i64 0, .int .i64 0, .int .i64 0, .string ⟨#[]⟩, .slice none 0 0, .string ⟨#[]⟩, .int .i64 0, .int .i64 0, .int .i64 0, .int .i64 0, .int .i64 0, .int .i64 0, .int .i64 0, .int .i64 0, .slice none 0 0, .slice none 0 0, .int .i64 0, .int .i64 0, .int .i64 0, .int .i64 0, .int .i64 0, .int .i64 0, .int .i64 0, .int .i64 0, .string ⟨#[]⟩] 45)).alloc (.cells #[.slice A L.length c, .bool false] 99) = W at *
  obtain ⟨H0, H1, HS, HF⟩ := h2
  clear hW
  have hbW : Below w.heap.size w W := HF.below
  have hR0 : RQ W (w.heap.size + 1) (some L) := ⟨A, c, L, false, H1, (HL.out.fr HF).mono (fun k hk => by omega), hc, by omega, (fun h => by cases h), (fun l h => by injection h with h; exact ⟨rfl, h.symm⟩)⟩
  have hWs : w.heap.size + 2 = W.heap.size := by omega
  have HRES0 := Lib.hid H0
  have HRQ0 := Lib.hid hR0
  clear H0 H1 HS HF hR0
  go_wp2_with fail
  refine (rint_r (w.heap.size + 1) (some L) W HRQ0.out).mono ?_
  rintro e W1 ⟨n, rfl, hnb, hv, hR1, hf1, h0⟩
  have hnk : n = 8 := (hv _ hd).symm
  subst hnk
  have HD := Lib.hid hd
  have HDE := Lib.hid (show decEv L = decF 8 l1 by simp [decEv, hd])
  have hR1 : RQ W1 (w.heap.size + 1) (some l1) := by
    have e : cInt.st (some L) = some l1 := by show Option.map (·.2) (decInt L) = some l1; rw [hd]; rfl
    rw [← e]; exact hR1
  clear hd
  have HRES1 := Lib.hid ((hf1.block w.heap.size ⟨by omega, by omega⟩).trans HRES0.out)
  have hb1 : Below w.heap.size w W1 := hbW.trans ((hf1.mono (fun i (hi : i < w.heap.size) => ⟨by omega, by omega⟩)).below)
  have h1s : W.heap.size ≤ W1.heap.size := hf1.size
  clear hv hf1 h0 HRES0 HRQ0 hbW
  go_upto_region 3 with (refine wpList_store_fresh2 rfl 45 (.tmp 5) (.tmp 11) rfl rfl W1 _ 45 #[.int .i64 8, .int .i64 0, .int .i64 0, .int .i64 0, .int .i64 0, .int .i64 0, .string ⟨#[]⟩, .slice none 0 0, .string ⟨#[]⟩, .int .i64 0, .int .i64 0, .int .i64 0, .int .i64 0, .int .i64 0, .int .i64 0, .int .i64 0, .int .i64 0, .slice none 0 0, .slice none 0 0, .int .i64 0, .int .i64 0, .int .i64 0, .int .i64 0, .int .i64 0, .int .i64 0, .int .i64 0, .int .i64 0, .string ⟨#[]⟩] rfl rfl info45 rfl (by simp only [List.all_toArray, List.all_cons, List.all_nil, Value.oneCell', Bool.and_true]) ?_; intro U S1 S2 S3; replace S1 := Lib.hid S1)
  have hbU := Lib.hid (Fr.trans (Fr.ofBelow hb1) ((Fr.ofBelow S2).mono (fun k (hk : k < w.heap.size) => by show k < W1.heap.size; omega)))
  have HRES := Lib.hid ((S2.block w.heap.size (by omega)).trans HRES1.out)
  have HRU := Lib.hid (hR1.fr (Fr.ofBelow S2) (fun k hk => by omega))
  obtain ⟨X, hX⟩ : ∃ X, W1.heap.size = X := ⟨_, rfl⟩
  have hXw : w.heap.size + 1 < X := by omega
  have hXU : X < U.heap.size := by omega
  have SX : Hid (U.heap[X]? = some (.cells #[.int .i64 8, .int .i64 0, .int .i64 0, .int .i64 0, .int .i64 0, .int .i64 0, .string ⟨#[]⟩, .slice none 0 0, .string ⟨#[]⟩, .int .i64 0, .int .i64 0, .int .i64 0, .int .i64 0, .int .i64 0, .int .i64 0, .int .i64 0, .int .i64 0, .slice none 0 0, .slice none 0 0, .int .i64 0, .int .i64 0, .int .i64 0, .int .i64 0, .int .i64 0, .int .i64 0, .int .i64 0, .int .i64 0, .string ⟨#[]⟩] 45 (0, 0))) := by rw [← hX]; exact S1
  rw [hX]
  clear hX S1 S2 S3 hb1 HRES1 hR1 h1s
  have c0 : U.cell? ⟨X, 0, none⟩ = some (.int .i64 8) := blk_cell SX.out 0
  go_wp2_with fail
  refine (rint_r (w.heap.size + 1) _ U HRU.out).mono ?_
  rintro e Wa ⟨a, rfl, hba, hva, hRa, hfa, -⟩
  have HTa := Lib.hid ((hfa.block X ⟨hXU, by omega⟩).trans SX.out)
  have HRESa := Lib.hid ((hfa.block w.heap.size ⟨by omega, by omega⟩).trans HRES.out)
  have HVa := Lib.hid hva
  have HRa := Lib.hid hRa
  have hza := hfa.size
  have hbA := Lib.hid (Fr.trans hbU.out (hfa.mono (fun i (hi : i < w.heap.size) => ⟨by omega, by omega⟩)))
  clear hva hRa hfa c0 hbU HRES SX HRU
  go_wp2_with fail
  refine (rint_r (w.heap.size + 1) _ Wa HRa.out).mono ?_
  rintro e Wb ⟨b, rfl, hbb, hvb, hRb, hfb, -⟩
  have HTb := (hfb.block X ⟨by omega, by omega⟩).trans HTa.out
  have HRESb := (hfb.block w.heap.size ⟨by omega, by omega⟩).trans HRESa.out
  have HVb := Lib.hid hvb
  have hzb := hfb.size
  have hbB := Fr.trans hbA.out (hfb.mono (fun i (hi : i < w.heap.size) => ⟨by omega, by omega⟩))
  have c25 : Wb.cell? ⟨X, 25, none⟩ = some (.int .i64 0) := blk_cell HTb 25
  have z25 : Wb.frozen? ⟨X, 25, none⟩ = false := blk_frozen HTb 25
  have c26 : Wb.cell? ⟨X, 26, none⟩ = some (.int .i64 0) := blk_cell HTb 26
  have z26 : Wb.frozen? ⟨X, 26, none⟩ = false := blk_frozen HTb 26
  have c00 : Wb.cell? ⟨X, 0, none⟩ = some (.int .i64 8) := blk_cell HTb 0
  have fS : Fr (fun i => i ≠ X) Wb ((Wb.setCell ⟨X, 25, none⟩ (.int .i64 a)).setCell ⟨X, 26, none⟩ (.int .i64 b)) := Fr.setCell (p := ⟨X, 26, none⟩) (Fr.setCell (p := ⟨X, 25, none⟩) (Fr.refl _ Wb) (fun h => h rfl) _) (fun h => h rfl) _
  have G2 : ((Wb.setCell ⟨X, 25, none⟩ (.int .i64 a)).setCell ⟨X, 26, none⟩ (.int .i64 b)).heap[X]? = some (.cells (evCells 8 zEntry zRate zHolding zMatch zStock a b ⟨#[]⟩).toArray 45 (0, 0)) := heap_setCell_same (heap_setCell_same HTb 25 _) 26 _
  have hRV0 := hRb.fr (Q := fun i => i ≠ X) fS (fun i hi => by show i ≠ X; omega)
  have fV : Fr (· < w.heap.size) w ((Wb.setCell ⟨X, 25, none⟩ (.int .i64 a)).setCell ⟨X, 26, none⟩ (.int .i64 b)) := Fr.trans hbB (fS.mono (fun i (hi : i < w.heap.size) => by show i ≠ X; omega))
  have HRESV := (fS.block w.heap.size (by show w.heap.size ≠ X; omega)).trans HRESb
  obtain ⟨V, hV⟩ : ∃ V, V = (Wb.setCell ⟨X, 25, none⟩ (.int .i64 a)).setCell ⟨X, 26, none⟩ (.int .i64 b) := ⟨_, rfl⟩
  have hsz := fS.size
  have HHTb := Lib.hid HTb
  have HHRESb := Lib.hid HRESb
  clear hvb hRb hfb HTb HRESb hbA HTa HRESa HRa
  go_upto_region 24 with fail
  rw [← hV] at fV hRV0 G2 HRESV hsz
  rw [← hV]
  clear hV fS
  have HRES := Lib.hid HRESV
  have HT := Lib.hid G2
  have HC := Lib.hid (show EventC V (fun i => w.heap.size + 1 < i ∧ i < V.heap.size) (evCells 8 zEntry zRate zHolding zMatch zStock a b ⟨#[]⟩) { kind := 8, a := a, b := b } from evC (k := 8) (a := a) (b := b) (s := ⟨#[]⟩) (by unfold intBd; omega) (zEntryC _ _) (zRateC _ _) (zHoldingC _ _) (zMatchC _ _) (zStockC _ _) hba hbb)
  have HVV := Lib.hid (vl_mapF (c := cAB) (f := fun a => { kind := 8, a := a.1, b := a.2 }) decF_8 (Cod.vl_pair HVa.out HVb.out))
  have HRV : Hid (RQ V (w.heap.size + 1) (stF 8 (some l1))) := Lib.hid (by rw [st_mapF (c := cAB) (f := fun a => { kind := 8, a := a.1, b := a.2 }) decF_8, show cAB.st (some l1) = cInt.st (cInt.st (some l1)) from Cod.st_pair _ _ _]; exact hRV0)
  have hbV := Lib.hid fV
  clear HRESV G2 hRV0 fV c25 c26 z25 z26 c00 HHTb HHRESb
  obtain ⟨A3, c3, L3, bad3, hG3, hrd3, hLc3, hLL3, hst3, hst4⟩ := HRV.out
  have d0 := blk_cell hG3 0
  have d1 := blk_cell hG3 1
  clear hG3 hrd3
  cases hs3 : stF 8 (some l1) with
  | none =>
    have hb := hst3 hs3
    subst hb
    have HN := Lib.hid (show rr = none by rw [HRR.out]; unfold parseEv; rw [HDE.out, stF_none hs3]; split <;> rfl)
    clear hs3 hst3 hst4
    go_wp2_with (refine wpList_store_row rfl 45 (.tmp 2) (.tmp 79) rfl w.heap.size zCells rfl rfl 45 _ HRES.out zsz rfl zone ?_)
    have hfr := fr_setRow V w.heap.size zCells
    (try simp only [Exit.inBlock, Exit.then])
    refine bodyPost_ret (v := .tuple #[.agg zCells, .int .i64 4]) (results_cell_tmp rfl _ _ w.heap.size 45 _ (0, 0) _ rfl (heap_setRow HRES.out _) Try.underlying45 rfl zsz _ rfl) rfl ⟨zEv 0, {}, 4, rfl, evC bd0 (zEntryC _ _) (zRateC _ _) (zHoldingC _ _) (zMatchC _ _) (zStockC _ _) bd0 bd0, (Fr.trans hbV.out (hfr.mono (fun i hi => by show i ≠ w.heap.size; have : i < w.heap.size := hi; omega))).below, .inr ⟨HN.out, rfl, rfl⟩⟩
  | some r =>
    obtain ⟨hb, hr⟩ := hst4 r hs3
    subst hb hr
    have HDF := Lib.hid (stF_some hs3 HVV.out)
    clear hs3 hst3 hst4
    obtain ⟨m, hm⟩ : ∃ m, r.length = m := ⟨_, rfl⟩
    rw [hm] at d0 d1
    by_cases hr0 : 0 < r.length
    · have hr0I : (0 : Int) < (m : Int) := by omega
      have HN := Lib.hid (show rr = none by
        rw [HRR.out]; unfold parseEv; rw [HDE.out, HDF.out]
        cases r with
        | nil => exact absurd hr0 (by simp)
        | cons a r => split <;> rfl)
      clear hr0 hm hLc3 hLL3
      go_wp2_with (refine wpList_store_row rfl 45 (.tmp 2) (.tmp 79) rfl w.heap.size zCells rfl rfl 45 _ HRES.out zsz rfl zone ?_)
      have hfr := fr_setRow V w.heap.size zCells
      (try simp only [Exit.inBlock, Exit.then])
      refine bodyPost_ret (v := .tuple #[.agg zCells, .int .i64 4]) (results_cell_tmp rfl _ _ w.heap.size 45 _ (0, 0) _ rfl (heap_setRow HRES.out _) Try.underlying45 rfl zsz _ rfl) rfl ⟨zEv 0, {}, 4, rfl, evC bd0 (zEntryC _ _) (zRateC _ _) (zHoldingC _ _) (zMatchC _ _) (zStockC _ _) bd0 bd0, (Fr.trans hbV.out (hfr.mono (fun i hi => by show i ≠ w.heap.size; have : i < w.heap.size := hi; omega))).below, .inr ⟨HN.out, rfl, rfl⟩⟩
    · have hr0I : ¬ (0 : Int) < (m : Int) := by omega
      have hre : r = [] := by
        cases r with
        | nil => rfl
        | cons a r => exact absurd (Nat.zero_lt_succ _) hr0
      have HRE := Lib.hid hre
      clear hr0 hre hm hLc3 hLL3
      by_cases hbig : 65536 < L.length
      · have hbigI : (65536 : Int) < (L.length : Int) := by omega
        have HN := Lib.hid (show rr = none by rw [HRR.out]; unfold parseEv; rw [if_pos hbig])
        clear hbig
        go_wp2_with (refine wpList_store_row rfl 45 (.tmp 2) (.tmp 79) rfl w.heap.size zCells rfl rfl 45 _ HRES.out zsz rfl zone ?_)
        have hfr := fr_setRow V w.heap.size zCells
        (try simp only [Exit.inBlock, Exit.then])
        refine bodyPost_ret (v := .tuple #[.agg zCells, .int .i64 4]) (results_cell_tmp rfl _ _ w.heap.size 45 _ (0, 0) _ rfl (heap_setRow HRES.out _) Try.underlying45 rfl zsz _ rfl) rfl ⟨zEv 0, {}, 4, rfl, evC bd0 (zEntryC _ _) (zRateC _ _) (zHoldingC _ _) (zMatchC _ _) (zStockC _ _) bd0 bd0, (Fr.trans hbV.out (hfr.mono (fun i hi => by show i ≠ w.heap.size; have : i < w.heap.size := hi; omega))).below, .inr ⟨HN.out, rfl, rfl⟩⟩
      · have hbigI : ¬ (65536 : Int) < (L.length : Int) := by omega
        have HY := Lib.hid (show rr = some { kind := 8, a := a, b := b } by rw [HRR.out]; unfold parseEv; rw [if_neg hbig, HDE.out, HDF.out, HRE.out])
        have HCS := Lib.hid (size45 HC.out.len)
        have HSZ := Lib.hid (zsize HC.out)
        have HONE := Lib.hid HC.out.one
        clear hbig
        go_wp2_with (first | refine wpList_load_row rfl 45 (.tmp 5) rfl X rfl 45 (evCells 8 zEntry zRate zHolding zMatch zStock a b ⟨#[]⟩).toArray (0, 0) _ HT.out Try.underlying45 rfl HCS.out ?_ | refine wpList_store_row rfl 45 (.tmp 2) (.tmp 80) rfl w.heap.size (evCells 8 zEntry zRate zHolding zMatch zStock a b ⟨#[]⟩).toArray rfl rfl 45 _ HRES.out HCS.out HSZ.out HONE.out ?_)
        have hfr := fr_setRow V w.heap.size (evCells 8 zEntry zRate zHolding zMatch zStock a b ⟨#[]⟩).toArray
        (try simp only [Exit.inBlock, Exit.then])
        refine bodyPost_ret (v := .tuple #[.agg (evCells 8 zEntry zRate zHolding zMatch zStock a b ⟨#[]⟩).toArray, .int .i64 0]) (results_cell_tmp rfl _ _ w.heap.size 45 _ (0, 0) _ rfl (heap_setRow HRES.out _) Try.underlying45 rfl HCS.out _ rfl) rfl ⟨(evCells 8 zEntry zRate zHolding zMatch zStock a b ⟨#[]⟩), { kind := 8, a := a, b := b }, 0, rfl, ?_, (Fr.trans hbV.out (hfr.mono (fun i hi => by show i ≠ w.heap.size; have : i < w.heap.size := hi; omega))).below, .inl ⟨_, HY.out, rfl, rfl⟩⟩
        exact EventC.mono (EventC.fr HC.out (hfr.mono (fun i hi => by have := hi.1; omega))) (fun i hi => ⟨by have := hi.1; omega, by have := hi.2; have := hfr.size; omega⟩)
set_option maxHeartbeats 2000000 in
set_option maxRecDepth 100000 in
theorem rParse_9 (A : Option Addr) (c : Nat) (L : List UInt8) (w : World) (h : Rd w (· < w.heap.size) A L.length 1 (bv L)) (hc : L.length ≤ c) (hl : L.length ≤ 1000000) (l1 : List UInt8) (hd : decInt L = some (9, l1)) :
    Calls Try.prog 24 #[.slice A L.length c] w (PPost EventC {} w (parseEv L)) := by
  have HL := Lib.hid h
  obtain ⟨rr, hrr⟩ : ∃ rr, rr = parseEv L := ⟨_, rfl⟩
  rw [← hrr]
  have HRR := Lib.hid hrr
  clear h hrr
  go_enter Try.func24, Try.ntmps24
  go_upto_region 2 with fail
  have h2 := heap2 w (.cells #[.int .i64 0, .int .i64 0, .int .i64 0, .int .i64 0, .int .i64 0, .int .i64 0, .string ⟨#[]⟩, .slice none 0 0, .string ⟨#[]⟩, .int .i64 0, .int .i64 0, .int .i64 0, .int .i64 0, .int .i64 0, .int .i64 0, .int .i64 0, .int .i64 0, .slice none 0 0, .slice none 0 0, .int .i64 0, .int .i64 0, .int .i64 0, .int .i64 0, .int .i64 0, .int .i64 0, .int .i64 0, .int .i64 0, .string ⟨#[]⟩] 45) (.cells #[.slice A L.length c, .bool false] 99)
  generalize hW : (w.alloc (.cells #[.int .i64 0, .int .i64 0, .int .i64 0, .int .i64 0, .int .i64 0, .int .i64 0, .string ⟨#[]⟩, .slice none 0 0, .string ⟨#[]⟩, .int .i64 0, .int .i64 0, .int .i64 0, .int .i64 0, .int .i64 0, .int .i64 0, .int .i64 0, .int .i64 0, .slice none 0 0, .slice none 0 0, .int .i64 0, .int .i64 0, .int .i64 0, .int .i64 0, .int .i64 0, .int .i64 0, .int .i64 0, .int .i64 0, .string ⟨#[]⟩] 45)).alloc (.cells #[.slice A L.length c, .bool false] 99) = W at *
  obtain ⟨H0, H1, HS, HF⟩ := h2
  clear hW
  have hbW : Below w.heap.size w W := HF.below
  have hR0 : RQ W (w.heap.size + 1) (some L) := ⟨A, c, L, false, H1, (HL.out.fr HF).mono (fun k hk => by omega), hc, by omega, (fun h => by cases h), (fun l h => by injection h with h; exact ⟨rfl, h.symm⟩)⟩
  have hWs : w.heap.size + 2 = W.heap.size := by omega
  have HRES0 := Lib.hid H0
  have HRQ0 := Lib.hid hR0
  clear H0 H1 HS HF hR0
  go_wp2_with fail
  refine (rint_r (w.heap.size + 1) (some L) W HRQ0.out).mono ?_
  rintro e W1 ⟨n, rfl, hnb, hv, hR1, hf1, h0⟩
  have hnk : n = 9 := (hv _ hd).symm
  subst hnk
  have HD := Lib.hid hd
  have HDE := Lib.hid (show decEv L = decF 9 l1 by simp [decEv, hd])
  have hR1 : RQ W1 (w.heap.size + 1) (some l1) := by
    have e : cInt.st (some L) = some l1 := by show Option.map (·.2) (decInt L) = some l1; rw [hd]; rfl
    rw [← e]; exact hR1
  clear hd
  have HRES1 := Lib.hid ((hf1.block w.heap.size ⟨by omega, by omega⟩).trans HRES0.out)
  have hb1 : Below w.heap.size w W1 := hbW.trans ((hf1.mono (fun i (hi : i < w.heap.size) => ⟨by omega, by omega⟩)).below)
  have h1s : W.heap.size ≤ W1.heap.size := hf1.size
  clear hv hf1 h0 HRES0 HRQ0 hbW
  go_upto_region 3 with (refine wpList_store_fresh2 rfl 45 (.tmp 5) (.tmp 11) rfl rfl W1 _ 45 #[.int .i64 9, .int .i64 0, .int .i64 0, .int .i64 0, .int .i64 0, .int .i64 0, .string ⟨#[]⟩, .slice none 0 0, .string ⟨#[]⟩, .int .i64 0, .int .i64 0, .int .i64 0, .int .i64 0, .int .i64 0, .int .i64 0, .int .i64 0, .int .i64 0, .slice none 0 0, .slice none 0 0, .int .i64 0, .int .i64 0, .int .i64 0, .int .i64 0, .int .i64 0, .int .i64 0, .int .i64 0, .int .i64 0, .string ⟨#[]⟩] rfl rfl info45 rfl (by simp only [List.all_toArray, List.all_cons, List.all_nil, Value.oneCell', Bool.and_true]) ?_; intro U S1 S2 S3; replace S1 := Lib.hid S1)
  have hbU := Lib.hid (Fr.trans (Fr.ofBelow hb1) ((Fr.ofBelow S2).mono (fun k (hk : k < w.heap.size) => by show k < W1.heap.size; omega)))
  have HRES := Lib.hid ((S2.block w.heap.size (by omega)).trans HRES1.out)
  have HRU := Lib.hid (hR1.fr (Fr.ofBelow S2) (fun k hk => by omega))
  obtain ⟨X, hX⟩ : ∃ X, W1.heap.size = X := ⟨_, rfl⟩
  have hXw : w.heap.size + 1 < X := by omega
  have hXU : X < U.heap.size := by omega
  have SX : Hid (U.heap[X]? = some (.cells #[.int .i64 9, .int .i64 0, .int .i64 0, .int .i64 0, .int .i64 0, .int .i64 0, .string ⟨#[]⟩, .slice none 0 0, .string ⟨#[]⟩, .int .i64 0, .int .i64 0, .int .i64 0, .int .i64 0, .int .i64 0, .int .i64 0, .int .i64 0, .int .i64 0, .slice none 0 0, .slice none 0 0, .int .i64 0, .int .i64 0, .int .i64 0, .int .i64 0, .int .i64 0, .int .i64 0, .int .i64 0, .int .i64 0, .string ⟨#[]⟩] 45 (0, 0))) := by rw [← hX]; exact S1
  rw [hX]
  clear hX S1 S2 S3 hb1 HRES1 hR1 h1s
  have c0 : U.cell? ⟨X, 0, none⟩ = some (.int .i64 9) := blk_cell SX.out 0
  go_wp2_with fail
  refine (rint_r (w.heap.size + 1) _ U HRU.out).mono ?_
  rintro e Wa ⟨a, rfl, hba, hva, hRa, hfa, -⟩
  have HTa := Lib.hid ((hfa.block X ⟨hXU, by omega⟩).trans SX.out)
  have HRESa := Lib.hid ((hfa.block w.heap.size ⟨by omega, by omega⟩).trans HRES.out)
  have HVa := Lib.hid hva
  have HRa := Lib.hid hRa
  have hza := hfa.size
  have hbA := Lib.hid (Fr.trans hbU.out (hfa.mono (fun i (hi : i < w.heap.size) => ⟨by omega, by omega⟩)))
  clear hva hRa hfa c0 hbU HRES SX HRU
  go_wp2_with fail
  refine (rint_r (w.heap.size + 1) _ Wa HRa.out).mono ?_
  rintro e Wb ⟨b, rfl, hbb, hvb, hRb, hfb, -⟩
  have HTb := (hfb.block X ⟨by omega, by omega⟩).trans HTa.out
  have HRESb := (hfb.block w.heap.size ⟨by omega, by omega⟩).trans HRESa.out
  have HVb := Lib.hid hvb
  have hzb := hfb.size
  have hbB := Fr.trans hbA.out (hfb.mono (fun i (hi : i < w.heap.size) => ⟨by omega, by omega⟩))
  have c25 : Wb.cell? ⟨X, 25, none⟩ = some (.int .i64 0) := blk_cell HTb 25
  have z25 : Wb.frozen? ⟨X, 25, none⟩ = false := blk_frozen HTb 25
  have c26 : Wb.cell? ⟨X, 26, none⟩ = some (.int .i64 0) := blk_cell HTb 26
  have z26 : Wb.frozen? ⟨X, 26, none⟩ = false := blk_frozen HTb 26
  have c00 : Wb.cell? ⟨X, 0, none⟩ = some (.int .i64 9) := blk_cell HTb 0
  have fS : Fr (fun i => i ≠ X) Wb ((Wb.setCell ⟨X, 25, none⟩ (.int .i64 a)).setCell ⟨X, 26, none⟩ (.int .i64 b)) := Fr.setCell (p := ⟨X, 26, none⟩) (Fr.setCell (p := ⟨X, 25, none⟩) (Fr.refl _ Wb) (fun h => h rfl) _) (fun h => h rfl) _
  have G2 : ((Wb.setCell ⟨X, 25, none⟩ (.int .i64 a)).setCell ⟨X, 26, none⟩ (.int .i64 b)).heap[X]? = some (.cells (evCells 9 zEntry zRate zHolding zMatch zStock a b ⟨#[]⟩).toArray 45 (0, 0)) := heap_setCell_same (heap_setCell_same HTb 25 _) 26 _
  have hRV0 := hRb.fr (Q := fun i => i ≠ X) fS (fun i hi => by show i ≠ X; omega)
  have fV : Fr (· < w.heap.size) w ((Wb.setCell ⟨X, 25, none⟩ (.int .i64 a)).setCell ⟨X, 26, none⟩ (.int .i64 b)) := Fr.trans hbB (fS.mono (fun i (hi : i < w.heap.size) => by show i ≠ X; omega))
  have HRESV := (fS.block w.heap.size (by show w.heap.size ≠ X; omega)).trans HRESb
  obtain ⟨V, hV⟩ : ∃ V, V = (Wb.setCell ⟨X, 25, none⟩ (.int .i64 a)).setCell ⟨X, 26, none⟩ (.int .i64 b) := ⟨_, rfl⟩
  have hsz := fS.size
  have HHTb := Lib.hid HTb
  have HHRESb := Lib.hid HRESb
  clear hvb hRb hfb HTb HRESb hbA HTa HRESa HRa
  go_upto_region 24 with fail
  rw [← hV] at fV hRV0 G2 HRESV hsz
  rw [← hV]
  clear hV fS
  have HRES := Lib.hid HRESV
  have HT := Lib.hid G2
  have HC := Lib.hid (show EventC V (fun i => w.heap.size + 1 < i ∧ i < V.heap.size) (evCells 9 zEntry zRate zHolding zMatch zStock a b ⟨#[]⟩) { kind := 9, a := a, b := b } from evC (k := 9) (a := a) (b := b) (s := ⟨#[]⟩) (by unfold intBd; omega) (zEntryC _ _) (zRateC _ _) (zHoldingC _ _) (zMatchC _ _) (zStockC _ _) hba hbb)
  have HVV := Lib.hid (vl_mapF (c := cAB) (f := fun a => { kind := 9, a := a.1, b := a.2 }) decF_9 (Cod.vl_pair HVa.out HVb.out))
  have HRV : Hid (RQ V (w.heap.size + 1) (stF 9 (some l1))) := Lib.hid (by rw [st_mapF (c := cAB) (f := fun a => { kind := 9, a := a.1, b := a.2 }) decF_9, show cAB.st (some l1) = cInt.st (cInt.st (some l1)) from Cod.st_pair _ _ _]; exact hRV0)
  have hbV := Lib.hid fV
  clear HRESV G2 hRV0 fV c25 c26 z25 z26 c00 HHTb HHRESb
  obtain ⟨A3, c3, L3, bad3, hG3, hrd3, hLc3, hLL3, hst3, hst4⟩ := HRV.out
  have d0 := blk_cell hG3 0
  have d1 := blk_cell hG3 1
  clear hG3 hrd3
  cases hs3 : stF 9 (some l1) with
  | none =>
    have hb := hst3 hs3
    subst hb
    have HN := Lib.hid (show rr = none by rw [HRR.out]; unfold parseEv; rw [HDE.out, stF_none hs3]; split <;> rfl)
    clear hs3 hst3 hst4
    go_wp2_with (refine wpList_store_row rfl 45 (.tmp 2) (.tmp 79) rfl w.heap.size zCells rfl rfl 45 _ HRES.out zsz rfl zone ?_)
    have hfr := fr_setRow V w.heap.size zCells
    (try simp only [Exit.inBlock, Exit.then])
    refine bodyPost_ret (v := .tuple #[.agg zCells, .int .i64 4]) (results_cell_tmp rfl _ _ w.heap.size 45 _ (0, 0) _ rfl (heap_setRow HRES.out _) Try.underlying45 rfl zsz _ rfl) rfl ⟨zEv 0, {}, 4, rfl, evC bd0 (zEntryC _ _) (zRateC _ _) (zHoldingC _ _) (zMatchC _ _) (zStockC _ _) bd0 bd0, (Fr.trans hbV.out (hfr.mono (fun i hi => by show i ≠ w.heap.size; have : i < w.heap.size := hi; omega))).below, .inr ⟨HN.out, rfl, rfl⟩⟩
  | some r =>
    obtain ⟨hb, hr⟩ := hst4 r hs3
    subst hb hr
    have HDF := Lib.hid (stF_some hs3 HVV.out)
    clear hs3 hst3 hst4
    obtain ⟨m, hm⟩ : ∃ m, r.length = m := ⟨_, rfl⟩
    rw [hm] at d0 d1
    by_cases hr0 : 0 < r.length
    · have hr0I : (0 : Int) < (m : Int) := by omega
      have HN := Lib.hid (show rr = none by
        rw [HRR.out]; unfold parseEv; rw [HDE.out, HDF.out]
        cases r with
        | nil => exact absurd hr0 (by simp)
        | cons a r => split <;> rfl)
      clear hr0 hm hLc3 hLL3
      go_wp2_with (refine wpList_store_row rfl 45 (.tmp 2) (.tmp 79) rfl w.heap.size zCells rfl rfl 45 _ HRES.out zsz rfl zone ?_)
      have hfr := fr_setRow V w.heap.size zCells
      (try simp only [Exit.inBlock, Exit.then])
      refine bodyPost_ret (v := .tuple #[.agg zCells, .int .i64 4]) (results_cell_tmp rfl _ _ w.heap.size 45 _ (0, 0) _ rfl (heap_setRow HRES.out _) Try.underlying45 rfl zsz _ rfl) rfl ⟨zEv 0, {}, 4, rfl, evC bd0 (zEntryC _ _) (zRateC _ _) (zHoldingC _ _) (zMatchC _ _) (zStockC _ _) bd0 bd0, (Fr.trans hbV.out (hfr.mono (fun i hi => by show i ≠ w.heap.size; have : i < w.heap.size := hi; omega))).below, .inr ⟨HN.out, rfl, rfl⟩⟩
    · have hr0I : ¬ (0 : Int) < (m : Int) := by omega
      have hre : r = [] := by
        cases r with
        | nil => rfl
        | cons a r => exact absurd (Nat.zero_lt_succ _) hr0
      have HRE := Lib.hid hre
      clear hr0 hre hm hLc3 hLL3
      by_cases hbig : 65536 < L.length
      · have hbigI : (65536 : Int) < (L.length : Int) := by omega
        have HN := Lib.hid (show rr = none by rw [HRR.out]; unfold parseEv; rw [if_pos hbig])
        clear hbig
        go_wp2_with (refine wpList_store_row rfl 45 (.tmp 2) (.tmp 79) rfl w.heap.size zCells rfl rfl 45 _ HRES.out zsz rfl zone ?_)
        have hfr := fr_setRow V w.heap.size zCells
        (try simp only [Exit.inBlock, Exit.then])
        refine bodyPost_ret (v := .tuple #[.agg zCells, .int .i64 4]) (results_cell_tmp rfl _ _ w.heap.size 45 _ (0, 0) _ rfl (heap_setRow HRES.out _) Try.underlying45 rfl zsz _ rfl) rfl ⟨zEv 0, {}, 4, rfl, evC bd0 (zEntryC _ _) (zRateC _ _) (zHoldingC _ _) (zMatchC _ _) (zStockC _ _) bd0 bd0, (Fr.trans hbV.out (hfr.mono (fun i hi => by show i ≠ w.heap.size; have : i < w.heap.size := hi; omega))).below, .inr ⟨HN.out, rfl, rfl⟩⟩
      · have hbigI : ¬ (65536 : Int) < (L.length : Int) := by omega
        have HY := Lib.hid (show rr = some { kind := 9, a := a, b := b } by rw [HRR.out]; unfold parseEv; rw [if_neg hbig, HDE.out, HDF.out, HRE.out])
        have HCS := Lib.hid (size45 HC.out.len)
        have HSZ := Lib.hid (zsize HC.out)
        have HONE := Lib.hid HC.out.one
        clear hbig
        go_wp2_with (first | refine wpList_load_row rfl 45 (.tmp 5) rfl X rfl 45 (evCells 9 zEntry zRate zHolding zMatch zStock a b ⟨#[]⟩).toArray (0, 0) _ HT.out Try.underlying45 rfl HCS.out ?_ | refine wpList_store_row rfl 45 (.tmp 2) (.tmp 80) rfl w.heap.size (evCells 9 zEntry zRate zHolding zMatch zStock a b ⟨#[]⟩).toArray rfl rfl 45 _ HRES.out HCS.out HSZ.out HONE.out ?_)
        have hfr := fr_setRow V w.heap.size (evCells 9 zEntry zRate zHolding zMatch zStock a b ⟨#[]⟩).toArray
        (try simp only [Exit.inBlock, Exit.then])
        refine bodyPost_ret (v := .tuple #[.agg (evCells 9 zEntry zRate zHolding zMatch zStock a b ⟨#[]⟩).toArray, .int .i64 0]) (results_cell_tmp rfl _ _ w.heap.size 45 _ (0, 0) _ rfl (heap_setRow HRES.out _) Try.underlying45 rfl HCS.out _ rfl) rfl ⟨(evCells 9 zEntry zRate zHolding zMatch zStock a b ⟨#[]⟩), { kind := 9, a := a, b := b }, 0, rfl, ?_, (Fr.trans hbV.out (hfr.mono (fun i hi => by show i ≠ w.heap.size; have : i < w.heap.size := hi; omega))).below, .inl ⟨_, HY.out, rfl, rfl⟩⟩
        exact EventC.mono (EventC.fr HC.out (hfr.mono (fun i hi => by have := hi.1; omega))) (fun i hi => ⟨by have := hi.1; omega, by have := hi.2; have := hfr.size; omega⟩)
set_option maxHeartbeats 2000000 in
set_option maxRecDepth 100000 in
theorem rParse_10 (A : Option Addr) (c : Nat) (L : List UInt8) (w : World) (h : Rd w (· < w.heap.size) A L.length 1 (bv L)) (hc : L.length ≤ c) (hl : L.length ≤ 1000000) (l1 : List UInt8) (hd : decInt L = some (10, l1)) :
    Calls Try.prog 24 #[.slice A L.length c] w (PPost EventC {} w (parseEv L)) := by
  have HL := Lib.hid h
  obtain ⟨rr, hrr⟩ : ∃ rr, rr = parseEv L := ⟨_, rfl⟩
  rw [← hrr]
  have HRR := Lib.hid hrr
  clear h hrr
  go_enter Try.func24, Try.ntmps24
  go_upto_region 2 with fail
  have h2 := heap2 w (.cells #[.int .i64 0, .int .i64 0, .int .i64 0, .int .i64 0, .int .i64 0, .int .i64 0, .string ⟨#[]⟩, .slice none 0 0, .string ⟨#[]⟩, .int .i64 0, .int .i64 0, .int .i64 0, .int .i64 0, .int .i64 0, .int .i64 0, .int .i64 0, .int .i64 0, .slice none 0 0, .slice none 0 0, .int .i64 0, .int .i64 0, .int .i64 0, .int .i64 0, .int .i64 0, .int .i64 0, .int .i64 0, .int .i64 0, .string ⟨#[]⟩] 45) (.cells #[.slice A L.length c, .bool false] 99)
  generalize hW : (w.alloc (.cells #[.int .i64 0, .int .i64 0, .int .i64 0, .int .i64 0, .int .i64 0, .int .i64 0, .string ⟨#[]⟩, .slice none 0 0, .string ⟨#[]⟩, .int .i64 0, .int .i64 0, .int .i64 0, .int .i64 0, .int .i64 0, .int .i64 0, .int .i64 0, .int .i64 0, .slice none 0 0, .slice none 0 0, .int .i64 0, .int .i64 0, .int .i64 0, .int .i64 0, .int .i64 0, .int .i64 0, .int .i64 0, .int .i64 0, .string ⟨#[]⟩] 45)).alloc (.cells #[.slice A L.length c, .bool false] 99) = W at *
  obtain ⟨H0, H1, HS, HF⟩ := h2
  clear hW
  have hbW : Below w.heap.size w W := HF.below
  have hR0 : RQ W (w.heap.size + 1) (some L) := ⟨A, c, L, false, H1, (HL.out.fr HF).mono (fun k hk => by omega), hc, by omega, (fun h => by cases h), (fun l h => by injection h with h; exact ⟨rfl, h.symm⟩)⟩
  have hWs : w.heap.size + 2 = W.heap.size := by omega
  have HRES0 := Lib.hid H0
  have HRQ0 := Lib.hid hR0
  clear H0 H1 HS HF hR0
  go_wp2_with fail
  refine (rint_r (w.heap.size + 1) (some L) W HRQ0.out).mono ?_
  rintro e W1 ⟨n, rfl, hnb, hv, hR1, hf1, h0⟩
  have hnk : n = 10 := (hv _ hd).symm
  subst hnk
  have HD := Lib.hid hd
  have HDE := Lib.hid (show decEv L = decF 10 l1 by simp [decEv, hd])
  have hR1 : RQ W1 (w.heap.size + 1) (some l1) := by
    have e : cInt.st (some L) = some l1 := by show Option.map (·.2) (decInt L) = some l1; rw [hd]; rfl
    rw [← e]; exact hR1
  clear hd
  have HRES1 := Lib.hid ((hf1.block w.heap.size ⟨by omega, by omega⟩).trans HRES0.out)
  have hb1 : Below w.heap.size w W1 := hbW.trans ((hf1.mono (fun i (hi : i < w.heap.size) => ⟨by omega, by omega⟩)).below)
  have h1s : W.heap.size ≤ W1.heap.size := hf1.size
  clear hv hf1 h0 HRES0 HRQ0 hbW
  go_upto_region 3 with (refine wpList_store_fresh2 rfl 45 (.tmp 5) (.tmp 11) rfl rfl W1 _ 45 #[.int .i64 10, .int .i64 0, .int .i64 0, .int .i64 0, .int .i64 0, .int .i64 0, .string ⟨#[]⟩, .slice none 0 0, .string ⟨#[]⟩, .int .i64 0, .int .i64 0, .int .i64 0, .int .i64 0, .int .i64 0, .int .i64 0, .int .i64 0, .int .i64 0, .slice none 0 0, .slice none 0 0, .int .i64 0, .int .i64 0, .int .i64 0, .int .i64 0, .int .i64 0, .int .i64 0, .int .i64 0, .int .i64 0, .string ⟨#[]⟩] rfl rfl info45 rfl (by simp only [List.all_toArray, List.all_cons, List.all_nil, Value.oneCell', Bool.and_true]) ?_; intro U S1 S2 S3; replace S1 := Lib.hid S1)
  have hbU := Lib.hid (Fr.trans (Fr.ofBelow hb1) ((Fr.ofBelow S2).mono (fun k (hk : k < w.heap.size) => by show k < W1.heap.size; omega)))
  have HRES := Lib.hid ((S2.block w.heap.size (by omega)).trans HRES1.out)
  have HRU := Lib.hid (hR1.fr (Fr.ofBelow S2) (fun k hk => by omega))
  obtain ⟨X, hX⟩ : ∃ X, W1.heap.size = X := ⟨_, rfl⟩
  have hXw : w.heap.size + 1 < X := by omega
  have hXU : X < U.heap.size := by omega
  have SX : Hid (U.heap[X]? = some (.cells #[.int .i64 10, .int .i64 0, .int .i64 0, .int .i64 0, .int .i64 0, .int .i64 0, .string ⟨#[]⟩, .slice none 0 0, .string ⟨#[]⟩, .int .i64 0, .int .i64 0, .int .i64 0, .int .i64 0, .int .i64 0, .int .i64 0, .int .i64 0, .int .i64 0, .slice none 0 0, .slice none 0 0, .int .i64 0, .int .i64 0, .int .i64 0, .int .i64 0, .int .i64 0, .int .i64 0, .int .i64 0, .int .i64 0, .string ⟨#[]⟩] 45 (0, 0))) := by rw [← hX]; exact S1
  rw [hX]
  clear hX S1 S2 S3 hb1 HRES1 hR1 h1s
  have c0 : U.cell? ⟨X, 0, none⟩ = some (.int .i64 10) := blk_cell SX.out 0
  go_wp2_with fail
  refine (rint_r (w.heap.size + 1) _ U HRU.out).mono ?_
  rintro e Wa ⟨a, rfl, hba, hva, hRa, hfa, -⟩
  have HTa := Lib.hid ((hfa.block X ⟨hXU, by omega⟩).trans SX.out)
  have HRESa := Lib.hid ((hfa.block w.heap.size ⟨by omega, by omega⟩).trans HRES.out)
  have HVa := Lib.hid hva
  have HRa := Lib.hid hRa
  have hza := hfa.size
  have hbA := Lib.hid (Fr.trans hbU.out (hfa.mono (fun i (hi : i < w.heap.size) => ⟨by omega, by omega⟩)))
  clear hva hRa hfa c0 hbU HRES SX HRU
  go_wp2_with fail
  refine (rint_r (w.heap.size + 1) _ Wa HRa.out).mono ?_
  rintro e Wb ⟨b, rfl, hbb, hvb, hRb, hfb, -⟩
  have HTb := (hfb.block X ⟨by omega, by omega⟩).trans HTa.out
  have HRESb := (hfb.block w.heap.size ⟨by omega, by omega⟩).trans HRESa.out
  have HVb := Lib.hid hvb
  have hzb := hfb.size
  have hbB := Fr.trans hbA.out (hfb.mono (fun i (hi : i < w.heap.size) => ⟨by omega, by omega⟩))
  have c25 : Wb.cell? ⟨X, 25, none⟩ = some (.int .i64 0) := blk_cell HTb 25
  have z25 : Wb.frozen? ⟨X, 25, none⟩ = false := blk_frozen HTb 25
  have c26 : Wb.cell? ⟨X, 26, none⟩ = some (.int .i64 0) := blk_cell HTb 26
  have z26 : Wb.frozen? ⟨X, 26, none⟩ = false := blk_frozen HTb 26
  have c00 : Wb.cell? ⟨X, 0, none⟩ = some (.int .i64 10) := blk_cell HTb 0
  have fS : Fr (fun i => i ≠ X) Wb ((Wb.setCell ⟨X, 25, none⟩ (.int .i64 a)).setCell ⟨X, 26, none⟩ (.int .i64 b)) := Fr.setCell (p := ⟨X, 26, none⟩) (Fr.setCell (p := ⟨X, 25, none⟩) (Fr.refl _ Wb) (fun h => h rfl) _) (fun h => h rfl) _
  have G2 : ((Wb.setCell ⟨X, 25, none⟩ (.int .i64 a)).setCell ⟨X, 26, none⟩ (.int .i64 b)).heap[X]? = some (.cells (evCells 10 zEntry zRate zHolding zMatch zStock a b ⟨#[]⟩).toArray 45 (0, 0)) := heap_setCell_same (heap_setCell_same HTb 25 _) 26 _
  have hRV0 := hRb.fr (Q := fun i => i ≠ X) fS (fun i hi => by show i ≠ X; omega)
  have fV : Fr (· < w.heap.size) w ((Wb.setCell ⟨X, 25, none⟩ (.int .i64 a)).setCell ⟨X, 26, none⟩ (.int .i64 b)) := Fr.trans hbB (fS.mono (fun i (hi : i < w.heap.size) => by show i ≠ X; omega))
  have HRESV := (fS.block w.heap.size (by show w.heap.size ≠ X; omega)).trans HRESb
  obtain ⟨V, hV⟩ : ∃ V, V = (Wb.setCell ⟨X, 25, none⟩ (.int .i64 a)).setCell ⟨X, 26, none⟩ (.int .i64 b) := ⟨_, rfl⟩
  have hsz := fS.size
  have HHTb := Lib.hid HTb
  have HHRESb := Lib.hid HRESb
  clear hvb hRb hfb HTb HRESb hbA HTa HRESa HRa
  go_upto_region 22 with fail
  rw [← hV] at fV hRV0 G2 HRESV hsz
  rw [← hV]
  clear hV fS c25 c26 z25 z26 c00 HHTb HHRESb
  have cV0 : V.cell? ⟨X, 0, none⟩ = some (.int .i64 10) := blk_cell G2 0
  have HRV0 := Lib.hid hRV0
  have HG2 := Lib.hid G2
  have HRV1 := Lib.hid HRESV
  have hfV := Lib.hid fV
  clear hRV0 G2 HRESV fV
  go_wp2_with fail
  refine (rtext_r (w.heap.size + 1) _ V HRV0.out).mono ?_
  rintro e W2 ⟨s, rfl, hve, hR2, hf2⟩
  have HT2 := (hf2.block X ⟨by omega, by omega⟩).trans HG2.out
  have HRES2 := (hf2.block w.heap.size ⟨by omega, by omega⟩).trans HRV1.out
  have c27 : W2.cell? ⟨X, 27, none⟩ = some (.string ⟨#[]⟩) := blk_cell HT2 27
  have z27 : W2.frozen? ⟨X, 27, none⟩ = false := blk_frozen HT2 27
  obtain ⟨V2, hV2⟩ : ∃ V2, V2 = W2.setCell ⟨X, 27, none⟩ (.string s) := ⟨_, rfl⟩
  have fS : Fr (fun i => i ≠ X) W2 (W2.setCell ⟨X, 27, none⟩ (.string s)) := Fr.setCell (p := ⟨X, 27, none⟩) (Fr.refl _ W2) (fun h => h rfl) _
  have G3 : (W2.setCell ⟨X, 27, none⟩ (.string s)).heap[X]? = some (.cells (evCells 10 zEntry zRate zHolding zMatch zStock a b s).toArray 45 (0, 0)) := heap_setCell_same HT2 27 _
  have hRV0 := hR2.fr (Q := fun i => i ≠ X) fS (fun i hi => by show i ≠ X; omega)
  have fV : Fr (· < w.heap.size) w (W2.setCell ⟨X, 27, none⟩ (.string s)) := Fr.trans hfV.out (Fr.trans (hf2.mono (fun i (hi : i < w.heap.size) => ⟨by omega, by omega⟩)) (fS.mono (fun i (hi : i < w.heap.size) => by show i ≠ X; omega)))
  have HRESV := (fS.block w.heap.size (by show w.heap.size ≠ X; omega)).trans HRES2
  have HVV := Lib.hid (vl_mapF (c := cABT) (f := fun a => { kind := 10, a := a.1, b := a.2.1, text := a.2.2 }) decF_10 (Cod.vl_pair HVa.out (Cod.vl_pair HVb.out hve)))
  have HHT2 := Lib.hid HT2
  clear hve hR2 hf2 HRES2 cV0 HRV0 HG2 HRV1 hfV HT2 hsz
  go_upto_region 24 with fail
  rw [← hV2] at fV hRV0 G3 HRESV
  rw [← hV2]
  clear hV2 fS V
  obtain ⟨V, hV⟩ : ∃ V, V = V2 := ⟨_, rfl⟩
  rw [← hV] at fV hRV0 G3 HRESV
  rw [← hV]
  clear hV
  have HRES := Lib.hid HRESV
  have HT := Lib.hid G3
  have HC := Lib.hid (show EventC V (fun i => w.heap.size + 1 < i ∧ i < V.heap.size) (evCells 10 zEntry zRate zHolding zMatch zStock a b s) { kind := 10, a := a, b := b, text := s } from evC (k := 10) (a := a) (b := b) (s := s) (by unfold intBd; omega) (zEntryC _ _) (zRateC _ _) (zHoldingC _ _) (zMatchC _ _) (zStockC _ _) hba hbb)
  have HRV : Hid (RQ V (w.heap.size + 1) (stF 10 (some l1))) := Lib.hid (by rw [st_mapF (c := cABT) (f := fun a => { kind := 10, a := a.1, b := a.2.1, text := a.2.2 }) decF_10, show cABT.st (some l1) = cStr.st (cInt.st (cInt.st (some l1))) from by rw [cABT, Cod.st_pair, Cod.st_pair]]; exact hRV0)
  have hbV := Lib.hid fV
  clear HRESV G3 hRV0 fV c27 z27 HHT2
  obtain ⟨A3, c3, L3, bad3, hG3, hrd3, hLc3, hLL3, hst3, hst4⟩ := HRV.out
  have d0 := blk_cell hG3 0
  have d1 := blk_cell hG3 1
  clear hG3 hrd3
  cases hs3 : stF 10 (some l1) with
  | none =>
    have hb := hst3 hs3
    subst hb
    have HN := Lib.hid (show rr = none by rw [HRR.out]; unfold parseEv; rw [HDE.out, stF_none hs3]; split <;> rfl)
    clear hs3 hst3 hst4
    go_wp2_with (refine wpList_store_row rfl 45 (.tmp 2) (.tmp 79) rfl w.heap.size zCells rfl rfl 45 _ HRES.out zsz rfl zone ?_)
    have hfr := fr_setRow V w.heap.size zCells
    (try simp only [Exit.inBlock, Exit.then])
    refine bodyPost_ret (v := .tuple #[.agg zCells, .int .i64 4]) (results_cell_tmp rfl _ _ w.heap.size 45 _ (0, 0) _ rfl (heap_setRow HRES.out _) Try.underlying45 rfl zsz _ rfl) rfl ⟨zEv 0, {}, 4, rfl, evC bd0 (zEntryC _ _) (zRateC _ _) (zHoldingC _ _) (zMatchC _ _) (zStockC _ _) bd0 bd0, (Fr.trans hbV.out (hfr.mono (fun i hi => by show i ≠ w.heap.size; have : i < w.heap.size := hi; omega))).below, .inr ⟨HN.out, rfl, rfl⟩⟩
  | some r =>
    obtain ⟨hb, hr⟩ := hst4 r hs3
    subst hb hr
    have HDF := Lib.hid (stF_some hs3 HVV.out)
    clear hs3 hst3 hst4
    obtain ⟨m, hm⟩ : ∃ m, r.length = m := ⟨_, rfl⟩
    rw [hm] at d0 d1
    by_cases hr0 : 0 < r.length
    · have hr0I : (0 : Int) < (m : Int) := by omega
      have HN := Lib.hid (show rr = none by
        rw [HRR.out]; unfold parseEv; rw [HDE.out, HDF.out]
        cases r with
        | nil => exact absurd hr0 (by simp)
        | cons a r => split <;> rfl)
      clear hr0 hm hLc3 hLL3
      go_wp2_with (refine wpList_store_row rfl 45 (.tmp 2) (.tmp 79) rfl w.heap.size zCells rfl rfl 45 _ HRES.out zsz rfl zone ?_)
      have hfr := fr_setRow V w.heap.size zCells
      (try simp only [Exit.inBlock, Exit.then])
      refine bodyPost_ret (v := .tuple #[.agg zCells, .int .i64 4]) (results_cell_tmp rfl _ _ w.heap.size 45 _ (0, 0) _ rfl (heap_setRow HRES.out _) Try.underlying45 rfl zsz _ rfl) rfl ⟨zEv 0, {}, 4, rfl, evC bd0 (zEntryC _ _) (zRateC _ _) (zHoldingC _ _) (zMatchC _ _) (zStockC _ _) bd0 bd0, (Fr.trans hbV.out (hfr.mono (fun i hi => by show i ≠ w.heap.size; have : i < w.heap.size := hi; omega))).below, .inr ⟨HN.out, rfl, rfl⟩⟩
    · have hr0I : ¬ (0 : Int) < (m : Int) := by omega
      have hre : r = [] := by
        cases r with
        | nil => rfl
        | cons a r => exact absurd (Nat.zero_lt_succ _) hr0
      have HRE := Lib.hid hre
      clear hr0 hre hm hLc3 hLL3
      by_cases hbig : 65536 < L.length
      · have hbigI : (65536 : Int) < (L.length : Int) := by omega
        have HN := Lib.hid (show rr = none by rw [HRR.out]; unfold parseEv; rw [if_pos hbig])
        clear hbig
        go_wp2_with (refine wpList_store_row rfl 45 (.tmp 2) (.tmp 79) rfl w.heap.size zCells rfl rfl 45 _ HRES.out zsz rfl zone ?_)
        have hfr := fr_setRow V w.heap.size zCells
        (try simp only [Exit.inBlock, Exit.then])
        refine bodyPost_ret (v := .tuple #[.agg zCells, .int .i64 4]) (results_cell_tmp rfl _ _ w.heap.size 45 _ (0, 0) _ rfl (heap_setRow HRES.out _) Try.underlying45 rfl zsz _ rfl) rfl ⟨zEv 0, {}, 4, rfl, evC bd0 (zEntryC _ _) (zRateC _ _) (zHoldingC _ _) (zMatchC _ _) (zStockC _ _) bd0 bd0, (Fr.trans hbV.out (hfr.mono (fun i hi => by show i ≠ w.heap.size; have : i < w.heap.size := hi; omega))).below, .inr ⟨HN.out, rfl, rfl⟩⟩
      · have hbigI : ¬ (65536 : Int) < (L.length : Int) := by omega
        have HY := Lib.hid (show rr = some { kind := 10, a := a, b := b, text := s } by rw [HRR.out]; unfold parseEv; rw [if_neg hbig, HDE.out, HDF.out, HRE.out])
        have HCS := Lib.hid (size45 HC.out.len)
        have HSZ := Lib.hid (zsize HC.out)
        have HONE := Lib.hid HC.out.one
        clear hbig
        go_wp2_with (first | refine wpList_load_row rfl 45 (.tmp 5) rfl X rfl 45 (evCells 10 zEntry zRate zHolding zMatch zStock a b s).toArray (0, 0) _ HT.out Try.underlying45 rfl HCS.out ?_ | refine wpList_store_row rfl 45 (.tmp 2) (.tmp 80) rfl w.heap.size (evCells 10 zEntry zRate zHolding zMatch zStock a b s).toArray rfl rfl 45 _ HRES.out HCS.out HSZ.out HONE.out ?_)
        have hfr := fr_setRow V w.heap.size (evCells 10 zEntry zRate zHolding zMatch zStock a b s).toArray
        (try simp only [Exit.inBlock, Exit.then])
        refine bodyPost_ret (v := .tuple #[.agg (evCells 10 zEntry zRate zHolding zMatch zStock a b s).toArray, .int .i64 0]) (results_cell_tmp rfl _ _ w.heap.size 45 _ (0, 0) _ rfl (heap_setRow HRES.out _) Try.underlying45 rfl HCS.out _ rfl) rfl ⟨(evCells 10 zEntry zRate zHolding zMatch zStock a b s), { kind := 10, a := a, b := b, text := s }, 0, rfl, ?_, (Fr.trans hbV.out (hfr.mono (fun i hi => by show i ≠ w.heap.size; have : i < w.heap.size := hi; omega))).below, .inl ⟨_, HY.out, rfl, rfl⟩⟩
        exact EventC.mono (EventC.fr HC.out (hfr.mono (fun i hi => by have := hi.1; omega))) (fun i hi => ⟨by have := hi.1; omega, by have := hi.2; have := hfr.size; omega⟩)
set_option maxHeartbeats 2000000 in
set_option maxRecDepth 100000 in
theorem rParse_no (A : Option Addr) (c : Nat) (L : List UInt8) (w : World) (h : Rd w (· < w.heap.size) A L.length 1 (bv L)) (hc : L.length ≤ c) (hl : L.length ≤ 1000000) (k : Int) (l1 : List UInt8) (hkn : known k = false) (hd : decInt L = some (k, l1)) :
    Calls Try.prog 24 #[.slice A L.length c] w (PPost EventC {} w (parseEv L)) := by
  have HL := Lib.hid h
  obtain ⟨rr, hrr⟩ : ∃ rr, rr = parseEv L := ⟨_, rfl⟩
  rw [← hrr]
  have HRR := Lib.hid hrr
  clear h hrr
  go_enter Try.func24, Try.ntmps24
  go_upto_region 2 with fail
  have h2 := heap2 w (.cells #[.int .i64 0, .int .i64 0, .int .i64 0, .int .i64 0, .int .i64 0, .int .i64 0, .string ⟨#[]⟩, .slice none 0 0, .string ⟨#[]⟩, .int .i64 0, .int .i64 0, .int .i64 0, .int .i64 0, .int .i64 0, .int .i64 0, .int .i64 0, .int .i64 0, .slice none 0 0, .slice none 0 0, .int .i64 0, .int .i64 0, .int .i64 0, .int .i64 0, .int .i64 0, .int .i64 0, .int .i64 0, .int .i64 0, .string ⟨#[]⟩] 45) (.cells #[.slice A L.length c, .bool false] 99)
  generalize hW : (w.alloc (.cells #[.int .i64 0, .int .i64 0, .int .i64 0, .int .i64 0, .int .i64 0, .int .i64 0, .string ⟨#[]⟩, .slice none 0 0, .string ⟨#[]⟩, .int .i64 0, .int .i64 0, .int .i64 0, .int .i64 0, .int .i64 0, .int .i64 0, .int .i64 0, .int .i64 0, .slice none 0 0, .slice none 0 0, .int .i64 0, .int .i64 0, .int .i64 0, .int .i64 0, .int .i64 0, .int .i64 0, .int .i64 0, .int .i64 0, .string ⟨#[]⟩] 45)).alloc (.cells #[.slice A L.length c, .bool false] 99) = W at *
  obtain ⟨H0, H1, HS, HF⟩ := h2
  clear hW
  have hbW : Below w.heap.size w W := HF.below
  have hR0 : RQ W (w.heap.size + 1) (some L) := ⟨A, c, L, false, H1, (HL.out.fr HF).mono (fun k hk => by omega), hc, by omega, (fun h => by cases h), (fun l h => by injection h with h; exact ⟨rfl, h.symm⟩)⟩
  have hWs : w.heap.size + 2 = W.heap.size := by omega
  have HRES0 := Lib.hid H0
  have HRQ0 := Lib.hid hR0
  clear H0 H1 HS HF hR0
  go_wp2_with fail
  refine (rint_r (w.heap.size + 1) (some L) W HRQ0.out).mono ?_
  rintro e W1 ⟨n, rfl, hnb, hv, hR1, hf1, h0⟩
  have hnk : n = k := (hv _ hd).symm
  subst hnk
  have HN := Lib.hid (show rr = none by rw [HRR.out]; unfold parseEv; rw [show decEv L = none by simp [decEv, hd, decF_no hkn]]; split <;> rfl)
  have hk' : ¬ (1 ≤ n ∧ n ≤ 10) := by simpa [known] using hkn
  have e1 : (n == 1) = false := by simp; omega
  have e2 : (n == 2) = false := by simp; omega
  have e3 : (n == 3) = false := by simp; omega
  have e4 : (n == 4) = false := by simp; omega
  have e5 : (n == 5) = false := by simp; omega
  have e6 : (n == 6) = false := by simp; omega
  have e7 : (n == 7) = false := by simp; omega
  have e8 : (n == 8) = false := by simp; omega
  have e9 : (n == 9) = false := by simp; omega
  have e10 : (n == 10) = false := by simp; omega
  clear hd hkn hk'
  have HRES1 := Lib.hid ((hf1.block w.heap.size ⟨by omega, by omega⟩).trans HRES0.out)
  have hb1 : Below w.heap.size w W1 := hbW.trans ((hf1.mono (fun i (hi : i < w.heap.size) => ⟨by omega, by omega⟩)).below)
  have h1s : W.heap.size ≤ W1.heap.size := hf1.size
  clear hv hf1 h0 HRES0 HRQ0 hbW
  go_upto_region 3 with (refine wpList_store_fresh2 rfl 45 (.tmp 5) (.tmp 11) rfl rfl W1 _ 45 #[.int .i64 n, .int .i64 0, .int .i64 0, .int .i64 0, .int .i64 0, .int .i64 0, .string ⟨#[]⟩, .slice none 0 0, .string ⟨#[]⟩, .int .i64 0, .int .i64 0, .int .i64 0, .int .i64 0, .int .i64 0, .int .i64 0, .int .i64 0, .int .i64 0, .slice none 0 0, .slice none 0 0, .int .i64 0, .int .i64 0, .int .i64 0, .int .i64 0, .int .i64 0, .int .i64 0, .int .i64 0, .int .i64 0, .string ⟨#[]⟩] rfl rfl info45 rfl (by simp only [List.all_toArray, List.all_cons, List.all_nil, Value.oneCell', Bool.and_true]) ?_; intro U S1 S2 S3; replace S1 := Lib.hid S1)
  have hbU := Lib.hid (Fr.trans (Fr.ofBelow hb1) ((Fr.ofBelow S2).mono (fun k (hk : k < w.heap.size) => by show k < W1.heap.size; omega)))
  have HRES := Lib.hid ((S2.block w.heap.size (by omega)).trans HRES1.out)
  have HRU := Lib.hid (hR1.fr (Fr.ofBelow S2) (fun k hk => by omega))
  obtain ⟨X, hX⟩ : ∃ X, W1.heap.size = X := ⟨_, rfl⟩
  have hXw : w.heap.size + 1 < X := by omega
  have hXU : X < U.heap.size := by omega
  have SX : Hid (U.heap[X]? = some (.cells #[.int .i64 n, .int .i64 0, .int .i64 0, .int .i64 0, .int .i64 0, .int .i64 0, .string ⟨#[]⟩, .slice none 0 0, .string ⟨#[]⟩, .int .i64 0, .int .i64 0, .int .i64 0, .int .i64 0, .int .i64 0, .int .i64 0, .int .i64 0, .int .i64 0, .slice none 0 0, .slice none 0 0, .int .i64 0, .int .i64 0, .int .i64 0, .int .i64 0, .int .i64 0, .int .i64 0, .int .i64 0, .int .i64 0, .string ⟨#[]⟩] 45 (0, 0))) := by rw [← hX]; exact S1
  rw [hX]
  clear hX S1 S2 S3 hb1 HRES1 hR1 h1s
  have c0 : U.cell? ⟨X, 0, none⟩ = some (.int .i64 n) := blk_cell SX.out 0
  go_wp2_with (refine wpList_store_row rfl 45 (.tmp 2) (.tmp 14) rfl w.heap.size zCells rfl rfl 45 _ HRES.out zsz rfl zone ?_)
  have hfr := fr_setRow U w.heap.size zCells
  (try simp only [Exit.inBlock, Exit.then])
  refine bodyPost_ret (v := .tuple #[.agg zCells, .int .i64 4]) (results_cell_tmp rfl _ _ w.heap.size 45 _ (0, 0) _ rfl (heap_setRow HRES.out _) Try.underlying45 rfl zsz _ rfl) rfl ⟨zEv 0, {}, 4, rfl, evC bd0 (zEntryC _ _) (zRateC _ _) (zHoldingC _ _) (zMatchC _ _) (zStockC _ _) bd0 bd0, (Fr.trans hbU.out (hfr.mono (fun i hi => by show i ≠ w.heap.size; have : i < w.heap.size := hi; omega))).below, .inr ⟨HN.out, rfl, rfl⟩⟩
set_option maxHeartbeats 2000000 in
set_option maxRecDepth 100000 in
theorem rParse_none (A : Option Addr) (c : Nat) (L : List UInt8) (w : World) (h : Rd w (· < w.heap.size) A L.length 1 (bv L)) (hc : L.length ≤ c) (hl : L.length ≤ 1000000) (hd : decInt L = none) :
    Calls Try.prog 24 #[.slice A L.length c] w (PPost EventC {} w (parseEv L)) := by
  have HL := Lib.hid h
  obtain ⟨rr, hrr⟩ : ∃ rr, rr = parseEv L := ⟨_, rfl⟩
  rw [← hrr]
  have HRR := Lib.hid hrr
  clear h hrr
  go_enter Try.func24, Try.ntmps24
  go_upto_region 2 with fail
  have h2 := heap2 w (.cells #[.int .i64 0, .int .i64 0, .int .i64 0, .int .i64 0, .int .i64 0, .int .i64 0, .string ⟨#[]⟩, .slice none 0 0, .string ⟨#[]⟩, .int .i64 0, .int .i64 0, .int .i64 0, .int .i64 0, .int .i64 0, .int .i64 0, .int .i64 0, .int .i64 0, .slice none 0 0, .slice none 0 0, .int .i64 0, .int .i64 0, .int .i64 0, .int .i64 0, .int .i64 0, .int .i64 0, .int .i64 0, .int .i64 0, .string ⟨#[]⟩] 45) (.cells #[.slice A L.length c, .bool false] 99)
  generalize hW : (w.alloc (.cells #[.int .i64 0, .int .i64 0, .int .i64 0, .int .i64 0, .int .i64 0, .int .i64 0, .string ⟨#[]⟩, .slice none 0 0, .string ⟨#[]⟩, .int .i64 0, .int .i64 0, .int .i64 0, .int .i64 0, .int .i64 0, .int .i64 0, .int .i64 0, .int .i64 0, .slice none 0 0, .slice none 0 0, .int .i64 0, .int .i64 0, .int .i64 0, .int .i64 0, .int .i64 0, .int .i64 0, .int .i64 0, .int .i64 0, .string ⟨#[]⟩] 45)).alloc (.cells #[.slice A L.length c, .bool false] 99) = W at *
  obtain ⟨H0, H1, HS, HF⟩ := h2
  clear hW
  have hbW : Below w.heap.size w W := HF.below
  have hR0 : RQ W (w.heap.size + 1) (some L) := ⟨A, c, L, false, H1, (HL.out.fr HF).mono (fun k hk => by omega), hc, by omega, (fun h => by cases h), (fun l h => by injection h with h; exact ⟨rfl, h.symm⟩)⟩
  have hWs : w.heap.size + 2 = W.heap.size := by omega
  have HRES0 := Lib.hid H0
  have HRQ0 := Lib.hid hR0
  clear H0 H1 HS HF hR0
  go_wp2_with fail
  refine (rint_r (w.heap.size + 1) (some L) W HRQ0.out).mono ?_
  rintro e W1 ⟨n, rfl, hnb, hv, hR1, hf1, h0⟩
  have hnk : n = 0 := h0 (by show Option.map (·.2) (decInt L) = none; rw [hd]; rfl)
  subst hnk
  have HN := Lib.hid (show rr = none by rw [HRR.out]; unfold parseEv; rw [show decEv L = none by simp [decEv, hd]]; split <;> rfl)
  clear hd
  have HRES1 := Lib.hid ((hf1.block w.heap.size ⟨by omega, by omega⟩).trans HRES0.out)
  have hb1 : Below w.heap.size w W1 := hbW.trans ((hf1.mono (fun i (hi : i < w.heap.size) => ⟨by omega, by omega⟩)).below)
  have h1s : W.heap.size ≤ W1.heap.size := hf1.size
  clear hv hf1 h0 HRES0 HRQ0 hbW
  go_upto_region 3 with (refine wpList_store_fresh2 rfl 45 (.tmp 5) (.tmp 11) rfl rfl W1 _ 45 #[.int .i64 0, .int .i64 0, .int .i64 0, .int .i64 0, .int .i64 0, .int .i64 0, .string ⟨#[]⟩, .slice none 0 0, .string ⟨#[]⟩, .int .i64 0, .int .i64 0, .int .i64 0, .int .i64 0, .int .i64 0, .int .i64 0, .int .i64 0, .int .i64 0, .slice none 0 0, .slice none 0 0, .int .i64 0, .int .i64 0, .int .i64 0, .int .i64 0, .int .i64 0, .int .i64 0, .int .i64 0, .int .i64 0, .string ⟨#[]⟩] rfl rfl info45 rfl (by simp only [List.all_toArray, List.all_cons, List.all_nil, Value.oneCell', Bool.and_true]) ?_; intro U S1 S2 S3; replace S1 := Lib.hid S1)
  have hbU := Lib.hid (Fr.trans (Fr.ofBelow hb1) ((Fr.ofBelow S2).mono (fun k (hk : k < w.heap.size) => by show k < W1.heap.size; omega)))
  have HRES := Lib.hid ((S2.block w.heap.size (by omega)).trans HRES1.out)
  have HRU := Lib.hid (hR1.fr (Fr.ofBelow S2) (fun k hk => by omega))
  obtain ⟨X, hX⟩ : ∃ X, W1.heap.size = X := ⟨_, rfl⟩
  have hXw : w.heap.size + 1 < X := by omega
  have hXU : X < U.heap.size := by omega
  have SX : Hid (U.heap[X]? = some (.cells #[.int .i64 0, .int .i64 0, .int .i64 0, .int .i64 0, .int .i64 0, .int .i64 0, .string ⟨#[]⟩, .slice none 0 0, .string ⟨#[]⟩, .int .i64 0, .int .i64 0, .int .i64 0, .int .i64 0, .int .i64 0, .int .i64 0, .int .i64 0, .int .i64 0, .slice none 0 0, .slice none 0 0, .int .i64 0, .int .i64 0, .int .i64 0, .int .i64 0, .int .i64 0, .int .i64 0, .int .i64 0, .int .i64 0, .string ⟨#[]⟩] 45 (0, 0))) := by rw [← hX]; exact S1
  rw [hX]
  clear hX S1 S2 S3 hb1 HRES1 hR1 h1s
  have c0 : U.cell? ⟨X, 0, none⟩ = some (.int .i64 0) := blk_cell SX.out 0
  go_wp2_with (refine wpList_store_row rfl 45 (.tmp 2) (.tmp 14) rfl w.heap.size zCells rfl rfl 45 _ HRES.out zsz rfl zone ?_)
  have hfr := fr_setRow U w.heap.size zCells
  (try simp only [Exit.inBlock, Exit.then])
  refine bodyPost_ret (v := .tuple #[.agg zCells, .int .i64 4]) (results_cell_tmp rfl _ _ w.heap.size 45 _ (0, 0) _ rfl (heap_setRow HRES.out _) Try.underlying45 rfl zsz _ rfl) rfl ⟨zEv 0, {}, 4, rfl, evC bd0 (zEntryC _ _) (zRateC _ _) (zHoldingC _ _) (zMatchC _ _) (zStockC _ _) bd0 bd0, (Fr.trans hbU.out (hfr.mono (fun i hi => by show i ≠ w.heap.size; have : i < w.heap.size := hi; omega))).below, .inr ⟨HN.out, rfl, rfl⟩⟩
theorem rParseEvent_c (A : Option Addr) (c : Nat) (L : List UInt8) (w : World) (h : Rd w (· < w.heap.size) A L.length 1 (bv L)) (hc : L.length ≤ c) (hl : L.length ≤ 1000000) :
    Calls Try.prog 24 #[.slice A L.length c] w (PPost EventC {} w (parseEv L)) := by
  cases hd : decInt L with
  | none => exact rParse_none A c L w h hc hl hd
  | some p =>
    obtain ⟨k, l1⟩ := p
    cases hk : known k with
    | false => exact rParse_no A c L w h hc hl k l1 hk hd
    | true =>
      rcases kinds hk with rfl | rfl | rfl | rfl | rfl | rfl | rfl | rfl | rfl | rfl
      · exact rParse_1 A c L w h hc hl l1 hd
      · exact rParse_2 A c L w h hc hl l1 hd
      · exact rParse_3 A c L w h hc hl l1 hd
      · exact rParse_4 A c L w h hc hl l1 hd
      · exact rParse_5 A c L w h hc hl l1 hd
      · exact rParse_6 A c L w h hc hl l1 hd
      · exact rParse_7 A c L w h hc hl l1 hd
      · exact rParse_8 A c L w h hc hl l1 hd
      · exact rParse_9 A c L w h hc hl l1 hd
      · exact rParse_10 A c L w h hc hl l1 hd
end Go.Proofs.Ytgdibeegheddmaa
