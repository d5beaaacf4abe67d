/- The stream writes lists of entries, rates, holdings, matches, inventory notes. Written by gen_writer.py. -/
import Derived.Test.YtgdibeegheddmaaYDa
namespace Go.Proofs.Ytgdibeegheddmaa
open Go Go.RowKit
set_option linter.unusedVariables false
set_option linter.unusedSimpArgs false
attribute [local go_sem ↓] Go.wp_at_zero Go.wp_at_succ

set_option maxHeartbeats 1000000 in
set_option maxRecDepth 100000 in
theorem listEntry_w (g : Nat) (v : Value) (L : List UInt8) (bad : Bool) (b o : Nat) (x : List XEntry) (w : World) (Q : Nat → Prop) (cs : List Value)
    (hs : SS w g v L false bad) (hq : ∀ k, Q k → Oth w g v k) (hx : ListC EntryC 7 w Q cs x) (ha : At w Q ⟨b, o, none⟩ cs) (hL : L.length + (encL encEntry x).length ≤ Lim) :
    Calls Try.prog 68 #[.pointer (some ⟨g, 0, none⟩), .pointer (some ⟨b, o, none⟩), .func (.func 58) #[] #[]] w (WPost g v L bad (encL encEntry x) w) := by
  have hlen := encL_le encEntry encEntry_pos x
  have hxl : x.length ≤ 1000000000000 := by unfold Lim at hL; omega
  have hbd : intBd x.length := by unfold intBd; omega
  have HL := Lib.hid (show L.length + ((enc x.length).length + (x.flatMap encEntry).length) ≤ Lim from by simpa [encL] using hL)
  clear hL hlen
  have hb := hq b ha.1
  obtain ⟨A, c, rfl, hlc, hcm, hel⟩ := hx
  have hc0 : w.cell? ⟨b, o, none⟩ = some (.slice A x.length c) := ha.c (j := 0) rfl
  have hst0 := Step.alloc g w v (.cells #[.int .i64 (x.length : Int)] 3)
  go_enter Try.func68, Try.ntmps68
  go_wp2_with fail
  have hn1 := hs.lt
  refine (num_wv g v L bad [(⟨w.heap.size, 0, none⟩, (x.length : Int))] (by simp) (by rfl) (by rfl) (hs.alloc _) ?_ ?_ ?_).mono ?_
  · simp only [List.mem_singleton, forall_eq]
    exact ⟨⟨by simp, by omega, fun e => by have := hs.2.lt e; omega⟩, by simp [World.cell?_alloc_new], hbd⟩
  · simp only [List.flatMap_cons, List.flatMap_nil, List.append_nil]; have := HL.out; omega
  · simp
  rintro e w1 ⟨rfl, v1, hs1, hst1⟩
  simp only [List.flatMap_cons, List.flatMap_nil, List.append_nil] at hs1
  have hst := hst0.trans hst1
  have hb0 := blk_cell hs1.1 0
  have hb1 := blk_cell hs1.1 1
  have hcl : w1.cell? ⟨b, o, none⟩ = some (.slice A x.length c) := (hst.fr.cell hb).trans hc0
  clear hc0
  go_wp2_with fail
  have HS := Lib.hid hs1
  clear hb0 hb1 hcl
  go_loopw [26] (fun i wr => ∃ (k : Nat) (vk : Value), k ≤ x.length ∧ i = .int .i64 (k : Int) ∧ SS wr g vk (L ++ (enc x.length ++ (x.take k).flatMap encEntry)) false bad ∧ Step g w v wr vk) (fun i _ => x.length - (intOf i).toNat)
  case atStart => exact ⟨0, v1, Nat.zero_le _, rfl, by simpa using HS.out, hst⟩
  case round =>
    obtain ⟨k, vk, hk, rfl, hsk, hstk⟩ := hrel
    by_cases hlt : k < x.length
    · have hcl : wr.cell? ⟨b, o, none⟩ = some (.slice A x.length c) := (hstk.fr.cell hb).trans (ha.c (j := 0) rfl)
      obtain ⟨b2, o2, rfl, hb2, hi⟩ := hel (by omega)
      obtain ⟨es, he, hae⟩ := hi k x[k] (List.getElem?_eq_getElem hlt)
      have htk : (x.take (k + 1)).flatMap encEntry = (x.take k).flatMap encEntry ++ encEntry x[k] := by
        rw [List.take_succ_eq_append_getElem hlt, List.flatMap_append]; simp only [List.flatMap_cons, List.flatMap_nil, List.append_nil]
      have hf := hstk.fr.mono hq
      have hfin := flat_take_le encEntry x (k + 1)
      rw [htk, List.length_append] at hfin
      have HT := Lib.hid htk
      clear htk
      have hltI : (k : Int) < (x.length : Int) := by omega
      go_wp2_with fail
      refine (Entry_w g vk _ bad b2 _ x[k] wr Q es hsk (fun k hk => hstk.oth (hq k hk)) (he.fr hf) (hae.fr hf) ?_).mono ?_
      · have := HL.out; simp only [List.length_append]; omega
      rintro e w2 ⟨rfl, v2, hs2, hst2⟩
      clear hcl
      go_wp2_with fail
      go_roundw
      case rel => exact ⟨k + 1, v2, by omega, by go_num, by rw [HT.out]; simpa only [List.append_assoc] using hs2, hstk.trans hst2⟩
      case measure => simp [intOf]; omega
    · have hk' : k = x.length := by omega
      subst hk'
      rw [List.take_length] at hsk
      clear hlt
      go_wp2_with fail
      refine bodyPost_ret (results_none rfl _ _ _) rfl ⟨rfl, vk, hsk, hstk⟩

set_option maxHeartbeats 1000000 in
set_option maxRecDepth 100000 in
theorem listRate_w (g : Nat) (v : Value) (L : List UInt8) (bad : Bool) (b o : Nat) (x : List XRate) (w : World) (Q : Nat → Prop) (cs : List Value)
    (hs : SS w g v L false bad) (hq : ∀ k, Q k → Oth w g v k) (hx : ListC RateC 4 w Q cs x) (ha : At w Q ⟨b, o, none⟩ cs) (hL : L.length + (encL encRate x).length ≤ Lim) :
    Calls Try.prog 69 #[.pointer (some ⟨g, 0, none⟩), .pointer (some ⟨b, o, none⟩), .func (.func 59) #[] #[]] w (WPost g v L bad (encL encRate x) w) := by
  have hlen := encL_le encRate encRate_pos x
  have hxl : x.length ≤ 1000000000000 := by unfold Lim at hL; omega
  have hbd : intBd x.length := by unfold intBd; omega
  have HL := Lib.hid (show L.length + ((enc x.length).length + (x.flatMap encRate).length) ≤ Lim from by simpa [encL] using hL)
  clear hL hlen
  have hb := hq b ha.1
  obtain ⟨A, c, rfl, hlc, hcm, hel⟩ := hx
  have hc0 : w.cell? ⟨b, o, none⟩ = some (.slice A x.length c) := ha.c (j := 0) rfl
  have hst0 := Step.alloc g w v (.cells #[.int .i64 (x.length : Int)] 3)
  go_enter Try.func69, Try.ntmps69
  go_wp2_with fail
  have hn1 := hs.lt
  refine (num_wv g v L bad [(⟨w.heap.size, 0, none⟩, (x.length : Int))] (by simp) (by rfl) (by rfl) (hs.alloc _) ?_ ?_ ?_).mono ?_
  · simp only [List.mem_singleton, forall_eq]
    exact ⟨⟨by simp, by omega, fun e => by have := hs.2.lt e; omega⟩, by simp [World.cell?_alloc_new], hbd⟩
  · simp only [List.flatMap_cons, List.flatMap_nil, List.append_nil]; have := HL.out; omega
  · simp
  rintro e w1 ⟨rfl, v1, hs1, hst1⟩
  simp only [List.flatMap_cons, List.flatMap_nil, List.append_nil] at hs1
  have hst := hst0.trans hst1
  have hb0 := blk_cell hs1.1 0
  have hb1 := blk_cell hs1.1 1
  have hcl : w1.cell? ⟨b, o, none⟩ = some (.slice A x.length c) := (hst.fr.cell hb).trans hc0
  clear hc0
  go_wp2_with fail
  have HS := Lib.hid hs1
  clear hb0 hb1 hcl
  go_loopw [26] (fun i wr => ∃ (k : Nat) (vk : Value), k ≤ x.length ∧ i = .int .i64 (k : Int) ∧ SS wr g vk (L ++ (enc x.length ++ (x.take k).flatMap encRate)) false bad ∧ Step g w v wr vk) (fun i _ => x.length - (intOf i).toNat)
  case atStart => exact ⟨0, v1, Nat.zero_le _, rfl, by simpa using HS.out, hst⟩
  case round =>
    obtain ⟨k, vk, hk, rfl, hsk, hstk⟩ := hrel
    by_cases hlt : k < x.length
    · have hcl : wr.cell? ⟨b, o, none⟩ = some (.slice A x.length c) := (hstk.fr.cell hb).trans (ha.c (j := 0) rfl)
      obtain ⟨b2, o2, rfl, hb2, hi⟩ := hel (by omega)
      obtain ⟨es, he, hae⟩ := hi k x[k] (List.getElem?_eq_getElem hlt)
      have htk : (x.take (k + 1)).flatMap encRate = (x.take k).flatMap encRate ++ encRate x[k] := by
        rw [List.take_succ_eq_append_getElem hlt, List.flatMap_append]; simp only [List.flatMap_cons, List.flatMap_nil, List.append_nil]
      have hf := hstk.fr.mono hq
      have hfin := flat_take_le encRate x (k + 1)
      rw [htk, List.length_append] at hfin
      have HT := Lib.hid htk
      clear htk
      have hltI : (k : Int) < (x.length : Int) := by omega
      go_wp2_with fail
      refine (Rate_w g vk _ bad b2 _ x[k] wr Q es hsk (fun k hk => hstk.oth (hq k hk)) (he.fr hf) (hae.fr hf) ?_).mono ?_
      · have := HL.out; simp only [List.length_append]; omega
      rintro e w2 ⟨rfl, v2, hs2, hst2⟩
      clear hcl
      go_wp2_with fail
      go_roundw
      case rel => exact ⟨k + 1, v2, by omega, by go_num, by rw [HT.out]; simpa only [List.append_assoc] using hs2, hstk.trans hst2⟩
      case measure => simp [intOf]; omega
    · have hk' : k = x.length := by omega
      subst hk'
      rw [List.take_length] at hsk
      clear hlt
      go_wp2_with fail
      refine bodyPost_ret (results_none rfl _ _ _) rfl ⟨rfl, vk, hsk, hstk⟩

set_option maxHeartbeats 1000000 in
set_option maxRecDepth 100000 in
theorem listHolding_w (g : Nat) (v : Value) (L : List UInt8) (bad : Bool) (b o : Nat) (x : List XHolding) (w : World) (Q : Nat → Prop) (cs : List Value)
    (hs : SS w g v L false bad) (hq : ∀ k, Q k → Oth w g v k) (hx : ListC HoldingC 4 w Q cs x) (ha : At w Q ⟨b, o, none⟩ cs) (hL : L.length + (encL encHolding x).length ≤ Lim) :
    Calls Try.prog 70 #[.pointer (some ⟨g, 0, none⟩), .pointer (some ⟨b, o, none⟩), .func (.func 60) #[] #[]] w (WPost g v L bad (encL encHolding x) w) := by
  have hlen := encL_le encHolding encHolding_pos x
  have hxl : x.length ≤ 1000000000000 := by unfold Lim at hL; omega
  have hbd : intBd x.length := by unfold intBd; omega
  have HL := Lib.hid (show L.length + ((enc x.length).length + (x.flatMap encHolding).length) ≤ Lim from by simpa [encL] using hL)
  clear hL hlen
  have hb := hq b ha.1
  obtain ⟨A, c, rfl, hlc, hcm, hel⟩ := hx
  have hc0 : w.cell? ⟨b, o, none⟩ = some (.slice A x.length c) := ha.c (j := 0) rfl
  have hst0 := Step.alloc g w v (.cells #[.int .i64 (x.length : Int)] 3)
  go_enter Try.func70, Try.ntmps70
  go_wp2_with fail
  have hn1 := hs.lt
  refine (num_wv g v L bad [(⟨w.heap.size, 0, none⟩, (x.length : Int))] (by simp) (by rfl) (by rfl) (hs.alloc _) ?_ ?_ ?_).mono ?_
  · simp only [List.mem_singleton, forall_eq]
    exact ⟨⟨by simp, by omega, fun e => by have := hs.2.lt e; omega⟩, by simp [World.cell?_alloc_new], hbd⟩
  · simp only [List.flatMap_cons, List.flatMap_nil, List.append_nil]; have := HL.out; omega
  · simp
  rintro e w1 ⟨rfl, v1, hs1, hst1⟩
  simp only [List.flatMap_cons, List.flatMap_nil, List.append_nil] at hs1
  have hst := hst0.trans hst1
  have hb0 := blk_cell hs1.1 0
  have hb1 := blk_cell hs1.1 1
  have hcl : w1.cell? ⟨b, o, none⟩ = some (.slice A x.length c) := (hst.fr.cell hb).trans hc0
  clear hc0
  go_wp2_with fail
  have HS := Lib.hid hs1
  clear hb0 hb1 hcl
  go_loopw [26] (fun i wr => ∃ (k : Nat) (vk : Value), k ≤ x.length ∧ i = .int .i64 (k : Int) ∧ SS wr g vk (L ++ (enc x.length ++ (x.take k).flatMap encHolding)) false bad ∧ Step g w v wr vk) (fun i _ => x.length - (intOf i).toNat)
  case atStart => exact ⟨0, v1, Nat.zero_le _, rfl, by simpa using HS.out, hst⟩
  case round =>
    obtain ⟨k, vk, hk, rfl, hsk, hstk⟩ := hrel
    by_cases hlt : k < x.length
    · have hcl : wr.cell? ⟨b, o, none⟩ = some (.slice A x.length c) := (hstk.fr.cell hb).trans (ha.c (j := 0) rfl)
      obtain ⟨b2, o2, rfl, hb2, hi⟩ := hel (by omega)
      obtain ⟨es, he, hae⟩ := hi k x[k] (List.getElem?_eq_getElem hlt)
      have htk : (x.take (k + 1)).flatMap encHolding = (x.take k).flatMap encHolding ++ encHolding x[k] := by
        rw [List.take_succ_eq_append_getElem hlt, List.flatMap_append]; simp only [List.flatMap_cons, List.flatMap_nil, List.append_nil]
      have hf := hstk.fr.mono hq
      have hfin := flat_take_le encHolding x (k + 1)
      rw [htk, List.length_append] at hfin
      have HT := Lib.hid htk
      clear htk
      have hltI : (k : Int) < (x.length : Int) := by omega
      go_wp2_with fail
      refine (Holding_w g vk _ bad b2 _ x[k] wr Q es hsk (fun k hk => hstk.oth (hq k hk)) (he.fr hf) (hae.fr hf) ?_).mono ?_
      · have := HL.out; simp only [List.length_append]; omega
      rintro e w2 ⟨rfl, v2, hs2, hst2⟩
      clear hcl
      go_wp2_with fail
      go_roundw
      case rel => exact ⟨k + 1, v2, by omega, by go_num, by rw [HT.out]; simpa only [List.append_assoc] using hs2, hstk.trans hst2⟩
      case measure => simp [intOf]; omega
    · have hk' : k = x.length := by omega
      subst hk'
      rw [List.take_length] at hsk
      clear hlt
      go_wp2_with fail
      refine bodyPost_ret (results_none rfl _ _ _) rfl ⟨rfl, vk, hsk, hstk⟩

set_option maxHeartbeats 1000000 in
set_option maxRecDepth 100000 in
theorem listMatch_w (g : Nat) (v : Value) (L : List UInt8) (bad : Bool) (b o : Nat) (x : List XMatch) (w : World) (Q : Nat → Prop) (cs : List Value)
    (hs : SS w g v L false bad) (hq : ∀ k, Q k → Oth w g v k) (hx : ListC MatchC 4 w Q cs x) (ha : At w Q ⟨b, o, none⟩ cs) (hL : L.length + (encL encMatch x).length ≤ Lim) :
    Calls Try.prog 71 #[.pointer (some ⟨g, 0, none⟩), .pointer (some ⟨b, o, none⟩), .func (.func 61) #[] #[]] w (WPost g v L bad (encL encMatch x) w) := by
  have hlen := encL_le encMatch encMatch_pos x
  have hxl : x.length ≤ 1000000000000 := by unfold Lim at hL; omega
  have hbd : intBd x.length := by unfold intBd; omega
  have HL := Lib.hid (show L.length + ((enc x.length).length + (x.flatMap encMatch).length) ≤ Lim from by simpa [encL] using hL)
  clear hL hlen
  have hb := hq b ha.1
  obtain ⟨A, c, rfl, hlc, hcm, hel⟩ := hx
  have hc0 : w.cell? ⟨b, o, none⟩ = some (.slice A x.length c) := ha.c (j := 0) rfl
  have hst0 := Step.alloc g w v (.cells #[.int .i64 (x.length : Int)] 3)
  go_enter Try.func71, Try.ntmps71
  go_wp2_with fail
  have hn1 := hs.lt
  refine (num_wv g v L bad [(⟨w.heap.size, 0, none⟩, (x.length : Int))] (by simp) (by rfl) (by rfl) (hs.alloc _) ?_ ?_ ?_).mono ?_
  · simp only [List.mem_singleton, forall_eq]
    exact ⟨⟨by simp, by omega, fun e => by have := hs.2.lt e; omega⟩, by simp [World.cell?_alloc_new], hbd⟩
  · simp only [List.flatMap_cons, List.flatMap_nil, List.append_nil]; have := HL.out; omega
  · simp
  rintro e w1 ⟨rfl, v1, hs1, hst1⟩
  simp only [List.flatMap_cons, List.flatMap_nil, List.append_nil] at hs1
  have hst := hst0.trans hst1
  have hb0 := blk_cell hs1.1 0
  have hb1 := blk_cell hs1.1 1
  have hcl : w1.cell? ⟨b, o, none⟩ = some (.slice A x.length c) := (hst.fr.cell hb).trans hc0
  clear hc0
  go_wp2_with fail
  have HS := Lib.hid hs1
  clear hb0 hb1 hcl
  go_loopw [26] (fun i wr => ∃ (k : Nat) (vk : Value), k ≤ x.length ∧ i = .int .i64 (k : Int) ∧ SS wr g vk (L ++ (enc x.length ++ (x.take k).flatMap encMatch)) false bad ∧ Step g w v wr vk) (fun i _ => x.length - (intOf i).toNat)
  case atStart => exact ⟨0, v1, Nat.zero_le _, rfl, by simpa using HS.out, hst⟩
  case round =>
    obtain ⟨k, vk, hk, rfl, hsk, hstk⟩ := hrel
    by_cases hlt : k < x.length
    · have hcl : wr.cell? ⟨b, o, none⟩ = some (.slice A x.length c) := (hstk.fr.cell hb).trans (ha.c (j := 0) rfl)
      obtain ⟨b2, o2, rfl, hb2, hi⟩ := hel (by omega)
      obtain ⟨es, he, hae⟩ := hi k x[k] (List.getElem?_eq_getElem hlt)
      have htk : (x.take (k + 1)).flatMap encMatch = (x.take k).flatMap encMatch ++ encMatch x[k] := by
        rw [List.take_succ_eq_append_getElem hlt, List.flatMap_append]; simp only [List.flatMap_cons, List.flatMap_nil, List.append_nil]
      have hf := hstk.fr.mono hq
      have hfin := flat_take_le encMatch x (k + 1)
      rw [htk, List.length_append] at hfin
      have HT := Lib.hid htk
      clear htk
      have hltI : (k : Int) < (x.length : Int) := by omega
      go_wp2_with fail
      refine (Match_w g vk _ bad b2 _ x[k] wr Q es hsk (fun k hk => hstk.oth (hq k hk)) (he.fr hf) (hae.fr hf) ?_).mono ?_
      · have := HL.out; simp only [List.length_append]; omega
      rintro e w2 ⟨rfl, v2, hs2, hst2⟩
      clear hcl
      go_wp2_with fail
      go_roundw
      case rel => exact ⟨k + 1, v2, by omega, by go_num, by rw [HT.out]; simpa only [List.append_assoc] using hs2, hstk.trans hst2⟩
      case measure => simp [intOf]; omega
    · have hk' : k = x.length := by omega
      subst hk'
      rw [List.take_length] at hsk
      clear hlt
      go_wp2_with fail
      refine bodyPost_ret (results_none rfl _ _ _) rfl ⟨rfl, vk, hsk, hstk⟩

set_option maxHeartbeats 1000000 in
set_option maxRecDepth 100000 in
theorem listStock_w (g : Nat) (v : Value) (L : List UInt8) (bad : Bool) (b o : Nat) (x : List XStock) (w : World) (Q : Nat → Prop) (cs : List Value)
    (hs : SS w g v L false bad) (hq : ∀ k, Q k → Oth w g v k) (hx : ListC StockC 5 w Q cs x) (ha : At w Q ⟨b, o, none⟩ cs) (hL : L.length + (encL encStock x).length ≤ Lim) :
    Calls Try.prog 72 #[.pointer (some ⟨g, 0, none⟩), .pointer (some ⟨b, o, none⟩), .func (.func 62) #[] #[]] w (WPost g v L bad (encL encStock x) w) := by
  have hlen := encL_le encStock encStock_pos x
  have hxl : x.length ≤ 1000000000000 := by unfold Lim at hL; omega
  have hbd : intBd x.length := by unfold intBd; omega
  have HL := Lib.hid (show L.length + ((enc x.length).length + (x.flatMap encStock).length) ≤ Lim from by simpa [encL] using hL)
  clear hL hlen
  have hb := hq b ha.1
  obtain ⟨A, c, rfl, hlc, hcm, hel⟩ := hx
  have hc0 : w.cell? ⟨b, o, none⟩ = some (.slice A x.length c) := ha.c (j := 0) rfl
  have hst0 := Step.alloc g w v (.cells #[.int .i64 (x.length : Int)] 3)
  go_enter Try.func72, Try.ntmps72
  go_wp2_with fail
  have hn1 := hs.lt
  refine (num_wv g v L bad [(⟨w.heap.size, 0, none⟩, (x.length : Int))] (by simp) (by rfl) (by rfl) (hs.alloc _) ?_ ?_ ?_).mono ?_
  · simp only [List.mem_singleton, forall_eq]
    exact ⟨⟨by simp, by omega, fun e => by have := hs.2.lt e; omega⟩, by simp [World.cell?_alloc_new], hbd⟩
  · simp only [List.flatMap_cons, List.flatMap_nil, List.append_nil]; have := HL.out; omega
  · simp
  rintro e w1 ⟨rfl, v1, hs1, hst1⟩
  simp only [List.flatMap_cons, List.flatMap_nil, List.append_nil] at hs1
  have hst := hst0.trans hst1
  have hb0 := blk_cell hs1.1 0
  have hb1 := blk_cell hs1.1 1
  have hcl : w1.cell? ⟨b, o, none⟩ = some (.slice A x.length c) := (hst.fr.cell hb).trans hc0
  clear hc0
  go_wp2_with fail
  have HS := Lib.hid hs1
  clear hb0 hb1 hcl
  go_loopw [26] (fun i wr => ∃ (k : Nat) (vk : Value), k ≤ x.length ∧ i = .int .i64 (k : Int) ∧ SS wr g vk (L ++ (enc x.length ++ (x.take k).flatMap encStock)) false bad ∧ Step g w v wr vk) (fun i _ => x.length - (intOf i).toNat)
  case atStart => exact ⟨0, v1, Nat.zero_le _, rfl, by simpa using HS.out, hst⟩
  case round =>
    obtain ⟨k, vk, hk, rfl, hsk, hstk⟩ := hrel
    by_cases hlt : k < x.length
    · have hcl : wr.cell? ⟨b, o, none⟩ = some (.slice A x.length c) := (hstk.fr.cell hb).trans (ha.c (j := 0) rfl)
      obtain ⟨b2, o2, rfl, hb2, hi⟩ := hel (by omega)
      obtain ⟨es, he, hae⟩ := hi k x[k] (List.getElem?_eq_getElem hlt)
      have htk : (x.take (k + 1)).flatMap encStock = (x.take k).flatMap encStock ++ encStock x[k] := by
        rw [List.take_succ_eq_append_getElem hlt, List.flatMap_append]; simp only [List.flatMap_cons, List.flatMap_nil, List.append_nil]
      have hf := hstk.fr.mono hq
      have hfin := flat_take_le encStock x (k + 1)
      rw [htk, List.length_append] at hfin
      have HT := Lib.hid htk
      clear htk
      have hltI : (k : Int) < (x.length : Int) := by omega
      go_wp2_with fail
      refine (Stock_w g vk _ bad b2 _ x[k] wr Q es hsk (fun k hk => hstk.oth (hq k hk)) (he.fr hf) (hae.fr hf) ?_).mono ?_
      · have := HL.out; simp only [List.length_append]; omega
      rintro e w2 ⟨rfl, v2, hs2, hst2⟩
      clear hcl
      go_wp2_with fail
      go_roundw
      case rel => exact ⟨k + 1, v2, by omega, by go_num, by rw [HT.out]; simpa only [List.append_assoc] using hs2, hstk.trans hst2⟩
      case measure => simp [intOf]; omega
    · have hk' : k = x.length := by omega
      subst hk'
      rw [List.take_length] at hsk
      clear hlt
      go_wp2_with fail
      refine bodyPost_ret (results_none rfl _ _ _) rfl ⟨rfl, vk, hsk, hstk⟩


end Go.Proofs.Ytgdibeegheddmaa
