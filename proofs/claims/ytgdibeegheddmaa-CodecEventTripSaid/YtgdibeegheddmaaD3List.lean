/- The stream writes lists. Written by gen_writer.py. -/
import Derived.Test.YtgdibeegheddmaaD2Small
namespace Go.Proofs.Ytgdibeegheddmaa
open Go Go.RowKit
set_option linter.unusedVariables false
set_option linter.unusedSimpArgs false
attribute [local go_sem ↓] Go.wp_at_zero Go.wp_at_succ

set_option maxHeartbeats 1000000 in
set_option maxRecDepth 100000 in
theorem listLine_w (g : Nat) (v : Value) (L : List UInt8) (bad : Bool) (b o : Nat) (x : List XLine) (w : World) (Q : Nat → Prop) (cs : List Value)
    (hs : SS w g v L false bad) (hq : ∀ k, Q k → Oth w g v k) (hx : ListC LineC 3 w Q cs x) (ha : At w Q ⟨b, o, none⟩ cs) (hL : L.length + (encL encLine x).length ≤ Lim) :
    Calls Try.prog 76 #[.pointer (some ⟨g, 0, none⟩), .pointer (some ⟨b, o, none⟩), .func (.func 77) #[] #[]] w (WPost g v L bad (encL encLine x) w) := by
  have hlen := encL_le encLine encLine_pos x
  have hxl : x.length ≤ 1000000000000 := by unfold Lim at hL; omega
  have hbd : intBd x.length := by unfold intBd; omega
  have HL := Lib.hid (show L.length + ((enc x.length).length + (x.flatMap encLine).length) ≤ Lim from by simpa [encL] using hL)
  clear hL hlen
  have hb := hq b ha.1
  obtain ⟨A, c, rfl, hlc, hcm, hel⟩ := hx
  have hc0 : w.cell? ⟨b, o, none⟩ = some (.slice A x.length c) := ha.c (j := 0) rfl
  have hst0 := Step.alloc g w v (.cells #[.int .i64 (x.length : Int)] 3)
  go_enter Try.func76, Try.ntmps76
  go_wp2_with fail
  have hn1 := hs.lt
  refine (num_wv g v L bad [(⟨w.heap.size, 0, none⟩, (x.length : Int))] (by simp) (by rfl) (by rfl) (hs.alloc _) ?_ ?_ ?_).mono ?_
  · simp only [List.mem_singleton, forall_eq]
    exact ⟨⟨by simp, by omega, fun e => by have := hs.2.lt e; omega⟩, by simp [World.cell?_alloc_new], hbd⟩
  · simp only [List.flatMap_cons, List.flatMap_nil, List.append_nil]; have := HL.out; omega
  · simp
  rintro e w1 ⟨rfl, v1, hs1, hst1⟩
  simp only [List.flatMap_cons, List.flatMap_nil, List.append_nil] at hs1
  have hst := hst0.trans hst1
  have hb0 := blk_cell hs1.1 0
  have hb1 := blk_cell hs1.1 1
  have hcl : w1.cell? ⟨b, o, none⟩ = some (.slice A x.length c) := (hst.fr.cell hb).trans hc0
  clear hc0
  go_wp2_with fail
  have HS := Lib.hid hs1
  clear hb0 hb1 hcl
  go_loopw [26] (fun i wr => ∃ (k : Nat) (vk : Value), k ≤ x.length ∧ i = .int .i64 (k : Int) ∧ SS wr g vk (L ++ (enc x.length ++ (x.take k).flatMap encLine)) false bad ∧ Step g w v wr vk) (fun i _ => x.length - (intOf i).toNat)
  case atStart => exact ⟨0, v1, Nat.zero_le _, rfl, by simpa using HS.out, hst⟩
  case round =>
    obtain ⟨k, vk, hk, rfl, hsk, hstk⟩ := hrel
    by_cases hlt : k < x.length
    · have hcl : wr.cell? ⟨b, o, none⟩ = some (.slice A x.length c) := (hstk.fr.cell hb).trans (ha.c (j := 0) rfl)
      obtain ⟨b2, o2, rfl, hb2, hi⟩ := hel (by omega)
      obtain ⟨es, he, hae⟩ := hi k x[k] (List.getElem?_eq_getElem hlt)
      have htk : (x.take (k + 1)).flatMap encLine = (x.take k).flatMap encLine ++ encLine x[k] := by
        rw [List.take_succ_eq_append_getElem hlt, List.flatMap_append]; simp only [List.flatMap_cons, List.flatMap_nil, List.append_nil]
      have hf := hstk.fr.mono hq
      have hfin := flat_take_le encLine x (k + 1)
      rw [htk, List.length_append] at hfin
      have HT := Lib.hid htk
      clear htk
      have hltI : (k : Int) < (x.length : Int) := by omega
      go_wp2_with fail
      refine (Line_w g vk _ bad b2 _ x[k] wr Q es hsk (fun k hk => hstk.oth (hq k hk)) (he.fr hf) (hae.fr hf) ?_).mono ?_
      · have := HL.out; simp only [List.length_append]; omega
      rintro e w2 ⟨rfl, v2, hs2, hst2⟩
      clear hcl
      go_wp2_with fail
      go_roundw
      case rel => exact ⟨k + 1, v2, by omega, by go_num, by rw [HT.out]; simpa only [List.append_assoc] using hs2, hstk.trans hst2⟩
      case measure => simp [intOf]; omega
    · have hk' : k = x.length := by omega
      subst hk'
      rw [List.take_length] at hsk
      clear hlt
      go_wp2_with fail
      refine bodyPost_ret (results_none rfl _ _ _) rfl ⟨rfl, vk, hsk, hstk⟩

set_option maxHeartbeats 1000000 in
set_option maxRecDepth 100000 in
theorem listRef_w (g : Nat) (v : Value) (L : List UInt8) (bad : Bool) (b o : Nat) (x : List XRef) (w : World) (Q : Nat → Prop) (cs : List Value)
    (hs : SS w g v L false bad) (hq : ∀ k, Q k → Oth w g v k) (hx : ListC RefC 2 w Q cs x) (ha : At w Q ⟨b, o, none⟩ cs) (hL : L.length + (encL encRef x).length ≤ Lim) :
    Calls Try.prog 78 #[.pointer (some ⟨g, 0, none⟩), .pointer (some ⟨b, o, none⟩), .func (.func 79) #[] #[]] w (WPost g v L bad (encL encRef x) w) := by
  have hlen := encL_le encRef encRef_pos x
  have hxl : x.length ≤ 1000000000000 := by unfold Lim at hL; omega
  have hbd : intBd x.length := by unfold intBd; omega
  have HL := Lib.hid (show L.length + ((enc x.length).length + (x.flatMap encRef).length) ≤ Lim from by simpa [encL] using hL)
  clear hL hlen
  have hb := hq b ha.1
  obtain ⟨A, c, rfl, hlc, hcm, hel⟩ := hx
  have hc0 : w.cell? ⟨b, o, none⟩ = some (.slice A x.length c) := ha.c (j := 0) rfl
  have hst0 := Step.alloc g w v (.cells #[.int .i64 (x.length : Int)] 3)
  go_enter Try.func78, Try.ntmps78
  go_wp2_with fail
  have hn1 := hs.lt
  refine (num_wv g v L bad [(⟨w.heap.size, 0, none⟩, (x.length : Int))] (by simp) (by rfl) (by rfl) (hs.alloc _) ?_ ?_ ?_).mono ?_
  · simp only [List.mem_singleton, forall_eq]
    exact ⟨⟨by simp, by omega, fun e => by have := hs.2.lt e; omega⟩, by simp [World.cell?_alloc_new], hbd⟩
  · simp only [List.flatMap_cons, List.flatMap_nil, List.append_nil]; have := HL.out; omega
  · simp
  rintro e w1 ⟨rfl, v1, hs1, hst1⟩
  simp only [List.flatMap_cons, List.flatMap_nil, List.append_nil] at hs1
  have hst := hst0.trans hst1
  have hb0 := blk_cell hs1.1 0
  have hb1 := blk_cell hs1.1 1
  have hcl : w1.cell? ⟨b, o, none⟩ = some (.slice A x.length c) := (hst.fr.cell hb).trans hc0
  clear hc0
  go_wp2_with fail
  have HS := Lib.hid hs1
  clear hb0 hb1 hcl
  go_loopw [26] (fun i wr => ∃ (k : Nat) (vk : Value), k ≤ x.length ∧ i = .int .i64 (k : Int) ∧ SS wr g vk (L ++ (enc x.length ++ (x.take k).flatMap encRef)) false bad ∧ Step g w v wr vk) (fun i _ => x.length - (intOf i).toNat)
  case atStart => exact ⟨0, v1, Nat.zero_le _, rfl, by simpa using HS.out, hst⟩
  case round =>
    obtain ⟨k, vk, hk, rfl, hsk, hstk⟩ := hrel
    by_cases hlt : k < x.length
    · have hcl : wr.cell? ⟨b, o, none⟩ = some (.slice A x.length c) := (hstk.fr.cell hb).trans (ha.c (j := 0) rfl)
      obtain ⟨b2, o2, rfl, hb2, hi⟩ := hel (by omega)
      obtain ⟨es, he, hae⟩ := hi k x[k] (List.getElem?_eq_getElem hlt)
      have htk : (x.take (k + 1)).flatMap encRef = (x.take k).flatMap encRef ++ encRef x[k] := by
        rw [List.take_succ_eq_append_getElem hlt, List.flatMap_append]; simp only [List.flatMap_cons, List.flatMap_nil, List.append_nil]
      have hf := hstk.fr.mono hq
      have hfin := flat_take_le encRef x (k + 1)
      rw [htk, List.length_append] at hfin
      have HT := Lib.hid htk
      clear htk
      have hltI : (k : Int) < (x.length : Int) := by omega
      go_wp2_with fail
      refine (Ref_w g vk _ bad b2 _ x[k] wr Q es hsk (fun k hk => hstk.oth (hq k hk)) (he.fr hf) (hae.fr hf) ?_).mono ?_
      · have := HL.out; simp only [List.length_append]; omega
      rintro e w2 ⟨rfl, v2, hs2, hst2⟩
      clear hcl
      go_wp2_with fail
      go_roundw
      case rel => exact ⟨k + 1, v2, by omega, by go_num, by rw [HT.out]; simpa only [List.append_assoc] using hs2, hstk.trans hst2⟩
      case measure => simp [intOf]; omega
    · have hk' : k = x.length := by omega
      subst hk'
      rw [List.take_length] at hsk
      clear hlt
      go_wp2_with fail
      refine bodyPost_ret (results_none rfl _ _ _) rfl ⟨rfl, vk, hsk, hstk⟩

set_option maxHeartbeats 1000000 in
set_option maxRecDepth 100000 in
theorem listAccount_w (g : Nat) (v : Value) (L : List UInt8) (bad : Bool) (b o : Nat) (x : List XAccount) (w : World) (Q : Nat → Prop) (cs : List Value)
    (hs : SS w g v L false bad) (hq : ∀ k, Q k → Oth w g v k) (hx : ListC AccountC 4 w Q cs x) (ha : At w Q ⟨b, o, none⟩ cs) (hL : L.length + (encL encAccount x).length ≤ Lim) :
    Calls Try.prog 80 #[.pointer (some ⟨g, 0, none⟩), .pointer (some ⟨b, o, none⟩), .func (.func 81) #[] #[]] w (WPost g v L bad (encL encAccount x) w) := by
  have hlen := encL_le encAccount encAccount_pos x
  have hxl : x.length ≤ 1000000000000 := by unfold Lim at hL; omega
  have hbd : intBd x.length := by unfold intBd; omega
  have HL := Lib.hid (show L.length + ((enc x.length).length + (x.flatMap encAccount).length) ≤ Lim from by simpa [encL] using hL)
  clear hL hlen
  have hb := hq b ha.1
  obtain ⟨A, c, rfl, hlc, hcm, hel⟩ := hx
  have hc0 : w.cell? ⟨b, o, none⟩ = some (.slice A x.length c) := ha.c (j := 0) rfl
  have hst0 := Step.alloc g w v (.cells #[.int .i64 (x.length : Int)] 3)
  go_enter Try.func80, Try.ntmps80
  go_wp2_with fail
  have hn1 := hs.lt
  refine (num_wv g v L bad [(⟨w.heap.size, 0, none⟩, (x.length : Int))] (by simp) (by rfl) (by rfl) (hs.alloc _) ?_ ?_ ?_).mono ?_
  · simp only [List.mem_singleton, forall_eq]
    exact ⟨⟨by simp, by omega, fun e => by have := hs.2.lt e; omega⟩, by simp [World.cell?_alloc_new], hbd⟩
  · simp only [List.flatMap_cons, List.flatMap_nil, List.append_nil]; have := HL.out; omega
  · simp
  rintro e w1 ⟨rfl, v1, hs1, hst1⟩
  simp only [List.flatMap_cons, List.flatMap_nil, List.append_nil] at hs1
  have hst := hst0.trans hst1
  have hb0 := blk_cell hs1.1 0
  have hb1 := blk_cell hs1.1 1
  have hcl : w1.cell? ⟨b, o, none⟩ = some (.slice A x.length c) := (hst.fr.cell hb).trans hc0
  clear hc0
  go_wp2_with fail
  have HS := Lib.hid hs1
  clear hb0 hb1 hcl
  go_loopw [26] (fun i wr => ∃ (k : Nat) (vk : Value), k ≤ x.length ∧ i = .int .i64 (k : Int) ∧ SS wr g vk (L ++ (enc x.length ++ (x.take k).flatMap encAccount)) false bad ∧ Step g w v wr vk) (fun i _ => x.length - (intOf i).toNat)
  case atStart => exact ⟨0, v1, Nat.zero_le _, rfl, by simpa using HS.out, hst⟩
  case round =>
    obtain ⟨k, vk, hk, rfl, hsk, hstk⟩ := hrel
    by_cases hlt : k < x.length
    · have hcl : wr.cell? ⟨b, o, none⟩ = some (.slice A x.length c) := (hstk.fr.cell hb).trans (ha.c (j := 0) rfl)
      obtain ⟨b2, o2, rfl, hb2, hi⟩ := hel (by omega)
      obtain ⟨es, he, hae⟩ := hi k x[k] (List.getElem?_eq_getElem hlt)
      have htk : (x.take (k + 1)).flatMap encAccount = (x.take k).flatMap encAccount ++ encAccount x[k] := by
        rw [List.take_succ_eq_append_getElem hlt, List.flatMap_append]; simp only [List.flatMap_cons, List.flatMap_nil, List.append_nil]
      have hf := hstk.fr.mono hq
      have hfin := flat_take_le encAccount x (k + 1)
      rw [htk, List.length_append] at hfin
      have HT := Lib.hid htk
      clear htk
      have hltI : (k : Int) < (x.length : Int) := by omega
      go_wp2_with fail
      refine (Account_w g vk _ bad b2 _ x[k] wr Q es hsk (fun k hk => hstk.oth (hq k hk)) (he.fr hf) (hae.fr hf) ?_).mono ?_
      · have := HL.out; simp only [List.length_append]; omega
      rintro e w2 ⟨rfl, v2, hs2, hst2⟩
      clear hcl
      go_wp2_with fail
      go_roundw
      case rel => exact ⟨k + 1, v2, by omega, by go_num, by rw [HT.out]; simpa only [List.append_assoc] using hs2, hstk.trans hst2⟩
      case measure => simp [intOf]; omega
    · have hk' : k = x.length := by omega
      subst hk'
      rw [List.take_length] at hsk
      clear hlt
      go_wp2_with fail
      refine bodyPost_ret (results_none rfl _ _ _) rfl ⟨rfl, vk, hsk, hstk⟩

set_option maxHeartbeats 1000000 in
set_option maxRecDepth 100000 in
theorem listLink_w (g : Nat) (v : Value) (L : List UInt8) (bad : Bool) (b o : Nat) (x : List XLink) (w : World) (Q : Nat → Prop) (cs : List Value)
    (hs : SS w g v L false bad) (hq : ∀ k, Q k → Oth w g v k) (hx : ListC LinkC 3 w Q cs x) (ha : At w Q ⟨b, o, none⟩ cs) (hL : L.length + (encL encLink x).length ≤ Lim) :
    Calls Try.prog 87 #[.pointer (some ⟨g, 0, none⟩), .pointer (some ⟨b, o, none⟩), .func (.func 88) #[] #[]] w (WPost g v L bad (encL encLink x) w) := by
  have hlen := encL_le encLink encLink_pos x
  have hxl : x.length ≤ 1000000000000 := by unfold Lim at hL; omega
  have hbd : intBd x.length := by unfold intBd; omega
  have HL := Lib.hid (show L.length + ((enc x.length).length + (x.flatMap encLink).length) ≤ Lim from by simpa [encL] using hL)
  clear hL hlen
  have hb := hq b ha.1
  obtain ⟨A, c, rfl, hlc, hcm, hel⟩ := hx
  have hc0 : w.cell? ⟨b, o, none⟩ = some (.slice A x.length c) := ha.c (j := 0) rfl
  have hst0 := Step.alloc g w v (.cells #[.int .i64 (x.length : Int)] 3)
  go_enter Try.func87, Try.ntmps87
  go_wp2_with fail
  have hn1 := hs.lt
  refine (num_wv g v L bad [(⟨w.heap.size, 0, none⟩, (x.length : Int))] (by simp) (by rfl) (by rfl) (hs.alloc _) ?_ ?_ ?_).mono ?_
  · simp only [List.mem_singleton, forall_eq]
    exact ⟨⟨by simp, by omega, fun e => by have := hs.2.lt e; omega⟩, by simp [World.cell?_alloc_new], hbd⟩
  · simp only [List.flatMap_cons, List.flatMap_nil, List.append_nil]; have := HL.out; omega
  · simp
  rintro e w1 ⟨rfl, v1, hs1, hst1⟩
  simp only [List.flatMap_cons, List.flatMap_nil, List.append_nil] at hs1
  have hst := hst0.trans hst1
  have hb0 := blk_cell hs1.1 0
  have hb1 := blk_cell hs1.1 1
  have hcl : w1.cell? ⟨b, o, none⟩ = some (.slice A x.length c) := (hst.fr.cell hb).trans hc0
  clear hc0
  go_wp2_with fail
  have HS := Lib.hid hs1
  clear hb0 hb1 hcl
  go_loopw [26] (fun i wr => ∃ (k : Nat) (vk : Value), k ≤ x.length ∧ i = .int .i64 (k : Int) ∧ SS wr g vk (L ++ (enc x.length ++ (x.take k).flatMap encLink)) false bad ∧ Step g w v wr vk) (fun i _ => x.length - (intOf i).toNat)
  case atStart => exact ⟨0, v1, Nat.zero_le _, rfl, by simpa using HS.out, hst⟩
  case round =>
    obtain ⟨k, vk, hk, rfl, hsk, hstk⟩ := hrel
    by_cases hlt : k < x.length
    · have hcl : wr.cell? ⟨b, o, none⟩ = some (.slice A x.length c) := (hstk.fr.cell hb).trans (ha.c (j := 0) rfl)
      obtain ⟨b2, o2, rfl, hb2, hi⟩ := hel (by omega)
      obtain ⟨es, he, hae⟩ := hi k x[k] (List.getElem?_eq_getElem hlt)
      have htk : (x.take (k + 1)).flatMap encLink = (x.take k).flatMap encLink ++ encLink x[k] := by
        rw [List.take_succ_eq_append_getElem hlt, List.flatMap_append]; simp only [List.flatMap_cons, List.flatMap_nil, List.append_nil]
      have hf := hstk.fr.mono hq
      have hfin := flat_take_le encLink x (k + 1)
      rw [htk, List.length_append] at hfin
      have HT := Lib.hid htk
      clear htk
      have hltI : (k : Int) < (x.length : Int) := by omega
      go_wp2_with fail
      refine (Link_w g vk _ bad b2 _ x[k] wr Q es hsk (fun k hk => hstk.oth (hq k hk)) (he.fr hf) (hae.fr hf) ?_).mono ?_
      · have := HL.out; simp only [List.length_append]; omega
      rintro e w2 ⟨rfl, v2, hs2, hst2⟩
      clear hcl
      go_wp2_with fail
      go_roundw
      case rel => exact ⟨k + 1, v2, by omega, by go_num, by rw [HT.out]; simpa only [List.append_assoc] using hs2, hstk.trans hst2⟩
      case measure => simp [intOf]; omega
    · have hk' : k = x.length := by omega
      subst hk'
      rw [List.take_length] at hsk
      clear hlt
      go_wp2_with fail
      refine bodyPost_ret (results_none rfl _ _ _) rfl ⟨rfl, vk, hsk, hstk⟩


end Go.Proofs.Ytgdibeegheddmaa
