/- The stream writes lines, references, accounts, links, holdings, inventory notes. Written by gen_writer.py. (joined: D2Small, D3List, D4Mid) -/
import Derived.Test.YtgdibeegheddmaaYD1At
import Derived.Deep.DrawnRows
import Derived.Deep.RegionLaw
namespace Go.Proofs.Ytgdibeegheddmaa
open Go Go.RowKit
set_option linter.unusedVariables false
set_option linter.unusedSimpArgs false
attribute [local go_sem ↓] Go.wp_at_zero Go.wp_at_succ

set_option maxHeartbeats 1000000 in
set_option maxRecDepth 100000 in
theorem Line_w (g : Nat) (v : Value) (L : List UInt8) (bad : Bool) (b o : Nat) (x : XLine) (w : World) (Q : Nat → Prop) (cs : List Value)
    (hs : SS w g v L false bad) (hq : ∀ k, Q k → Oth w g v k) (hx : LineC w Q cs x) (ha : At w Q ⟨b, o, none⟩ cs) (hL : L.length + (encLine x).length ≤ Lim) :
    Calls Try.prog 77 #[.pointer (some ⟨g, 0, none⟩), .pointer (some ⟨b, o, none⟩)] w (WPost g v L bad (encLine x) w) := by
  have hL2 : L.length + ((enc x.account).length + (enc x.amount).length + (enc x.partner).length) ≤ Lim := by simp only [encLine, List.length_append] at hL; omega
  have HL := Lib.hid hL2
  clear hL hL2
  have hb := hq b ha.1
  have hst0 := Step.refl g w v
  have hs0 := hs
  go_enter Try.func77, Try.ntmps77
  have hat := hx.at_ ha
  obtain ⟨⟨f0, i0⟩, ⟨f1, i1⟩, ⟨f2, i2⟩⟩ := hat
  have hbo := hst0.oth hb
  have hP : ∀ p ∈ [((⟨b, o, none⟩ : Addr), x.account), ((⟨b, o + 1, none⟩ : Addr), x.amount), ((⟨b, o + 2, none⟩ : Addr), x.partner)], Oth w g v p.1.block ∧ w.cell? p.1 = some (.int .i64 p.2) ∧ intBd p.2 := by
    simp only [List.forall_mem_cons]
    exact ⟨⟨hbo, f0, i0⟩, ⟨hbo, f1, i1⟩, ⟨hbo, f2, i2⟩, fun _ h => absurd h List.not_mem_nil⟩
  have HP := Lib.hid hP
  clear hP
  clear f0 f1 f2 
  go_wp2_with fail
  go_region_law (go_simp; go_at_call 33; refine (num_wd g v _ bad [((⟨b, o, none⟩ : Addr), x.account), ((⟨b, o + 1, none⟩ : Addr), x.amount), ((⟨b, o + 2, none⟩ : Addr), x.partner)] (by rfl) (by rfl) (by rfl) hs0 HP.out (by have := HL.out; (try simp only [List.length_append, List.flatMap_cons, List.flatMap_nil, List.append_nil]); omega) (by simp)).mono ?_; rintro e w1 ⟨rfl, v1, hs1, hstn⟩)
  have hst1 := hst0.trans hstn
  go_wp2_with fail
  go_end0
  refine ⟨rfl, v1, ?_, hst1⟩
  simpa only [encLine, encB, List.append_assoc, List.flatMap_cons, List.flatMap_nil, List.append_nil] using hs1

set_option maxHeartbeats 1000000 in
set_option maxRecDepth 100000 in
theorem Ref_w (g : Nat) (v : Value) (L : List UInt8) (bad : Bool) (b o : Nat) (x : XRef) (w : World) (Q : Nat → Prop) (cs : List Value)
    (hs : SS w g v L false bad) (hq : ∀ k, Q k → Oth w g v k) (hx : RefC w Q cs x) (ha : At w Q ⟨b, o, none⟩ cs) (hL : L.length + (encRef x).length ≤ Lim) :
    Calls Try.prog 79 #[.pointer (some ⟨g, 0, none⟩), .pointer (some ⟨b, o, none⟩)] w (WPost g v L bad (encRef x) w) := by
  have hL2 : L.length + ((enc x.entry).length + (enc x.line).length) ≤ Lim := by simp only [encRef, List.length_append] at hL; omega
  have HL := Lib.hid hL2
  clear hL hL2
  have hb := hq b ha.1
  have hst0 := Step.refl g w v
  have hs0 := hs
  go_enter Try.func79, Try.ntmps79
  have hat := hx.at_ ha
  obtain ⟨⟨f0, i0⟩, ⟨f1, i1⟩⟩ := hat
  have hbo := hst0.oth hb
  have hP : ∀ p ∈ [((⟨b, o, none⟩ : Addr), x.entry), ((⟨b, o + 1, none⟩ : Addr), x.line)], Oth w g v p.1.block ∧ w.cell? p.1 = some (.int .i64 p.2) ∧ intBd p.2 := by
    simp only [List.forall_mem_cons]
    exact ⟨⟨hbo, f0, i0⟩, ⟨hbo, f1, i1⟩, fun _ h => absurd h List.not_mem_nil⟩
  have HP := Lib.hid hP
  clear hP
  clear f0 f1 
  go_wp2_with fail
  go_region_law (go_simp; go_at_call 33; refine (num_wd g v _ bad [((⟨b, o, none⟩ : Addr), x.entry), ((⟨b, o + 1, none⟩ : Addr), x.line)] (by rfl) (by rfl) (by rfl) hs0 HP.out (by have := HL.out; (try simp only [List.length_append, List.flatMap_cons, List.flatMap_nil, List.append_nil]); omega) (by simp)).mono ?_; rintro e w1 ⟨rfl, v1, hs1, hstn⟩)
  have hst1 := hst0.trans hstn
  go_wp2_with fail
  go_end0
  refine ⟨rfl, v1, ?_, hst1⟩
  simpa only [encRef, encB, List.append_assoc, List.flatMap_cons, List.flatMap_nil, List.append_nil] using hs1

set_option maxHeartbeats 1000000 in
set_option maxRecDepth 100000 in
theorem Account_w (g : Nat) (v : Value) (L : List UInt8) (bad : Bool) (b o : Nat) (x : XAccount) (w : World) (Q : Nat → Prop) (cs : List Value)
    (hs : SS w g v L false bad) (hq : ∀ k, Q k → Oth w g v k) (hx : AccountC w Q cs x) (ha : At w Q ⟨b, o, none⟩ cs) (hL : L.length + (encAccount x).length ≤ Lim) :
    Calls Try.prog 81 #[.pointer (some ⟨g, 0, none⟩), .pointer (some ⟨b, o, none⟩)] w (WPost g v L bad (encAccount x) w) := by
  have hL2 : L.length + ((enc x.code).length + (enc x.kind).length + (enc x.basis).length + (enc x.parent).length) ≤ Lim := by simp only [encAccount, List.length_append] at hL; omega
  have HL := Lib.hid hL2
  clear hL hL2
  have hb := hq b ha.1
  have hst0 := Step.refl g w v
  have hs0 := hs
  go_enter Try.func81, Try.ntmps81
  have hat := hx.at_ ha
  obtain ⟨⟨f0, i0⟩, ⟨f1, i1⟩, ⟨f2, i2⟩, ⟨f3, i3⟩⟩ := hat
  have hbo := hst0.oth hb
  have hP : ∀ p ∈ [((⟨b, o, none⟩ : Addr), x.code), ((⟨b, o + 1, none⟩ : Addr), x.kind), ((⟨b, o + 2, none⟩ : Addr), x.basis), ((⟨b, o + 3, none⟩ : Addr), x.parent)], Oth w g v p.1.block ∧ w.cell? p.1 = some (.int .i64 p.2) ∧ intBd p.2 := by
    simp only [List.forall_mem_cons]
    exact ⟨⟨hbo, f0, i0⟩, ⟨hbo, f1, i1⟩, ⟨hbo, f2, i2⟩, ⟨hbo, f3, i3⟩, fun _ h => absurd h List.not_mem_nil⟩
  have HP := Lib.hid hP
  clear hP
  clear f0 f1 f2 f3 
  go_wp2_with fail
  go_region_law (go_simp; go_at_call 33; refine (num_wd g v _ bad [((⟨b, o, none⟩ : Addr), x.code), ((⟨b, o + 1, none⟩ : Addr), x.kind), ((⟨b, o + 2, none⟩ : Addr), x.basis), ((⟨b, o + 3, none⟩ : Addr), x.parent)] (by rfl) (by rfl) (by rfl) hs0 HP.out (by have := HL.out; (try simp only [List.length_append, List.flatMap_cons, List.flatMap_nil, List.append_nil]); omega) (by simp)).mono ?_; rintro e w1 ⟨rfl, v1, hs1, hstn⟩)
  have hst1 := hst0.trans hstn
  go_wp2_with fail
  go_end0
  refine ⟨rfl, v1, ?_, hst1⟩
  simpa only [encAccount, encB, List.append_assoc, List.flatMap_cons, List.flatMap_nil, List.append_nil] using hs1

set_option maxHeartbeats 1000000 in
set_option maxRecDepth 100000 in
theorem Link_w (g : Nat) (v : Value) (L : List UInt8) (bad : Bool) (b o : Nat) (x : XLink) (w : World) (Q : Nat → Prop) (cs : List Value)
    (hs : SS w g v L false bad) (hq : ∀ k, Q k → Oth w g v k) (hx : LinkC w Q cs x) (ha : At w Q ⟨b, o, none⟩ cs) (hL : L.length + (encLink x).length ≤ Lim) :
    Calls Try.prog 88 #[.pointer (some ⟨g, 0, none⟩), .pointer (some ⟨b, o, none⟩)] w (WPost g v L bad (encLink x) w) := by
  have hL2 : L.length + ((enc x.from_).length + (enc x.to).length + (enc x.since).length) ≤ Lim := by simp only [encLink, List.length_append] at hL; omega
  have HL := Lib.hid hL2
  clear hL hL2
  have hb := hq b ha.1
  have hst0 := Step.refl g w v
  have hs0 := hs
  go_enter Try.func88, Try.ntmps88
  have hat := hx.at_ ha
  obtain ⟨⟨f0, i0⟩, ⟨f1, i1⟩, ⟨f2, i2⟩⟩ := hat
  have hbo := hst0.oth hb
  have hP : ∀ p ∈ [((⟨b, o, none⟩ : Addr), x.from_), ((⟨b, o + 1, none⟩ : Addr), x.to), ((⟨b, o + 2, none⟩ : Addr), x.since)], Oth w g v p.1.block ∧ w.cell? p.1 = some (.int .i64 p.2) ∧ intBd p.2 := by
    simp only [List.forall_mem_cons]
    exact ⟨⟨hbo, f0, i0⟩, ⟨hbo, f1, i1⟩, ⟨hbo, f2, i2⟩, fun _ h => absurd h List.not_mem_nil⟩
  have HP := Lib.hid hP
  clear hP
  clear f0 f1 f2 
  go_wp2_with fail
  go_region_law (go_simp; go_at_call 33; refine (num_wd g v _ bad [((⟨b, o, none⟩ : Addr), x.from_), ((⟨b, o + 1, none⟩ : Addr), x.to), ((⟨b, o + 2, none⟩ : Addr), x.since)] (by rfl) (by rfl) (by rfl) hs0 HP.out (by have := HL.out; (try simp only [List.length_append, List.flatMap_cons, List.flatMap_nil, List.append_nil]); omega) (by simp)).mono ?_; rintro e w1 ⟨rfl, v1, hs1, hstn⟩)
  have hst1 := hst0.trans hstn
  go_wp2_with fail
  go_end0
  refine ⟨rfl, v1, ?_, hst1⟩
  simpa only [encLink, encB, List.append_assoc, List.flatMap_cons, List.flatMap_nil, List.append_nil] using hs1

set_option maxHeartbeats 1000000 in
set_option maxRecDepth 100000 in
theorem Holding_w (g : Nat) (v : Value) (L : List UInt8) (bad : Bool) (b o : Nat) (x : XHolding) (w : World) (Q : Nat → Prop) (cs : List Value)
    (hs : SS w g v L false bad) (hq : ∀ k, Q k → Oth w g v k) (hx : HoldingC w Q cs x) (ha : At w Q ⟨b, o, none⟩ cs) (hL : L.length + (encHolding x).length ≤ Lim) :
    Calls Try.prog 60 #[.pointer (some ⟨g, 0, none⟩), .pointer (some ⟨b, o, none⟩)] w (WPost g v L bad (encHolding x) w) := by
  have hL2 : L.length + ((enc x.holder).length + (enc x.entity).length + (enc x.date).length + (enc x.share).length) ≤ Lim := by simp only [encHolding, List.length_append] at hL; omega
  have HL := Lib.hid hL2
  clear hL hL2
  have hb := hq b ha.1
  have hst0 := Step.refl g w v
  have hs0 := hs
  go_enter Try.func60, Try.ntmps60
  have hat := hx.at_ ha
  obtain ⟨⟨f0, i0⟩, ⟨f1, i1⟩, ⟨f2, i2⟩, ⟨f3, i3⟩⟩ := hat
  have hbo := hst0.oth hb
  have hP : ∀ p ∈ [((⟨b, o, none⟩ : Addr), x.holder), ((⟨b, o + 1, none⟩ : Addr), x.entity), ((⟨b, o + 2, none⟩ : Addr), x.date), ((⟨b, o + 3, none⟩ : Addr), x.share)], Oth w g v p.1.block ∧ w.cell? p.1 = some (.int .i64 p.2) ∧ intBd p.2 := by
    simp only [List.forall_mem_cons]
    exact ⟨⟨hbo, f0, i0⟩, ⟨hbo, f1, i1⟩, ⟨hbo, f2, i2⟩, ⟨hbo, f3, i3⟩, fun _ h => absurd h List.not_mem_nil⟩
  have HP := Lib.hid hP
  clear hP
  clear f0 f1 f2 f3 
  go_wp2_with fail
  go_region_law (go_simp; go_at_call 33; refine (num_wd g v _ bad [((⟨b, o, none⟩ : Addr), x.holder), ((⟨b, o + 1, none⟩ : Addr), x.entity), ((⟨b, o + 2, none⟩ : Addr), x.date), ((⟨b, o + 3, none⟩ : Addr), x.share)] (by rfl) (by rfl) (by rfl) hs0 HP.out (by have := HL.out; (try simp only [List.length_append, List.flatMap_cons, List.flatMap_nil, List.append_nil]); omega) (by simp)).mono ?_; rintro e w1 ⟨rfl, v1, hs1, hstn⟩)
  have hst1 := hst0.trans hstn
  go_wp2_with fail
  go_end0
  refine ⟨rfl, v1, ?_, hst1⟩
  simpa only [encHolding, encB, List.append_assoc, List.flatMap_cons, List.flatMap_nil, List.append_nil] using hs1

set_option maxHeartbeats 1000000 in
set_option maxRecDepth 100000 in
theorem Stock_w (g : Nat) (v : Value) (L : List UInt8) (bad : Bool) (b o : Nat) (x : XStock) (w : World) (Q : Nat → Prop) (cs : List Value)
    (hs : SS w g v L false bad) (hq : ∀ k, Q k → Oth w g v k) (hx : StockC w Q cs x) (ha : At w Q ⟨b, o, none⟩ cs) (hL : L.length + (encStock x).length ≤ Lim) :
    Calls Try.prog 62 #[.pointer (some ⟨g, 0, none⟩), .pointer (some ⟨b, o, none⟩)] w (WPost g v L bad (encStock x) w) := by
  have hL2 : L.length + ((enc x.period).length + (enc x.seller).length + (enc x.buyer).length + (enc x.amount).length + (enc x.margin).length) ≤ Lim := by simp only [encStock, List.length_append] at hL; omega
  have HL := Lib.hid hL2
  clear hL hL2
  have hb := hq b ha.1
  have hst0 := Step.refl g w v
  have hs0 := hs
  go_enter Try.func62, Try.ntmps62
  have hat := hx.at_ ha
  obtain ⟨⟨f0, i0⟩, ⟨f1, i1⟩, ⟨f2, i2⟩, ⟨f3, i3⟩, ⟨f4, i4⟩⟩ := hat
  have hbo := hst0.oth hb
  have hP : ∀ p ∈ [((⟨b, o, none⟩ : Addr), x.period), ((⟨b, o + 1, none⟩ : Addr), x.seller), ((⟨b, o + 2, none⟩ : Addr), x.buyer), ((⟨b, o + 3, none⟩ : Addr), x.amount), ((⟨b, o + 4, none⟩ : Addr), x.margin)], Oth w g v p.1.block ∧ w.cell? p.1 = some (.int .i64 p.2) ∧ intBd p.2 := by
    simp only [List.forall_mem_cons]
    exact ⟨⟨hbo, f0, i0⟩, ⟨hbo, f1, i1⟩, ⟨hbo, f2, i2⟩, ⟨hbo, f3, i3⟩, ⟨hbo, f4, i4⟩, fun _ h => absurd h List.not_mem_nil⟩
  have HP := Lib.hid hP
  clear hP
  clear f0 f1 f2 f3 f4 
  go_wp2_with fail
  go_region_law (go_simp; go_at_call 33; refine (num_wd g v _ bad [((⟨b, o, none⟩ : Addr), x.period), ((⟨b, o + 1, none⟩ : Addr), x.seller), ((⟨b, o + 2, none⟩ : Addr), x.buyer), ((⟨b, o + 3, none⟩ : Addr), x.amount), ((⟨b, o + 4, none⟩ : Addr), x.margin)] (by rfl) (by rfl) (by rfl) hs0 HP.out (by have := HL.out; (try simp only [List.length_append, List.flatMap_cons, List.flatMap_nil, List.append_nil]); omega) (by simp)).mono ?_; rintro e w1 ⟨rfl, v1, hs1, hstn⟩)
  have hst1 := hst0.trans hstn
  go_wp2_with fail
  go_end0
  refine ⟨rfl, v1, ?_, hst1⟩
  simpa only [encStock, encB, List.append_assoc, List.flatMap_cons, List.flatMap_nil, List.append_nil] using hs1


end Go.Proofs.Ytgdibeegheddmaa

namespace Go.Proofs.Ytgdibeegheddmaa
open Go Go.RowKit
set_option linter.unusedVariables false
set_option linter.unusedSimpArgs false
attribute [local go_sem ↓] Go.wp_at_zero Go.wp_at_succ

set_option maxHeartbeats 1000000 in
set_option maxRecDepth 100000 in
theorem listLine_w (g : Nat) (v : Value) (L : List UInt8) (bad : Bool) (b o : Nat) (x : List XLine) (w : World) (Q : Nat → Prop) (cs : List Value)
    (hs : SS w g v L false bad) (hq : ∀ k, Q k → Oth w g v k) (hx : ListC LineC 3 w Q cs x) (ha : At w Q ⟨b, o, none⟩ cs) (hL : L.length + (encL encLine x).length ≤ Lim) :
    Calls Try.prog 76 #[.pointer (some ⟨g, 0, none⟩), .pointer (some ⟨b, o, none⟩), .func (.func 77) #[] #[]] w (WPost g v L bad (encL encLine x) w) := by
  have hlen := encL_le encLine encLine_pos x
  have hxl : x.length ≤ 1000000000000 := by unfold Lim at hL; omega
  have hbd : intBd x.length := by unfold intBd; omega
  have HL := Lib.hid (show L.length + ((enc x.length).length + (x.flatMap encLine).length) ≤ Lim from by simpa [encL] using hL)
  clear hL hlen
  have hb := hq b ha.1
  obtain ⟨A, c, rfl, hlc, hcm, hel⟩ := hx
  have hc0 : w.cell? ⟨b, o, none⟩ = some (.slice A x.length c) := ha.c (j := 0) rfl
  have hst0 := Step.alloc g w v (.cells #[.int .i64 (x.length : Int)] 3)
  go_enter Try.func76, Try.ntmps76
  go_wp2_with fail
  have hn1 := hs.lt
  refine (num_wv g v L bad [(⟨w.heap.size, 0, none⟩, (x.length : Int))] (by simp) (by rfl) (by rfl) (hs.alloc _) ?_ ?_ ?_).mono ?_
  · simp only [List.mem_singleton, forall_eq]
    exact ⟨⟨by simp, by omega, fun e => by have := hs.2.lt e; omega⟩, by simp [World.cell?_alloc_new], hbd⟩
  · simp only [List.flatMap_cons, List.flatMap_nil, List.append_nil]; have := HL.out; omega
  · simp
  rintro e w1 ⟨rfl, v1, hs1, hst1⟩
  simp only [List.flatMap_cons, List.flatMap_nil, List.append_nil] at hs1
  have hst := hst0.trans hst1
  have hb0 := blk_cell hs1.1 0
  have hb1 := blk_cell hs1.1 1
  have hcl : w1.cell? ⟨b, o, none⟩ = some (.slice A x.length c) := (hst.fr.cell hb).trans hc0
  clear hc0
  go_wp2_with fail
  have HS := Lib.hid hs1
  clear hb0 hb1 hcl
  go_loopw [26] (fun i wr => ∃ (k : Nat) (vk : Value), k ≤ x.length ∧ i = .int .i64 (k : Int) ∧ SS wr g vk (L ++ (enc x.length ++ (x.take k).flatMap encLine)) false bad ∧ Step g w v wr vk) (fun i _ => x.length - (intOf i).toNat)
  case atStart => exact ⟨0, v1, Nat.zero_le _, rfl, by simpa using HS.out, hst⟩
  case round =>
    obtain ⟨k, vk, hk, rfl, hsk, hstk⟩ := hrel
    by_cases hlt : k < x.length
    · have hcl : wr.cell? ⟨b, o, none⟩ = some (.slice A x.length c) := (hstk.fr.cell hb).trans (ha.c (j := 0) rfl)
      obtain ⟨b2, o2, rfl, hb2, hi⟩ := hel (by omega)
      obtain ⟨es, he, hae⟩ := hi k x[k] (List.getElem?_eq_getElem hlt)
      have htk : (x.take (k + 1)).flatMap encLine = (x.take k).flatMap encLine ++ encLine x[k] := by
        rw [List.take_succ_eq_append_getElem hlt, List.flatMap_append]; simp only [List.flatMap_cons, List.flatMap_nil, List.append_nil]
      have hf := hstk.fr.mono hq
      have hfin := flat_take_le encLine x (k + 1)
      rw [htk, List.length_append] at hfin
      have HT := Lib.hid htk
      clear htk
      have hltI : (k : Int) < (x.length : Int) := by omega
      go_wp2_with fail
      refine (Line_w g vk _ bad b2 _ x[k] wr Q es hsk (fun k hk => hstk.oth (hq k hk)) (he.fr hf) (hae.fr hf) ?_).mono ?_
      · have := HL.out; simp only [List.length_append]; omega
      rintro e w2 ⟨rfl, v2, hs2, hst2⟩
      clear hcl
      go_wp2_with fail
      go_roundw
      case rel => exact ⟨k + 1, v2, by omega, by go_num, by rw [HT.out]; simpa only [List.append_assoc] using hs2, hstk.trans hst2⟩
      case measure => simp [intOf]; omega
    · have hk' : k = x.length := by omega
      subst hk'
      rw [List.take_length] at hsk
      clear hlt
      go_wp2_with fail
      refine bodyPost_ret (results_none rfl _ _ _) rfl ⟨rfl, vk, hsk, hstk⟩

set_option maxHeartbeats 1000000 in
set_option maxRecDepth 100000 in
theorem listRef_w (g : Nat) (v : Value) (L : List UInt8) (bad : Bool) (b o : Nat) (x : List XRef) (w : World) (Q : Nat → Prop) (cs : List Value)
    (hs : SS w g v L false bad) (hq : ∀ k, Q k → Oth w g v k) (hx : ListC RefC 2 w Q cs x) (ha : At w Q ⟨b, o, none⟩ cs) (hL : L.length + (encL encRef x).length ≤ Lim) :
    Calls Try.prog 78 #[.pointer (some ⟨g, 0, none⟩), .pointer (some ⟨b, o, none⟩), .func (.func 79) #[] #[]] w (WPost g v L bad (encL encRef x) w) := by
  have hlen := encL_le encRef encRef_pos x
  have hxl : x.length ≤ 1000000000000 := by unfold Lim at hL; omega
  have hbd : intBd x.length := by unfold intBd; omega
  have HL := Lib.hid (show L.length + ((enc x.length).length + (x.flatMap encRef).length) ≤ Lim from by simpa [encL] using hL)
  clear hL hlen
  have hb := hq b ha.1
  obtain ⟨A, c, rfl, hlc, hcm, hel⟩ := hx
  have hc0 : w.cell? ⟨b, o, none⟩ = some (.slice A x.length c) := ha.c (j := 0) rfl
  have hst0 := Step.alloc g w v (.cells #[.int .i64 (x.length : Int)] 3)
  go_enter Try.func78, Try.ntmps78
  go_wp2_with fail
  have hn1 := hs.lt
  refine (num_wv g v L bad [(⟨w.heap.size, 0, none⟩, (x.length : Int))] (by simp) (by rfl) (by rfl) (hs.alloc _) ?_ ?_ ?_).mono ?_
  · simp only [List.mem_singleton, forall_eq]
    exact ⟨⟨by simp, by omega, fun e => by have := hs.2.lt e; omega⟩, by simp [World.cell?_alloc_new], hbd⟩
  · simp only [List.flatMap_cons, List.flatMap_nil, List.append_nil]; have := HL.out; omega
  · simp
  rintro e w1 ⟨rfl, v1, hs1, hst1⟩
  simp only [List.flatMap_cons, List.flatMap_nil, List.append_nil] at hs1
  have hst := hst0.trans hst1
  have hb0 := blk_cell hs1.1 0
  have hb1 := blk_cell hs1.1 1
  have hcl : w1.cell? ⟨b, o, none⟩ = some (.slice A x.length c) := (hst.fr.cell hb).trans hc0
  clear hc0
  go_wp2_with fail
  have HS := Lib.hid hs1
  clear hb0 hb1 hcl
  go_loopw [26] (fun i wr => ∃ (k : Nat) (vk : Value), k ≤ x.length ∧ i = .int .i64 (k : Int) ∧ SS wr g vk (L ++ (enc x.length ++ (x.take k).flatMap encRef)) false bad ∧ Step g w v wr vk) (fun i _ => x.length - (intOf i).toNat)
  case atStart => exact ⟨0, v1, Nat.zero_le _, rfl, by simpa using HS.out, hst⟩
  case round =>
    obtain ⟨k, vk, hk, rfl, hsk, hstk⟩ := hrel
    by_cases hlt : k < x.length
    · have hcl : wr.cell? ⟨b, o, none⟩ = some (.slice A x.length c) := (hstk.fr.cell hb).trans (ha.c (j := 0) rfl)
      obtain ⟨b2, o2, rfl, hb2, hi⟩ := hel (by omega)
      obtain ⟨es, he, hae⟩ := hi k x[k] (List.getElem?_eq_getElem hlt)
      have htk : (x.take (k + 1)).flatMap encRef = (x.take k).flatMap encRef ++ encRef x[k] := by
        rw [List.take_succ_eq_append_getElem hlt, List.flatMap_append]; simp only [List.flatMap_cons, List.flatMap_nil, List.append_nil]
      have hf := hstk.fr.mono hq
      have hfin := flat_take_le encRef x (k + 1)
      rw [htk, List.length_append] at hfin
      have HT := Lib.hid htk
      clear htk
      have hltI : (k : Int) < (x.length : Int) := by omega
      go_wp2_with fail
      refine (Ref_w g vk _ bad b2 _ x[k] wr Q es hsk (fun k hk => hstk.oth (hq k hk)) (he.fr hf) (hae.fr hf) ?_).mono ?_
      · have := HL.out; simp only [List.length_append]; omega
      rintro e w2 ⟨rfl, v2, hs2, hst2⟩
      clear hcl
      go_wp2_with fail
      go_roundw
      case rel => exact ⟨k + 1, v2, by omega, by go_num, by rw [HT.out]; simpa only [List.append_assoc] using hs2, hstk.trans hst2⟩
      case measure => simp [intOf]; omega
    · have hk' : k = x.length := by omega
      subst hk'
      rw [List.take_length] at hsk
      clear hlt
      go_wp2_with fail
      refine bodyPost_ret (results_none rfl _ _ _) rfl ⟨rfl, vk, hsk, hstk⟩

set_option maxHeartbeats 1000000 in
set_option maxRecDepth 100000 in
theorem listAccount_w (g : Nat) (v : Value) (L : List UInt8) (bad : Bool) (b o : Nat) (x : List XAccount) (w : World) (Q : Nat → Prop) (cs : List Value)
    (hs : SS w g v L false bad) (hq : ∀ k, Q k → Oth w g v k) (hx : ListC AccountC 4 w Q cs x) (ha : At w Q ⟨b, o, none⟩ cs) (hL : L.length + (encL encAccount x).length ≤ Lim) :
    Calls Try.prog 80 #[.pointer (some ⟨g, 0, none⟩), .pointer (some ⟨b, o, none⟩), .func (.func 81) #[] #[]] w (WPost g v L bad (encL encAccount x) w) := by
  have hlen := encL_le encAccount encAccount_pos x
  have hxl : x.length ≤ 1000000000000 := by unfold Lim at hL; omega
  have hbd : intBd x.length := by unfold intBd; omega
  have HL := Lib.hid (show L.length + ((enc x.length).length + (x.flatMap encAccount).length) ≤ Lim from by simpa [encL] using hL)
  clear hL hlen
  have hb := hq b ha.1
  obtain ⟨A, c, rfl, hlc, hcm, hel⟩ := hx
  have hc0 : w.cell? ⟨b, o, none⟩ = some (.slice A x.length c) := ha.c (j := 0) rfl
  have hst0 := Step.alloc g w v (.cells #[.int .i64 (x.length : Int)] 3)
  go_enter Try.func80, Try.ntmps80
  go_wp2_with fail
  have hn1 := hs.lt
  refine (num_wv g v L bad [(⟨w.heap.size, 0, none⟩, (x.length : Int))] (by simp) (by rfl) (by rfl) (hs.alloc _) ?_ ?_ ?_).mono ?_
  · simp only [List.mem_singleton, forall_eq]
    exact ⟨⟨by simp, by omega, fun e => by have := hs.2.lt e; omega⟩, by simp [World.cell?_alloc_new], hbd⟩
  · simp only [List.flatMap_cons, List.flatMap_nil, List.append_nil]; have := HL.out; omega
  · simp
  rintro e w1 ⟨rfl, v1, hs1, hst1⟩
  simp only [List.flatMap_cons, List.flatMap_nil, List.append_nil] at hs1
  have hst := hst0.trans hst1
  have hb0 := blk_cell hs1.1 0
  have hb1 := blk_cell hs1.1 1
  have hcl : w1.cell? ⟨b, o, none⟩ = some (.slice A x.length c) := (hst.fr.cell hb).trans hc0
  clear hc0
  go_wp2_with fail
  have HS := Lib.hid hs1
  clear hb0 hb1 hcl
  go_loopw [26] (fun i wr => ∃ (k : Nat) (vk : Value), k ≤ x.length ∧ i = .int .i64 (k : Int) ∧ SS wr g vk (L ++ (enc x.length ++ (x.take k).flatMap encAccount)) false bad ∧ Step g w v wr vk) (fun i _ => x.length - (intOf i).toNat)
  case atStart => exact ⟨0, v1, Nat.zero_le _, rfl, by simpa using HS.out, hst⟩
  case round =>
    obtain ⟨k, vk, hk, rfl, hsk, hstk⟩ := hrel
    by_cases hlt : k < x.length
    · have hcl : wr.cell? ⟨b, o, none⟩ = some (.slice A x.length c) := (hstk.fr.cell hb).trans (ha.c (j := 0) rfl)
      obtain ⟨b2, o2, rfl, hb2, hi⟩ := hel (by omega)
      obtain ⟨es, he, hae⟩ := hi k x[k] (List.getElem?_eq_getElem hlt)
      have htk : (x.take (k + 1)).flatMap encAccount = (x.take k).flatMap encAccount ++ encAccount x[k] := by
        rw [List.take_succ_eq_append_getElem hlt, List.flatMap_append]; simp only [List.flatMap_cons, List.flatMap_nil, List.append_nil]
      have hf := hstk.fr.mono hq
      have hfin := flat_take_le encAccount x (k + 1)
      rw [htk, List.length_append] at hfin
      have HT := Lib.hid htk
      clear htk
      have hltI : (k : Int) < (x.length : Int) := by omega
      go_wp2_with fail
      refine (Account_w g vk _ bad b2 _ x[k] wr Q es hsk (fun k hk => hstk.oth (hq k hk)) (he.fr hf) (hae.fr hf) ?_).mono ?_
      · have := HL.out; simp only [List.length_append]; omega
      rintro e w2 ⟨rfl, v2, hs2, hst2⟩
      clear hcl
      go_wp2_with fail
      go_roundw
      case rel => exact ⟨k + 1, v2, by omega, by go_num, by rw [HT.out]; simpa only [List.append_assoc] using hs2, hstk.trans hst2⟩
      case measure => simp [intOf]; omega
    · have hk' : k = x.length := by omega
      subst hk'
      rw [List.take_length] at hsk
      clear hlt
      go_wp2_with fail
      refine bodyPost_ret (results_none rfl _ _ _) rfl ⟨rfl, vk, hsk, hstk⟩

set_option maxHeartbeats 1000000 in
set_option maxRecDepth 100000 in
theorem listLink_w (g : Nat) (v : Value) (L : List UInt8) (bad : Bool) (b o : Nat) (x : List XLink) (w : World) (Q : Nat → Prop) (cs : List Value)
    (hs : SS w g v L false bad) (hq : ∀ k, Q k → Oth w g v k) (hx : ListC LinkC 3 w Q cs x) (ha : At w Q ⟨b, o, none⟩ cs) (hL : L.length + (encL encLink x).length ≤ Lim) :
    Calls Try.prog 87 #[.pointer (some ⟨g, 0, none⟩), .pointer (some ⟨b, o, none⟩), .func (.func 88) #[] #[]] w (WPost g v L bad (encL encLink x) w) := by
  have hlen := encL_le encLink encLink_pos x
  have hxl : x.length ≤ 1000000000000 := by unfold Lim at hL; omega
  have hbd : intBd x.length := by unfold intBd; omega
  have HL := Lib.hid (show L.length + ((enc x.length).length + (x.flatMap encLink).length) ≤ Lim from by simpa [encL] using hL)
  clear hL hlen
  have hb := hq b ha.1
  obtain ⟨A, c, rfl, hlc, hcm, hel⟩ := hx
  have hc0 : w.cell? ⟨b, o, none⟩ = some (.slice A x.length c) := ha.c (j := 0) rfl
  have hst0 := Step.alloc g w v (.cells #[.int .i64 (x.length : Int)] 3)
  go_enter Try.func87, Try.ntmps87
  go_wp2_with fail
  have hn1 := hs.lt
  refine (num_wv g v L bad [(⟨w.heap.size, 0, none⟩, (x.length : Int))] (by simp) (by rfl) (by rfl) (hs.alloc _) ?_ ?_ ?_).mono ?_
  · simp only [List.mem_singleton, forall_eq]
    exact ⟨⟨by simp, by omega, fun e => by have := hs.2.lt e; omega⟩, by simp [World.cell?_alloc_new], hbd⟩
  · simp only [List.flatMap_cons, List.flatMap_nil, List.append_nil]; have := HL.out; omega
  · simp
  rintro e w1 ⟨rfl, v1, hs1, hst1⟩
  simp only [List.flatMap_cons, List.flatMap_nil, List.append_nil] at hs1
  have hst := hst0.trans hst1
  have hb0 := blk_cell hs1.1 0
  have hb1 := blk_cell hs1.1 1
  have hcl : w1.cell? ⟨b, o, none⟩ = some (.slice A x.length c) := (hst.fr.cell hb).trans hc0
  clear hc0
  go_wp2_with fail
  have HS := Lib.hid hs1
  clear hb0 hb1 hcl
  go_loopw [26] (fun i wr => ∃ (k : Nat) (vk : Value), k ≤ x.length ∧ i = .int .i64 (k : Int) ∧ SS wr g vk (L ++ (enc x.length ++ (x.take k).flatMap encLink)) false bad ∧ Step g w v wr vk) (fun i _ => x.length - (intOf i).toNat)
  case atStart => exact ⟨0, v1, Nat.zero_le _, rfl, by simpa using HS.out, hst⟩
  case round =>
    obtain ⟨k, vk, hk, rfl, hsk, hstk⟩ := hrel
    by_cases hlt : k < x.length
    · have hcl : wr.cell? ⟨b, o, none⟩ = some (.slice A x.length c) := (hstk.fr.cell hb).trans (ha.c (j := 0) rfl)
      obtain ⟨b2, o2, rfl, hb2, hi⟩ := hel (by omega)
      obtain ⟨es, he, hae⟩ := hi k x[k] (List.getElem?_eq_getElem hlt)
      have htk : (x.take (k + 1)).flatMap encLink = (x.take k).flatMap encLink ++ encLink x[k] := by
        rw [List.take_succ_eq_append_getElem hlt, List.flatMap_append]; simp only [List.flatMap_cons, List.flatMap_nil, List.append_nil]
      have hf := hstk.fr.mono hq
      have hfin := flat_take_le encLink x (k + 1)
      rw [htk, List.length_append] at hfin
      have HT := Lib.hid htk
      clear htk
      have hltI : (k : Int) < (x.length : Int) := by omega
      go_wp2_with fail
      refine (Link_w g vk _ bad b2 _ x[k] wr Q es hsk (fun k hk => hstk.oth (hq k hk)) (he.fr hf) (hae.fr hf) ?_).mono ?_
      · have := HL.out; simp only [List.length_append]; omega
      rintro e w2 ⟨rfl, v2, hs2, hst2⟩
      clear hcl
      go_wp2_with fail
      go_roundw
      case rel => exact ⟨k + 1, v2, by omega, by go_num, by rw [HT.out]; simpa only [List.append_assoc] using hs2, hstk.trans hst2⟩
      case measure => simp [intOf]; omega
    · have hk' : k = x.length := by omega
      subst hk'
      rw [List.take_length] at hsk
      clear hlt
      go_wp2_with fail
      refine bodyPost_ret (results_none rfl _ _ _) rfl ⟨rfl, vk, hsk, hstk⟩


end Go.Proofs.Ytgdibeegheddmaa

namespace Go.Proofs.Ytgdibeegheddmaa
open Go Go.RowKit
set_option linter.unusedVariables false
set_option linter.unusedSimpArgs false
attribute [local go_sem ↓] Go.wp_at_zero Go.wp_at_succ

set_option maxHeartbeats 1000000 in
set_option maxRecDepth 100000 in
theorem Entry_w (g : Nat) (v : Value) (L : List UInt8) (bad : Bool) (b o : Nat) (x : XEntry) (w : World) (Q : Nat → Prop) (cs : List Value)
    (hs : SS w g v L false bad) (hq : ∀ k, Q k → Oth w g v k) (hx : EntryC w Q cs x) (ha : At w Q ⟨b, o, none⟩ cs) (hL : L.length + (encEntry x).length ≤ Lim) :
    Calls Try.prog 58 #[.pointer (some ⟨g, 0, none⟩), .pointer (some ⟨b, o, none⟩)] w (WPost g v L bad (encEntry x) w) := by
  have hL2 : L.length + ((enc x.id).length + (enc x.entity).length + (enc x.date).length + (enc x.kind).length + (enc x.of_).length + (encS x.text).length + (encL encLine x.lines).length) ≤ Lim := by simp only [encEntry, List.length_append] at hL; omega
  have HL := Lib.hid hL2
  clear hL hL2
  have hb := hq b ha.1
  have hst0 := Step.refl g w v
  have hs0 := hs
  go_enter Try.func58, Try.ntmps58
  have hat := hx.at_ ha
  obtain ⟨⟨f0, i0⟩, ⟨f1, i1⟩, ⟨f2, i2⟩, ⟨f3, i3⟩, ⟨f4, i4⟩, f5, ⟨l6, f6, m6⟩⟩ := hat
  have hbo := hst0.oth hb
  have hP : ∀ p ∈ [((⟨b, o, none⟩ : Addr), x.id), ((⟨b, o + 1, none⟩ : Addr), x.entity), ((⟨b, o + 2, none⟩ : Addr), x.date), ((⟨b, o + 3, none⟩ : Addr), x.kind), ((⟨b, o + 4, none⟩ : Addr), x.of_)], Oth w g v p.1.block ∧ w.cell? p.1 = some (.int .i64 p.2) ∧ intBd p.2 := by
    simp only [List.forall_mem_cons]
    exact ⟨⟨hbo, f0, i0⟩, ⟨hbo, f1, i1⟩, ⟨hbo, f2, i2⟩, ⟨hbo, f3, i3⟩, ⟨hbo, f4, i4⟩, fun _ h => absurd h List.not_mem_nil⟩
  have HP := Lib.hid hP
  clear hP
  clear f0 f1 f2 f3 f4 f5 f6 
  go_wp2_with fail
  go_region_law (go_simp; go_at_call 33; refine (num_wd g v _ bad [((⟨b, o, none⟩ : Addr), x.id), ((⟨b, o + 1, none⟩ : Addr), x.entity), ((⟨b, o + 2, none⟩ : Addr), x.date), ((⟨b, o + 3, none⟩ : Addr), x.kind), ((⟨b, o + 4, none⟩ : Addr), x.of_)] (by rfl) (by rfl) (by rfl) hs0 HP.out (by have := HL.out; (try simp only [List.length_append, List.flatMap_cons, List.flatMap_nil, List.append_nil]); omega) (by simp)).mono ?_; rintro e w1 ⟨rfl, v1, hs1, hstn⟩)
  have hst1 := hst0.trans hstn
  have hat := (hx.fr (hst1.fr.mono hq)).at_ (ha.fr (hst1.fr.mono hq))
  obtain ⟨⟨f0, i0⟩, ⟨f1, i1⟩, ⟨f2, i2⟩, ⟨f3, i3⟩, ⟨f4, i4⟩, f5, ⟨l6, f6, m6⟩⟩ := hat
  have hbo := hst1.oth hb
  clear f0 f1 f2 f3 f4 f6
  have HF := Lib.hid f5
  clear f5
  go_wp2_with fail
  refine (text_w g v1 _ bad _ _ w1 hs1 hbo HF.out (by have := HL.out; (try simp only [List.length_append, List.flatMap_cons, List.flatMap_nil, List.append_nil]); omega)).mono ?_
  rintro e w2 ⟨rfl, v2, hs2, hstn⟩
  have hst2 := hst1.trans hstn
  have hat := (hx.fr (hst2.fr.mono hq)).at_ (ha.fr (hst2.fr.mono hq))
  obtain ⟨⟨f0, i0⟩, ⟨f1, i1⟩, ⟨f2, i2⟩, ⟨f3, i3⟩, ⟨f4, i4⟩, f5, ⟨l6, f6, m6⟩⟩ := hat
  have hbo := hst2.oth hb
  clear f0 f1 f2 f3 f4 f5
  go_wp2_with fail
  refine (listLine_w g v2 _ bad b _ _ w2 Q _ hs2 (fun k hk => hst2.oth (hq k hk)) f6 m6 (by have := HL.out; (try simp only [List.length_append, List.flatMap_cons, List.flatMap_nil, List.append_nil]); omega)).mono ?_
  rintro e w3 ⟨rfl, v3, hs3, hstn⟩
  have hst3 := hst2.trans hstn
  go_wp2_with fail
  go_end0
  refine ⟨rfl, v3, ?_, hst3⟩
  simpa only [encEntry, encB, List.append_assoc, List.flatMap_cons, List.flatMap_nil, List.append_nil] using hs3

set_option maxHeartbeats 1000000 in
set_option maxRecDepth 100000 in
theorem Rate_w (g : Nat) (v : Value) (L : List UInt8) (bad : Bool) (b o : Nat) (x : XRate) (w : World) (Q : Nat → Prop) (cs : List Value)
    (hs : SS w g v L false bad) (hq : ∀ k, Q k → Oth w g v k) (hx : RateC w Q cs x) (ha : At w Q ⟨b, o, none⟩ cs) (hL : L.length + (encRate x).length ≤ Lim) :
    Calls Try.prog 59 #[.pointer (some ⟨g, 0, none⟩), .pointer (some ⟨b, o, none⟩)] w (WPost g v L bad (encRate x) w) := by
  have hL2 : L.length + ((encS x.currency).length + (enc x.kind).length + (enc x.when_).length + (enc x.value).length) ≤ Lim := by simp only [encRate, List.length_append] at hL; omega
  have HL := Lib.hid hL2
  clear hL hL2
  have hb := hq b ha.1
  have hst0 := Step.refl g w v
  have hs0 := hs
  go_enter Try.func59, Try.ntmps59
  have hat := hx.at_ ha
  obtain ⟨f0, ⟨f1, i1⟩, ⟨f2, i2⟩, ⟨f3, i3⟩⟩ := hat
  have hbo := hst0.oth hb
  clear f1 f2 f3
  have HF := Lib.hid f0
  clear f0
  go_wp2_with fail
  refine (text_w g v _ bad _ _ w hs0 hbo HF.out (by have := HL.out; (try simp only [List.length_append, List.flatMap_cons, List.flatMap_nil, List.append_nil]); omega)).mono ?_
  rintro e w1 ⟨rfl, v1, hs1, hstn⟩
  have hst1 := hst0.trans hstn
  have hat := (hx.fr (hst1.fr.mono hq)).at_ (ha.fr (hst1.fr.mono hq))
  obtain ⟨f0, ⟨f1, i1⟩, ⟨f2, i2⟩, ⟨f3, i3⟩⟩ := hat
  have hbo := hst1.oth hb
  have hP : ∀ p ∈ [((⟨b, o + 1, none⟩ : Addr), x.kind), ((⟨b, o + 2, none⟩ : Addr), x.when_), ((⟨b, o + 3, none⟩ : Addr), x.value)], Oth w1 g v1 p.1.block ∧ w1.cell? p.1 = some (.int .i64 p.2) ∧ intBd p.2 := by
    simp only [List.forall_mem_cons]
    exact ⟨⟨hbo, f1, i1⟩, ⟨hbo, f2, i2⟩, ⟨hbo, f3, i3⟩, fun _ h => absurd h List.not_mem_nil⟩
  have HP := Lib.hid hP
  clear hP
  clear f0 f1 f2 f3 
  go_wp2_with fail
  go_region_law (go_simp; go_at_call 33; refine (num_wd g v1 _ bad [((⟨b, o + 1, none⟩ : Addr), x.kind), ((⟨b, o + 2, none⟩ : Addr), x.when_), ((⟨b, o + 3, none⟩ : Addr), x.value)] (by rfl) (by rfl) (by rfl) hs1 HP.out (by have := HL.out; (try simp only [List.length_append, List.flatMap_cons, List.flatMap_nil, List.append_nil]); omega) (by simp)).mono ?_; rintro e w2 ⟨rfl, v2, hs2, hstn⟩)
  have hst2 := hst1.trans hstn
  go_wp2_with fail
  go_end0
  refine ⟨rfl, v2, ?_, hst2⟩
  simpa only [encRate, encB, List.append_assoc, List.flatMap_cons, List.flatMap_nil, List.append_nil] using hs2

set_option maxHeartbeats 1000000 in
set_option maxRecDepth 100000 in
theorem Match_w (g : Nat) (v : Value) (L : List UInt8) (bad : Bool) (b o : Nat) (x : XMatch) (w : World) (Q : Nat → Prop) (cs : List Value)
    (hs : SS w g v L false bad) (hq : ∀ k, Q k → Oth w g v k) (hx : MatchC w Q cs x) (ha : At w Q ⟨b, o, none⟩ cs) (hL : L.length + (encMatch x).length ≤ Lim) :
    Calls Try.prog 61 #[.pointer (some ⟨g, 0, none⟩), .pointer (some ⟨b, o, none⟩)] w (WPost g v L bad (encMatch x) w) := by
  have hL2 : L.length + ((enc x.id).length + (encL encRef x.left).length + (encL encRef x.right).length + (enc x.state).length) ≤ Lim := by simp only [encMatch, List.length_append] at hL; omega
  have HL := Lib.hid hL2
  clear hL hL2
  have hb := hq b ha.1
  have hst0 := Step.refl g w v
  have hs0 := hs
  go_enter Try.func61, Try.ntmps61
  have hat := hx.at_ ha
  obtain ⟨⟨f0, i0⟩, ⟨l1, f1, m1⟩, ⟨l2, f2, m2⟩, ⟨f3, i3⟩⟩ := hat
  have hbo := hst0.oth hb
  have hP : ∀ p ∈ [((⟨b, o, none⟩ : Addr), x.id)], Oth w g v p.1.block ∧ w.cell? p.1 = some (.int .i64 p.2) ∧ intBd p.2 := by
    simp only [List.forall_mem_cons]
    exact ⟨⟨hbo, f0, i0⟩, fun _ h => absurd h List.not_mem_nil⟩
  have HP := Lib.hid hP
  clear hP
  clear f0 f1 f2 f3 
  go_wp2_with fail
  refine (num_wp g v _ bad [((⟨b, o, none⟩ : Addr), x.id)] (by rfl) (by rfl) (by rfl) hs0 HP.out (by have := HL.out; (try simp only [List.length_append, List.flatMap_cons, List.flatMap_nil, List.append_nil]); omega) (by simp)).mono ?_; rintro e w1 ⟨rfl, v1, hs1, hstn⟩
  have hst1 := hst0.trans hstn
  have hat := (hx.fr (hst1.fr.mono hq)).at_ (ha.fr (hst1.fr.mono hq))
  obtain ⟨⟨f0, i0⟩, ⟨l1, f1, m1⟩, ⟨l2, f2, m2⟩, ⟨f3, i3⟩⟩ := hat
  have hbo := hst1.oth hb
  clear f0 f2 f3
  go_wp2_with fail
  refine (listRef_w g v1 _ bad b _ _ w1 Q _ hs1 (fun k hk => hst1.oth (hq k hk)) f1 m1 (by have := HL.out; (try simp only [List.length_append, List.flatMap_cons, List.flatMap_nil, List.append_nil]); omega)).mono ?_
  rintro e w2 ⟨rfl, v2, hs2, hstn⟩
  have hst2 := hst1.trans hstn
  have hat := (hx.fr (hst2.fr.mono hq)).at_ (ha.fr (hst2.fr.mono hq))
  obtain ⟨⟨f0, i0⟩, ⟨l1, f1, m1⟩, ⟨l2, f2, m2⟩, ⟨f3, i3⟩⟩ := hat
  have hbo := hst2.oth hb
  clear f0 f1 f3
  go_wp2_with fail
  refine (listRef_w g v2 _ bad b _ _ w2 Q _ hs2 (fun k hk => hst2.oth (hq k hk)) f2 m2 (by have := HL.out; (try simp only [List.length_append, List.flatMap_cons, List.flatMap_nil, List.append_nil]); omega)).mono ?_
  rintro e w3 ⟨rfl, v3, hs3, hstn⟩
  have hst3 := hst2.trans hstn
  have hat := (hx.fr (hst3.fr.mono hq)).at_ (ha.fr (hst3.fr.mono hq))
  obtain ⟨⟨f0, i0⟩, ⟨l1, f1, m1⟩, ⟨l2, f2, m2⟩, ⟨f3, i3⟩⟩ := hat
  have hbo := hst3.oth hb
  have hP : ∀ p ∈ [((⟨b, o + 3, none⟩ : Addr), x.state)], Oth w3 g v3 p.1.block ∧ w3.cell? p.1 = some (.int .i64 p.2) ∧ intBd p.2 := by
    simp only [List.forall_mem_cons]
    exact ⟨⟨hbo, f3, i3⟩, fun _ h => absurd h List.not_mem_nil⟩
  have HP := Lib.hid hP
  clear hP
  clear f0 f1 f2 f3 
  go_wp2_with fail
  refine (num_wp g v3 _ bad [((⟨b, o + 3, none⟩ : Addr), x.state)] (by rfl) (by rfl) (by rfl) hs3 HP.out (by have := HL.out; (try simp only [List.length_append, List.flatMap_cons, List.flatMap_nil, List.append_nil]); omega) (by simp)).mono ?_; rintro e w4 ⟨rfl, v4, hs4, hstn⟩
  have hst4 := hst3.trans hstn
  go_wp2_with fail
  go_end0
  refine ⟨rfl, v4, ?_, hst4⟩
  simpa only [encMatch, encB, List.append_assoc, List.flatMap_cons, List.flatMap_nil, List.append_nil] using hs4

end Go.Proofs.Ytgdibeegheddmaa
