/- The stream writes lines, references, accounts, links, holdings, inventory notes. Written by gen_writer.py. -/
import Derived.Test.YtgdibeegheddmaaD1At
import Derived.Deep.DrawnRows
import Derived.Deep.RegionLaw
namespace Go.Proofs.Ytgdibeegheddmaa
open Go Go.RowKit
set_option linter.unusedVariables false
set_option linter.unusedSimpArgs false
attribute [local go_sem ↓] Go.wp_at_zero Go.wp_at_succ

set_option maxHeartbeats 1000000 in
set_option maxRecDepth 100000 in
theorem Line_w (g : Nat) (v : Value) (L : List UInt8) (bad : Bool) (b o : Nat) (x : XLine) (w : World) (Q : Nat → Prop) (cs : List Value)
    (hs : SS w g v L false bad) (hq : ∀ k, Q k → Oth w g v k) (hx : LineC w Q cs x) (ha : At w Q ⟨b, o, none⟩ cs) (hL : L.length + (encLine x).length ≤ Lim) :
    Calls Try.prog 77 #[.pointer (some ⟨g, 0, none⟩), .pointer (some ⟨b, o, none⟩)] w (WPost g v L bad (encLine x) w) := by
  have hL2 : L.length + ((enc x.account).length + (enc x.amount).length + (enc x.partner).length) ≤ Lim := by simp only [encLine, List.length_append] at hL; omega
  have HL := Lib.hid hL2
  clear hL hL2
  have hb := hq b ha.1
  have hst0 := Step.refl g w v
  have hs0 := hs
  go_enter Try.func77, Try.ntmps77
  have hat := hx.at_ ha
  obtain ⟨⟨f0, i0⟩, ⟨f1, i1⟩, ⟨f2, i2⟩⟩ := hat
  have hbo := hst0.oth hb
  have hP : ∀ p ∈ [((⟨b, o, none⟩ : Addr), x.account), ((⟨b, o + 1, none⟩ : Addr), x.amount), ((⟨b, o + 2, none⟩ : Addr), x.partner)], Oth w g v p.1.block ∧ w.cell? p.1 = some (.int .i64 p.2) ∧ intBd p.2 := by
    simp only [List.forall_mem_cons]
    exact ⟨⟨hbo, f0, i0⟩, ⟨hbo, f1, i1⟩, ⟨hbo, f2, i2⟩, fun _ h => absurd h List.not_mem_nil⟩
  have HP := Lib.hid hP
  clear hP
  clear f0 f1 f2 
  go_wp2_with fail
  go_region_law (go_simp; go_at_call 33; refine (num_wd g v _ bad [((⟨b, o, none⟩ : Addr), x.account), ((⟨b, o + 1, none⟩ : Addr), x.amount), ((⟨b, o + 2, none⟩ : Addr), x.partner)] (by rfl) (by rfl) (by rfl) hs0 HP.out (by have := HL.out; (try simp only [List.length_append, List.flatMap_cons, List.flatMap_nil, List.append_nil]); omega) (by simp)).mono ?_; rintro e w1 ⟨rfl, v1, hs1, hstn⟩)
  have hst1 := hst0.trans hstn
  go_wp2_with fail
  go_end0
  refine ⟨rfl, v1, ?_, hst1⟩
  simpa only [encLine, encB, List.append_assoc, List.flatMap_cons, List.flatMap_nil, List.append_nil] using hs1

set_option maxHeartbeats 1000000 in
set_option maxRecDepth 100000 in
theorem Ref_w (g : Nat) (v : Value) (L : List UInt8) (bad : Bool) (b o : Nat) (x : XRef) (w : World) (Q : Nat → Prop) (cs : List Value)
    (hs : SS w g v L false bad) (hq : ∀ k, Q k → Oth w g v k) (hx : RefC w Q cs x) (ha : At w Q ⟨b, o, none⟩ cs) (hL : L.length + (encRef x).length ≤ Lim) :
    Calls Try.prog 79 #[.pointer (some ⟨g, 0, none⟩), .pointer (some ⟨b, o, none⟩)] w (WPost g v L bad (encRef x) w) := by
  have hL2 : L.length + ((enc x.entry).length + (enc x.line).length) ≤ Lim := by simp only [encRef, List.length_append] at hL; omega
  have HL := Lib.hid hL2
  clear hL hL2
  have hb := hq b ha.1
  have hst0 := Step.refl g w v
  have hs0 := hs
  go_enter Try.func79, Try.ntmps79
  have hat := hx.at_ ha
  obtain ⟨⟨f0, i0⟩, ⟨f1, i1⟩⟩ := hat
  have hbo := hst0.oth hb
  have hP : ∀ p ∈ [((⟨b, o, none⟩ : Addr), x.entry), ((⟨b, o + 1, none⟩ : Addr), x.line)], Oth w g v p.1.block ∧ w.cell? p.1 = some (.int .i64 p.2) ∧ intBd p.2 := by
    simp only [List.forall_mem_cons]
    exact ⟨⟨hbo, f0, i0⟩, ⟨hbo, f1, i1⟩, fun _ h => absurd h List.not_mem_nil⟩
  have HP := Lib.hid hP
  clear hP
  clear f0 f1 
  go_wp2_with fail
  go_region_law (go_simp; go_at_call 33; refine (num_wd g v _ bad [((⟨b, o, none⟩ : Addr), x.entry), ((⟨b, o + 1, none⟩ : Addr), x.line)] (by rfl) (by rfl) (by rfl) hs0 HP.out (by have := HL.out; (try simp only [List.length_append, List.flatMap_cons, List.flatMap_nil, List.append_nil]); omega) (by simp)).mono ?_; rintro e w1 ⟨rfl, v1, hs1, hstn⟩)
  have hst1 := hst0.trans hstn
  go_wp2_with fail
  go_end0
  refine ⟨rfl, v1, ?_, hst1⟩
  simpa only [encRef, encB, List.append_assoc, List.flatMap_cons, List.flatMap_nil, List.append_nil] using hs1

set_option maxHeartbeats 1000000 in
set_option maxRecDepth 100000 in
theorem Account_w (g : Nat) (v : Value) (L : List UInt8) (bad : Bool) (b o : Nat) (x : XAccount) (w : World) (Q : Nat → Prop) (cs : List Value)
    (hs : SS w g v L false bad) (hq : ∀ k, Q k → Oth w g v k) (hx : AccountC w Q cs x) (ha : At w Q ⟨b, o, none⟩ cs) (hL : L.length + (encAccount x).length ≤ Lim) :
    Calls Try.prog 81 #[.pointer (some ⟨g, 0, none⟩), .pointer (some ⟨b, o, none⟩)] w (WPost g v L bad (encAccount x) w) := by
  have hL2 : L.length + ((enc x.code).length + (enc x.kind).length + (enc x.basis).length + (enc x.parent).length) ≤ Lim := by simp only [encAccount, List.length_append] at hL; omega
  have HL := Lib.hid hL2
  clear hL hL2
  have hb := hq b ha.1
  have hst0 := Step.refl g w v
  have hs0 := hs
  go_enter Try.func81, Try.ntmps81
  have hat := hx.at_ ha
  obtain ⟨⟨f0, i0⟩, ⟨f1, i1⟩, ⟨f2, i2⟩, ⟨f3, i3⟩⟩ := hat
  have hbo := hst0.oth hb
  have hP : ∀ p ∈ [((⟨b, o, none⟩ : Addr), x.code), ((⟨b, o + 1, none⟩ : Addr), x.kind), ((⟨b, o + 2, none⟩ : Addr), x.basis), ((⟨b, o + 3, none⟩ : Addr), x.parent)], Oth w g v p.1.block ∧ w.cell? p.1 = some (.int .i64 p.2) ∧ intBd p.2 := by
    simp only [List.forall_mem_cons]
    exact ⟨⟨hbo, f0, i0⟩, ⟨hbo, f1, i1⟩, ⟨hbo, f2, i2⟩, ⟨hbo, f3, i3⟩, fun _ h => absurd h List.not_mem_nil⟩
  have HP := Lib.hid hP
  clear hP
  clear f0 f1 f2 f3 
  go_wp2_with fail
  go_region_law (go_simp; go_at_call 33; refine (num_wd g v _ bad [((⟨b, o, none⟩ : Addr), x.code), ((⟨b, o + 1, none⟩ : Addr), x.kind), ((⟨b, o + 2, none⟩ : Addr), x.basis), ((⟨b, o + 3, none⟩ : Addr), x.parent)] (by rfl) (by rfl) (by rfl) hs0 HP.out (by have := HL.out; (try simp only [List.length_append, List.flatMap_cons, List.flatMap_nil, List.append_nil]); omega) (by simp)).mono ?_; rintro e w1 ⟨rfl, v1, hs1, hstn⟩)
  have hst1 := hst0.trans hstn
  go_wp2_with fail
  go_end0
  refine ⟨rfl, v1, ?_, hst1⟩
  simpa only [encAccount, encB, List.append_assoc, List.flatMap_cons, List.flatMap_nil, List.append_nil] using hs1

set_option maxHeartbeats 1000000 in
set_option maxRecDepth 100000 in
theorem Link_w (g : Nat) (v : Value) (L : List UInt8) (bad : Bool) (b o : Nat) (x : XLink) (w : World) (Q : Nat → Prop) (cs : List Value)
    (hs : SS w g v L false bad) (hq : ∀ k, Q k → Oth w g v k) (hx : LinkC w Q cs x) (ha : At w Q ⟨b, o, none⟩ cs) (hL : L.length + (encLink x).length ≤ Lim) :
    Calls Try.prog 88 #[.pointer (some ⟨g, 0, none⟩), .pointer (some ⟨b, o, none⟩)] w (WPost g v L bad (encLink x) w) := by
  have hL2 : L.length + ((enc x.from_).length + (enc x.to).length + (enc x.since).length) ≤ Lim := by simp only [encLink, List.length_append] at hL; omega
  have HL := Lib.hid hL2
  clear hL hL2
  have hb := hq b ha.1
  have hst0 := Step.refl g w v
  have hs0 := hs
  go_enter Try.func88, Try.ntmps88
  have hat := hx.at_ ha
  obtain ⟨⟨f0, i0⟩, ⟨f1, i1⟩, ⟨f2, i2⟩⟩ := hat
  have hbo := hst0.oth hb
  have hP : ∀ p ∈ [((⟨b, o, none⟩ : Addr), x.from_), ((⟨b, o + 1, none⟩ : Addr), x.to), ((⟨b, o + 2, none⟩ : Addr), x.since)], Oth w g v p.1.block ∧ w.cell? p.1 = some (.int .i64 p.2) ∧ intBd p.2 := by
    simp only [List.forall_mem_cons]
    exact ⟨⟨hbo, f0, i0⟩, ⟨hbo, f1, i1⟩, ⟨hbo, f2, i2⟩, fun _ h => absurd h List.not_mem_nil⟩
  have HP := Lib.hid hP
  clear hP
  clear f0 f1 f2 
  go_wp2_with fail
  go_region_law (go_simp; go_at_call 33; refine (num_wd g v _ bad [((⟨b, o, none⟩ : Addr), x.from_), ((⟨b, o + 1, none⟩ : Addr), x.to), ((⟨b, o + 2, none⟩ : Addr), x.since)] (by rfl) (by rfl) (by rfl) hs0 HP.out (by have := HL.out; (try simp only [List.length_append, List.flatMap_cons, List.flatMap_nil, List.append_nil]); omega) (by simp)).mono ?_; rintro e w1 ⟨rfl, v1, hs1, hstn⟩)
  have hst1 := hst0.trans hstn
  go_wp2_with fail
  go_end0
  refine ⟨rfl, v1, ?_, hst1⟩
  simpa only [encLink, encB, List.append_assoc, List.flatMap_cons, List.flatMap_nil, List.append_nil] using hs1

set_option maxHeartbeats 1000000 in
set_option maxRecDepth 100000 in
theorem Holding_w (g : Nat) (v : Value) (L : List UInt8) (bad : Bool) (b o : Nat) (x : XHolding) (w : World) (Q : Nat → Prop) (cs : List Value)
    (hs : SS w g v L false bad) (hq : ∀ k, Q k → Oth w g v k) (hx : HoldingC w Q cs x) (ha : At w Q ⟨b, o, none⟩ cs) (hL : L.length + (encHolding x).length ≤ Lim) :
    Calls Try.prog 60 #[.pointer (some ⟨g, 0, none⟩), .pointer (some ⟨b, o, none⟩)] w (WPost g v L bad (encHolding x) w) := by
  have hL2 : L.length + ((enc x.holder).length + (enc x.entity).length + (enc x.date).length + (enc x.share).length) ≤ Lim := by simp only [encHolding, List.length_append] at hL; omega
  have HL := Lib.hid hL2
  clear hL hL2
  have hb := hq b ha.1
  have hst0 := Step.refl g w v
  have hs0 := hs
  go_enter Try.func60, Try.ntmps60
  have hat := hx.at_ ha
  obtain ⟨⟨f0, i0⟩, ⟨f1, i1⟩, ⟨f2, i2⟩, ⟨f3, i3⟩⟩ := hat
  have hbo := hst0.oth hb
  have hP : ∀ p ∈ [((⟨b, o, none⟩ : Addr), x.holder), ((⟨b, o + 1, none⟩ : Addr), x.entity), ((⟨b, o + 2, none⟩ : Addr), x.date), ((⟨b, o + 3, none⟩ : Addr), x.share)], Oth w g v p.1.block ∧ w.cell? p.1 = some (.int .i64 p.2) ∧ intBd p.2 := by
    simp only [List.forall_mem_cons]
    exact ⟨⟨hbo, f0, i0⟩, ⟨hbo, f1, i1⟩, ⟨hbo, f2, i2⟩, ⟨hbo, f3, i3⟩, fun _ h => absurd h List.not_mem_nil⟩
  have HP := Lib.hid hP
  clear hP
  clear f0 f1 f2 f3 
  go_wp2_with fail
  go_region_law (go_simp; go_at_call 33; refine (num_wd g v _ bad [((⟨b, o, none⟩ : Addr), x.holder), ((⟨b, o + 1, none⟩ : Addr), x.entity), ((⟨b, o + 2, none⟩ : Addr), x.date), ((⟨b, o + 3, none⟩ : Addr), x.share)] (by rfl) (by rfl) (by rfl) hs0 HP.out (by have := HL.out; (try simp only [List.length_append, List.flatMap_cons, List.flatMap_nil, List.append_nil]); omega) (by simp)).mono ?_; rintro e w1 ⟨rfl, v1, hs1, hstn⟩)
  have hst1 := hst0.trans hstn
  go_wp2_with fail
  go_end0
  refine ⟨rfl, v1, ?_, hst1⟩
  simpa only [encHolding, encB, List.append_assoc, List.flatMap_cons, List.flatMap_nil, List.append_nil] using hs1

set_option maxHeartbeats 1000000 in
set_option maxRecDepth 100000 in
theorem Stock_w (g : Nat) (v : Value) (L : List UInt8) (bad : Bool) (b o : Nat) (x : XStock) (w : World) (Q : Nat → Prop) (cs : List Value)
    (hs : SS w g v L false bad) (hq : ∀ k, Q k → Oth w g v k) (hx : StockC w Q cs x) (ha : At w Q ⟨b, o, none⟩ cs) (hL : L.length + (encStock x).length ≤ Lim) :
    Calls Try.prog 62 #[.pointer (some ⟨g, 0, none⟩), .pointer (some ⟨b, o, none⟩)] w (WPost g v L bad (encStock x) w) := by
  have hL2 : L.length + ((enc x.period).length + (enc x.seller).length + (enc x.buyer).length + (enc x.amount).length + (enc x.margin).length) ≤ Lim := by simp only [encStock, List.length_append] at hL; omega
  have HL := Lib.hid hL2
  clear hL hL2
  have hb := hq b ha.1
  have hst0 := Step.refl g w v
  have hs0 := hs
  go_enter Try.func62, Try.ntmps62
  have hat := hx.at_ ha
  obtain ⟨⟨f0, i0⟩, ⟨f1, i1⟩, ⟨f2, i2⟩, ⟨f3, i3⟩, ⟨f4, i4⟩⟩ := hat
  have hbo := hst0.oth hb
  have hP : ∀ p ∈ [((⟨b, o, none⟩ : Addr), x.period), ((⟨b, o + 1, none⟩ : Addr), x.seller), ((⟨b, o + 2, none⟩ : Addr), x.buyer), ((⟨b, o + 3, none⟩ : Addr), x.amount), ((⟨b, o + 4, none⟩ : Addr), x.margin)], Oth w g v p.1.block ∧ w.cell? p.1 = some (.int .i64 p.2) ∧ intBd p.2 := by
    simp only [List.forall_mem_cons]
    exact ⟨⟨hbo, f0, i0⟩, ⟨hbo, f1, i1⟩, ⟨hbo, f2, i2⟩, ⟨hbo, f3, i3⟩, ⟨hbo, f4, i4⟩, fun _ h => absurd h List.not_mem_nil⟩
  have HP := Lib.hid hP
  clear hP
  clear f0 f1 f2 f3 f4 
  go_wp2_with fail
  go_region_law (go_simp; go_at_call 33; refine (num_wd g v _ bad [((⟨b, o, none⟩ : Addr), x.period), ((⟨b, o + 1, none⟩ : Addr), x.seller), ((⟨b, o + 2, none⟩ : Addr), x.buyer), ((⟨b, o + 3, none⟩ : Addr), x.amount), ((⟨b, o + 4, none⟩ : Addr), x.margin)] (by rfl) (by rfl) (by rfl) hs0 HP.out (by have := HL.out; (try simp only [List.length_append, List.flatMap_cons, List.flatMap_nil, List.append_nil]); omega) (by simp)).mono ?_; rintro e w1 ⟨rfl, v1, hs1, hstn⟩)
  have hst1 := hst0.trans hstn
  go_wp2_with fail
  go_end0
  refine ⟨rfl, v1, ?_, hst1⟩
  simpa only [encStock, encB, List.append_assoc, List.flatMap_cons, List.flatMap_nil, List.append_nil] using hs1


end Go.Proofs.Ytgdibeegheddmaa
