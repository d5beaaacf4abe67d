/- The stream writes entries, rates, matches. Written by gen_writer.py. -/
import Derived.Test.YtgdibeegheddmaaD3List
import Derived.Deep.DrawnRows
import Derived.Deep.RegionLaw
namespace Go.Proofs.Ytgdibeegheddmaa
open Go Go.RowKit
set_option linter.unusedVariables false
set_option linter.unusedSimpArgs false
attribute [local go_sem ↓] Go.wp_at_zero Go.wp_at_succ

set_option maxHeartbeats 1000000 in
set_option maxRecDepth 100000 in
theorem Entry_w (g : Nat) (v : Value) (L : List UInt8) (bad : Bool) (b o : Nat) (x : XEntry) (w : World) (Q : Nat → Prop) (cs : List Value)
    (hs : SS w g v L false bad) (hq : ∀ k, Q k → Oth w g v k) (hx : EntryC w Q cs x) (ha : At w Q ⟨b, o, none⟩ cs) (hL : L.length + (encEntry x).length ≤ Lim) :
    Calls Try.prog 58 #[.pointer (some ⟨g, 0, none⟩), .pointer (some ⟨b, o, none⟩)] w (WPost g v L bad (encEntry x) w) := by
  have hL2 : L.length + ((enc x.id).length + (enc x.entity).length + (enc x.date).length + (enc x.kind).length + (enc x.of_).length + (encS x.text).length + (encL encLine x.lines).length) ≤ Lim := by simp only [encEntry, List.length_append] at hL; omega
  have HL := Lib.hid hL2
  clear hL hL2
  have hb := hq b ha.1
  have hst0 := Step.refl g w v
  have hs0 := hs
  go_enter Try.func58, Try.ntmps58
  have hat := hx.at_ ha
  obtain ⟨⟨f0, i0⟩, ⟨f1, i1⟩, ⟨f2, i2⟩, ⟨f3, i3⟩, ⟨f4, i4⟩, f5, ⟨l6, f6, m6⟩⟩ := hat
  have hbo := hst0.oth hb
  have hP : ∀ p ∈ [((⟨b, o, none⟩ : Addr), x.id), ((⟨b, o + 1, none⟩ : Addr), x.entity), ((⟨b, o + 2, none⟩ : Addr), x.date), ((⟨b, o + 3, none⟩ : Addr), x.kind), ((⟨b, o + 4, none⟩ : Addr), x.of_)], Oth w g v p.1.block ∧ w.cell? p.1 = some (.int .i64 p.2) ∧ intBd p.2 := by
    simp only [List.forall_mem_cons]
    exact ⟨⟨hbo, f0, i0⟩, ⟨hbo, f1, i1⟩, ⟨hbo, f2, i2⟩, ⟨hbo, f3, i3⟩, ⟨hbo, f4, i4⟩, fun _ h => absurd h List.not_mem_nil⟩
  have HP := Lib.hid hP
  clear hP
  clear f0 f1 f2 f3 f4 f5 f6 
  go_wp2_with fail
  go_region_law (go_simp; go_at_call 33; refine (num_wd g v _ bad [((⟨b, o, none⟩ : Addr), x.id), ((⟨b, o + 1, none⟩ : Addr), x.entity), ((⟨b, o + 2, none⟩ : Addr), x.date), ((⟨b, o + 3, none⟩ : Addr), x.kind), ((⟨b, o + 4, none⟩ : Addr), x.of_)] (by rfl) (by rfl) (by rfl) hs0 HP.out (by have := HL.out; (try simp only [List.length_append, List.flatMap_cons, List.flatMap_nil, List.append_nil]); omega) (by simp)).mono ?_; rintro e w1 ⟨rfl, v1, hs1, hstn⟩)
  have hst1 := hst0.trans hstn
  have hat := (hx.fr (hst1.fr.mono hq)).at_ (ha.fr (hst1.fr.mono hq))
  obtain ⟨⟨f0, i0⟩, ⟨f1, i1⟩, ⟨f2, i2⟩, ⟨f3, i3⟩, ⟨f4, i4⟩, f5, ⟨l6, f6, m6⟩⟩ := hat
  have hbo := hst1.oth hb
  clear f0 f1 f2 f3 f4 f6
  have HF := Lib.hid f5
  clear f5
  go_wp2_with fail
  refine (text_w g v1 _ bad _ _ w1 hs1 hbo HF.out (by have := HL.out; (try simp only [List.length_append, List.flatMap_cons, List.flatMap_nil, List.append_nil]); omega)).mono ?_
  rintro e w2 ⟨rfl, v2, hs2, hstn⟩
  have hst2 := hst1.trans hstn
  have hat := (hx.fr (hst2.fr.mono hq)).at_ (ha.fr (hst2.fr.mono hq))
  obtain ⟨⟨f0, i0⟩, ⟨f1, i1⟩, ⟨f2, i2⟩, ⟨f3, i3⟩, ⟨f4, i4⟩, f5, ⟨l6, f6, m6⟩⟩ := hat
  have hbo := hst2.oth hb
  clear f0 f1 f2 f3 f4 f5
  go_wp2_with fail
  refine (listLine_w g v2 _ bad b _ _ w2 Q _ hs2 (fun k hk => hst2.oth (hq k hk)) f6 m6 (by have := HL.out; (try simp only [List.length_append, List.flatMap_cons, List.flatMap_nil, List.append_nil]); omega)).mono ?_
  rintro e w3 ⟨rfl, v3, hs3, hstn⟩
  have hst3 := hst2.trans hstn
  go_wp2_with fail
  go_end0
  refine ⟨rfl, v3, ?_, hst3⟩
  simpa only [encEntry, encB, List.append_assoc, List.flatMap_cons, List.flatMap_nil, List.append_nil] using hs3

set_option maxHeartbeats 1000000 in
set_option maxRecDepth 100000 in
theorem Rate_w (g : Nat) (v : Value) (L : List UInt8) (bad : Bool) (b o : Nat) (x : XRate) (w : World) (Q : Nat → Prop) (cs : List Value)
    (hs : SS w g v L false bad) (hq : ∀ k, Q k → Oth w g v k) (hx : RateC w Q cs x) (ha : At w Q ⟨b, o, none⟩ cs) (hL : L.length + (encRate x).length ≤ Lim) :
    Calls Try.prog 59 #[.pointer (some ⟨g, 0, none⟩), .pointer (some ⟨b, o, none⟩)] w (WPost g v L bad (encRate x) w) := by
  have hL2 : L.length + ((encS x.currency).length + (enc x.kind).length + (enc x.when_).length + (enc x.value).length) ≤ Lim := by simp only [encRate, List.length_append] at hL; omega
  have HL := Lib.hid hL2
  clear hL hL2
  have hb := hq b ha.1
  have hst0 := Step.refl g w v
  have hs0 := hs
  go_enter Try.func59, Try.ntmps59
  have hat := hx.at_ ha
  obtain ⟨f0, ⟨f1, i1⟩, ⟨f2, i2⟩, ⟨f3, i3⟩⟩ := hat
  have hbo := hst0.oth hb
  clear f1 f2 f3
  have HF := Lib.hid f0
  clear f0
  go_wp2_with fail
  refine (text_w g v _ bad _ _ w hs0 hbo HF.out (by have := HL.out; (try simp only [List.length_append, List.flatMap_cons, List.flatMap_nil, List.append_nil]); omega)).mono ?_
  rintro e w1 ⟨rfl, v1, hs1, hstn⟩
  have hst1 := hst0.trans hstn
  have hat := (hx.fr (hst1.fr.mono hq)).at_ (ha.fr (hst1.fr.mono hq))
  obtain ⟨f0, ⟨f1, i1⟩, ⟨f2, i2⟩, ⟨f3, i3⟩⟩ := hat
  have hbo := hst1.oth hb
  have hP : ∀ p ∈ [((⟨b, o + 1, none⟩ : Addr), x.kind), ((⟨b, o + 2, none⟩ : Addr), x.when_), ((⟨b, o + 3, none⟩ : Addr), x.value)], Oth w1 g v1 p.1.block ∧ w1.cell? p.1 = some (.int .i64 p.2) ∧ intBd p.2 := by
    simp only [List.forall_mem_cons]
    exact ⟨⟨hbo, f1, i1⟩, ⟨hbo, f2, i2⟩, ⟨hbo, f3, i3⟩, fun _ h => absurd h List.not_mem_nil⟩
  have HP := Lib.hid hP
  clear hP
  clear f0 f1 f2 f3 
  go_wp2_with fail
  go_region_law (go_simp; go_at_call 33; refine (num_wd g v1 _ bad [((⟨b, o + 1, none⟩ : Addr), x.kind), ((⟨b, o + 2, none⟩ : Addr), x.when_), ((⟨b, o + 3, none⟩ : Addr), x.value)] (by rfl) (by rfl) (by rfl) hs1 HP.out (by have := HL.out; (try simp only [List.length_append, List.flatMap_cons, List.flatMap_nil, List.append_nil]); omega) (by simp)).mono ?_; rintro e w2 ⟨rfl, v2, hs2, hstn⟩)
  have hst2 := hst1.trans hstn
  go_wp2_with fail
  go_end0
  refine ⟨rfl, v2, ?_, hst2⟩
  simpa only [encRate, encB, List.append_assoc, List.flatMap_cons, List.flatMap_nil, List.append_nil] using hs2

set_option maxHeartbeats 1000000 in
set_option maxRecDepth 100000 in
theorem Match_w (g : Nat) (v : Value) (L : List UInt8) (bad : Bool) (b o : Nat) (x : XMatch) (w : World) (Q : Nat → Prop) (cs : List Value)
    (hs : SS w g v L false bad) (hq : ∀ k, Q k → Oth w g v k) (hx : MatchC w Q cs x) (ha : At w Q ⟨b, o, none⟩ cs) (hL : L.length + (encMatch x).length ≤ Lim) :
    Calls Try.prog 61 #[.pointer (some ⟨g, 0, none⟩), .pointer (some ⟨b, o, none⟩)] w (WPost g v L bad (encMatch x) w) := by
  have hL2 : L.length + ((enc x.id).length + (encL encRef x.left).length + (encL encRef x.right).length + (enc x.state).length) ≤ Lim := by simp only [encMatch, List.length_append] at hL; omega
  have HL := Lib.hid hL2
  clear hL hL2
  have hb := hq b ha.1
  have hst0 := Step.refl g w v
  have hs0 := hs
  go_enter Try.func61, Try.ntmps61
  have hat := hx.at_ ha
  obtain ⟨⟨f0, i0⟩, ⟨l1, f1, m1⟩, ⟨l2, f2, m2⟩, ⟨f3, i3⟩⟩ := hat
  have hbo := hst0.oth hb
  have hP : ∀ p ∈ [((⟨b, o, none⟩ : Addr), x.id)], Oth w g v p.1.block ∧ w.cell? p.1 = some (.int .i64 p.2) ∧ intBd p.2 := by
    simp only [List.forall_mem_cons]
    exact ⟨⟨hbo, f0, i0⟩, fun _ h => absurd h List.not_mem_nil⟩
  have HP := Lib.hid hP
  clear hP
  clear f0 f1 f2 f3 
  go_wp2_with fail
  refine (num_wp g v _ bad [((⟨b, o, none⟩ : Addr), x.id)] (by rfl) (by rfl) (by rfl) hs0 HP.out (by have := HL.out; (try simp only [List.length_append, List.flatMap_cons, List.flatMap_nil, List.append_nil]); omega) (by simp)).mono ?_; rintro e w1 ⟨rfl, v1, hs1, hstn⟩
  have hst1 := hst0.trans hstn
  have hat := (hx.fr (hst1.fr.mono hq)).at_ (ha.fr (hst1.fr.mono hq))
  obtain ⟨⟨f0, i0⟩, ⟨l1, f1, m1⟩, ⟨l2, f2, m2⟩, ⟨f3, i3⟩⟩ := hat
  have hbo := hst1.oth hb
  clear f0 f2 f3
  go_wp2_with fail
  refine (listRef_w g v1 _ bad b _ _ w1 Q _ hs1 (fun k hk => hst1.oth (hq k hk)) f1 m1 (by have := HL.out; (try simp only [List.length_append, List.flatMap_cons, List.flatMap_nil, List.append_nil]); omega)).mono ?_
  rintro e w2 ⟨rfl, v2, hs2, hstn⟩
  have hst2 := hst1.trans hstn
  have hat := (hx.fr (hst2.fr.mono hq)).at_ (ha.fr (hst2.fr.mono hq))
  obtain ⟨⟨f0, i0⟩, ⟨l1, f1, m1⟩, ⟨l2, f2, m2⟩, ⟨f3, i3⟩⟩ := hat
  have hbo := hst2.oth hb
  clear f0 f1 f3
  go_wp2_with fail
  refine (listRef_w g v2 _ bad b _ _ w2 Q _ hs2 (fun k hk => hst2.oth (hq k hk)) f2 m2 (by have := HL.out; (try simp only [List.length_append, List.flatMap_cons, List.flatMap_nil, List.append_nil]); omega)).mono ?_
  rintro e w3 ⟨rfl, v3, hs3, hstn⟩
  have hst3 := hst2.trans hstn
  have hat := (hx.fr (hst3.fr.mono hq)).at_ (ha.fr (hst3.fr.mono hq))
  obtain ⟨⟨f0, i0⟩, ⟨l1, f1, m1⟩, ⟨l2, f2, m2⟩, ⟨f3, i3⟩⟩ := hat
  have hbo := hst3.oth hb
  have hP : ∀ p ∈ [((⟨b, o + 3, none⟩ : Addr), x.state)], Oth w3 g v3 p.1.block ∧ w3.cell? p.1 = some (.int .i64 p.2) ∧ intBd p.2 := by
    simp only [List.forall_mem_cons]
    exact ⟨⟨hbo, f3, i3⟩, fun _ h => absurd h List.not_mem_nil⟩
  have HP := Lib.hid hP
  clear hP
  clear f0 f1 f2 f3 
  go_wp2_with fail
  refine (num_wp g v3 _ bad [((⟨b, o + 3, none⟩ : Addr), x.state)] (by rfl) (by rfl) (by rfl) hs3 HP.out (by have := HL.out; (try simp only [List.length_append, List.flatMap_cons, List.flatMap_nil, List.append_nil]); omega) (by simp)).mono ?_; rintro e w4 ⟨rfl, v4, hs4, hstn⟩
  have hst4 := hst3.trans hstn
  go_wp2_with fail
  go_end0
  refine ⟨rfl, v4, ?_, hst4⟩
  simpa only [encMatch, encB, List.append_assoc, List.flatMap_cons, List.flatMap_nil, List.append_nil] using hs4

end Go.Proofs.Ytgdibeegheddmaa
