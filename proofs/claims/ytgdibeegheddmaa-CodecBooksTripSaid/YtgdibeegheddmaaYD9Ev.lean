/- The stream writes events: all, fields. Written by gen_writer.py. -/
import Derived.Test.YtgdibeegheddmaaYD5List
import Derived.Deep.DrawnRows
import Derived.Deep.RegionLaw
namespace Go.Proofs.Ytgdibeegheddmaa
open Go Go.RowKit
set_option linter.unusedVariables false
set_option linter.unusedSimpArgs false
attribute [local go_sem ↓] Go.wp_at_zero Go.wp_at_succ

/-- What 'all' writes: each field of an event, in its own order. -/
def encAll (x : XEvent) : List UInt8 := enc x.kind ++ enc x.a ++ enc x.b ++ encEntry x.entry ++ encRate x.rate ++ encHolding x.holding ++ encMatch x.match_ ++ encStock x.stock ++ encS x.text
/-- The fields that belong to the kind of an event. -/
def encFields (x : XEvent) : List UInt8 :=
  if x.kind = 1 then encEntry x.entry else if x.kind = 2 then encRate x.rate else if x.kind = 3 then encHolding x.holding else if x.kind = 4 then encMatch x.match_
  else if x.kind = 6 then encStock x.stock else if x.kind = 5 ∨ x.kind = 8 ∨ x.kind = 9 then enc x.a ++ enc x.b else if x.kind = 7 then encS x.text
  else if x.kind = 10 then enc x.a ++ enc x.b ++ encS x.text else []
def known (k : Int) : Bool := decide (1 ≤ k ∧ k ≤ 10)
def FPost (g : Nat) (v : Value) (L : List UInt8) (bad : Bool) (E : List UInt8) (ok : Bool) (w : World) (e : Ending) (w' : World) : Prop :=
  e = .returned (.bool ok) ∧ ∃ v', SS w' g v' (L ++ E) false bad ∧ Step g w v w' v'

set_option maxHeartbeats 1000000 in
set_option maxRecDepth 100000 in
theorem all_w (g : Nat) (v : Value) (L : List UInt8) (bad : Bool) (x : XEvent) (w : World) (Q : Nat → Prop) (cs : List Value)
    (hs : SS w g v L false bad) (hq : ∀ k, Q k → Oth w g v k) (hx : EventC w Q cs x) (hL : L.length + (encAll x).length ≤ Lim) :
    Calls Try.prog 43 #[.pointer (some ⟨g, 0, none⟩), .agg cs.toArray] w (WPost g v L bad (encAll x) w) := by
  have hL2 : L.length + ((enc x.kind).length + (enc x.a).length + (enc x.b).length + (encEntry x.entry).length + (encRate x.rate).length + (encHolding x.holding).length + (encMatch x.match_).length + (encStock x.stock).length + (encS x.text).length) ≤ Lim := by simp only [encAll, List.length_append] at hL; omega
  have HL := Lib.hid hL2
  clear hL hL2
  have hstA := Step.alloc g w v (.cells cs.toArray 45)
  have hst0 := Step.refl g (w.alloc (.cells cs.toArray 45)) v
  have hs0 := hs.alloc (.cells cs.toArray 45)
  obtain ⟨Q0, hQ0⟩ : ∃ Q0 : Nat → Prop, Q0 = fun k => Q k ∨ k = w.heap.size := ⟨_, rfl⟩
  have hq0 : ∀ k, Q0 k → Oth (w.alloc (.cells cs.toArray 45)) g v k := by
    subst hQ0
    rintro k (hk | rfl)
    · exact hstA.oth (hq k hk)
    · exact oth_new hs _
  have hx0 : EventC (w.alloc (.cells cs.toArray 45)) Q0 cs x := (hx.fr (hstA.fr.mono hq)).mono (by subst hQ0; exact fun k hk => .inl hk)
  have ha0 : At (w.alloc (.cells cs.toArray 45)) Q0 ⟨w.heap.size, 0, none⟩ cs := by
    refine ⟨by subst hQ0; exact .inr rfl, fun j u hu => ?_⟩
    rw [Addr.add_lit, Nat.zero_add, blk_cell (heap_alloc_new w _) j, blk_frozen (heap_alloc_new w _) j]
    exact ⟨by simpa using hu, rfl⟩
  clear hQ0 hx hq
  have hb := hq0 _ ha0.1
  go_enter Try.func43, Try.ntmps43
  have hat := hx0.at_ ha0
  simp only [Nat.zero_add] at hat
  obtain ⟨⟨f0, i0⟩, ⟨l1, f1, m1⟩, ⟨l2, f2, m2⟩, ⟨l3, f3, m3⟩, ⟨l4, f4, m4⟩, ⟨l5, f5, m5⟩, ⟨f6, i6⟩, ⟨f7, i7⟩, f8⟩ := hat
  have hbo := hst0.oth hb
  have hP : ∀ p ∈ [((⟨w.heap.size, 0, none⟩ : Addr), x.kind), ((⟨w.heap.size, 25, none⟩ : Addr), x.a), ((⟨w.heap.size, 26, none⟩ : Addr), x.b)], Oth (w.alloc (.cells cs.toArray 45)) g v p.1.block ∧ (w.alloc (.cells cs.toArray 45)).cell? p.1 = some (.int .i64 p.2) ∧ intBd p.2 := by
    simp only [List.forall_mem_cons]
    exact ⟨⟨hbo, f0, i0⟩, ⟨hbo, f6, i6⟩, ⟨hbo, f7, i7⟩, fun _ h => absurd h List.not_mem_nil⟩
  have HP := Lib.hid hP
  clear hP
  clear f0 f1 f2 f3 f4 f5 f6 f7 f8
  go_wp2_with fail
  refine (num_wp g v _ bad [((⟨w.heap.size, 0, none⟩ : Addr), x.kind), ((⟨w.heap.size, 25, none⟩ : Addr), x.a), ((⟨w.heap.size, 26, none⟩ : Addr), x.b)] (by simp) (by rfl) (by rfl) hs0 HP.out (by have := HL.out; (try simp only [List.length_append, List.flatMap_cons, List.flatMap_nil, List.append_nil]); omega) (by simp)).mono ?_; rintro e w1 ⟨rfl, v1, hs1, hstn⟩
  have hst1 := hst0.trans hstn
  have hat := (hx0.fr (hst1.fr.mono hq0)).at_ (ha0.fr (hst1.fr.mono hq0))
  simp only [Nat.zero_add] at hat
  obtain ⟨⟨f0, i0⟩, ⟨l1, f1, m1⟩, ⟨l2, f2, m2⟩, ⟨l3, f3, m3⟩, ⟨l4, f4, m4⟩, ⟨l5, f5, m5⟩, ⟨f6, i6⟩, ⟨f7, i7⟩, f8⟩ := hat
  have hbo := hst1.oth hb
  clear f0 f2 f3 f4 f5 f6 f7 f8
  go_wp2_with fail
  refine (Entry_w g v1 _ bad w.heap.size _ _ w1 Q0 _ hs1 (fun k hk => hst1.oth (hq0 k hk)) f1 m1 (by have := HL.out; (try simp only [List.length_append, List.flatMap_cons, List.flatMap_nil, List.append_nil]); omega)).mono ?_
  rintro e w2 ⟨rfl, v2, hs2, hstn⟩
  have hst2 := hst1.trans hstn
  have hat := (hx0.fr (hst2.fr.mono hq0)).at_ (ha0.fr (hst2.fr.mono hq0))
  simp only [Nat.zero_add] at hat
  obtain ⟨⟨f0, i0⟩, ⟨l1, f1, m1⟩, ⟨l2, f2, m2⟩, ⟨l3, f3, m3⟩, ⟨l4, f4, m4⟩, ⟨l5, f5, m5⟩, ⟨f6, i6⟩, ⟨f7, i7⟩, f8⟩ := hat
  have hbo := hst2.oth hb
  clear f0 f1 f3 f4 f5 f6 f7 f8
  go_wp2_with fail
  refine (Rate_w g v2 _ bad w.heap.size _ _ w2 Q0 _ hs2 (fun k hk => hst2.oth (hq0 k hk)) f2 m2 (by have := HL.out; (try simp only [List.length_append, List.flatMap_cons, List.flatMap_nil, List.append_nil]); omega)).mono ?_
  rintro e w3 ⟨rfl, v3, hs3, hstn⟩
  have hst3 := hst2.trans hstn
  have hat := (hx0.fr (hst3.fr.mono hq0)).at_ (ha0.fr (hst3.fr.mono hq0))
  simp only [Nat.zero_add] at hat
  obtain ⟨⟨f0, i0⟩, ⟨l1, f1, m1⟩, ⟨l2, f2, m2⟩, ⟨l3, f3, m3⟩, ⟨l4, f4, m4⟩, ⟨l5, f5, m5⟩, ⟨f6, i6⟩, ⟨f7, i7⟩, f8⟩ := hat
  have hbo := hst3.oth hb
  clear f0 f1 f2 f4 f5 f6 f7 f8
  go_wp2_with fail
  refine (Holding_w g v3 _ bad w.heap.size _ _ w3 Q0 _ hs3 (fun k hk => hst3.oth (hq0 k hk)) f3 m3 (by have := HL.out; (try simp only [List.length_append, List.flatMap_cons, List.flatMap_nil, List.append_nil]); omega)).mono ?_
  rintro e w4 ⟨rfl, v4, hs4, hstn⟩
  have hst4 := hst3.trans hstn
  have hat := (hx0.fr (hst4.fr.mono hq0)).at_ (ha0.fr (hst4.fr.mono hq0))
  simp only [Nat.zero_add] at hat
  obtain ⟨⟨f0, i0⟩, ⟨l1, f1, m1⟩, ⟨l2, f2, m2⟩, ⟨l3, f3, m3⟩, ⟨l4, f4, m4⟩, ⟨l5, f5, m5⟩, ⟨f6, i6⟩, ⟨f7, i7⟩, f8⟩ := hat
  have hbo := hst4.oth hb
  clear f0 f1 f2 f3 f5 f6 f7 f8
  go_wp2_with fail
  refine (Match_w g v4 _ bad w.heap.size _ _ w4 Q0 _ hs4 (fun k hk => hst4.oth (hq0 k hk)) f4 m4 (by have := HL.out; (try simp only [List.length_append, List.flatMap_cons, List.flatMap_nil, List.append_nil]); omega)).mono ?_
  rintro e w5 ⟨rfl, v5, hs5, hstn⟩
  have hst5 := hst4.trans hstn
  have hat := (hx0.fr (hst5.fr.mono hq0)).at_ (ha0.fr (hst5.fr.mono hq0))
  simp only [Nat.zero_add] at hat
  obtain ⟨⟨f0, i0⟩, ⟨l1, f1, m1⟩, ⟨l2, f2, m2⟩, ⟨l3, f3, m3⟩, ⟨l4, f4, m4⟩, ⟨l5, f5, m5⟩, ⟨f6, i6⟩, ⟨f7, i7⟩, f8⟩ := hat
  have hbo := hst5.oth hb
  clear f0 f1 f2 f3 f4 f6 f7 f8
  go_wp2_with fail
  refine (Stock_w g v5 _ bad w.heap.size _ _ w5 Q0 _ hs5 (fun k hk => hst5.oth (hq0 k hk)) f5 m5 (by have := HL.out; (try simp only [List.length_append, List.flatMap_cons, List.flatMap_nil, List.append_nil]); omega)).mono ?_
  rintro e w6 ⟨rfl, v6, hs6, hstn⟩
  have hst6 := hst5.trans hstn
  have hat := (hx0.fr (hst6.fr.mono hq0)).at_ (ha0.fr (hst6.fr.mono hq0))
  simp only [Nat.zero_add] at hat
  obtain ⟨⟨f0, i0⟩, ⟨l1, f1, m1⟩, ⟨l2, f2, m2⟩, ⟨l3, f3, m3⟩, ⟨l4, f4, m4⟩, ⟨l5, f5, m5⟩, ⟨f6, i6⟩, ⟨f7, i7⟩, f8⟩ := hat
  have hbo := hst6.oth hb
  clear f0 f1 f2 f3 f4 f5 f6 f7
  have HF := Lib.hid f8
  clear f8
  go_wp2_with fail
  refine (text_w g v6 _ bad _ _ w6 hs6 hbo HF.out (by have := HL.out; (try simp only [List.length_append, List.flatMap_cons, List.flatMap_nil, List.append_nil]); omega)).mono ?_
  rintro e w7 ⟨rfl, v7, hs7, hstn⟩
  have hst7 := hst6.trans hstn
  go_wp2_with fail
  go_end0
  refine ⟨rfl, v7, ?_, hstA.trans hst7⟩
  simpa only [encAll, List.append_assoc, List.flatMap_cons, List.flatMap_nil, List.append_nil] using hs7

set_option maxHeartbeats 1000000 in
set_option maxRecDepth 100000 in
theorem fields_w1 (g : Nat) (v : Value) (L : List UInt8) (bad : Bool) (b o : Nat) (x : XEvent) (w : World) (Q : Nat → Prop) (cs : List Value)
    (hs : SS w g v L false bad) (hq : ∀ k, Q k → Oth w g v k) (hx : EventC w Q cs x) (ha : At w Q ⟨b, o, none⟩ cs) (hL : L.length + (encFields x).length ≤ Lim) (hk : x.kind = 1) :
    Calls Try.prog 34 #[.pointer (some ⟨g, 0, none⟩), .pointer (some ⟨b, o, none⟩)] w (FPost g v L bad (encFields x) true w) := by
  have hE : encFields x = encEntry x.entry := by simp [encFields, hk]
  have hL2 : L.length + ((encEntry x.entry).length) ≤ Lim := by rw [hE] at hL; (try simp only [List.length_append] at hL); omega
  have HL := Lib.hid hL2
  have HE := Lib.hid hE
  clear hL hL2 hE
  have hb := hq b ha.1
  have hst0 := Step.refl g w v
  have hs0 := hs
  have HK := Lib.hid hk
  clear hk
  go_enter Try.func34, Try.ntmps34
  have hat := hx.at_ ha
  obtain ⟨⟨f0, i0⟩, ⟨l1, f1, m1⟩, ⟨l2, f2, m2⟩, ⟨l3, f3, m3⟩, ⟨l4, f4, m4⟩, ⟨l5, f5, m5⟩, ⟨f6, i6⟩, ⟨f7, i7⟩, f8⟩ := hat
  have hbo := hst0.oth hb
  rw [HK.out] at f0
  clear f2 f3 f4 f5 f6 f7 f8
  go_wp2_with fail
  clear f0
  refine (Entry_w g v _ bad b _ _ w Q _ hs0 (fun k hk => hst0.oth (hq k hk)) f1 m1 (by have := HL.out; (try simp only [List.length_append, List.flatMap_cons, List.flatMap_nil, List.append_nil]); omega)).mono ?_
  rintro e w1 ⟨rfl, v1, hs1, hstn⟩
  have hst1 := hst0.trans hstn
  go_wp2_with fail
  go_ret
  refine ⟨rfl, v1, ?_, hst1⟩
  rw [HE.out]
  simpa only [List.append_assoc, List.flatMap_cons, List.flatMap_nil, List.append_nil] using hs1

set_option maxHeartbeats 1000000 in
set_option maxRecDepth 100000 in
theorem fields_w2 (g : Nat) (v : Value) (L : List UInt8) (bad : Bool) (b o : Nat) (x : XEvent) (w : World) (Q : Nat → Prop) (cs : List Value)
    (hs : SS w g v L false bad) (hq : ∀ k, Q k → Oth w g v k) (hx : EventC w Q cs x) (ha : At w Q ⟨b, o, none⟩ cs) (hL : L.length + (encFields x).length ≤ Lim) (hk : x.kind = 2) :
    Calls Try.prog 34 #[.pointer (some ⟨g, 0, none⟩), .pointer (some ⟨b, o, none⟩)] w (FPost g v L bad (encFields x) true w) := by
  have hE : encFields x = encRate x.rate := by simp [encFields, hk]
  have hL2 : L.length + ((encRate x.rate).length) ≤ Lim := by rw [hE] at hL; (try simp only [List.length_append] at hL); omega
  have HL := Lib.hid hL2
  have HE := Lib.hid hE
  clear hL hL2 hE
  have hb := hq b ha.1
  have hst0 := Step.refl g w v
  have hs0 := hs
  have HK := Lib.hid hk
  clear hk
  go_enter Try.func34, Try.ntmps34
  have hat := hx.at_ ha
  obtain ⟨⟨f0, i0⟩, ⟨l1, f1, m1⟩, ⟨l2, f2, m2⟩, ⟨l3, f3, m3⟩, ⟨l4, f4, m4⟩, ⟨l5, f5, m5⟩, ⟨f6, i6⟩, ⟨f7, i7⟩, f8⟩ := hat
  have hbo := hst0.oth hb
  rw [HK.out] at f0
  clear f1 f3 f4 f5 f6 f7 f8
  go_wp2_with fail
  clear f0
  refine (Rate_w g v _ bad b _ _ w Q _ hs0 (fun k hk => hst0.oth (hq k hk)) f2 m2 (by have := HL.out; (try simp only [List.length_append, List.flatMap_cons, List.flatMap_nil, List.append_nil]); omega)).mono ?_
  rintro e w1 ⟨rfl, v1, hs1, hstn⟩
  have hst1 := hst0.trans hstn
  go_wp2_with fail
  go_ret
  refine ⟨rfl, v1, ?_, hst1⟩
  rw [HE.out]
  simpa only [List.append_assoc, List.flatMap_cons, List.flatMap_nil, List.append_nil] using hs1

set_option maxHeartbeats 1000000 in
set_option maxRecDepth 100000 in
theorem fields_w3 (g : Nat) (v : Value) (L : List UInt8) (bad : Bool) (b o : Nat) (x : XEvent) (w : World) (Q : Nat → Prop) (cs : List Value)
    (hs : SS w g v L false bad) (hq : ∀ k, Q k → Oth w g v k) (hx : EventC w Q cs x) (ha : At w Q ⟨b, o, none⟩ cs) (hL : L.length + (encFields x).length ≤ Lim) (hk : x.kind = 3) :
    Calls Try.prog 34 #[.pointer (some ⟨g, 0, none⟩), .pointer (some ⟨b, o, none⟩)] w (FPost g v L bad (encFields x) true w) := by
  have hE : encFields x = encHolding x.holding := by simp [encFields, hk]
  have hL2 : L.length + ((encHolding x.holding).length) ≤ Lim := by rw [hE] at hL; (try simp only [List.length_append] at hL); omega
  have HL := Lib.hid hL2
  have HE := Lib.hid hE
  clear hL hL2 hE
  have hb := hq b ha.1
  have hst0 := Step.refl g w v
  have hs0 := hs
  have HK := Lib.hid hk
  clear hk
  go_enter Try.func34, Try.ntmps34
  have hat := hx.at_ ha
  obtain ⟨⟨f0, i0⟩, ⟨l1, f1, m1⟩, ⟨l2, f2, m2⟩, ⟨l3, f3, m3⟩, ⟨l4, f4, m4⟩, ⟨l5, f5, m5⟩, ⟨f6, i6⟩, ⟨f7, i7⟩, f8⟩ := hat
  have hbo := hst0.oth hb
  rw [HK.out] at f0
  clear f1 f2 f4 f5 f6 f7 f8
  go_wp2_with fail
  clear f0
  refine (Holding_w g v _ bad b _ _ w Q _ hs0 (fun k hk => hst0.oth (hq k hk)) f3 m3 (by have := HL.out; (try simp only [List.length_append, List.flatMap_cons, List.flatMap_nil, List.append_nil]); omega)).mono ?_
  rintro e w1 ⟨rfl, v1, hs1, hstn⟩
  have hst1 := hst0.trans hstn
  go_wp2_with fail
  go_ret
  refine ⟨rfl, v1, ?_, hst1⟩
  rw [HE.out]
  simpa only [List.append_assoc, List.flatMap_cons, List.flatMap_nil, List.append_nil] using hs1

set_option maxHeartbeats 1000000 in
set_option maxRecDepth 100000 in
theorem fields_w4 (g : Nat) (v : Value) (L : List UInt8) (bad : Bool) (b o : Nat) (x : XEvent) (w : World) (Q : Nat → Prop) (cs : List Value)
    (hs : SS w g v L false bad) (hq : ∀ k, Q k → Oth w g v k) (hx : EventC w Q cs x) (ha : At w Q ⟨b, o, none⟩ cs) (hL : L.length + (encFields x).length ≤ Lim) (hk : x.kind = 4) :
    Calls Try.prog 34 #[.pointer (some ⟨g, 0, none⟩), .pointer (some ⟨b, o, none⟩)] w (FPost g v L bad (encFields x) true w) := by
  have hE : encFields x = encMatch x.match_ := by simp [encFields, hk]
  have hL2 : L.length + ((encMatch x.match_).length) ≤ Lim := by rw [hE] at hL; (try simp only [List.length_append] at hL); omega
  have HL := Lib.hid hL2
  have HE := Lib.hid hE
  clear hL hL2 hE
  have hb := hq b ha.1
  have hst0 := Step.refl g w v
  have hs0 := hs
  have HK := Lib.hid hk
  clear hk
  go_enter Try.func34, Try.ntmps34
  have hat := hx.at_ ha
  obtain ⟨⟨f0, i0⟩, ⟨l1, f1, m1⟩, ⟨l2, f2, m2⟩, ⟨l3, f3, m3⟩, ⟨l4, f4, m4⟩, ⟨l5, f5, m5⟩, ⟨f6, i6⟩, ⟨f7, i7⟩, f8⟩ := hat
  have hbo := hst0.oth hb
  rw [HK.out] at f0
  clear f1 f2 f3 f5 f6 f7 f8
  go_wp2_with fail
  clear f0
  refine (Match_w g v _ bad b _ _ w Q _ hs0 (fun k hk => hst0.oth (hq k hk)) f4 m4 (by have := HL.out; (try simp only [List.length_append, List.flatMap_cons, List.flatMap_nil, List.append_nil]); omega)).mono ?_
  rintro e w1 ⟨rfl, v1, hs1, hstn⟩
  have hst1 := hst0.trans hstn
  go_wp2_with fail
  go_ret
  refine ⟨rfl, v1, ?_, hst1⟩
  rw [HE.out]
  simpa only [List.append_assoc, List.flatMap_cons, List.flatMap_nil, List.append_nil] using hs1

set_option maxHeartbeats 1000000 in
set_option maxRecDepth 100000 in
theorem fields_w5 (g : Nat) (v : Value) (L : List UInt8) (bad : Bool) (b o : Nat) (x : XEvent) (w : World) (Q : Nat → Prop) (cs : List Value)
    (hs : SS w g v L false bad) (hq : ∀ k, Q k → Oth w g v k) (hx : EventC w Q cs x) (ha : At w Q ⟨b, o, none⟩ cs) (hL : L.length + (encFields x).length ≤ Lim) (hk : x.kind = 5) :
    Calls Try.prog 34 #[.pointer (some ⟨g, 0, none⟩), .pointer (some ⟨b, o, none⟩)] w (FPost g v L bad (encFields x) true w) := by
  have hE : encFields x = enc x.a ++ enc x.b := by simp [encFields, hk]
  have hL2 : L.length + ((enc x.a).length + (enc x.b).length) ≤ Lim := by rw [hE] at hL; (try simp only [List.length_append] at hL); omega
  have HL := Lib.hid hL2
  have HE := Lib.hid hE
  clear hL hL2 hE
  have hb := hq b ha.1
  have hst0 := Step.refl g w v
  have hs0 := hs
  have HK := Lib.hid hk
  clear hk
  go_enter Try.func34, Try.ntmps34
  have hat := hx.at_ ha
  obtain ⟨⟨f0, i0⟩, ⟨l1, f1, m1⟩, ⟨l2, f2, m2⟩, ⟨l3, f3, m3⟩, ⟨l4, f4, m4⟩, ⟨l5, f5, m5⟩, ⟨f6, i6⟩, ⟨f7, i7⟩, f8⟩ := hat
  have hbo := hst0.oth hb
  have hP : ∀ p ∈ [((⟨b, o + 25, none⟩ : Addr), x.a), ((⟨b, o + 26, none⟩ : Addr), x.b)], Oth w g v p.1.block ∧ w.cell? p.1 = some (.int .i64 p.2) ∧ intBd p.2 := by
    simp only [List.forall_mem_cons]
    exact ⟨⟨hbo, f6, i6⟩, ⟨hbo, f7, i7⟩, fun _ h => absurd h List.not_mem_nil⟩
  have HP := Lib.hid hP
  clear hP
  rw [HK.out] at f0
  clear f1 f2 f3 f4 f5 f6 f7 f8
  go_wp2_with fail
  clear f0
  go_region_law (go_simp; go_at_call 33; refine (num_wd g v _ bad [((⟨b, o + 25, none⟩ : Addr), x.a), ((⟨b, o + 26, none⟩ : Addr), x.b)] (by rfl) (by rfl) (by rfl) hs0 HP.out (by have := HL.out; (try simp only [List.length_append, List.flatMap_cons, List.flatMap_nil, List.append_nil]); omega) (by simp)).mono ?_; rintro e w1 ⟨rfl, v1, hs1, hstn⟩)
  have hst1 := hst0.trans hstn
  go_wp2_with fail
  go_ret
  refine ⟨rfl, v1, ?_, hst1⟩
  rw [HE.out]
  simpa only [List.append_assoc, List.flatMap_cons, List.flatMap_nil, List.append_nil] using hs1

set_option maxHeartbeats 1000000 in
set_option maxRecDepth 100000 in
theorem fields_w6 (g : Nat) (v : Value) (L : List UInt8) (bad : Bool) (b o : Nat) (x : XEvent) (w : World) (Q : Nat → Prop) (cs : List Value)
    (hs : SS w g v L false bad) (hq : ∀ k, Q k → Oth w g v k) (hx : EventC w Q cs x) (ha : At w Q ⟨b, o, none⟩ cs) (hL : L.length + (encFields x).length ≤ Lim) (hk : x.kind = 6) :
    Calls Try.prog 34 #[.pointer (some ⟨g, 0, none⟩), .pointer (some ⟨b, o, none⟩)] w (FPost g v L bad (encFields x) true w) := by
  have hE : encFields x = encStock x.stock := by simp [encFields, hk]
  have hL2 : L.length + ((encStock x.stock).length) ≤ Lim := by rw [hE] at hL; (try simp only [List.length_append] at hL); omega
  have HL := Lib.hid hL2
  have HE := Lib.hid hE
  clear hL hL2 hE
  have hb := hq b ha.1
  have hst0 := Step.refl g w v
  have hs0 := hs
  have HK := Lib.hid hk
  clear hk
  go_enter Try.func34, Try.ntmps34
  have hat := hx.at_ ha
  obtain ⟨⟨f0, i0⟩, ⟨l1, f1, m1⟩, ⟨l2, f2, m2⟩, ⟨l3, f3, m3⟩, ⟨l4, f4, m4⟩, ⟨l5, f5, m5⟩, ⟨f6, i6⟩, ⟨f7, i7⟩, f8⟩ := hat
  have hbo := hst0.oth hb
  rw [HK.out] at f0
  clear f1 f2 f3 f4 f6 f7 f8
  go_wp2_with fail
  clear f0
  refine (Stock_w g v _ bad b _ _ w Q _ hs0 (fun k hk => hst0.oth (hq k hk)) f5 m5 (by have := HL.out; (try simp only [List.length_append, List.flatMap_cons, List.flatMap_nil, List.append_nil]); omega)).mono ?_
  rintro e w1 ⟨rfl, v1, hs1, hstn⟩
  have hst1 := hst0.trans hstn
  go_wp2_with fail
  go_ret
  refine ⟨rfl, v1, ?_, hst1⟩
  rw [HE.out]
  simpa only [List.append_assoc, List.flatMap_cons, List.flatMap_nil, List.append_nil] using hs1

set_option maxHeartbeats 1000000 in
set_option maxRecDepth 100000 in
theorem fields_w7 (g : Nat) (v : Value) (L : List UInt8) (bad : Bool) (b o : Nat) (x : XEvent) (w : World) (Q : Nat → Prop) (cs : List Value)
    (hs : SS w g v L false bad) (hq : ∀ k, Q k → Oth w g v k) (hx : EventC w Q cs x) (ha : At w Q ⟨b, o, none⟩ cs) (hL : L.length + (encFields x).length ≤ Lim) (hk : x.kind = 7) :
    Calls Try.prog 34 #[.pointer (some ⟨g, 0, none⟩), .pointer (some ⟨b, o, none⟩)] w (FPost g v L bad (encFields x) true w) := by
  have hE : encFields x = encS x.text := by simp [encFields, hk]
  have hL2 : L.length + ((encS x.text).length) ≤ Lim := by rw [hE] at hL; (try simp only [List.length_append] at hL); omega
  have HL := Lib.hid hL2
  have HE := Lib.hid hE
  clear hL hL2 hE
  have hb := hq b ha.1
  have hst0 := Step.refl g w v
  have hs0 := hs
  have HK := Lib.hid hk
  clear hk
  go_enter Try.func34, Try.ntmps34
  have hat := hx.at_ ha
  obtain ⟨⟨f0, i0⟩, ⟨l1, f1, m1⟩, ⟨l2, f2, m2⟩, ⟨l3, f3, m3⟩, ⟨l4, f4, m4⟩, ⟨l5, f5, m5⟩, ⟨f6, i6⟩, ⟨f7, i7⟩, f8⟩ := hat
  have hbo := hst0.oth hb
  rw [HK.out] at f0
  clear f1 f2 f3 f4 f5 f6 f7
  have HF := Lib.hid f8
  clear f8
  go_wp2_with fail
  clear f0
  refine (text_w g v _ bad _ _ w hs0 hbo HF.out (by have := HL.out; (try simp only [List.length_append, List.flatMap_cons, List.flatMap_nil, List.append_nil]); omega)).mono ?_
  rintro e w1 ⟨rfl, v1, hs1, hstn⟩
  have hst1 := hst0.trans hstn
  go_wp2_with fail
  go_ret
  refine ⟨rfl, v1, ?_, hst1⟩
  rw [HE.out]
  simpa only [List.append_assoc, List.flatMap_cons, List.flatMap_nil, List.append_nil] using hs1

set_option maxHeartbeats 1000000 in
set_option maxRecDepth 100000 in
theorem fields_w8 (g : Nat) (v : Value) (L : List UInt8) (bad : Bool) (b o : Nat) (x : XEvent) (w : World) (Q : Nat → Prop) (cs : List Value)
    (hs : SS w g v L false bad) (hq : ∀ k, Q k → Oth w g v k) (hx : EventC w Q cs x) (ha : At w Q ⟨b, o, none⟩ cs) (hL : L.length + (encFields x).length ≤ Lim) (hk : x.kind = 8) :
    Calls Try.prog 34 #[.pointer (some ⟨g, 0, none⟩), .pointer (some ⟨b, o, none⟩)] w (FPost g v L bad (encFields x) true w) := by
  have hE : encFields x = enc x.a ++ enc x.b := by simp [encFields, hk]
  have hL2 : L.length + ((enc x.a).length + (enc x.b).length) ≤ Lim := by rw [hE] at hL; (try simp only [List.length_append] at hL); omega
  have HL := Lib.hid hL2
  have HE := Lib.hid hE
  clear hL hL2 hE
  have hb := hq b ha.1
  have hst0 := Step.refl g w v
  have hs0 := hs
  have HK := Lib.hid hk
  clear hk
  go_enter Try.func34, Try.ntmps34
  have hat := hx.at_ ha
  obtain ⟨⟨f0, i0⟩, ⟨l1, f1, m1⟩, ⟨l2, f2, m2⟩, ⟨l3, f3, m3⟩, ⟨l4, f4, m4⟩, ⟨l5, f5, m5⟩, ⟨f6, i6⟩, ⟨f7, i7⟩, f8⟩ := hat
  have hbo := hst0.oth hb
  have hP : ∀ p ∈ [((⟨b, o + 25, none⟩ : Addr), x.a), ((⟨b, o + 26, none⟩ : Addr), x.b)], Oth w g v p.1.block ∧ w.cell? p.1 = some (.int .i64 p.2) ∧ intBd p.2 := by
    simp only [List.forall_mem_cons]
    exact ⟨⟨hbo, f6, i6⟩, ⟨hbo, f7, i7⟩, fun _ h => absurd h List.not_mem_nil⟩
  have HP := Lib.hid hP
  clear hP
  rw [HK.out] at f0
  clear f1 f2 f3 f4 f5 f6 f7 f8
  go_wp2_with fail
  clear f0
  go_region_law (go_simp; go_at_call 33; refine (num_wd g v _ bad [((⟨b, o + 25, none⟩ : Addr), x.a), ((⟨b, o + 26, none⟩ : Addr), x.b)] (by rfl) (by rfl) (by rfl) hs0 HP.out (by have := HL.out; (try simp only [List.length_append, List.flatMap_cons, List.flatMap_nil, List.append_nil]); omega) (by simp)).mono ?_; rintro e w1 ⟨rfl, v1, hs1, hstn⟩)
  have hst1 := hst0.trans hstn
  go_wp2_with fail
  go_ret
  refine ⟨rfl, v1, ?_, hst1⟩
  rw [HE.out]
  simpa only [List.append_assoc, List.flatMap_cons, List.flatMap_nil, List.append_nil] using hs1

set_option maxHeartbeats 1000000 in
set_option maxRecDepth 100000 in
theorem fields_w9 (g : Nat) (v : Value) (L : List UInt8) (bad : Bool) (b o : Nat) (x : XEvent) (w : World) (Q : Nat → Prop) (cs : List Value)
    (hs : SS w g v L false bad) (hq : ∀ k, Q k → Oth w g v k) (hx : EventC w Q cs x) (ha : At w Q ⟨b, o, none⟩ cs) (hL : L.length + (encFields x).length ≤ Lim) (hk : x.kind = 9) :
    Calls Try.prog 34 #[.pointer (some ⟨g, 0, none⟩), .pointer (some ⟨b, o, none⟩)] w (FPost g v L bad (encFields x) true w) := by
  have hE : encFields x = enc x.a ++ enc x.b := by simp [encFields, hk]
  have hL2 : L.length + ((enc x.a).length + (enc x.b).length) ≤ Lim := by rw [hE] at hL; (try simp only [List.length_append] at hL); omega
  have HL := Lib.hid hL2
  have HE := Lib.hid hE
  clear hL hL2 hE
  have hb := hq b ha.1
  have hst0 := Step.refl g w v
  have hs0 := hs
  have HK := Lib.hid hk
  clear hk
  go_enter Try.func34, Try.ntmps34
  have hat := hx.at_ ha
  obtain ⟨⟨f0, i0⟩, ⟨l1, f1, m1⟩, ⟨l2, f2, m2⟩, ⟨l3, f3, m3⟩, ⟨l4, f4, m4⟩, ⟨l5, f5, m5⟩, ⟨f6, i6⟩, ⟨f7, i7⟩, f8⟩ := hat
  have hbo := hst0.oth hb
  have hP : ∀ p ∈ [((⟨b, o + 25, none⟩ : Addr), x.a), ((⟨b, o + 26, none⟩ : Addr), x.b)], Oth w g v p.1.block ∧ w.cell? p.1 = some (.int .i64 p.2) ∧ intBd p.2 := by
    simp only [List.forall_mem_cons]
    exact ⟨⟨hbo, f6, i6⟩, ⟨hbo, f7, i7⟩, fun _ h => absurd h List.not_mem_nil⟩
  have HP := Lib.hid hP
  clear hP
  rw [HK.out] at f0
  clear f1 f2 f3 f4 f5 f6 f7 f8
  go_wp2_with fail
  clear f0
  go_region_law (go_simp; go_at_call 33; refine (num_wd g v _ bad [((⟨b, o + 25, none⟩ : Addr), x.a), ((⟨b, o + 26, none⟩ : Addr), x.b)] (by rfl) (by rfl) (by rfl) hs0 HP.out (by have := HL.out; (try simp only [List.length_append, List.flatMap_cons, List.flatMap_nil, List.append_nil]); omega) (by simp)).mono ?_; rintro e w1 ⟨rfl, v1, hs1, hstn⟩)
  have hst1 := hst0.trans hstn
  go_wp2_with fail
  go_ret
  refine ⟨rfl, v1, ?_, hst1⟩
  rw [HE.out]
  simpa only [List.append_assoc, List.flatMap_cons, List.flatMap_nil, List.append_nil] using hs1

set_option maxHeartbeats 1000000 in
set_option maxRecDepth 100000 in
theorem fields_w10 (g : Nat) (v : Value) (L : List UInt8) (bad : Bool) (b o : Nat) (x : XEvent) (w : World) (Q : Nat → Prop) (cs : List Value)
    (hs : SS w g v L false bad) (hq : ∀ k, Q k → Oth w g v k) (hx : EventC w Q cs x) (ha : At w Q ⟨b, o, none⟩ cs) (hL : L.length + (encFields x).length ≤ Lim) (hk : x.kind = 10) :
    Calls Try.prog 34 #[.pointer (some ⟨g, 0, none⟩), .pointer (some ⟨b, o, none⟩)] w (FPost g v L bad (encFields x) true w) := by
  have hE : encFields x = enc x.a ++ enc x.b ++ encS x.text := by simp [encFields, hk]
  have hL2 : L.length + ((enc x.a).length + (enc x.b).length + (encS x.text).length) ≤ Lim := by rw [hE] at hL; (try simp only [List.length_append] at hL); omega
  have HL := Lib.hid hL2
  have HE := Lib.hid hE
  clear hL hL2 hE
  have hb := hq b ha.1
  have hst0 := Step.refl g w v
  have hs0 := hs
  have HK := Lib.hid hk
  clear hk
  go_enter Try.func34, Try.ntmps34
  have hat := hx.at_ ha
  obtain ⟨⟨f0, i0⟩, ⟨l1, f1, m1⟩, ⟨l2, f2, m2⟩, ⟨l3, f3, m3⟩, ⟨l4, f4, m4⟩, ⟨l5, f5, m5⟩, ⟨f6, i6⟩, ⟨f7, i7⟩, f8⟩ := hat
  have hbo := hst0.oth hb
  have hP : ∀ p ∈ [((⟨b, o + 25, none⟩ : Addr), x.a), ((⟨b, o + 26, none⟩ : Addr), x.b)], Oth w g v p.1.block ∧ w.cell? p.1 = some (.int .i64 p.2) ∧ intBd p.2 := by
    simp only [List.forall_mem_cons]
    exact ⟨⟨hbo, f6, i6⟩, ⟨hbo, f7, i7⟩, fun _ h => absurd h List.not_mem_nil⟩
  have HP := Lib.hid hP
  clear hP
  rw [HK.out] at f0
  clear f1 f2 f3 f4 f5 f6 f7 f8
  go_wp2_with fail
  clear f0
  go_region_law (go_simp; go_at_call 33; refine (num_wd g v _ bad [((⟨b, o + 25, none⟩ : Addr), x.a), ((⟨b, o + 26, none⟩ : Addr), x.b)] (by rfl) (by rfl) (by rfl) hs0 HP.out (by have := HL.out; (try simp only [List.length_append, List.flatMap_cons, List.flatMap_nil, List.append_nil]); omega) (by simp)).mono ?_; rintro e w1 ⟨rfl, v1, hs1, hstn⟩)
  have hst1 := hst0.trans hstn
  have hat := (hx.fr (hst1.fr.mono hq)).at_ (ha.fr (hst1.fr.mono hq))
  obtain ⟨⟨f0, i0⟩, ⟨l1, f1, m1⟩, ⟨l2, f2, m2⟩, ⟨l3, f3, m3⟩, ⟨l4, f4, m4⟩, ⟨l5, f5, m5⟩, ⟨f6, i6⟩, ⟨f7, i7⟩, f8⟩ := hat
  have hbo := hst1.oth hb
  clear f0 f1 f2 f3 f4 f5 f6 f7
  have HF := Lib.hid f8
  clear f8
  go_wp2_with fail
  refine (text_w g v1 _ bad _ _ w1 hs1 hbo HF.out (by have := HL.out; (try simp only [List.length_append, List.flatMap_cons, List.flatMap_nil, List.append_nil]); omega)).mono ?_
  rintro e w2 ⟨rfl, v2, hs2, hstn⟩
  have hst2 := hst1.trans hstn
  go_wp2_with fail
  go_ret
  refine ⟨rfl, v2, ?_, hst2⟩
  rw [HE.out]
  simpa only [List.append_assoc, List.flatMap_cons, List.flatMap_nil, List.append_nil] using hs2

set_option maxHeartbeats 1000000 in
theorem fields_w0 (g : Nat) (v : Value) (L : List UInt8) (bad : Bool) (b o : Nat) (x : XEvent) (w : World) (Q : Nat → Prop) (cs : List Value)
    (hs : SS w g v L false bad) (hq : ∀ k, Q k → Oth w g v k) (hx : EventC w Q cs x) (ha : At w Q ⟨b, o, none⟩ cs) (hL : L.length + (encFields x).length ≤ Lim) (hk : known x.kind = false) :
    Calls Try.prog 34 #[.pointer (some ⟨g, 0, none⟩), .pointer (some ⟨b, o, none⟩)] w (FPost g v L bad (encFields x) false w) := by
  have hk' : ¬ (1 ≤ x.kind ∧ x.kind ≤ 10) := by simpa [known] using hk
  have hE : encFields x = [] := by unfold encFields; repeat (rw [if_neg (by omega)])
  have HE := Lib.hid hE
  clear hE hL hk
  obtain ⟨⟨f0, i0⟩, _⟩ := hx.at_ ha
  have e1 : (x.kind == 1) = false := by simp; omega
  have e2 : (x.kind == 2) = false := by simp; omega
  have e3 : (x.kind == 3) = false := by simp; omega
  have e4 : (x.kind == 4) = false := by simp; omega
  have e5 : (x.kind == 5) = false := by simp; omega
  have e6 : (x.kind == 6) = false := by simp; omega
  have e7 : (x.kind == 7) = false := by simp; omega
  have e8 : (x.kind == 8) = false := by simp; omega
  have e9 : (x.kind == 9) = false := by simp; omega
  have e10 : (x.kind == 10) = false := by simp; omega
  clear hk'
  go_enter Try.func34, Try.ntmps34
  go_wp2_with fail
  go_ret
  refine ⟨rfl, v, ?_, Step.refl _ _ _⟩
  rw [HE.out, List.append_nil]
  exact hs

theorem fields_w (g : Nat) (v : Value) (L : List UInt8) (bad : Bool) (b o : Nat) (x : XEvent) (w : World) (Q : Nat → Prop) (cs : List Value)
    (hs : SS w g v L false bad) (hq : ∀ k, Q k → Oth w g v k) (hx : EventC w Q cs x) (ha : At w Q ⟨b, o, none⟩ cs) (hL : L.length + (encFields x).length ≤ Lim) :
    Calls Try.prog 34 #[.pointer (some ⟨g, 0, none⟩), .pointer (some ⟨b, o, none⟩)] w (FPost g v L bad (encFields x) (known x.kind) w) := by
  by_cases hk : known x.kind = true
  · have h2 : 1 ≤ x.kind ∧ x.kind ≤ 10 := by simpa [known] using hk
    rw [hk]
    have hc : x.kind = 1 ∨ x.kind = 2 ∨ x.kind = 3 ∨ x.kind = 4 ∨ x.kind = 5 ∨ x.kind = 6 ∨ x.kind = 7 ∨ x.kind = 8 ∨ x.kind = 9 ∨ x.kind = 10 := by omega
    rcases hc with h | h | h | h | h | h | h | h | h | h
    · exact fields_w1 g v L bad b o x w Q cs hs hq hx ha hL h
    · exact fields_w2 g v L bad b o x w Q cs hs hq hx ha hL h
    · exact fields_w3 g v L bad b o x w Q cs hs hq hx ha hL h
    · exact fields_w4 g v L bad b o x w Q cs hs hq hx ha hL h
    · exact fields_w5 g v L bad b o x w Q cs hs hq hx ha hL h
    · exact fields_w6 g v L bad b o x w Q cs hs hq hx ha hL h
    · exact fields_w7 g v L bad b o x w Q cs hs hq hx ha hL h
    · exact fields_w8 g v L bad b o x w Q cs hs hq hx ha hL h
    · exact fields_w9 g v L bad b o x w Q cs hs hq hx ha hL h
    · exact fields_w10 g v L bad b o x w Q cs hs hq hx ha hL h
  · have hk : known x.kind = false := by simpa using hk
    rw [hk]
    exact fields_w0 g v L bad b o x w Q cs hs hq hx ha hL hk

end Go.Proofs.Ytgdibeegheddmaa
