/- The stream writes books. Written by gen_writer.py. -/
import Derived.Test.YtgdibeegheddmaaD7Grp
import Derived.Deep.DrawnRows
import Derived.Deep.RegionLaw
namespace Go.Proofs.Ytgdibeegheddmaa
open Go Go.RowKit
set_option linter.unusedVariables false
set_option linter.unusedSimpArgs false
attribute [local go_sem ↓] Go.wp_at_zero Go.wp_at_succ

set_option maxHeartbeats 1000000 in
set_option maxRecDepth 100000 in
theorem Books_w (g : Nat) (v : Value) (L : List UInt8) (bad : Bool) (b o : Nat) (x : XBooks) (w : World) (Q : Nat → Prop) (cs : List Value)
    (hs : SS w g v L false bad) (hq : ∀ k, Q k → Oth w g v k) (hx : BooksC w Q cs x) (ha : At w Q ⟨b, o, none⟩ cs) (hL : L.length + (encBooks x).length ≤ Lim) :
    Calls Try.prog 54 #[.pointer (some ⟨g, 0, none⟩), .pointer (some ⟨b, o, none⟩)] w (WPost g v L bad (encBooks x) w) := by
  have hL2 : L.length + ((encGroup x.group).length + (encL encEntry x.entries).length + (encL encRate x.rates).length + (encL encHolding x.holdings).length + (encL encMatch x.matches_).length + (encL encStock x.stocks).length + (encS x.rules).length) ≤ Lim := by simp only [encBooks, List.length_append] at hL; omega
  have HL := Lib.hid hL2
  clear hL hL2
  have hb := hq b ha.1
  have hst0 := Step.refl g w v
  have hs0 := hs
  go_enter Try.func54, Try.ntmps54
  have hat := hx.at_ ha
  obtain ⟨⟨l0, f0, m0⟩, ⟨l1, f1, m1⟩, ⟨l2, f2, m2⟩, ⟨l3, f3, m3⟩, ⟨l4, f4, m4⟩, ⟨l5, f5, m5⟩, f6⟩ := hat
  have hbo := hst0.oth hb
  clear f1 f2 f3 f4 f5 f6
  go_wp2_with fail
  refine (Group_w g v _ bad b _ _ w Q _ hs0 (fun k hk => hst0.oth (hq k hk)) f0 m0 (by have := HL.out; (try simp only [List.length_append, List.flatMap_cons, List.flatMap_nil, List.append_nil]); omega)).mono ?_
  rintro e w1 ⟨rfl, v1, hs1, hstn⟩
  have hst1 := hst0.trans hstn
  have hat := (hx.fr (hst1.fr.mono hq)).at_ (ha.fr (hst1.fr.mono hq))
  obtain ⟨⟨l0, f0, m0⟩, ⟨l1, f1, m1⟩, ⟨l2, f2, m2⟩, ⟨l3, f3, m3⟩, ⟨l4, f4, m4⟩, ⟨l5, f5, m5⟩, f6⟩ := hat
  have hbo := hst1.oth hb
  clear f0 f2 f3 f4 f5 f6
  go_wp2_with fail
  refine (listEntry_w g v1 _ bad b _ _ w1 Q _ hs1 (fun k hk => hst1.oth (hq k hk)) f1 m1 (by have := HL.out; (try simp only [List.length_append, List.flatMap_cons, List.flatMap_nil, List.append_nil]); omega)).mono ?_
  rintro e w2 ⟨rfl, v2, hs2, hstn⟩
  have hst2 := hst1.trans hstn
  have hat := (hx.fr (hst2.fr.mono hq)).at_ (ha.fr (hst2.fr.mono hq))
  obtain ⟨⟨l0, f0, m0⟩, ⟨l1, f1, m1⟩, ⟨l2, f2, m2⟩, ⟨l3, f3, m3⟩, ⟨l4, f4, m4⟩, ⟨l5, f5, m5⟩, f6⟩ := hat
  have hbo := hst2.oth hb
  clear f0 f1 f3 f4 f5 f6
  go_wp2_with fail
  refine (listRate_w g v2 _ bad b _ _ w2 Q _ hs2 (fun k hk => hst2.oth (hq k hk)) f2 m2 (by have := HL.out; (try simp only [List.length_append, List.flatMap_cons, List.flatMap_nil, List.append_nil]); omega)).mono ?_
  rintro e w3 ⟨rfl, v3, hs3, hstn⟩
  have hst3 := hst2.trans hstn
  have hat := (hx.fr (hst3.fr.mono hq)).at_ (ha.fr (hst3.fr.mono hq))
  obtain ⟨⟨l0, f0, m0⟩, ⟨l1, f1, m1⟩, ⟨l2, f2, m2⟩, ⟨l3, f3, m3⟩, ⟨l4, f4, m4⟩, ⟨l5, f5, m5⟩, f6⟩ := hat
  have hbo := hst3.oth hb
  clear f0 f1 f2 f4 f5 f6
  go_wp2_with fail
  refine (listHolding_w g v3 _ bad b _ _ w3 Q _ hs3 (fun k hk => hst3.oth (hq k hk)) f3 m3 (by have := HL.out; (try simp only [List.length_append, List.flatMap_cons, List.flatMap_nil, List.append_nil]); omega)).mono ?_
  rintro e w4 ⟨rfl, v4, hs4, hstn⟩
  have hst4 := hst3.trans hstn
  have hat := (hx.fr (hst4.fr.mono hq)).at_ (ha.fr (hst4.fr.mono hq))
  obtain ⟨⟨l0, f0, m0⟩, ⟨l1, f1, m1⟩, ⟨l2, f2, m2⟩, ⟨l3, f3, m3⟩, ⟨l4, f4, m4⟩, ⟨l5, f5, m5⟩, f6⟩ := hat
  have hbo := hst4.oth hb
  clear f0 f1 f2 f3 f5 f6
  go_wp2_with fail
  refine (listMatch_w g v4 _ bad b _ _ w4 Q _ hs4 (fun k hk => hst4.oth (hq k hk)) f4 m4 (by have := HL.out; (try simp only [List.length_append, List.flatMap_cons, List.flatMap_nil, List.append_nil]); omega)).mono ?_
  rintro e w5 ⟨rfl, v5, hs5, hstn⟩
  have hst5 := hst4.trans hstn
  have hat := (hx.fr (hst5.fr.mono hq)).at_ (ha.fr (hst5.fr.mono hq))
  obtain ⟨⟨l0, f0, m0⟩, ⟨l1, f1, m1⟩, ⟨l2, f2, m2⟩, ⟨l3, f3, m3⟩, ⟨l4, f4, m4⟩, ⟨l5, f5, m5⟩, f6⟩ := hat
  have hbo := hst5.oth hb
  clear f0 f1 f2 f3 f4 f6
  go_wp2_with fail
  refine (listStock_w g v5 _ bad b _ _ w5 Q _ hs5 (fun k hk => hst5.oth (hq k hk)) f5 m5 (by have := HL.out; (try simp only [List.length_append, List.flatMap_cons, List.flatMap_nil, List.append_nil]); omega)).mono ?_
  rintro e w6 ⟨rfl, v6, hs6, hstn⟩
  have hst6 := hst5.trans hstn
  have hat := (hx.fr (hst6.fr.mono hq)).at_ (ha.fr (hst6.fr.mono hq))
  obtain ⟨⟨l0, f0, m0⟩, ⟨l1, f1, m1⟩, ⟨l2, f2, m2⟩, ⟨l3, f3, m3⟩, ⟨l4, f4, m4⟩, ⟨l5, f5, m5⟩, f6⟩ := hat
  have hbo := hst6.oth hb
  clear f0 f1 f2 f3 f4 f5
  have HF := Lib.hid f6
  clear f6
  go_wp2_with fail
  refine (text_w g v6 _ bad _ _ w6 hs6 hbo HF.out (by have := HL.out; (try simp only [List.length_append, List.flatMap_cons, List.flatMap_nil, List.append_nil]); omega)).mono ?_
  rintro e w7 ⟨rfl, v7, hs7, hstn⟩
  have hst7 := hst6.trans hstn
  go_wp2_with fail
  go_end0
  refine ⟨rfl, v7, ?_, hst7⟩
  simpa only [encBooks, encB, List.append_assoc, List.flatMap_cons, List.flatMap_nil, List.append_nil] using hs7

end Go.Proofs.Ytgdibeegheddmaa
