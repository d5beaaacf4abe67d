/- The stream writes entities. Written by gen_writer.py. (joined: D6Ent, D7Grp, D8Books) -/
import Derived.Test.YtgdibeegheddmaaYD5List
import Derived.Deep.DrawnRows
import Derived.Deep.RegionLaw
namespace Go.Proofs.Ytgdibeegheddmaa
open Go Go.RowKit
set_option linter.unusedVariables false
set_option linter.unusedSimpArgs false
attribute [local go_sem ↓] Go.wp_at_zero Go.wp_at_succ

set_option maxHeartbeats 1000000 in
set_option maxRecDepth 100000 in
theorem Entity_w (g : Nat) (v : Value) (L : List UInt8) (bad : Bool) (b o : Nat) (x : XEntity) (w : World) (Q : Nat → Prop) (cs : List Value)
    (hs : SS w g v L false bad) (hq : ∀ k, Q k → Oth w g v k) (hx : EntityC w Q cs x) (ha : At w Q ⟨b, o, none⟩ cs) (hL : L.length + (encEntity x).length ≤ Lim) :
    Calls Try.prog 83 #[.pointer (some ⟨g, 0, none⟩), .pointer (some ⟨b, o, none⟩)] w (WPost g v L bad (encEntity x) w) := by
  have hL2 : L.length + ((encS x.name).length + (encS x.currency).length + (encL encAccount x.chart).length + (encL encLink x.links).length + (encB x.joint).length) ≤ Lim := by simp only [encEntity, List.length_append] at hL; omega
  have HL := Lib.hid hL2
  clear hL hL2
  have hb := hq b ha.1
  have hst0 := Step.refl g w v
  have hs0 := hs
  go_enter Try.func83, Try.ntmps83
  have hat := hx.at_ ha
  obtain ⟨f0, f1, ⟨l2, f2, m2⟩, ⟨l3, f3, m3⟩, ⟨f4, z4⟩⟩ := hat
  have hbo := hst0.oth hb
  clear f1 f2 f3 f4
  have HF := Lib.hid f0
  clear f0
  go_wp2_with fail
  refine (text_w g v _ bad _ _ w hs0 hbo HF.out (by have := HL.out; (try simp only [List.length_append, List.flatMap_cons, List.flatMap_nil, List.append_nil]); omega)).mono ?_
  rintro e w1 ⟨rfl, v1, hs1, hstn⟩
  have hst1 := hst0.trans hstn
  have hat := (hx.fr (hst1.fr.mono hq)).at_ (ha.fr (hst1.fr.mono hq))
  obtain ⟨f0, f1, ⟨l2, f2, m2⟩, ⟨l3, f3, m3⟩, ⟨f4, z4⟩⟩ := hat
  have hbo := hst1.oth hb
  clear f0 f2 f3 f4
  have HF := Lib.hid f1
  clear f1
  go_wp2_with fail
  refine (text_w g v1 _ bad _ _ w1 hs1 hbo HF.out (by have := HL.out; (try simp only [List.length_append, List.flatMap_cons, List.flatMap_nil, List.append_nil]); omega)).mono ?_
  rintro e w2 ⟨rfl, v2, hs2, hstn⟩
  have hst2 := hst1.trans hstn
  have hat := (hx.fr (hst2.fr.mono hq)).at_ (ha.fr (hst2.fr.mono hq))
  obtain ⟨f0, f1, ⟨l2, f2, m2⟩, ⟨l3, f3, m3⟩, ⟨f4, z4⟩⟩ := hat
  have hbo := hst2.oth hb
  clear f0 f1 f3 f4
  go_wp2_with fail
  refine (listAccount_w g v2 _ bad b _ _ w2 Q _ hs2 (fun k hk => hst2.oth (hq k hk)) f2 m2 (by have := HL.out; (try simp only [List.length_append, List.flatMap_cons, List.flatMap_nil, List.append_nil]); omega)).mono ?_
  rintro e w3 ⟨rfl, v3, hs3, hstn⟩
  have hst3 := hst2.trans hstn
  have hat := (hx.fr (hst3.fr.mono hq)).at_ (ha.fr (hst3.fr.mono hq))
  obtain ⟨f0, f1, ⟨l2, f2, m2⟩, ⟨l3, f3, m3⟩, ⟨f4, z4⟩⟩ := hat
  have hbo := hst3.oth hb
  clear f0 f1 f2 f4
  go_wp2_with fail
  refine (listLink_w g v3 _ bad b _ _ w3 Q _ hs3 (fun k hk => hst3.oth (hq k hk)) f3 m3 (by have := HL.out; (try simp only [List.length_append, List.flatMap_cons, List.flatMap_nil, List.append_nil]); omega)).mono ?_
  rintro e w4 ⟨rfl, v4, hs4, hstn⟩
  have hst4 := hst3.trans hstn
  have hat := (hx.fr (hst4.fr.mono hq)).at_ (ha.fr (hst4.fr.mono hq))
  obtain ⟨f0, f1, ⟨l2, f2, m2⟩, ⟨l3, f3, m3⟩, ⟨f4, z4⟩⟩ := hat
  have hbo := hst4.oth hb
  clear f0 f1 f2 f3
  have HF := Lib.hid f4
  clear f4
  have HZ := Lib.hid z4
  clear z4
  go_wp2_with fail
  refine (flag_wb g v4 _ bad _ _ w4 hs4 hbo HF.out HZ.out (by have := HL.out; (try simp only [List.length_append, List.flatMap_cons, List.flatMap_nil, List.append_nil]); omega)).mono ?_
  rintro e w5 ⟨rfl, v5, hs5, hstn⟩
  have hst5 := hst4.trans hstn
  go_wp2_with fail
  go_end0
  refine ⟨rfl, v5, ?_, hst5⟩
  simpa only [encEntity, encB, List.append_assoc, List.flatMap_cons, List.flatMap_nil, List.append_nil] using hs5

set_option maxHeartbeats 1000000 in
set_option maxRecDepth 100000 in
theorem listEntity_w (g : Nat) (v : Value) (L : List UInt8) (bad : Bool) (b o : Nat) (x : List XEntity) (w : World) (Q : Nat → Prop) (cs : List Value)
    (hs : SS w g v L false bad) (hq : ∀ k, Q k → Oth w g v k) (hx : ListC EntityC 5 w Q cs x) (ha : At w Q ⟨b, o, none⟩ cs) (hL : L.length + (encL encEntity x).length ≤ Lim) :
    Calls Try.prog 82 #[.pointer (some ⟨g, 0, none⟩), .pointer (some ⟨b, o, none⟩), .func (.func 83) #[] #[]] w (WPost g v L bad (encL encEntity x) w) := by
  have hlen := encL_le encEntity encEntity_pos x
  have hxl : x.length ≤ 1000000000000 := by unfold Lim at hL; omega
  have hbd : intBd x.length := by unfold intBd; omega
  have HL := Lib.hid (show L.length + ((enc x.length).length + (x.flatMap encEntity).length) ≤ Lim from by simpa [encL] using hL)
  clear hL hlen
  have hb := hq b ha.1
  obtain ⟨A, c, rfl, hlc, hcm, hel⟩ := hx
  have hc0 : w.cell? ⟨b, o, none⟩ = some (.slice A x.length c) := ha.c (j := 0) rfl
  have hst0 := Step.alloc g w v (.cells #[.int .i64 (x.length : Int)] 3)
  go_enter Try.func82, Try.ntmps82
  go_wp2_with fail
  have hn1 := hs.lt
  refine (num_wv g v L bad [(⟨w.heap.size, 0, none⟩, (x.length : Int))] (by simp) (by rfl) (by rfl) (hs.alloc _) ?_ ?_ ?_).mono ?_
  · simp only [List.mem_singleton, forall_eq]
    exact ⟨⟨by simp, by omega, fun e => by have := hs.2.lt e; omega⟩, by simp [World.cell?_alloc_new], hbd⟩
  · simp only [List.flatMap_cons, List.flatMap_nil, List.append_nil]; have := HL.out; omega
  · simp
  rintro e w1 ⟨rfl, v1, hs1, hst1⟩
  simp only [List.flatMap_cons, List.flatMap_nil, List.append_nil] at hs1
  have hst := hst0.trans hst1
  have hb0 := blk_cell hs1.1 0
  have hb1 := blk_cell hs1.1 1
  have hcl : w1.cell? ⟨b, o, none⟩ = some (.slice A x.length c) := (hst.fr.cell hb).trans hc0
  clear hc0
  go_wp2_with fail
  have HS := Lib.hid hs1
  clear hb0 hb1 hcl
  go_loopw [26] (fun i wr => ∃ (k : Nat) (vk : Value), k ≤ x.length ∧ i = .int .i64 (k : Int) ∧ SS wr g vk (L ++ (enc x.length ++ (x.take k).flatMap encEntity)) false bad ∧ Step g w v wr vk) (fun i _ => x.length - (intOf i).toNat)
  case atStart => exact ⟨0, v1, Nat.zero_le _, rfl, by simpa using HS.out, hst⟩
  case round =>
    obtain ⟨k, vk, hk, rfl, hsk, hstk⟩ := hrel
    by_cases hlt : k < x.length
    · have hcl : wr.cell? ⟨b, o, none⟩ = some (.slice A x.length c) := (hstk.fr.cell hb).trans (ha.c (j := 0) rfl)
      obtain ⟨b2, o2, rfl, hb2, hi⟩ := hel (by omega)
      obtain ⟨es, he, hae⟩ := hi k x[k] (List.getElem?_eq_getElem hlt)
      have htk : (x.take (k + 1)).flatMap encEntity = (x.take k).flatMap encEntity ++ encEntity x[k] := by
        rw [List.take_succ_eq_append_getElem hlt, List.flatMap_append]; simp only [List.flatMap_cons, List.flatMap_nil, List.append_nil]
      have hf := hstk.fr.mono hq
      have hfin := flat_take_le encEntity x (k + 1)
      rw [htk, List.length_append] at hfin
      have HT := Lib.hid htk
      clear htk
      have hltI : (k : Int) < (x.length : Int) := by omega
      go_wp2_with fail
      refine (Entity_w g vk _ bad b2 _ x[k] wr Q es hsk (fun k hk => hstk.oth (hq k hk)) (he.fr hf) (hae.fr hf) ?_).mono ?_
      · have := HL.out; simp only [List.length_append]; omega
      rintro e w2 ⟨rfl, v2, hs2, hst2⟩
      clear hcl
      go_wp2_with fail
      go_roundw
      case rel => exact ⟨k + 1, v2, by omega, by go_num, by rw [HT.out]; simpa only [List.append_assoc] using hs2, hstk.trans hst2⟩
      case measure => simp [intOf]; omega
    · have hk' : k = x.length := by omega
      subst hk'
      rw [List.take_length] at hsk
      clear hlt
      go_wp2_with fail
      refine bodyPost_ret (results_none rfl _ _ _) rfl ⟨rfl, vk, hsk, hstk⟩

end Go.Proofs.Ytgdibeegheddmaa

namespace Go.Proofs.Ytgdibeegheddmaa
open Go Go.RowKit
set_option linter.unusedVariables false
set_option linter.unusedSimpArgs false
attribute [local go_sem ↓] Go.wp_at_zero Go.wp_at_succ

set_option maxHeartbeats 1000000 in
set_option maxRecDepth 100000 in
theorem Group_w (g : Nat) (v : Value) (L : List UInt8) (bad : Bool) (b o : Nat) (x : XGroup) (w : World) (Q : Nat → Prop) (cs : List Value)
    (hs : SS w g v L false bad) (hq : ∀ k, Q k → Oth w g v k) (hx : GroupC w Q cs x) (ha : At w Q ⟨b, o, none⟩ cs) (hL : L.length + (encGroup x).length ≤ Lim) :
    Calls Try.prog 67 #[.pointer (some ⟨g, 0, none⟩), .pointer (some ⟨b, o, none⟩)] w (WPost g v L bad (encGroup x) w) := by
  have hL2 : L.length + ((encS x.currency).length + (enc x.calendar.year).length + (enc x.calendar.month).length + (enc x.calendar.periods).length + (encL encAccount x.chart).length + (enc x.roles.investment).length + (enc x.roles.goodwill).length + (enc x.roles.associates).length + (enc x.roles.inventory).length + (enc x.roles.reserve).length + (enc x.roles.minority).length + (enc x.roles.retained).length + (enc x.roles.acquired).length + (enc x.roles.owners).length + (enc x.roles.disposal).length + (enc x.roles.associateProfit).length + (enc x.roles.dividends).length + (enc x.roles.minorityProfit).length + (enc x.roles.difference).length + (enc x.roles.margin).length + (encL encEntity x.entities).length) ≤ Lim := by simp only [encGroup, encCal, encRoles, List.length_append] at hL; omega
  have HL := Lib.hid hL2
  clear hL hL2
  have hb := hq b ha.1
  have hst0 := Step.refl g w v
  have hs0 := hs
  go_enter Try.func67, Try.ntmps67
  have hat := hx.at_ ha
  obtain ⟨f0, ⟨l1, f1, m1⟩, ⟨l2, f2, m2⟩, ⟨l3, f3, m3⟩, ⟨l4, f4, m4⟩⟩ := hat
  have hbo := hst0.oth hb
  clear f1 f2 f3 f4
  have HF := Lib.hid f0
  clear f0
  go_wp2_with fail
  refine (text_w g v _ bad _ _ w hs0 hbo HF.out (by have := HL.out; (try simp only [List.length_append, List.flatMap_cons, List.flatMap_nil, List.append_nil]); omega)).mono ?_
  rintro e w1 ⟨rfl, v1, hs1, hstn⟩
  have hst1 := hst0.trans hstn
  have hat := (hx.fr (hst1.fr.mono hq)).at_ (ha.fr (hst1.fr.mono hq))
  obtain ⟨f0, ⟨l1, f1, m1⟩, ⟨l2, f2, m2⟩, ⟨l3, f3, m3⟩, ⟨l4, f4, m4⟩⟩ := hat
  have hbo := hst1.oth hb
  have sub1 := CalC.at_ f1 m1
  simp only [Nat.add_assoc, Nat.reduceAdd] at sub1
  obtain ⟨⟨f1_0, i1_0⟩, ⟨f1_1, i1_1⟩, ⟨f1_2, i1_2⟩⟩ := sub1
  have hP : ∀ p ∈ [((⟨b, o + 1, none⟩ : Addr), x.calendar.year), ((⟨b, o + 2, none⟩ : Addr), x.calendar.month), ((⟨b, o + 3, none⟩ : Addr), x.calendar.periods)], Oth w1 g v1 p.1.block ∧ w1.cell? p.1 = some (.int .i64 p.2) ∧ intBd p.2 := by
    simp only [List.forall_mem_cons]
    exact ⟨⟨hbo, f1_0, i1_0⟩, ⟨hbo, f1_1, i1_1⟩, ⟨hbo, f1_2, i1_2⟩, fun _ h => absurd h List.not_mem_nil⟩
  have HP := Lib.hid hP
  clear hP
  clear f0 f1 f2 f3 f4 f1_0 f1_1 f1_2
  go_wp2_with fail
  go_region_law (go_simp; go_at_call 33; refine (num_wd g v1 _ bad [((⟨b, o + 1, none⟩ : Addr), x.calendar.year), ((⟨b, o + 2, none⟩ : Addr), x.calendar.month), ((⟨b, o + 3, none⟩ : Addr), x.calendar.periods)] (by rfl) (by rfl) (by rfl) hs1 HP.out (by have := HL.out; (try simp only [List.length_append, List.flatMap_cons, List.flatMap_nil, List.append_nil]); omega) (by simp)).mono ?_; rintro e w2 ⟨rfl, v2, hs2, hstn⟩)
  have hst2 := hst1.trans hstn
  have hat := (hx.fr (hst2.fr.mono hq)).at_ (ha.fr (hst2.fr.mono hq))
  obtain ⟨f0, ⟨l1, f1, m1⟩, ⟨l2, f2, m2⟩, ⟨l3, f3, m3⟩, ⟨l4, f4, m4⟩⟩ := hat
  have hbo := hst2.oth hb
  clear f0 f1 f3 f4
  go_wp2_with fail
  refine (listAccount_w g v2 _ bad b _ _ w2 Q _ hs2 (fun k hk => hst2.oth (hq k hk)) f2 m2 (by have := HL.out; (try simp only [List.length_append, List.flatMap_cons, List.flatMap_nil, List.append_nil]); omega)).mono ?_
  rintro e w3 ⟨rfl, v3, hs3, hstn⟩
  have hst3 := hst2.trans hstn
  have hat := (hx.fr (hst3.fr.mono hq)).at_ (ha.fr (hst3.fr.mono hq))
  obtain ⟨f0, ⟨l1, f1, m1⟩, ⟨l2, f2, m2⟩, ⟨l3, f3, m3⟩, ⟨l4, f4, m4⟩⟩ := hat
  have hbo := hst3.oth hb
  have sub3 := RolesC.at_ f3 m3
  simp only [Nat.add_assoc, Nat.reduceAdd] at sub3
  obtain ⟨⟨f3_0, i3_0⟩, ⟨f3_1, i3_1⟩, ⟨f3_2, i3_2⟩, ⟨f3_3, i3_3⟩, ⟨f3_4, i3_4⟩, ⟨f3_5, i3_5⟩, ⟨f3_6, i3_6⟩, ⟨f3_7, i3_7⟩, ⟨f3_8, i3_8⟩, ⟨f3_9, i3_9⟩, ⟨f3_10, i3_10⟩, ⟨f3_11, i3_11⟩, ⟨f3_12, i3_12⟩, ⟨f3_13, i3_13⟩, ⟨f3_14, i3_14⟩⟩ := sub3
  have hP : ∀ p ∈ [((⟨b, o + 5, none⟩ : Addr), x.roles.investment), ((⟨b, o + 6, none⟩ : Addr), x.roles.goodwill), ((⟨b, o + 7, none⟩ : Addr), x.roles.associates), ((⟨b, o + 8, none⟩ : Addr), x.roles.inventory), ((⟨b, o + 9, none⟩ : Addr), x.roles.reserve), ((⟨b, o + 10, none⟩ : Addr), x.roles.minority), ((⟨b, o + 11, none⟩ : Addr), x.roles.retained), ((⟨b, o + 12, none⟩ : Addr), x.roles.acquired), ((⟨b, o + 13, none⟩ : Addr), x.roles.owners), ((⟨b, o + 14, none⟩ : Addr), x.roles.disposal), ((⟨b, o + 15, none⟩ : Addr), x.roles.associateProfit), ((⟨b, o + 16, none⟩ : Addr), x.roles.dividends), ((⟨b, o + 17, none⟩ : Addr), x.roles.minorityProfit), ((⟨b, o + 18, none⟩ : Addr), x.roles.difference), ((⟨b, o + 19, none⟩ : Addr), x.roles.margin)], Oth w3 g v3 p.1.block ∧ w3.cell? p.1 = some (.int .i64 p.2) ∧ intBd p.2 := by
    simp only [List.forall_mem_cons]
    exact ⟨⟨hbo, f3_0, i3_0⟩, ⟨hbo, f3_1, i3_1⟩, ⟨hbo, f3_2, i3_2⟩, ⟨hbo, f3_3, i3_3⟩, ⟨hbo, f3_4, i3_4⟩, ⟨hbo, f3_5, i3_5⟩, ⟨hbo, f3_6, i3_6⟩, ⟨hbo, f3_7, i3_7⟩, ⟨hbo, f3_8, i3_8⟩, ⟨hbo, f3_9, i3_9⟩, ⟨hbo, f3_10, i3_10⟩, ⟨hbo, f3_11, i3_11⟩, ⟨hbo, f3_12, i3_12⟩, ⟨hbo, f3_13, i3_13⟩, ⟨hbo, f3_14, i3_14⟩, fun _ h => absurd h List.not_mem_nil⟩
  have HP := Lib.hid hP
  clear hP
  clear f0 f1 f2 f3 f4 f3_0 f3_1 f3_2 f3_3 f3_4 f3_5 f3_6 f3_7 f3_8 f3_9 f3_10 f3_11 f3_12 f3_13 f3_14
  go_wp2_with fail
  go_region_law (go_simp; go_at_call 33; refine (num_wd g v3 _ bad [((⟨b, o + 5, none⟩ : Addr), x.roles.investment), ((⟨b, o + 6, none⟩ : Addr), x.roles.goodwill), ((⟨b, o + 7, none⟩ : Addr), x.roles.associates), ((⟨b, o + 8, none⟩ : Addr), x.roles.inventory), ((⟨b, o + 9, none⟩ : Addr), x.roles.reserve), ((⟨b, o + 10, none⟩ : Addr), x.roles.minority), ((⟨b, o + 11, none⟩ : Addr), x.roles.retained), ((⟨b, o + 12, none⟩ : Addr), x.roles.acquired), ((⟨b, o + 13, none⟩ : Addr), x.roles.owners), ((⟨b, o + 14, none⟩ : Addr), x.roles.disposal), ((⟨b, o + 15, none⟩ : Addr), x.roles.associateProfit), ((⟨b, o + 16, none⟩ : Addr), x.roles.dividends), ((⟨b, o + 17, none⟩ : Addr), x.roles.minorityProfit), ((⟨b, o + 18, none⟩ : Addr), x.roles.difference), ((⟨b, o + 19, none⟩ : Addr), x.roles.margin)] (by rfl) (by rfl) (by rfl) hs3 HP.out (by have := HL.out; (try simp only [List.length_append, List.flatMap_cons, List.flatMap_nil, List.append_nil]); omega) (by simp)).mono ?_; rintro e w4 ⟨rfl, v4, hs4, hstn⟩)
  have hst4 := hst3.trans hstn
  have hat := (hx.fr (hst4.fr.mono hq)).at_ (ha.fr (hst4.fr.mono hq))
  obtain ⟨f0, ⟨l1, f1, m1⟩, ⟨l2, f2, m2⟩, ⟨l3, f3, m3⟩, ⟨l4, f4, m4⟩⟩ := hat
  have hbo := hst4.oth hb
  clear f0 f1 f2 f3
  go_wp2_with fail
  refine (listEntity_w g v4 _ bad b _ _ w4 Q _ hs4 (fun k hk => hst4.oth (hq k hk)) f4 m4 (by have := HL.out; (try simp only [List.length_append, List.flatMap_cons, List.flatMap_nil, List.append_nil]); omega)).mono ?_
  rintro e w5 ⟨rfl, v5, hs5, hstn⟩
  have hst5 := hst4.trans hstn
  go_wp2_with fail
  go_end0
  refine ⟨rfl, v5, ?_, hst5⟩
  simpa only [encGroup, encCal, encRoles, encB, List.append_assoc, List.flatMap_cons, List.flatMap_nil, List.append_nil] using hs5

end Go.Proofs.Ytgdibeegheddmaa

namespace Go.Proofs.Ytgdibeegheddmaa
open Go Go.RowKit
set_option linter.unusedVariables false
set_option linter.unusedSimpArgs false
attribute [local go_sem ↓] Go.wp_at_zero Go.wp_at_succ

set_option maxHeartbeats 1000000 in
set_option maxRecDepth 100000 in
theorem Books_w (g : Nat) (v : Value) (L : List UInt8) (bad : Bool) (b o : Nat) (x : XBooks) (w : World) (Q : Nat → Prop) (cs : List Value)
    (hs : SS w g v L false bad) (hq : ∀ k, Q k → Oth w g v k) (hx : BooksC w Q cs x) (ha : At w Q ⟨b, o, none⟩ cs) (hL : L.length + (encBooks x).length ≤ Lim) :
    Calls Try.prog 54 #[.pointer (some ⟨g, 0, none⟩), .pointer (some ⟨b, o, none⟩)] w (WPost g v L bad (encBooks x) w) := by
  have hL2 : L.length + ((encGroup x.group).length + (encL encEntry x.entries).length + (encL encRate x.rates).length + (encL encHolding x.holdings).length + (encL encMatch x.matches_).length + (encL encStock x.stocks).length + (encS x.rules).length) ≤ Lim := by simp only [encBooks, List.length_append] at hL; omega
  have HL := Lib.hid hL2
  clear hL hL2
  have hb := hq b ha.1
  have hst0 := Step.refl g w v
  have hs0 := hs
  go_enter Try.func54, Try.ntmps54
  have hat := hx.at_ ha
  obtain ⟨⟨l0, f0, m0⟩, ⟨l1, f1, m1⟩, ⟨l2, f2, m2⟩, ⟨l3, f3, m3⟩, ⟨l4, f4, m4⟩, ⟨l5, f5, m5⟩, f6⟩ := hat
  have hbo := hst0.oth hb
  clear f1 f2 f3 f4 f5 f6
  go_wp2_with fail
  refine (Group_w g v _ bad b _ _ w Q _ hs0 (fun k hk => hst0.oth (hq k hk)) f0 m0 (by have := HL.out; (try simp only [List.length_append, List.flatMap_cons, List.flatMap_nil, List.append_nil]); omega)).mono ?_
  rintro e w1 ⟨rfl, v1, hs1, hstn⟩
  have hst1 := hst0.trans hstn
  have hat := (hx.fr (hst1.fr.mono hq)).at_ (ha.fr (hst1.fr.mono hq))
  obtain ⟨⟨l0, f0, m0⟩, ⟨l1, f1, m1⟩, ⟨l2, f2, m2⟩, ⟨l3, f3, m3⟩, ⟨l4, f4, m4⟩, ⟨l5, f5, m5⟩, f6⟩ := hat
  have hbo := hst1.oth hb
  clear f0 f2 f3 f4 f5 f6
  go_wp2_with fail
  refine (listEntry_w g v1 _ bad b _ _ w1 Q _ hs1 (fun k hk => hst1.oth (hq k hk)) f1 m1 (by have := HL.out; (try simp only [List.length_append, List.flatMap_cons, List.flatMap_nil, List.append_nil]); omega)).mono ?_
  rintro e w2 ⟨rfl, v2, hs2, hstn⟩
  have hst2 := hst1.trans hstn
  have hat := (hx.fr (hst2.fr.mono hq)).at_ (ha.fr (hst2.fr.mono hq))
  obtain ⟨⟨l0, f0, m0⟩, ⟨l1, f1, m1⟩, ⟨l2, f2, m2⟩, ⟨l3, f3, m3⟩, ⟨l4, f4, m4⟩, ⟨l5, f5, m5⟩, f6⟩ := hat
  have hbo := hst2.oth hb
  clear f0 f1 f3 f4 f5 f6
  go_wp2_with fail
  refine (listRate_w g v2 _ bad b _ _ w2 Q _ hs2 (fun k hk => hst2.oth (hq k hk)) f2 m2 (by have := HL.out; (try simp only [List.length_append, List.flatMap_cons, List.flatMap_nil, List.append_nil]); omega)).mono ?_
  rintro e w3 ⟨rfl, v3, hs3, hstn⟩
  have hst3 := hst2.trans hstn
  have hat := (hx.fr (hst3.fr.mono hq)).at_ (ha.fr (hst3.fr.mono hq))
  obtain ⟨⟨l0, f0, m0⟩, ⟨l1, f1, m1⟩, ⟨l2, f2, m2⟩, ⟨l3, f3, m3⟩, ⟨l4, f4, m4⟩, ⟨l5, f5, m5⟩, f6⟩ := hat
  have hbo := hst3.oth hb
  clear f0 f1 f2 f4 f5 f6
  go_wp2_with fail
  refine (listHolding_w g v3 _ bad b _ _ w3 Q _ hs3 (fun k hk => hst3.oth (hq k hk)) f3 m3 (by have := HL.out; (try simp only [List.length_append, List.flatMap_cons, List.flatMap_nil, List.append_nil]); omega)).mono ?_
  rintro e w4 ⟨rfl, v4, hs4, hstn⟩
  have hst4 := hst3.trans hstn
  have hat := (hx.fr (hst4.fr.mono hq)).at_ (ha.fr (hst4.fr.mono hq))
  obtain ⟨⟨l0, f0, m0⟩, ⟨l1, f1, m1⟩, ⟨l2, f2, m2⟩, ⟨l3, f3, m3⟩, ⟨l4, f4, m4⟩, ⟨l5, f5, m5⟩, f6⟩ := hat
  have hbo := hst4.oth hb
  clear f0 f1 f2 f3 f5 f6
  go_wp2_with fail
  refine (listMatch_w g v4 _ bad b _ _ w4 Q _ hs4 (fun k hk => hst4.oth (hq k hk)) f4 m4 (by have := HL.out; (try simp only [List.length_append, List.flatMap_cons, List.flatMap_nil, List.append_nil]); omega)).mono ?_
  rintro e w5 ⟨rfl, v5, hs5, hstn⟩
  have hst5 := hst4.trans hstn
  have hat := (hx.fr (hst5.fr.mono hq)).at_ (ha.fr (hst5.fr.mono hq))
  obtain ⟨⟨l0, f0, m0⟩, ⟨l1, f1, m1⟩, ⟨l2, f2, m2⟩, ⟨l3, f3, m3⟩, ⟨l4, f4, m4⟩, ⟨l5, f5, m5⟩, f6⟩ := hat
  have hbo := hst5.oth hb
  clear f0 f1 f2 f3 f4 f6
  go_wp2_with fail
  refine (listStock_w g v5 _ bad b _ _ w5 Q _ hs5 (fun k hk => hst5.oth (hq k hk)) f5 m5 (by have := HL.out; (try simp only [List.length_append, List.flatMap_cons, List.flatMap_nil, List.append_nil]); omega)).mono ?_
  rintro e w6 ⟨rfl, v6, hs6, hstn⟩
  have hst6 := hst5.trans hstn
  have hat := (hx.fr (hst6.fr.mono hq)).at_ (ha.fr (hst6.fr.mono hq))
  obtain ⟨⟨l0, f0, m0⟩, ⟨l1, f1, m1⟩, ⟨l2, f2, m2⟩, ⟨l3, f3, m3⟩, ⟨l4, f4, m4⟩, ⟨l5, f5, m5⟩, f6⟩ := hat
  have hbo := hst6.oth hb
  clear f0 f1 f2 f3 f4 f5
  have HF := Lib.hid f6
  clear f6
  go_wp2_with fail
  refine (text_w g v6 _ bad _ _ w6 hs6 hbo HF.out (by have := HL.out; (try simp only [List.length_append, List.flatMap_cons, List.flatMap_nil, List.append_nil]); omega)).mono ?_
  rintro e w7 ⟨rfl, v7, hs7, hstn⟩
  have hst7 := hst6.trans hstn
  go_wp2_with fail
  go_end0
  refine ⟨rfl, v7, ?_, hst7⟩
  simpa only [encBooks, encB, List.append_assoc, List.flatMap_cons, List.flatMap_nil, List.append_nil] using hs7

end Go.Proofs.Ytgdibeegheddmaa
