/- (*stream).num writes the integers to which its pointers lead. -/
import Derived.Test.YtgdibeegheddmaaB2Stream
import Derived.Deep.DrawnRows
import Derived.Deep.RegionLaw
namespace Go.Proofs.Ytgdibeegheddmaa
open Go Go.RowKit
attribute [local go_sem ↓] Go.wp_at_zero Go.wp_at_succ

set_option maxHeartbeats 400000 in
theorem num_w (g : Nat) (v : Value) (L : List UInt8) (bad : Bool) (ps : List (Addr × Int)) (A : Option Addr) (c : Nat) (w : World) (Q : Nat → Prop)
    (hs : SS w g v L false bad) (hq : ∀ k, Q k → Oth w g v k)
    (hr : Rd w Q A ps.length 1 (ps.map fun p => .pointer (some p.1)))
    (hp : ∀ p ∈ ps, Q p.1.block ∧ w.cell? p.1 = some (.int .i64 p.2) ∧ intBd p.2)
    (hL : L.length + (ps.flatMap fun p => enc p.2).length ≤ Lim) (hm : ps.length ≤ 1000) :
    Calls Try.prog 33 #[.pointer (some ⟨g, 0, none⟩), .slice A ps.length c] w fun e w' => e = .returned (.tuple #[]) ∧
      ∃ v', SS w' g v' (L ++ ps.flatMap fun p => enc p.2) false bad ∧ Step g w v w' v' := by
  have HL := Lib.hid hL
  clear hL
  go_enter Try.func33, Try.ntmps33
  go_wp2_with fail
  go_loopw [11] (fun i wr => ∃ (k : Nat) (vk : Value), k ≤ ps.length ∧ i = .int .i64 (k : Int) ∧ SS wr g vk (L ++ (ps.take k).flatMap fun p => enc p.2) false bad ∧ Step g w v wr vk) (fun i _ => ps.length - (intOf i).toNat)
  case atStart => exact ⟨0, v, Nat.zero_le _, rfl, by simpa using hs, ⟨Fr.refl _ _, fun k hk => .inl hk⟩⟩
  case round =>
    obtain ⟨k, vk, hk, rfl, hsk, hst⟩ := hrel
    by_cases hlt : k < ps.length
    · have hrk := hr.fr (hst.fr.mono hq)
      obtain ⟨ad, u, rfl, hqa, hu, hcell⟩ := hrk.at_ hlt
      have hpk := hp ps[k] (List.getElem_mem hlt)
      obtain ⟨hqp, hcp, hbd⟩ := hpk
      have hcp' : wr.cell? ps[k].1 = some (.int .i64 ps[k].2) := (hst.fr.cell (hq _ hqp)).trans hcp
      have hu' : u = .pointer (some ps[k].1) := by simpa [List.getElem?_eq_getElem hlt] using hu.symm
      subst hu'
      have htk : (ps.take (k + 1)).flatMap (fun p => enc p.2) = ((ps.take k).flatMap fun p => enc p.2) ++ enc ps[k].2 := by
        rw [List.take_succ_eq_append_getElem hlt, List.flatMap_append]; simp only [List.flatMap_cons, List.flatMap_nil, List.append_nil]
      have hmem := List.getElem_mem hlt
      generalize ps[k] = pk at *
      obtain ⟨p, n⟩ := pk
      dsimp only at *
      have HT := Lib.hid htk
      have HU := Lib.hid hcp
      clear htk hcp
      have hltI : (k : Int) < (ps.length : Int) := by omega
      have hb0 : wr.cell? ⟨g, 0, none⟩ = some vk := by simp [World.cell?, hsk.1]
      have hb1 : wr.cell? ⟨g, 1, none⟩ = some (.bool false) := by simp [World.cell?, hsk.1]
      clear hu hrk hr
      go_wp2_with fail
      have hop := hst.oth (hq _ hqp)
      have hgs : g < wr.heap.size := by
        rcases Nat.lt_or_ge g wr.heap.size with h | h
        · exact h
        · have := hsk.1; rw [Array.getElem?_eq_none h] at this; cases this
      have hps : p.block < wr.heap.size := World.block_lt_of_cell? _ _ hcp'
      generalize hM : (ps.take k).flatMap (fun p => enc p.2) = M at *
      have hlen : (L ++ M).length + (enc n).length ≤ Lim := by
        have h1 := HL.out
        have h2 := flat_take_le (fun p : Addr × Int => enc p.2) ps (k + 1)
        rw [HT.out, List.length_append] at h2
        rw [List.length_append]
        omega
      have hpg : p ≠ ⟨g, 0, none⟩ := fun e => hop.2.1 (by rw [e])
      have hcw : ∀ (d : World), d.cell? p = wr.cell? p → d.cell? p = some (.int .i64 n) := fun d h => h.trans hcp'
      go_region_law (first | ((refine step_appB _ (by rfl) _ _ (by rfl) vk (L ++ M) (by rfl) (by exact hby1) (fun _ => True) A1 c1 (enc n) (by rfl) (by exact hrd1) hlen ?_; intro v2 w2 hby2 hg2 hat2; obtain ⟨A2, n2, c2, rfl⟩ := hby2.shape; have hG2 := (hg2.block g (blk_lt hG1) (Ne.symm hsk.ne)).trans hG1; have hc2 := blk_cell hG2 0; have hf2 := blk_frozen hG2 0)) | (go_simp; go_at_call 12; refine (int_c n _ hbd.1 hbd.2).mono ?_; rintro e w1 ⟨v1, rfl, hnb⟩; obtain ⟨A1, c1, rfl, _, _⟩ := hnb.1.form; have hrd1 := (hnb.1.rd (Q := fun _ => True) (fun _ _ => trivial)).2; have hby1 : Bytes w1 vk (L ++ M) := (Bytes.drew hsk.2).fr (Fr.ofBelow hnb.2.2) (fun k hk => hsk.2.lt hk); have hG1 := (hnb.2.2.block g hgs).trans hsk.1; have hc1 := blk_cell hG1 0))
      all_goals
        go_wp2_with fail
        go_roundw
        case rel =>
          have hfr : Fr (Oth wr g vk) wr (w2.setCell ⟨g, 0, none⟩ (.slice A2 n2 c2)) := by
            refine Fr.setCell (Fr.grown (show Fr (Oth wr g vk) wr w1 from Fr.ofDrew ((Fr.ofBelow hnb.2.2).mono fun _ (h : Oth wr g vk _) => h.1)) hg2 (fun _ (h : Oth wr g vk _) => h.1) fun i hi (h : Oth wr g vk i) => h.2.2 hi) (fun (h : Oth wr g vk g) => h.2.1 rfl) _
          refine ⟨k + 1, .slice A2 n2 c2, by omega, by go_num, ?_, hst.trans ⟨hfr, fun i hi => ?_⟩⟩
          · rw [HT.out, ← List.append_assoc]
            refine ⟨?_, ?_⟩
            · simp [World.setCell, Array.getElem?_modify, hG2]
            · exact hby2.set81 hG2 (by decide) 0 _
          · rcases hat2 with e | e
            · exact .inl (by rw [← e]; exact hi)
            · rw [e] at hi
              injection hi with hi
              exact .inr (by rw [← hi]; exact hnb.2.2.size)
        case measure => simp [intOf]; omega
    · have hk' : k = ps.length := by omega
      subst hk'
      rw [List.take_length] at hsk
      clear hlt
      go_wp2_with fail
      go_end0
      exact ⟨rfl, vk, hsk, hst⟩
end Go.Proofs.Ytgdibeegheddmaa
