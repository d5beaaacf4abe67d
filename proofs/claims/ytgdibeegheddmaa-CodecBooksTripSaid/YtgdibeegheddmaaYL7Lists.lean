/- The stream reads lists of structs with strings and lists. Written by gen_l4.py. -/
import Derived.Test.YtgdibeegheddmaaYL6Structs
import Derived.Deep.DrawnRows
import Derived.Deep.RegionLaw
namespace Go.Proofs.Ytgdibeegheddmaa
open Go Go.RowKit
set_option linter.unusedVariables false
set_option linter.unusedSimpArgs false
attribute [local go_sem ↓] Go.wp_at_zero Go.wp_at_succ
theorem info36z : (Try.prog.info? 36).map (fun i => (i.zero, i.size, i.bytes)) = some (some (.agg #[.string ⟨#[]⟩, .int .i64 0, .int .i64 0, .int .i64 0]), 4, 40) := by kernel_rfl
set_option maxHeartbeats 4000000 in
set_option maxRecDepth 100000 in
theorem listRate_r (g tb o : Nat) (pre post : List Value) (t : TypeId) (st : Option (List UInt8)) (w : World)
    (hs : RS w g st) (hgt : g < tb) (ho : pre.length = o) (hT : w.heap[tb]? = some (.cells (pre ++ [Value.slice none 0 0] ++ post).toArray t (0, 0))) :
    Calls Try.prog 69 #[.pointer (some ⟨g, 0, none⟩), .pointer (some ⟨tb, o, none⟩), .func (.func 59) #[] #[]] w (RPost (ListC RateC 4) (cList cRate) g tb pre post t st w) := by
  have HPRE := Lib.hid ho
  have hTlt := blk_lt hT
  have hglt := hs.lt
  have HT0 := Lib.hid hT
  have htk0 := blk_get (j := 0) hT ho rfl
  rw [Nat.add_zero] at htk0
  clear ho hT
  go_enter Try.func69, Try.ntmps69
  go_wp2_with fail
  have hfA : Fr (· < w.heap.size) w (w.alloc (.cells #[.int .i64 0] 3)) := (Fr.refl _ w).alloc (fun _ h => h) _
  refine (num_rv g w.heap.size 0 [] [] [0] 3 st (by simp) (by rfl) (by rfl) (hs.alloc _) (by omega) rfl (heap_alloc_new w _) (by simp [intBd]) (by simp)).mono ?_
  rintro e V ⟨rfl, ns', hnl, hnb, hvl, hN, hRS, hfV⟩
  obtain ⟨n, rfl⟩ := List.length_eq_one_iff.1 hnl
  have hv1 : cInt.vl st n := hvl.1
  have hnbd : intBd n := hnb n (by simp)
  have hN1 : V.heap[w.heap.size]? = some (.cells #[.int .i64 n] 3 (0, 0)) := hN
  have hRS1 : RS V g (cInt.st st) := hRS
  have hTV : V.heap[tb]? = _ := (hfV.block tb ⟨by simp; omega, by omega, by omega⟩).trans ((hfA.block tb hTlt).trans HT0.out)
  have hfW : Fr (Kp w g tb) w V := (hfA.mono (fun k hk => hk.1)).trans (hfV.mono (fun k hk => ⟨by simp; have := hk.1; omega, hk.2.1, by have := hk.1; omega⟩))
  have hnz : V.cell? ⟨w.heap.size, 0, none⟩ = some (.int .i64 n) := blk_cell hN1 0
  have hsz : w.heap.size < V.heap.size := blk_lt hN1
  obtain ⟨A, c, L, bad, hG, hrd, hLc, hLL, hst⟩ := hRS1.open
  have b1 : V.cell? ⟨g, 1, none⟩ = some (.bool true) := blk_cell hG 1
  have b2 : V.cell? ⟨g, 2, none⟩ = some (.bool bad) := blk_cell hG 2
  have f2 : V.frozen? ⟨g, 2, none⟩ = false := blk_frozen hG 2
  have HG := Lib.hid hG
  have HRD := Lib.hid hrd
  have HTV := Lib.hid hTV
  have HFW := Lib.hid hfW
  have HV1 := Lib.hid hv1
  have HN := Lib.hid hN1
  have HHS := Lib.hid hst
  clear hN hRS hfV hvl hnb hnl hG hrd hTV hfW hv1 hN1 hfA hs HT0 hRS1 hst
  cases bad with
  | true =>
    have hdead : cInt.st st = none := by
      cases h : cInt.st st with
      | none => rfl
      | some l => exact absurd (HHS.out.2 l h).1 (by simp)
    have HLP := Lib.hid (LP.dead (c := cRate) (n := n) hdead)
    clear hdead
    go_wp2_with fail
    have hfS : Fr (fun i => i ≠ g) V (V.setCell ⟨g, 2, none⟩ (.bool true)) := (Fr.refl _ V).setCell (p := ⟨g, 2, none⟩) (fun h => h rfl) _
    have HRS := Lib.hid (RS.bad HG.out HRD.out hLc hLL)
    have HT1 := Lib.hid ((hfS.block tb (by omega)).trans HTV.out)
    have HN1 := Lib.hid ((hfS.block w.heap.size (by omega)).trans HN.out)
    have HF1 := Lib.hid (HFW.out.trans (hfS.mono (fun i hi => hi.2.1)))
    clear hfS
    go_loopw [8] (fun i wr => i = .int .i64 0 ∧ RS wr g none ∧ wr.heap[tb]? = some (.cells (pre ++ [Value.slice none 0 0] ++ post).toArray t (0, 0)) ∧ wr.heap[w.heap.size]? = some (.cells #[.int .i64 n] 3 (0, 0)) ∧ Fr (Kp w g tb) w wr) (fun _ _ => 0)
    case atStart => exact ⟨rfl, HRS.out, HT1.out, HN1.out, HF1.out⟩
    case round =>
      obtain ⟨rfl, hRR, hTT, hNN, hFF⟩ := hrel
      obtain ⟨A, c, L, bad, hG, hrd, hLc, hLL, hst⟩ := hRR.open
      have hbad : bad = true := hst.1 rfl
      subst hbad
      have c1 := blk_cell hNN 0
      have c2 := blk_cell hG 2
      have HRR := Lib.hid hRR
      have HTT := Lib.hid hTT
      have HFF := Lib.hid hFF
      clear hst hrd hG hNN hRR hTT hFF
      by_cases h0 : (0 : Int) < n
      all_goals
        go_wp2_with fail
        refine bodyPost_ret (results_none rfl _ _ _) rfl ⟨rfl, [.slice none 0 0], [], listC0 _ _ _ _, (HLP.out.out (.inl rfl)).2, HTT.out, ?_, HFF.out⟩
        rw [(HLP.out.out (.inl rfl)).1]
        exact HRR.out

  | false =>
    cases hsti : cInt.st st with
    | none => exact absurd (HHS.out.1 hsti) (by simp)
    | some l =>
      obtain ⟨_, hl⟩ := HHS.out.2 l hsti
      subst hl
      have HSTI := Lib.hid hsti
      clear hsti
      by_cases hn : n < 0
      · have HLP := Lib.hid (LP.neg (c := cRate) HSTI.out HV1.out hn)
        have hnD : decide (n < 0) = true := decide_eq_true hn
        go_wp2_with fail
        have hfS : Fr (fun i => i ≠ g) V (V.setCell ⟨g, 2, none⟩ (.bool true)) := (Fr.refl _ V).setCell (p := ⟨g, 2, none⟩) (fun h => h rfl) _
        have HRS := Lib.hid (RS.bad HG.out HRD.out hLc hLL)
        have HT1 := Lib.hid ((hfS.block tb (by omega)).trans HTV.out)
        have HN1 := Lib.hid ((hfS.block w.heap.size (by omega)).trans HN.out)
        have HF1 := Lib.hid (HFW.out.trans (hfS.mono (fun i hi => hi.2.1)))
        clear hfS
        go_loopw [8] (fun i wr => i = .int .i64 0 ∧ RS wr g none ∧ wr.heap[tb]? = some (.cells (pre ++ [Value.slice none 0 0] ++ post).toArray t (0, 0)) ∧ wr.heap[w.heap.size]? = some (.cells #[.int .i64 n] 3 (0, 0)) ∧ Fr (Kp w g tb) w wr) (fun _ _ => 0)
        case atStart => exact ⟨rfl, HRS.out, HT1.out, HN1.out, HF1.out⟩
        case round =>
          obtain ⟨rfl, hRR, hTT, hNN, hFF⟩ := hrel
          obtain ⟨A, c, L, bad, hG, hrd, hLc, hLL, hst⟩ := hRR.open
          have hbad : bad = true := hst.1 rfl
          subst hbad
          have c1 := blk_cell hNN 0
          have c2 := blk_cell hG 2
          have HRR := Lib.hid hRR
          have HTT := Lib.hid hTT
          have HFF := Lib.hid hFF
          clear hst hrd hG hNN hRR hTT hFF
          have h0 : ¬ (0 : Int) < n := by omega
          all_goals
            go_wp2_with fail
            refine bodyPost_ret (results_none rfl _ _ _) rfl ⟨rfl, [.slice none 0 0], [], listC0 _ _ _ _, (HLP.out.out (.inl rfl)).2, HTT.out, ?_, HFF.out⟩
            rw [(HLP.out.out (.inl rfl)).1]
            exact HRR.out

      · have HLP := Lib.hid (LP.start (c := cRate) HSTI.out HV1.out (by omega) hLL)
        have hnD : decide (n < 0) = false := decide_eq_false hn
        go_wp2_with fail
        have hfS : Fr (fun i => i ≠ g) V (V.setCell ⟨g, 2, none⟩ (.bool false)) := (Fr.refl _ V).setCell (p := ⟨g, 2, none⟩) (fun h => h rfl) _
        have HRS : Hid (RS (V.setCell ⟨g, 2, none⟩ (.bool false)) g (some l)) := Lib.hid ⟨A, c, l, false, heap_setCell_same HG.out 2 _, HRD.out.fr (hfS.mono (fun i hi => Nat.ne_of_lt hi)), hLc, hLL, rfl, rfl⟩
        have HT1 := Lib.hid ((hfS.block tb (by omega)).trans HTV.out)
        have HN1 := Lib.hid ((hfS.block w.heap.size (by omega)).trans HN.out)
        have HF1 := Lib.hid (HFW.out.trans (hfS.mono (fun i hi => hi.2.1)))
        have hszW : w.heap.size < (V.setCell ⟨g, 2, none⟩ (.bool false)).heap.size := blk_lt HN1.out
        clear hfS
        obtain ⟨i0, hi0, hz0, hz1, hz2⟩ := info_parts info36z
        go_loopw [8] (fun i wr => ∃ (k : Nat) (oi : Option (List UInt8)) (xs : List XRate) (ess : List (List Value)) (v : Value), i = .int .i64 (k : Int) ∧ LP cRate st n k oi xs ∧ RS wr g oi ∧ LInv RateC 4 36 w wr v xs ess ∧ wr.heap[tb]? = some (.cells (pre ++ [v] ++ post).toArray t (0, 0)) ∧ wr.heap[w.heap.size]? = some (.cells #[.int .i64 n] 3 (0, 0)) ∧ Fr (Kp w g tb) w wr ∧ v.ownBlock ≠ some w.heap.size) (fun i _ => n.toNat - (intOf i).toNat)
        case atStart => exact ⟨0, some l, [], [], _, rfl, HLP.out, HRS.out, LInv.nil _ _, HT1.out, HN1.out, HF1.out, by simp [Value.ownBlock]⟩
        case round =>
          obtain ⟨k, oi, xs, ess, v, rfl, hLP, hRR, hLI, hTT, hNN, hFF, hvn⟩ := hrel
          obtain ⟨A, c, L, bad, hG, hrd, hLc, hLL, hst⟩ := hRR.open
          have c1 := blk_cell hNN 0
          have c2 := blk_cell hG 2
          have HRR := Lib.hid hRR
          have HTT := Lib.hid hTT
          have HFF := Lib.hid hFF
          have HLI := Lib.hid hLI
          have HL := Lib.hid hLP
          have HNN := Lib.hid hNN
          have HST := Lib.hid hst
          have hwr : w.heap.size < wr.heap.size := blk_lt hNN
          have hk63 := hLP.len.2
          clear hst hrd hG hNN hRR hTT hFF hLI hLP
          by_cases hlt : (k : Int) < n
          · cases oi with
            | none =>
              have hbad : bad = true := HST.out.1 rfl
              subst hbad
              go_wp2_with fail
              refine bodyPost_ret (results_none rfl _ _ _) rfl ⟨rfl, [v], xs, HLI.out.out (fun h hq => RateC.mono h hq), (HL.out.out (.inl rfl)).2, HTT.out, ?_, HFF.out⟩
              rw [(HL.out.out (.inl rfl)).1]
              exact HRR.out
            | some r =>
              have hbad : bad = false := (HST.out.2 r rfl).1
              subst hbad
              go_wp2_with fail
              have hfe : Fr (· < wr.heap.size) wr (wr.alloc (.cells #[.string ⟨#[]⟩, .int .i64 0, .int .i64 0, .int .i64 0] 36)) := (Fr.refl _ wr).alloc (fun _ h => h) _
              refine (Rate_r g wr.heap.size 0 [] [] 36 (some r) (wr.alloc (.cells #[.string ⟨#[]⟩, .int .i64 0, .int .i64 0, .int .i64 0] 36)) (HRR.out.alloc _) (by omega) rfl (heap_alloc_new wr _)).mono ?_
              rintro e w3 ⟨rfl, es, x, hes, hvl, hEB, hRS3, hfr3⟩
              have HES := Lib.hid hes
              have hesl := hes.len
              have hT3 := (hfr3.block tb ⟨by simp; omega, by omega, by omega⟩).trans ((hfe.block tb (by omega)).trans HTT.out)
              have hN3 := (hfr3.block w.heap.size ⟨by simp; omega, by omega, by omega⟩).trans ((hfe.block w.heap.size hwr).trans HNN.out)
              have hf3 : Fr (fun k => w.heap.size ≤ k ∧ k < wr.heap.size) wr w3 := (hfe.mono (fun k hk => hk.2)).trans (hfr3.mono (fun k hk => ⟨by simp; omega, by omega, by omega⟩))
              have hF3 : Fr (Kp w g tb) w w3 := HFF.out.trans ((hfe.mono (fun k hk => Nat.lt_trans hk.1 hwr)).trans (hfr3.mono (fun k hk => ⟨by simp; have := hk.1; omega, hk.2.1, by have := hk.1; omega⟩)))
              have hLI3 := HLI.out.keep hf3 (fun h hf => RateC.fr h hf) (fun h hq => RateC.mono h hq)
              have hsz3 : wr.heap.size < w3.heap.size := by have := hfr3.size; simp at this; omega
              have hES3 : RateC w3 (Qe w w3 v) es x := RateC.mono hes (fun k hk => ⟨by have := hk.1; simp at this; omega, hk.2, fun e => by have := (HLI.out.own.lt k e).2; have h2 := hk.1; simp at h2; omega⟩)
              have HLI3 := Lib.hid hLI3
              have HES3 := Lib.hid hES3
              have HRS3 := Lib.hid hRS3
              have HF3 := Lib.hid hF3
              have HT3 := Lib.hid hT3
              have HN3 := Lib.hid hN3
              have HVL := Lib.hid hvl
              have hone : ∀ u ∈ es, u.oneCell' = true := by
                obtain ⟨_, _, _, _, rfl, rfl, ⟨rfl, _⟩, ⟨rfl, _⟩, ⟨rfl, _⟩⟩ := hes
                simp [Value.oneCell']
              have HONE := Lib.hid hone
              have htk3 := blk_get (j := 0) hT3 HPRE.out rfl
              rw [Nat.add_zero] at htk3
              have hEB2 : w3.heap[wr.heap.size]? = some (.cells es.toArray 36 (0, 0)) := by simpa using hEB
              have HESL := Lib.hid hesl
              have htb3 : tb < w3.heap.size := by omega
              have htbne : ¬ tb = w3.heap.size := by omega
              obtain ⟨vA, vn, vc, rfl⟩ := own_shape HLI.out.own
              have HVN := Lib.hid hvn
              clear hvl hEB hRS3 hfr3 hT3 hN3 hf3 hF3 hLI3 hES3 hone hesl hfe hvn
              obtain ⟨_, _, _, _, rfl, rfl, ⟨rfl, _⟩, ⟨rfl, _⟩, ⟨rfl, _⟩⟩ := hes
              have e0 := blk_cell hEB2 0
              have e1 := blk_cell hEB2 1
              have e2 := blk_cell hEB2 2
              have e3 := blk_cell hEB2 3
              clear hEB2
              go_wp2_with fail
              go_region_law (first | ((refine step_app _ (by rfl) _ _ 62 (by rfl) w.heap.size 36 i0 _ 4 40 Try.underlying62 hi0 hz0 hz1 hz2 (by rfl) (by decide) (.slice vA vn vc) xs.length ess.flatten (by rfl) (by exact (HLI3.out.own.alloc _)) (fun _ => True) (some ⟨w3.heap.size, 0, none⟩) 1 1 _ (by rfl) (by exact (row1 w3 _ 36 4 HESL.out)) HONE.out (by have := HL.out.len.1; simp only [maxLen]; omega) (by have := HL.out.len.1; omega) (by simp; omega) ?_; intro v2 w4 hown4 hg4 hat4; obtain ⟨vA2, vn2, vc2, rfl⟩ := own_shape hown4; have htb4 : w4.heap[tb]? = _ := (hg4.block tb (by simp; omega) (fun e => by have := (HLI3.out.own.lt tb e.symm).1; omega)).trans ((Below.heap_alloc w3 _ tb (by omega)).trans HT3.out); have hct4 := blk_get (j := 0) htb4 HPRE.out rfl; rw [Nat.add_zero] at hct4; have hft4 : w4.frozen? ⟨tb, o, none⟩ = false := blk_frozen htb4 o)))
              all_goals
                have HO4 := Lib.hid hown4
                have HG4 := Lib.hid hg4
                have HA4 := Lib.hid hat4
                clear hown4 hg4 hat4 htb4
                go_wp2_with fail
                go_roundw
                case rel =>
                  obtain ⟨r1, r2, r3, r4, r5, r6⟩ := list_round HLI3.out HES3.out HESL.out HRS3.out HF3.out HPRE.out HT3.out HN3.out HVN.out hTlt hgt HO4.out HG4.out HA4.out (fun h hf => RateC.fr h hf) (fun h hq => RateC.mono h hq)
                  exact ⟨k + 1, _, _, _, _, by go_num, HL.out.step hlt encRate_pos HVL.out, r1, r2, r3, r4, r5, r6⟩
                case measure => simp [intOf]; omega
          · go_wp2_with fail
            refine bodyPost_ret (results_none rfl _ _ _) rfl ⟨rfl, [v], xs, HLI.out.out (fun h hq => RateC.mono h hq), (HL.out.out (.inr (by omega))).2, HTT.out, ?_, HFF.out⟩
            rw [(HL.out.out (.inr (by omega))).1]
            exact HRR.out

theorem info34z : (Try.prog.info? 34).map (fun i => (i.zero, i.size, i.bytes)) = some (some (.agg #[.int .i64 0, .int .i64 0, .int .i64 0, .int .i64 0, .int .i64 0, .string ⟨#[]⟩, .slice none 0 0]), 7, 80) := by kernel_rfl
set_option maxHeartbeats 4000000 in
set_option maxRecDepth 100000 in
theorem listEntry_r (g tb o : Nat) (pre post : List Value) (t : TypeId) (st : Option (List UInt8)) (w : World)
    (hs : RS w g st) (hgt : g < tb) (ho : pre.length = o) (hT : w.heap[tb]? = some (.cells (pre ++ [Value.slice none 0 0] ++ post).toArray t (0, 0))) :
    Calls Try.prog 68 #[.pointer (some ⟨g, 0, none⟩), .pointer (some ⟨tb, o, none⟩), .func (.func 58) #[] #[]] w (RPost (ListC EntryC 7) (cList cEntry) g tb pre post t st w) := by
  have HPRE := Lib.hid ho
  have hTlt := blk_lt hT
  have hglt := hs.lt
  have HT0 := Lib.hid hT
  have htk0 := blk_get (j := 0) hT ho rfl
  rw [Nat.add_zero] at htk0
  clear ho hT
  go_enter Try.func68, Try.ntmps68
  go_wp2_with fail
  have hfA : Fr (· < w.heap.size) w (w.alloc (.cells #[.int .i64 0] 3)) := (Fr.refl _ w).alloc (fun _ h => h) _
  refine (num_rv g w.heap.size 0 [] [] [0] 3 st (by simp) (by rfl) (by rfl) (hs.alloc _) (by omega) rfl (heap_alloc_new w _) (by simp [intBd]) (by simp)).mono ?_
  rintro e V ⟨rfl, ns', hnl, hnb, hvl, hN, hRS, hfV⟩
  obtain ⟨n, rfl⟩ := List.length_eq_one_iff.1 hnl
  have hv1 : cInt.vl st n := hvl.1
  have hnbd : intBd n := hnb n (by simp)
  have hN1 : V.heap[w.heap.size]? = some (.cells #[.int .i64 n] 3 (0, 0)) := hN
  have hRS1 : RS V g (cInt.st st) := hRS
  have hTV : V.heap[tb]? = _ := (hfV.block tb ⟨by simp; omega, by omega, by omega⟩).trans ((hfA.block tb hTlt).trans HT0.out)
  have hfW : Fr (Kp w g tb) w V := (hfA.mono (fun k hk => hk.1)).trans (hfV.mono (fun k hk => ⟨by simp; have := hk.1; omega, hk.2.1, by have := hk.1; omega⟩))
  have hnz : V.cell? ⟨w.heap.size, 0, none⟩ = some (.int .i64 n) := blk_cell hN1 0
  have hsz : w.heap.size < V.heap.size := blk_lt hN1
  obtain ⟨A, c, L, bad, hG, hrd, hLc, hLL, hst⟩ := hRS1.open
  have b1 : V.cell? ⟨g, 1, none⟩ = some (.bool true) := blk_cell hG 1
  have b2 : V.cell? ⟨g, 2, none⟩ = some (.bool bad) := blk_cell hG 2
  have f2 : V.frozen? ⟨g, 2, none⟩ = false := blk_frozen hG 2
  have HG := Lib.hid hG
  have HRD := Lib.hid hrd
  have HTV := Lib.hid hTV
  have HFW := Lib.hid hfW
  have HV1 := Lib.hid hv1
  have HN := Lib.hid hN1
  have HHS := Lib.hid hst
  clear hN hRS hfV hvl hnb hnl hG hrd hTV hfW hv1 hN1 hfA hs HT0 hRS1 hst
  cases bad with
  | true =>
    have hdead : cInt.st st = none := by
      cases h : cInt.st st with
      | none => rfl
      | some l => exact absurd (HHS.out.2 l h).1 (by simp)
    have HLP := Lib.hid (LP.dead (c := cEntry) (n := n) hdead)
    clear hdead
    go_wp2_with fail
    have hfS : Fr (fun i => i ≠ g) V (V.setCell ⟨g, 2, none⟩ (.bool true)) := (Fr.refl _ V).setCell (p := ⟨g, 2, none⟩) (fun h => h rfl) _
    have HRS := Lib.hid (RS.bad HG.out HRD.out hLc hLL)
    have HT1 := Lib.hid ((hfS.block tb (by omega)).trans HTV.out)
    have HN1 := Lib.hid ((hfS.block w.heap.size (by omega)).trans HN.out)
    have HF1 := Lib.hid (HFW.out.trans (hfS.mono (fun i hi => hi.2.1)))
    clear hfS
    go_loopw [8] (fun i wr => i = .int .i64 0 ∧ RS wr g none ∧ wr.heap[tb]? = some (.cells (pre ++ [Value.slice none 0 0] ++ post).toArray t (0, 0)) ∧ wr.heap[w.heap.size]? = some (.cells #[.int .i64 n] 3 (0, 0)) ∧ Fr (Kp w g tb) w wr) (fun _ _ => 0)
    case atStart => exact ⟨rfl, HRS.out, HT1.out, HN1.out, HF1.out⟩
    case round =>
      obtain ⟨rfl, hRR, hTT, hNN, hFF⟩ := hrel
      obtain ⟨A, c, L, bad, hG, hrd, hLc, hLL, hst⟩ := hRR.open
      have hbad : bad = true := hst.1 rfl
      subst hbad
      have c1 := blk_cell hNN 0
      have c2 := blk_cell hG 2
      have HRR := Lib.hid hRR
      have HTT := Lib.hid hTT
      have HFF := Lib.hid hFF
      clear hst hrd hG hNN hRR hTT hFF
      by_cases h0 : (0 : Int) < n
      all_goals
        go_wp2_with fail
        refine bodyPost_ret (results_none rfl _ _ _) rfl ⟨rfl, [.slice none 0 0], [], listC0 _ _ _ _, (HLP.out.out (.inl rfl)).2, HTT.out, ?_, HFF.out⟩
        rw [(HLP.out.out (.inl rfl)).1]
        exact HRR.out

  | false =>
    cases hsti : cInt.st st with
    | none => exact absurd (HHS.out.1 hsti) (by simp)
    | some l =>
      obtain ⟨_, hl⟩ := HHS.out.2 l hsti
      subst hl
      have HSTI := Lib.hid hsti
      clear hsti
      by_cases hn : n < 0
      · have HLP := Lib.hid (LP.neg (c := cEntry) HSTI.out HV1.out hn)
        have hnD : decide (n < 0) = true := decide_eq_true hn
        go_wp2_with fail
        have hfS : Fr (fun i => i ≠ g) V (V.setCell ⟨g, 2, none⟩ (.bool true)) := (Fr.refl _ V).setCell (p := ⟨g, 2, none⟩) (fun h => h rfl) _
        have HRS := Lib.hid (RS.bad HG.out HRD.out hLc hLL)
        have HT1 := Lib.hid ((hfS.block tb (by omega)).trans HTV.out)
        have HN1 := Lib.hid ((hfS.block w.heap.size (by omega)).trans HN.out)
        have HF1 := Lib.hid (HFW.out.trans (hfS.mono (fun i hi => hi.2.1)))
        clear hfS
        go_loopw [8] (fun i wr => i = .int .i64 0 ∧ RS wr g none ∧ wr.heap[tb]? = some (.cells (pre ++ [Value.slice none 0 0] ++ post).toArray t (0, 0)) ∧ wr.heap[w.heap.size]? = some (.cells #[.int .i64 n] 3 (0, 0)) ∧ Fr (Kp w g tb) w wr) (fun _ _ => 0)
        case atStart => exact ⟨rfl, HRS.out, HT1.out, HN1.out, HF1.out⟩
        case round =>
          obtain ⟨rfl, hRR, hTT, hNN, hFF⟩ := hrel
          obtain ⟨A, c, L, bad, hG, hrd, hLc, hLL, hst⟩ := hRR.open
          have hbad : bad = true := hst.1 rfl
          subst hbad
          have c1 := blk_cell hNN 0
          have c2 := blk_cell hG 2
          have HRR := Lib.hid hRR
          have HTT := Lib.hid hTT
          have HFF := Lib.hid hFF
          clear hst hrd hG hNN hRR hTT hFF
          have h0 : ¬ (0 : Int) < n := by omega
          all_goals
            go_wp2_with fail
            refine bodyPost_ret (results_none rfl _ _ _) rfl ⟨rfl, [.slice none 0 0], [], listC0 _ _ _ _, (HLP.out.out (.inl rfl)).2, HTT.out, ?_, HFF.out⟩
            rw [(HLP.out.out (.inl rfl)).1]
            exact HRR.out

      · have HLP := Lib.hid (LP.start (c := cEntry) HSTI.out HV1.out (by omega) hLL)
        have hnD : decide (n < 0) = false := decide_eq_false hn
        go_wp2_with fail
        have hfS : Fr (fun i => i ≠ g) V (V.setCell ⟨g, 2, none⟩ (.bool false)) := (Fr.refl _ V).setCell (p := ⟨g, 2, none⟩) (fun h => h rfl) _
        have HRS : Hid (RS (V.setCell ⟨g, 2, none⟩ (.bool false)) g (some l)) := Lib.hid ⟨A, c, l, false, heap_setCell_same HG.out 2 _, HRD.out.fr (hfS.mono (fun i hi => Nat.ne_of_lt hi)), hLc, hLL, rfl, rfl⟩
        have HT1 := Lib.hid ((hfS.block tb (by omega)).trans HTV.out)
        have HN1 := Lib.hid ((hfS.block w.heap.size (by omega)).trans HN.out)
        have HF1 := Lib.hid (HFW.out.trans (hfS.mono (fun i hi => hi.2.1)))
        have hszW : w.heap.size < (V.setCell ⟨g, 2, none⟩ (.bool false)).heap.size := blk_lt HN1.out
        clear hfS
        obtain ⟨i0, hi0, hz0, hz1, hz2⟩ := info_parts info34z
        go_loopw [8] (fun i wr => ∃ (k : Nat) (oi : Option (List UInt8)) (xs : List XEntry) (ess : List (List Value)) (v : Value), i = .int .i64 (k : Int) ∧ LP cEntry st n k oi xs ∧ RS wr g oi ∧ LInv EntryC 7 34 w wr v xs ess ∧ wr.heap[tb]? = some (.cells (pre ++ [v] ++ post).toArray t (0, 0)) ∧ wr.heap[w.heap.size]? = some (.cells #[.int .i64 n] 3 (0, 0)) ∧ Fr (Kp w g tb) w wr ∧ v.ownBlock ≠ some w.heap.size) (fun i _ => n.toNat - (intOf i).toNat)
        case atStart => exact ⟨0, some l, [], [], _, rfl, HLP.out, HRS.out, LInv.nil _ _, HT1.out, HN1.out, HF1.out, by simp [Value.ownBlock]⟩
        case round =>
          obtain ⟨k, oi, xs, ess, v, rfl, hLP, hRR, hLI, hTT, hNN, hFF, hvn⟩ := hrel
          obtain ⟨A, c, L, bad, hG, hrd, hLc, hLL, hst⟩ := hRR.open
          have c1 := blk_cell hNN 0
          have c2 := blk_cell hG 2
          have HRR := Lib.hid hRR
          have HTT := Lib.hid hTT
          have HFF := Lib.hid hFF
          have HLI := Lib.hid hLI
          have HL := Lib.hid hLP
          have HNN := Lib.hid hNN
          have HST := Lib.hid hst
          have hwr : w.heap.size < wr.heap.size := blk_lt hNN
          have hk63 := hLP.len.2
          clear hst hrd hG hNN hRR hTT hFF hLI hLP
          by_cases hlt : (k : Int) < n
          · cases oi with
            | none =>
              have hbad : bad = true := HST.out.1 rfl
              subst hbad
              go_wp2_with fail
              refine bodyPost_ret (results_none rfl _ _ _) rfl ⟨rfl, [v], xs, HLI.out.out (fun h hq => EntryC.mono h hq), (HL.out.out (.inl rfl)).2, HTT.out, ?_, HFF.out⟩
              rw [(HL.out.out (.inl rfl)).1]
              exact HRR.out
            | some r =>
              have hbad : bad = false := (HST.out.2 r rfl).1
              subst hbad
              go_wp2_with fail
              have hfe : Fr (· < wr.heap.size) wr (wr.alloc (.cells #[.int .i64 0, .int .i64 0, .int .i64 0, .int .i64 0, .int .i64 0, .string ⟨#[]⟩, .slice none 0 0] 34)) := (Fr.refl _ wr).alloc (fun _ h => h) _
              refine (Entry_r g wr.heap.size 0 [] [] 34 (some r) (wr.alloc (.cells #[.int .i64 0, .int .i64 0, .int .i64 0, .int .i64 0, .int .i64 0, .string ⟨#[]⟩, .slice none 0 0] 34)) (HRR.out.alloc _) (by omega) rfl (heap_alloc_new wr _)).mono ?_
              rintro e w3 ⟨rfl, es, x, hes, hvl, hEB, hRS3, hfr3⟩
              have HES := Lib.hid hes
              have hesl := hes.len
              have hT3 := (hfr3.block tb ⟨by simp; omega, by omega, by omega⟩).trans ((hfe.block tb (by omega)).trans HTT.out)
              have hN3 := (hfr3.block w.heap.size ⟨by simp; omega, by omega, by omega⟩).trans ((hfe.block w.heap.size hwr).trans HNN.out)
              have hf3 : Fr (fun k => w.heap.size ≤ k ∧ k < wr.heap.size) wr w3 := (hfe.mono (fun k hk => hk.2)).trans (hfr3.mono (fun k hk => ⟨by simp; omega, by omega, by omega⟩))
              have hF3 : Fr (Kp w g tb) w w3 := HFF.out.trans ((hfe.mono (fun k hk => Nat.lt_trans hk.1 hwr)).trans (hfr3.mono (fun k hk => ⟨by simp; have := hk.1; omega, hk.2.1, by have := hk.1; omega⟩)))
              have hLI3 := HLI.out.keep hf3 (fun h hf => EntryC.fr h hf) (fun h hq => EntryC.mono h hq)
              have hsz3 : wr.heap.size < w3.heap.size := by have := hfr3.size; simp at this; omega
              have hES3 : EntryC w3 (Qe w w3 v) es x := EntryC.mono hes (fun k hk => ⟨by have := hk.1; simp at this; omega, hk.2, fun e => by have := (HLI.out.own.lt k e).2; have h2 := hk.1; simp at h2; omega⟩)
              have HLI3 := Lib.hid hLI3
              have HES3 := Lib.hid hES3
              have HRS3 := Lib.hid hRS3
              have HF3 := Lib.hid hF3
              have HT3 := Lib.hid hT3
              have HN3 := Lib.hid hN3
              have HVL := Lib.hid hvl
              have hone : ∀ u ∈ es, u.oneCell' = true := by
                obtain ⟨_, _, _, _, _, _, _, rfl, ⟨rfl, _⟩, ⟨rfl, _⟩, ⟨rfl, _⟩, ⟨rfl, _⟩, ⟨rfl, _⟩, rfl, ⟨_, _, rfl, _⟩⟩ := hes
                simp [Value.oneCell']
              have HONE := Lib.hid hone
              have htk3 := blk_get (j := 0) hT3 HPRE.out rfl
              rw [Nat.add_zero] at htk3
              have hEB2 : w3.heap[wr.heap.size]? = some (.cells es.toArray 34 (0, 0)) := by simpa using hEB
              have HESL := Lib.hid hesl
              have htb3 : tb < w3.heap.size := by omega
              have htbne : ¬ tb = w3.heap.size := by omega
              obtain ⟨vA, vn, vc, rfl⟩ := own_shape HLI.out.own
              have HVN := Lib.hid hvn
              clear hvl hEB hRS3 hfr3 hT3 hN3 hf3 hF3 hLI3 hES3 hone hesl hfe hvn
              obtain ⟨_, _, _, _, _, _, _, rfl, ⟨rfl, _⟩, ⟨rfl, _⟩, ⟨rfl, _⟩, ⟨rfl, _⟩, ⟨rfl, _⟩, rfl, ⟨_, _, rfl, _⟩⟩ := hes
              have e0 := blk_cell hEB2 0
              have e1 := blk_cell hEB2 1
              have e2 := blk_cell hEB2 2
              have e3 := blk_cell hEB2 3
              have e4 := blk_cell hEB2 4
              have e5 := blk_cell hEB2 5
              have e6 := blk_cell hEB2 6
              clear hEB2
              go_wp2_with fail
              go_region_law (first | ((refine step_app _ (by rfl) _ _ 61 (by rfl) w.heap.size 34 i0 _ 7 80 Try.underlying61 hi0 hz0 hz1 hz2 (by rfl) (by decide) (.slice vA vn vc) xs.length ess.flatten (by rfl) (by exact (HLI3.out.own.alloc _)) (fun _ => True) (some ⟨w3.heap.size, 0, none⟩) 1 1 _ (by rfl) (by exact (row1 w3 _ 34 7 HESL.out)) HONE.out (by have := HL.out.len.1; simp only [maxLen]; omega) (by have := HL.out.len.1; omega) (by simp; omega) ?_; intro v2 w4 hown4 hg4 hat4; obtain ⟨vA2, vn2, vc2, rfl⟩ := own_shape hown4; have htb4 : w4.heap[tb]? = _ := (hg4.block tb (by simp; omega) (fun e => by have := (HLI3.out.own.lt tb e.symm).1; omega)).trans ((Below.heap_alloc w3 _ tb (by omega)).trans HT3.out); have hct4 := blk_get (j := 0) htb4 HPRE.out rfl; rw [Nat.add_zero] at hct4; have hft4 : w4.frozen? ⟨tb, o, none⟩ = false := blk_frozen htb4 o)))
              all_goals
                have HO4 := Lib.hid hown4
                have HG4 := Lib.hid hg4
                have HA4 := Lib.hid hat4
                clear hown4 hg4 hat4 htb4
                go_wp2_with fail
                go_roundw
                case rel =>
                  obtain ⟨r1, r2, r3, r4, r5, r6⟩ := list_round HLI3.out HES3.out HESL.out HRS3.out HF3.out HPRE.out HT3.out HN3.out HVN.out hTlt hgt HO4.out HG4.out HA4.out (fun h hf => EntryC.fr h hf) (fun h hq => EntryC.mono h hq)
                  exact ⟨k + 1, _, _, _, _, by go_num, HL.out.step hlt encEntry_pos HVL.out, r1, r2, r3, r4, r5, r6⟩
                case measure => simp [intOf]; omega
          · go_wp2_with fail
            refine bodyPost_ret (results_none rfl _ _ _) rfl ⟨rfl, [v], xs, HLI.out.out (fun h hq => EntryC.mono h hq), (HL.out.out (.inr (by omega))).2, HTT.out, ?_, HFF.out⟩
            rw [(HL.out.out (.inr (by omega))).1]
            exact HRR.out

theorem info41z : (Try.prog.info? 41).map (fun i => (i.zero, i.size, i.bytes)) = some (some (.agg #[.int .i64 0, .slice none 0 0, .slice none 0 0, .int .i64 0]), 4, 64) := by kernel_rfl
set_option maxHeartbeats 4000000 in
set_option maxRecDepth 100000 in
theorem listMatch_r (g tb o : Nat) (pre post : List Value) (t : TypeId) (st : Option (List UInt8)) (w : World)
    (hs : RS w g st) (hgt : g < tb) (ho : pre.length = o) (hT : w.heap[tb]? = some (.cells (pre ++ [Value.slice none 0 0] ++ post).toArray t (0, 0))) :
    Calls Try.prog 71 #[.pointer (some ⟨g, 0, none⟩), .pointer (some ⟨tb, o, none⟩), .func (.func 61) #[] #[]] w (RPost (ListC MatchC 4) (cList cMatch) g tb pre post t st w) := by
  have HPRE := Lib.hid ho
  have hTlt := blk_lt hT
  have hglt := hs.lt
  have HT0 := Lib.hid hT
  have htk0 := blk_get (j := 0) hT ho rfl
  rw [Nat.add_zero] at htk0
  clear ho hT
  go_enter Try.func71, Try.ntmps71
  go_wp2_with fail
  have hfA : Fr (· < w.heap.size) w (w.alloc (.cells #[.int .i64 0] 3)) := (Fr.refl _ w).alloc (fun _ h => h) _
  refine (num_rv g w.heap.size 0 [] [] [0] 3 st (by simp) (by rfl) (by rfl) (hs.alloc _) (by omega) rfl (heap_alloc_new w _) (by simp [intBd]) (by simp)).mono ?_
  rintro e V ⟨rfl, ns', hnl, hnb, hvl, hN, hRS, hfV⟩
  obtain ⟨n, rfl⟩ := List.length_eq_one_iff.1 hnl
  have hv1 : cInt.vl st n := hvl.1
  have hnbd : intBd n := hnb n (by simp)
  have hN1 : V.heap[w.heap.size]? = some (.cells #[.int .i64 n] 3 (0, 0)) := hN
  have hRS1 : RS V g (cInt.st st) := hRS
  have hTV : V.heap[tb]? = _ := (hfV.block tb ⟨by simp; omega, by omega, by omega⟩).trans ((hfA.block tb hTlt).trans HT0.out)
  have hfW : Fr (Kp w g tb) w V := (hfA.mono (fun k hk => hk.1)).trans (hfV.mono (fun k hk => ⟨by simp; have := hk.1; omega, hk.2.1, by have := hk.1; omega⟩))
  have hnz : V.cell? ⟨w.heap.size, 0, none⟩ = some (.int .i64 n) := blk_cell hN1 0
  have hsz : w.heap.size < V.heap.size := blk_lt hN1
  obtain ⟨A, c, L, bad, hG, hrd, hLc, hLL, hst⟩ := hRS1.open
  have b1 : V.cell? ⟨g, 1, none⟩ = some (.bool true) := blk_cell hG 1
  have b2 : V.cell? ⟨g, 2, none⟩ = some (.bool bad) := blk_cell hG 2
  have f2 : V.frozen? ⟨g, 2, none⟩ = false := blk_frozen hG 2
  have HG := Lib.hid hG
  have HRD := Lib.hid hrd
  have HTV := Lib.hid hTV
  have HFW := Lib.hid hfW
  have HV1 := Lib.hid hv1
  have HN := Lib.hid hN1
  have HHS := Lib.hid hst
  clear hN hRS hfV hvl hnb hnl hG hrd hTV hfW hv1 hN1 hfA hs HT0 hRS1 hst
  cases bad with
  | true =>
    have hdead : cInt.st st = none := by
      cases h : cInt.st st with
      | none => rfl
      | some l => exact absurd (HHS.out.2 l h).1 (by simp)
    have HLP := Lib.hid (LP.dead (c := cMatch) (n := n) hdead)
    clear hdead
    go_wp2_with fail
    have hfS : Fr (fun i => i ≠ g) V (V.setCell ⟨g, 2, none⟩ (.bool true)) := (Fr.refl _ V).setCell (p := ⟨g, 2, none⟩) (fun h => h rfl) _
    have HRS := Lib.hid (RS.bad HG.out HRD.out hLc hLL)
    have HT1 := Lib.hid ((hfS.block tb (by omega)).trans HTV.out)
    have HN1 := Lib.hid ((hfS.block w.heap.size (by omega)).trans HN.out)
    have HF1 := Lib.hid (HFW.out.trans (hfS.mono (fun i hi => hi.2.1)))
    clear hfS
    go_loopw [8] (fun i wr => i = .int .i64 0 ∧ RS wr g none ∧ wr.heap[tb]? = some (.cells (pre ++ [Value.slice none 0 0] ++ post).toArray t (0, 0)) ∧ wr.heap[w.heap.size]? = some (.cells #[.int .i64 n] 3 (0, 0)) ∧ Fr (Kp w g tb) w wr) (fun _ _ => 0)
    case atStart => exact ⟨rfl, HRS.out, HT1.out, HN1.out, HF1.out⟩
    case round =>
      obtain ⟨rfl, hRR, hTT, hNN, hFF⟩ := hrel
      obtain ⟨A, c, L, bad, hG, hrd, hLc, hLL, hst⟩ := hRR.open
      have hbad : bad = true := hst.1 rfl
      subst hbad
      have c1 := blk_cell hNN 0
      have c2 := blk_cell hG 2
      have HRR := Lib.hid hRR
      have HTT := Lib.hid hTT
      have HFF := Lib.hid hFF
      clear hst hrd hG hNN hRR hTT hFF
      by_cases h0 : (0 : Int) < n
      all_goals
        go_wp2_with fail
        refine bodyPost_ret (results_none rfl _ _ _) rfl ⟨rfl, [.slice none 0 0], [], listC0 _ _ _ _, (HLP.out.out (.inl rfl)).2, HTT.out, ?_, HFF.out⟩
        rw [(HLP.out.out (.inl rfl)).1]
        exact HRR.out

  | false =>
    cases hsti : cInt.st st with
    | none => exact absurd (HHS.out.1 hsti) (by simp)
    | some l =>
      obtain ⟨_, hl⟩ := HHS.out.2 l hsti
      subst hl
      have HSTI := Lib.hid hsti
      clear hsti
      by_cases hn : n < 0
      · have HLP := Lib.hid (LP.neg (c := cMatch) HSTI.out HV1.out hn)
        have hnD : decide (n < 0) = true := decide_eq_true hn
        go_wp2_with fail
        have hfS : Fr (fun i => i ≠ g) V (V.setCell ⟨g, 2, none⟩ (.bool true)) := (Fr.refl _ V).setCell (p := ⟨g, 2, none⟩) (fun h => h rfl) _
        have HRS := Lib.hid (RS.bad HG.out HRD.out hLc hLL)
        have HT1 := Lib.hid ((hfS.block tb (by omega)).trans HTV.out)
        have HN1 := Lib.hid ((hfS.block w.heap.size (by omega)).trans HN.out)
        have HF1 := Lib.hid (HFW.out.trans (hfS.mono (fun i hi => hi.2.1)))
        clear hfS
        go_loopw [8] (fun i wr => i = .int .i64 0 ∧ RS wr g none ∧ wr.heap[tb]? = some (.cells (pre ++ [Value.slice none 0 0] ++ post).toArray t (0, 0)) ∧ wr.heap[w.heap.size]? = some (.cells #[.int .i64 n] 3 (0, 0)) ∧ Fr (Kp w g tb) w wr) (fun _ _ => 0)
        case atStart => exact ⟨rfl, HRS.out, HT1.out, HN1.out, HF1.out⟩
        case round =>
          obtain ⟨rfl, hRR, hTT, hNN, hFF⟩ := hrel
          obtain ⟨A, c, L, bad, hG, hrd, hLc, hLL, hst⟩ := hRR.open
          have hbad : bad = true := hst.1 rfl
          subst hbad
          have c1 := blk_cell hNN 0
          have c2 := blk_cell hG 2
          have HRR := Lib.hid hRR
          have HTT := Lib.hid hTT
          have HFF := Lib.hid hFF
          clear hst hrd hG hNN hRR hTT hFF
          have h0 : ¬ (0 : Int) < n := by omega
          all_goals
            go_wp2_with fail
            refine bodyPost_ret (results_none rfl _ _ _) rfl ⟨rfl, [.slice none 0 0], [], listC0 _ _ _ _, (HLP.out.out (.inl rfl)).2, HTT.out, ?_, HFF.out⟩
            rw [(HLP.out.out (.inl rfl)).1]
            exact HRR.out

      · have HLP := Lib.hid (LP.start (c := cMatch) HSTI.out HV1.out (by omega) hLL)
        have hnD : decide (n < 0) = false := decide_eq_false hn
        go_wp2_with fail
        have hfS : Fr (fun i => i ≠ g) V (V.setCell ⟨g, 2, none⟩ (.bool false)) := (Fr.refl _ V).setCell (p := ⟨g, 2, none⟩) (fun h => h rfl) _
        have HRS : Hid (RS (V.setCell ⟨g, 2, none⟩ (.bool false)) g (some l)) := Lib.hid ⟨A, c, l, false, heap_setCell_same HG.out 2 _, HRD.out.fr (hfS.mono (fun i hi => Nat.ne_of_lt hi)), hLc, hLL, rfl, rfl⟩
        have HT1 := Lib.hid ((hfS.block tb (by omega)).trans HTV.out)
        have HN1 := Lib.hid ((hfS.block w.heap.size (by omega)).trans HN.out)
        have HF1 := Lib.hid (HFW.out.trans (hfS.mono (fun i hi => hi.2.1)))
        have hszW : w.heap.size < (V.setCell ⟨g, 2, none⟩ (.bool false)).heap.size := blk_lt HN1.out
        clear hfS
        obtain ⟨i0, hi0, hz0, hz1, hz2⟩ := info_parts info41z
        go_loopw [8] (fun i wr => ∃ (k : Nat) (oi : Option (List UInt8)) (xs : List XMatch) (ess : List (List Value)) (v : Value), i = .int .i64 (k : Int) ∧ LP cMatch st n k oi xs ∧ RS wr g oi ∧ LInv MatchC 4 41 w wr v xs ess ∧ wr.heap[tb]? = some (.cells (pre ++ [v] ++ post).toArray t (0, 0)) ∧ wr.heap[w.heap.size]? = some (.cells #[.int .i64 n] 3 (0, 0)) ∧ Fr (Kp w g tb) w wr ∧ v.ownBlock ≠ some w.heap.size) (fun i _ => n.toNat - (intOf i).toNat)
        case atStart => exact ⟨0, some l, [], [], _, rfl, HLP.out, HRS.out, LInv.nil _ _, HT1.out, HN1.out, HF1.out, by simp [Value.ownBlock]⟩
        case round =>
          obtain ⟨k, oi, xs, ess, v, rfl, hLP, hRR, hLI, hTT, hNN, hFF, hvn⟩ := hrel
          obtain ⟨A, c, L, bad, hG, hrd, hLc, hLL, hst⟩ := hRR.open
          have c1 := blk_cell hNN 0
          have c2 := blk_cell hG 2
          have HRR := Lib.hid hRR
          have HTT := Lib.hid hTT
          have HFF := Lib.hid hFF
          have HLI := Lib.hid hLI
          have HL := Lib.hid hLP
          have HNN := Lib.hid hNN
          have HST := Lib.hid hst
          have hwr : w.heap.size < wr.heap.size := blk_lt hNN
          have hk63 := hLP.len.2
          clear hst hrd hG hNN hRR hTT hFF hLI hLP
          by_cases hlt : (k : Int) < n
          · cases oi with
            | none =>
              have hbad : bad = true := HST.out.1 rfl
              subst hbad
              go_wp2_with fail
              refine bodyPost_ret (results_none rfl _ _ _) rfl ⟨rfl, [v], xs, HLI.out.out (fun h hq => MatchC.mono h hq), (HL.out.out (.inl rfl)).2, HTT.out, ?_, HFF.out⟩
              rw [(HL.out.out (.inl rfl)).1]
              exact HRR.out
            | some r =>
              have hbad : bad = false := (HST.out.2 r rfl).1
              subst hbad
              go_wp2_with fail
              have hfe : Fr (· < wr.heap.size) wr (wr.alloc (.cells #[.int .i64 0, .slice none 0 0, .slice none 0 0, .int .i64 0] 41)) := (Fr.refl _ wr).alloc (fun _ h => h) _
              refine (Match_r g wr.heap.size 0 [] [] 41 (some r) (wr.alloc (.cells #[.int .i64 0, .slice none 0 0, .slice none 0 0, .int .i64 0] 41)) (HRR.out.alloc _) (by omega) rfl (heap_alloc_new wr _)).mono ?_
              rintro e w3 ⟨rfl, es, x, hes, hvl, hEB, hRS3, hfr3⟩
              have HES := Lib.hid hes
              have hesl := hes.len
              have hT3 := (hfr3.block tb ⟨by simp; omega, by omega, by omega⟩).trans ((hfe.block tb (by omega)).trans HTT.out)
              have hN3 := (hfr3.block w.heap.size ⟨by simp; omega, by omega, by omega⟩).trans ((hfe.block w.heap.size hwr).trans HNN.out)
              have hf3 : Fr (fun k => w.heap.size ≤ k ∧ k < wr.heap.size) wr w3 := (hfe.mono (fun k hk => hk.2)).trans (hfr3.mono (fun k hk => ⟨by simp; omega, by omega, by omega⟩))
              have hF3 : Fr (Kp w g tb) w w3 := HFF.out.trans ((hfe.mono (fun k hk => Nat.lt_trans hk.1 hwr)).trans (hfr3.mono (fun k hk => ⟨by simp; have := hk.1; omega, hk.2.1, by have := hk.1; omega⟩)))
              have hLI3 := HLI.out.keep hf3 (fun h hf => MatchC.fr h hf) (fun h hq => MatchC.mono h hq)
              have hsz3 : wr.heap.size < w3.heap.size := by have := hfr3.size; simp at this; omega
              have hES3 : MatchC w3 (Qe w w3 v) es x := MatchC.mono hes (fun k hk => ⟨by have := hk.1; simp at this; omega, hk.2, fun e => by have := (HLI.out.own.lt k e).2; have h2 := hk.1; simp at h2; omega⟩)
              have HLI3 := Lib.hid hLI3
              have HES3 := Lib.hid hES3
              have HRS3 := Lib.hid hRS3
              have HF3 := Lib.hid hF3
              have HT3 := Lib.hid hT3
              have HN3 := Lib.hid hN3
              have HVL := Lib.hid hvl
              have hone : ∀ u ∈ es, u.oneCell' = true := by
                obtain ⟨_, _, _, _, rfl, ⟨rfl, _⟩, ⟨_, _, rfl, _⟩, ⟨_, _, rfl, _⟩, ⟨rfl, _⟩⟩ := hes
                simp [Value.oneCell']
              have HONE := Lib.hid hone
              have htk3 := blk_get (j := 0) hT3 HPRE.out rfl
              rw [Nat.add_zero] at htk3
              have hEB2 : w3.heap[wr.heap.size]? = some (.cells es.toArray 41 (0, 0)) := by simpa using hEB
              have HESL := Lib.hid hesl
              have htb3 : tb < w3.heap.size := by omega
              have htbne : ¬ tb = w3.heap.size := by omega
              obtain ⟨vA, vn, vc, rfl⟩ := own_shape HLI.out.own
              have HVN := Lib.hid hvn
              clear hvl hEB hRS3 hfr3 hT3 hN3 hf3 hF3 hLI3 hES3 hone hesl hfe hvn
              obtain ⟨_, _, _, _, rfl, ⟨rfl, _⟩, ⟨_, _, rfl, _⟩, ⟨_, _, rfl, _⟩, ⟨rfl, _⟩⟩ := hes
              have e0 := blk_cell hEB2 0
              have e1 := blk_cell hEB2 1
              have e2 := blk_cell hEB2 2
              have e3 := blk_cell hEB2 3
              clear hEB2
              go_wp2_with fail
              go_region_law (first | ((refine step_app _ (by rfl) _ _ 64 (by rfl) w.heap.size 41 i0 _ 4 64 Try.underlying64 hi0 hz0 hz1 hz2 (by rfl) (by decide) (.slice vA vn vc) xs.length ess.flatten (by rfl) (by exact (HLI3.out.own.alloc _)) (fun _ => True) (some ⟨w3.heap.size, 0, none⟩) 1 1 _ (by rfl) (by exact (row1 w3 _ 41 4 HESL.out)) HONE.out (by have := HL.out.len.1; simp only [maxLen]; omega) (by have := HL.out.len.1; omega) (by simp; omega) ?_; intro v2 w4 hown4 hg4 hat4; obtain ⟨vA2, vn2, vc2, rfl⟩ := own_shape hown4; have htb4 : w4.heap[tb]? = _ := (hg4.block tb (by simp; omega) (fun e => by have := (HLI3.out.own.lt tb e.symm).1; omega)).trans ((Below.heap_alloc w3 _ tb (by omega)).trans HT3.out); have hct4 := blk_get (j := 0) htb4 HPRE.out rfl; rw [Nat.add_zero] at hct4; have hft4 : w4.frozen? ⟨tb, o, none⟩ = false := blk_frozen htb4 o)))
              all_goals
                have HO4 := Lib.hid hown4
                have HG4 := Lib.hid hg4
                have HA4 := Lib.hid hat4
                clear hown4 hg4 hat4 htb4
                go_wp2_with fail
                go_roundw
                case rel =>
                  obtain ⟨r1, r2, r3, r4, r5, r6⟩ := list_round HLI3.out HES3.out HESL.out HRS3.out HF3.out HPRE.out HT3.out HN3.out HVN.out hTlt hgt HO4.out HG4.out HA4.out (fun h hf => MatchC.fr h hf) (fun h hq => MatchC.mono h hq)
                  exact ⟨k + 1, _, _, _, _, by go_num, HL.out.step hlt encMatch_pos HVL.out, r1, r2, r3, r4, r5, r6⟩
                case measure => simp [intOf]; omega
          · go_wp2_with fail
            refine bodyPost_ret (results_none rfl _ _ _) rfl ⟨rfl, [v], xs, HLI.out.out (fun h hq => MatchC.mono h hq), (HL.out.out (.inr (by omega))).2, HTT.out, ?_, HFF.out⟩
            rw [(HL.out.out (.inr (by omega))).1]
            exact HRR.out

theorem info133z : (Try.prog.info? 133).map (fun i => (i.zero, i.size, i.bytes)) = some (some (.agg #[.string ⟨#[]⟩, .string ⟨#[]⟩, .slice none 0 0, .slice none 0 0, .bool false]), 5, 88) := by kernel_rfl
set_option maxHeartbeats 4000000 in
set_option maxRecDepth 100000 in
theorem listEntity_r (g tb o : Nat) (pre post : List Value) (t : TypeId) (st : Option (List UInt8)) (w : World)
    (hs : RS w g st) (hgt : g < tb) (ho : pre.length = o) (hT : w.heap[tb]? = some (.cells (pre ++ [Value.slice none 0 0] ++ post).toArray t (0, 0))) :
    Calls Try.prog 82 #[.pointer (some ⟨g, 0, none⟩), .pointer (some ⟨tb, o, none⟩), .func (.func 83) #[] #[]] w (RPost (ListC EntityC 5) (cList cEntity) g tb pre post t st w) := by
  have HPRE := Lib.hid ho
  have hTlt := blk_lt hT
  have hglt := hs.lt
  have HT0 := Lib.hid hT
  have htk0 := blk_get (j := 0) hT ho rfl
  rw [Nat.add_zero] at htk0
  clear ho hT
  go_enter Try.func82, Try.ntmps82
  go_wp2_with fail
  have hfA : Fr (· < w.heap.size) w (w.alloc (.cells #[.int .i64 0] 3)) := (Fr.refl _ w).alloc (fun _ h => h) _
  refine (num_rv g w.heap.size 0 [] [] [0] 3 st (by simp) (by rfl) (by rfl) (hs.alloc _) (by omega) rfl (heap_alloc_new w _) (by simp [intBd]) (by simp)).mono ?_
  rintro e V ⟨rfl, ns', hnl, hnb, hvl, hN, hRS, hfV⟩
  obtain ⟨n, rfl⟩ := List.length_eq_one_iff.1 hnl
  have hv1 : cInt.vl st n := hvl.1
  have hnbd : intBd n := hnb n (by simp)
  have hN1 : V.heap[w.heap.size]? = some (.cells #[.int .i64 n] 3 (0, 0)) := hN
  have hRS1 : RS V g (cInt.st st) := hRS
  have hTV : V.heap[tb]? = _ := (hfV.block tb ⟨by simp; omega, by omega, by omega⟩).trans ((hfA.block tb hTlt).trans HT0.out)
  have hfW : Fr (Kp w g tb) w V := (hfA.mono (fun k hk => hk.1)).trans (hfV.mono (fun k hk => ⟨by simp; have := hk.1; omega, hk.2.1, by have := hk.1; omega⟩))
  have hnz : V.cell? ⟨w.heap.size, 0, none⟩ = some (.int .i64 n) := blk_cell hN1 0
  have hsz : w.heap.size < V.heap.size := blk_lt hN1
  obtain ⟨A, c, L, bad, hG, hrd, hLc, hLL, hst⟩ := hRS1.open
  have b1 : V.cell? ⟨g, 1, none⟩ = some (.bool true) := blk_cell hG 1
  have b2 : V.cell? ⟨g, 2, none⟩ = some (.bool bad) := blk_cell hG 2
  have f2 : V.frozen? ⟨g, 2, none⟩ = false := blk_frozen hG 2
  have HG := Lib.hid hG
  have HRD := Lib.hid hrd
  have HTV := Lib.hid hTV
  have HFW := Lib.hid hfW
  have HV1 := Lib.hid hv1
  have HN := Lib.hid hN1
  have HHS := Lib.hid hst
  clear hN hRS hfV hvl hnb hnl hG hrd hTV hfW hv1 hN1 hfA hs HT0 hRS1 hst
  cases bad with
  | true =>
    have hdead : cInt.st st = none := by
      cases h : cInt.st st with
      | none => rfl
      | some l => exact absurd (HHS.out.2 l h).1 (by simp)
    have HLP := Lib.hid (LP.dead (c := cEntity) (n := n) hdead)
    clear hdead
    go_wp2_with fail
    have hfS : Fr (fun i => i ≠ g) V (V.setCell ⟨g, 2, none⟩ (.bool true)) := (Fr.refl _ V).setCell (p := ⟨g, 2, none⟩) (fun h => h rfl) _
    have HRS := Lib.hid (RS.bad HG.out HRD.out hLc hLL)
    have HT1 := Lib.hid ((hfS.block tb (by omega)).trans HTV.out)
    have HN1 := Lib.hid ((hfS.block w.heap.size (by omega)).trans HN.out)
    have HF1 := Lib.hid (HFW.out.trans (hfS.mono (fun i hi => hi.2.1)))
    clear hfS
    go_loopw [8] (fun i wr => i = .int .i64 0 ∧ RS wr g none ∧ wr.heap[tb]? = some (.cells (pre ++ [Value.slice none 0 0] ++ post).toArray t (0, 0)) ∧ wr.heap[w.heap.size]? = some (.cells #[.int .i64 n] 3 (0, 0)) ∧ Fr (Kp w g tb) w wr) (fun _ _ => 0)
    case atStart => exact ⟨rfl, HRS.out, HT1.out, HN1.out, HF1.out⟩
    case round =>
      obtain ⟨rfl, hRR, hTT, hNN, hFF⟩ := hrel
      obtain ⟨A, c, L, bad, hG, hrd, hLc, hLL, hst⟩ := hRR.open
      have hbad : bad = true := hst.1 rfl
      subst hbad
      have c1 := blk_cell hNN 0
      have c2 := blk_cell hG 2
      have HRR := Lib.hid hRR
      have HTT := Lib.hid hTT
      have HFF := Lib.hid hFF
      clear hst hrd hG hNN hRR hTT hFF
      by_cases h0 : (0 : Int) < n
      all_goals
        go_wp2_with fail
        refine bodyPost_ret (results_none rfl _ _ _) rfl ⟨rfl, [.slice none 0 0], [], listC0 _ _ _ _, (HLP.out.out (.inl rfl)).2, HTT.out, ?_, HFF.out⟩
        rw [(HLP.out.out (.inl rfl)).1]
        exact HRR.out

  | false =>
    cases hsti : cInt.st st with
    | none => exact absurd (HHS.out.1 hsti) (by simp)
    | some l =>
      obtain ⟨_, hl⟩ := HHS.out.2 l hsti
      subst hl
      have HSTI := Lib.hid hsti
      clear hsti
      by_cases hn : n < 0
      · have HLP := Lib.hid (LP.neg (c := cEntity) HSTI.out HV1.out hn)
        have hnD : decide (n < 0) = true := decide_eq_true hn
        go_wp2_with fail
        have hfS : Fr (fun i => i ≠ g) V (V.setCell ⟨g, 2, none⟩ (.bool true)) := (Fr.refl _ V).setCell (p := ⟨g, 2, none⟩) (fun h => h rfl) _
        have HRS := Lib.hid (RS.bad HG.out HRD.out hLc hLL)
        have HT1 := Lib.hid ((hfS.block tb (by omega)).trans HTV.out)
        have HN1 := Lib.hid ((hfS.block w.heap.size (by omega)).trans HN.out)
        have HF1 := Lib.hid (HFW.out.trans (hfS.mono (fun i hi => hi.2.1)))
        clear hfS
        go_loopw [8] (fun i wr => i = .int .i64 0 ∧ RS wr g none ∧ wr.heap[tb]? = some (.cells (pre ++ [Value.slice none 0 0] ++ post).toArray t (0, 0)) ∧ wr.heap[w.heap.size]? = some (.cells #[.int .i64 n] 3 (0, 0)) ∧ Fr (Kp w g tb) w wr) (fun _ _ => 0)
        case atStart => exact ⟨rfl, HRS.out, HT1.out, HN1.out, HF1.out⟩
        case round =>
          obtain ⟨rfl, hRR, hTT, hNN, hFF⟩ := hrel
          obtain ⟨A, c, L, bad, hG, hrd, hLc, hLL, hst⟩ := hRR.open
          have hbad : bad = true := hst.1 rfl
          subst hbad
          have c1 := blk_cell hNN 0
          have c2 := blk_cell hG 2
          have HRR := Lib.hid hRR
          have HTT := Lib.hid hTT
          have HFF := Lib.hid hFF
          clear hst hrd hG hNN hRR hTT hFF
          have h0 : ¬ (0 : Int) < n := by omega
          all_goals
            go_wp2_with fail
            refine bodyPost_ret (results_none rfl _ _ _) rfl ⟨rfl, [.slice none 0 0], [], listC0 _ _ _ _, (HLP.out.out (.inl rfl)).2, HTT.out, ?_, HFF.out⟩
            rw [(HLP.out.out (.inl rfl)).1]
            exact HRR.out

      · have HLP := Lib.hid (LP.start (c := cEntity) HSTI.out HV1.out (by omega) hLL)
        have hnD : decide (n < 0) = false := decide_eq_false hn
        go_wp2_with fail
        have hfS : Fr (fun i => i ≠ g) V (V.setCell ⟨g, 2, none⟩ (.bool false)) := (Fr.refl _ V).setCell (p := ⟨g, 2, none⟩) (fun h => h rfl) _
        have HRS : Hid (RS (V.setCell ⟨g, 2, none⟩ (.bool false)) g (some l)) := Lib.hid ⟨A, c, l, false, heap_setCell_same HG.out 2 _, HRD.out.fr (hfS.mono (fun i hi => Nat.ne_of_lt hi)), hLc, hLL, rfl, rfl⟩
        have HT1 := Lib.hid ((hfS.block tb (by omega)).trans HTV.out)
        have HN1 := Lib.hid ((hfS.block w.heap.size (by omega)).trans HN.out)
        have HF1 := Lib.hid (HFW.out.trans (hfS.mono (fun i hi => hi.2.1)))
        have hszW : w.heap.size < (V.setCell ⟨g, 2, none⟩ (.bool false)).heap.size := blk_lt HN1.out
        clear hfS
        obtain ⟨i0, hi0, hz0, hz1, hz2⟩ := info_parts info133z
        go_loopw [8] (fun i wr => ∃ (k : Nat) (oi : Option (List UInt8)) (xs : List XEntity) (ess : List (List Value)) (v : Value), i = .int .i64 (k : Int) ∧ LP cEntity st n k oi xs ∧ RS wr g oi ∧ LInv EntityC 5 133 w wr v xs ess ∧ wr.heap[tb]? = some (.cells (pre ++ [v] ++ post).toArray t (0, 0)) ∧ wr.heap[w.heap.size]? = some (.cells #[.int .i64 n] 3 (0, 0)) ∧ Fr (Kp w g tb) w wr ∧ v.ownBlock ≠ some w.heap.size) (fun i _ => n.toNat - (intOf i).toNat)
        case atStart => exact ⟨0, some l, [], [], _, rfl, HLP.out, HRS.out, LInv.nil _ _, HT1.out, HN1.out, HF1.out, by simp [Value.ownBlock]⟩
        case round =>
          obtain ⟨k, oi, xs, ess, v, rfl, hLP, hRR, hLI, hTT, hNN, hFF, hvn⟩ := hrel
          obtain ⟨A, c, L, bad, hG, hrd, hLc, hLL, hst⟩ := hRR.open
          have c1 := blk_cell hNN 0
          have c2 := blk_cell hG 2
          have HRR := Lib.hid hRR
          have HTT := Lib.hid hTT
          have HFF := Lib.hid hFF
          have HLI := Lib.hid hLI
          have HL := Lib.hid hLP
          have HNN := Lib.hid hNN
          have HST := Lib.hid hst
          have hwr : w.heap.size < wr.heap.size := blk_lt hNN
          have hk63 := hLP.len.2
          clear hst hrd hG hNN hRR hTT hFF hLI hLP
          by_cases hlt : (k : Int) < n
          · cases oi with
            | none =>
              have hbad : bad = true := HST.out.1 rfl
              subst hbad
              go_wp2_with fail
              refine bodyPost_ret (results_none rfl _ _ _) rfl ⟨rfl, [v], xs, HLI.out.out (fun h hq => EntityC.mono h hq), (HL.out.out (.inl rfl)).2, HTT.out, ?_, HFF.out⟩
              rw [(HL.out.out (.inl rfl)).1]
              exact HRR.out
            | some r =>
              have hbad : bad = false := (HST.out.2 r rfl).1
              subst hbad
              go_wp2_with fail
              have hfe : Fr (· < wr.heap.size) wr (wr.alloc (.cells #[.string ⟨#[]⟩, .string ⟨#[]⟩, .slice none 0 0, .slice none 0 0, .bool false] 133)) := (Fr.refl _ wr).alloc (fun _ h => h) _
              refine (Entity_r g wr.heap.size 0 [] [] 133 (some r) (wr.alloc (.cells #[.string ⟨#[]⟩, .string ⟨#[]⟩, .slice none 0 0, .slice none 0 0, .bool false] 133)) (HRR.out.alloc _) (by omega) rfl (heap_alloc_new wr _)).mono ?_
              rintro e w3 ⟨rfl, es, x, hes, hvl, hEB, hRS3, hfr3⟩
              have HES := Lib.hid hes
              have hesl := hes.len
              have hT3 := (hfr3.block tb ⟨by simp; omega, by omega, by omega⟩).trans ((hfe.block tb (by omega)).trans HTT.out)
              have hN3 := (hfr3.block w.heap.size ⟨by simp; omega, by omega, by omega⟩).trans ((hfe.block w.heap.size hwr).trans HNN.out)
              have hf3 : Fr (fun k => w.heap.size ≤ k ∧ k < wr.heap.size) wr w3 := (hfe.mono (fun k hk => hk.2)).trans (hfr3.mono (fun k hk => ⟨by simp; omega, by omega, by omega⟩))
              have hF3 : Fr (Kp w g tb) w w3 := HFF.out.trans ((hfe.mono (fun k hk => Nat.lt_trans hk.1 hwr)).trans (hfr3.mono (fun k hk => ⟨by simp; have := hk.1; omega, hk.2.1, by have := hk.1; omega⟩)))
              have hLI3 := HLI.out.keep hf3 (fun h hf => EntityC.fr h hf) (fun h hq => EntityC.mono h hq)
              have hsz3 : wr.heap.size < w3.heap.size := by have := hfr3.size; simp at this; omega
              have hES3 : EntityC w3 (Qe w w3 v) es x := EntityC.mono hes (fun k hk => ⟨by have := hk.1; simp at this; omega, hk.2, fun e => by have := (HLI.out.own.lt k e).2; have h2 := hk.1; simp at h2; omega⟩)
              have HLI3 := Lib.hid hLI3
              have HES3 := Lib.hid hES3
              have HRS3 := Lib.hid hRS3
              have HF3 := Lib.hid hF3
              have HT3 := Lib.hid hT3
              have HN3 := Lib.hid hN3
              have HVL := Lib.hid hvl
              have hone : ∀ u ∈ es, u.oneCell' = true := by
                obtain ⟨_, _, _, _, _, rfl, rfl, rfl, ⟨_, _, rfl, _⟩, ⟨_, _, rfl, _⟩, rfl⟩ := hes
                simp [Value.oneCell']
              have HONE := Lib.hid hone
              have htk3 := blk_get (j := 0) hT3 HPRE.out rfl
              rw [Nat.add_zero] at htk3
              have hEB2 : w3.heap[wr.heap.size]? = some (.cells es.toArray 133 (0, 0)) := by simpa using hEB
              have HESL := Lib.hid hesl
              have htb3 : tb < w3.heap.size := by omega
              have htbne : ¬ tb = w3.heap.size := by omega
              obtain ⟨vA, vn, vc, rfl⟩ := own_shape HLI.out.own
              have HVN := Lib.hid hvn
              clear hvl hEB hRS3 hfr3 hT3 hN3 hf3 hF3 hLI3 hES3 hone hesl hfe hvn
              obtain ⟨_, _, _, _, _, rfl, rfl, rfl, ⟨_, _, rfl, _⟩, ⟨_, _, rfl, _⟩, rfl⟩ := hes
              have e0 := blk_cell hEB2 0
              have e1 := blk_cell hEB2 1
              have e2 := blk_cell hEB2 2
              have e3 := blk_cell hEB2 3
              have e4 := blk_cell hEB2 4
              clear hEB2
              go_wp2_with fail
              go_region_law (first | ((refine step_app _ (by rfl) _ _ 58 (by rfl) w.heap.size 133 i0 _ 5 88 Try.underlying58 hi0 hz0 hz1 hz2 (by rfl) (by decide) (.slice vA vn vc) xs.length ess.flatten (by rfl) (by exact (HLI3.out.own.alloc _)) (fun _ => True) (some ⟨w3.heap.size, 0, none⟩) 1 1 _ (by rfl) (by exact (row1 w3 _ 133 5 HESL.out)) HONE.out (by have := HL.out.len.1; simp only [maxLen]; omega) (by have := HL.out.len.1; omega) (by simp; omega) ?_; intro v2 w4 hown4 hg4 hat4; obtain ⟨vA2, vn2, vc2, rfl⟩ := own_shape hown4; have htb4 : w4.heap[tb]? = _ := (hg4.block tb (by simp; omega) (fun e => by have := (HLI3.out.own.lt tb e.symm).1; omega)).trans ((Below.heap_alloc w3 _ tb (by omega)).trans HT3.out); have hct4 := blk_get (j := 0) htb4 HPRE.out rfl; rw [Nat.add_zero] at hct4; have hft4 : w4.frozen? ⟨tb, o, none⟩ = false := blk_frozen htb4 o)))
              all_goals
                have HO4 := Lib.hid hown4
                have HG4 := Lib.hid hg4
                have HA4 := Lib.hid hat4
                clear hown4 hg4 hat4 htb4
                go_wp2_with fail
                go_roundw
                case rel =>
                  obtain ⟨r1, r2, r3, r4, r5, r6⟩ := list_round HLI3.out HES3.out HESL.out HRS3.out HF3.out HPRE.out HT3.out HN3.out HVN.out hTlt hgt HO4.out HG4.out HA4.out (fun h hf => EntityC.fr h hf) (fun h hq => EntityC.mono h hq)
                  exact ⟨k + 1, _, _, _, _, by go_num, HL.out.step hlt encEntity_pos HVL.out, r1, r2, r3, r4, r5, r6⟩
                case measure => simp [intOf]; omega
          · go_wp2_with fail
            refine bodyPost_ret (results_none rfl _ _ _) rfl ⟨rfl, [v], xs, HLI.out.out (fun h hq => EntityC.mono h hq), (HL.out.out (.inr (by omega))).2, HTT.out, ?_, HFF.out⟩
            rw [(HL.out.out (.inr (by omega))).1]
            exact HRR.out

end Go.Proofs.Ytgdibeegheddmaa
