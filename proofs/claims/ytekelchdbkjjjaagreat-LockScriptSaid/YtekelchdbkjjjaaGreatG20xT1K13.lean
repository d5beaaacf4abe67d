/- The chart of the program's own sample group. Written by gen_t1.py. -/
import Derived.Test.YtekelchdbkjjjaaGreatG20xB0B2
import Derived.Test.YtekelchdbkjjjaaGreatG20xB3B8
import Derived.Test.YtekelchdbkjjjaaGreatG20xB9B13
import Derived.Test.YtekelchdbkjjjaaGreatG20xB14
import Derived.Test.YtekelchdbkjjjaaGreatG20xB16
import Derived.Test.YtekelchdbkjjjaaGreatG20xB17B24
import Derived.Test.YtekelchdbkjjjaaGreatG20xB33C3
import Derived.Test.YtekelchdbkjjjaaGreatG20xC4I2
import Derived.Test.YtekelchdbkjjjaaGreatG20xI3I16
import Derived.Test.YtekelchdbkjjjaaGreatG20xK1K12
import Derived.Test.YtekelchdbkjjjaaGreatProg
set_option linter.unusedVariables false
set_option linter.unusedSimpArgs false
set_option maxRecDepth 4000
attribute [local go_sem ↓] Go.wp_at_zero Go.wp_at_succ
namespace Go.Proofs.YtekelchdbkjjjaaGreat
open Go Go.RowKit
abbrev pairL (p : Int × Int) : List Value := [.int .i64 p.1, .int .i64 p.2]
theorem info_pair : (Tryz.prog.info? 141).map (·.size) = some 2 := by kernel_rfl
theorem pair_rows {w : World} {b : Nat} {T : TypeId} {l : List (Int × Int)} (h : w.heap[b]? = some (.cells (l.flatMap pairL).toArray T (0, 0))) {k : Nat} {p : Int × Int} (hk : l[k]? = some p) : w.rangeAt b (k * 2) [.int .i64 p.1, .int .i64 p.2] := by
 have h2 := (flat_at (sz := 2) pairL (fun _ => rfl) l 0 (box_at h) k p hk).range
 rw [Nat.zero_add] at h2
 exact h2
theorem int_rows {w : World} {b : Nat} {T : TypeId} {l : List Int} (h : w.heap[b]? = some (.cells (l.map (Value.int .i64)).toArray T (0, 0))) {k : Nat} {p : Int} (hk : l[k]? = some p) : w.cell? ⟨b, k, none⟩ = some (.int .i64 p) := by
 rw [blk_cell h k]
 simp [hk]
theorem account_c (a k b p : Int) (w : World) : Calls Tryz.prog 86 #[.int .i64 a, .int .i64 k, .int .i64 b, .int .i64 p] w (Quiet w (.agg #[.int .i64 a, .int .i64 k, .int .i64 b, .int .i64 p])) := by
 go_enter Tryz.func86, Tryz.ntmps86
 go_upto_region 1 with fail
 have H := heap_alloc_new w (.cells #[.int .i64 0, .int .i64 0, .int .i64 0, .int .i64 0] 87)
 have HB := below1 w (.cells #[.int .i64 0, .int .i64 0, .int .i64 0, .int .i64 0] 87)
 generalize w.alloc (.cells #[.int .i64 0, .int .i64 0, .int .i64 0, .int .i64 0] 87) = W at *
 have HZ := Lib.hid H
 clear H
 go_wp2_with (show wpList _ _ _ (Oper.mk none (Op.store _ (Operand.tmp 8) _) _ _ _ _ :: _) _ _; refine wpList_store_row rfl 87 (.tmp 8) (.tmp 13) rfl w.heap.size #[.int .i64 a, .int .i64 k, .int .i64 b, .int .i64 p] rfl rfl 87 #[.int .i64 0, .int .i64 0, .int .i64 0, .int .i64 0] HZ.out (by rw [info_acc]; rfl) rfl (by simp [Value.oneCell']) ?_)
 refine bodyPost_ret (v := _) (results_cell rfl _ _ w.heap.size 87 #[.int .i64 a, .int .i64 k, .int .i64 b, .int .i64 p] (0, 0) _ rfl (heap_setRow HZ.out _) Tryz.underlying87 rfl info_acc) rfl ⟨rfl, below_setRow HB (Nat.le_refl _) _⟩
theorem own_other {w : World} {base : Nat} {e t : TypeId} {size n j : Nat} {v : Value} {xs : List Value} {cur : Array Value} (h : w.ownsRow base e size v n xs) (hj : w.heap[j]? = some (.cells cur t (0, 0))) (ht : t ≠ e) : some j ≠ v.ownBlock := by
 rcases h.2 with ⟨rfl, _⟩ | ⟨g, cap, cur', rfl, _, hg, _⟩
 · simp [Value.ownBlock]
 · intro he
   have he2 : j = g := Option.some.inj he
   subst he2
   rw [hj] at hg
   simp only [Option.some.injEq, Obj.cells.injEq] at hg
   exact ht hg.2.1
theorem chart_step {n : Nat} {x : XAccount} (h : chartS[n]? = some x) : (chartS.take (n + 1)).flatMap accL = (chartS.take n).flatMap accL ++ accL x := take_flat h
def scP1 : List (Int × Int) := [(1000, 0), (1010, 1000), (1100, 1000), (1200, 1000)]
theorem scP1_at : ∀ k : Nat, k < 4 → ∃ q, scP1[k]? = some q ∧ chartS[0 + k]? = some ⟨q.1, 1, 1, q.2⟩ := by
 intro k hk
 rcases k with _ | _ | _ | _ | k
 · exact ⟨_, rfl, by decide⟩
 · exact ⟨_, rfl, by decide⟩
 · exact ⟨_, rfl, by decide⟩
 · exact ⟨_, rfl, by decide⟩
 · omega
def scI1 : List Int := [1300, 1500, 1600, 1700]
theorem scI1_at : ∀ k : Nat, k < 4 → ∃ q, scI1[k]? = some q ∧ chartS[4 + k]? = some ⟨q, 1, 3, 0⟩ := by
 intro k hk
 rcases k with _ | _ | _ | _ | k
 · exact ⟨_, rfl, by decide⟩
 · exact ⟨_, rfl, by decide⟩
 · exact ⟨_, rfl, by decide⟩
 · exact ⟨_, rfl, by decide⟩
 · omega
def scI2 : List Int := [3000, 3100, 3200, 3300, 3400, 3500]
theorem scI2_at : ∀ k : Nat, k < 6 → ∃ q, scI2[k]? = some q ∧ chartS[10 + k]? = some ⟨q, 3, 3, 0⟩ := by
 intro k hk
 rcases k with _ | _ | _ | _ | _ | _ | k
 · exact ⟨_, rfl, by decide⟩
 · exact ⟨_, rfl, by decide⟩
 · exact ⟨_, rfl, by decide⟩
 · exact ⟨_, rfl, by decide⟩
 · exact ⟨_, rfl, by decide⟩
 · exact ⟨_, rfl, by decide⟩
 · omega
def scP2 : List (Int × Int) := [(4000, 0), (4100, 4000), (4500, 0), (4600, 0), (4700, 0)]
theorem scP2_at : ∀ k : Nat, k < 5 → ∃ q, scP2[k]? = some q ∧ chartS[16 + k]? = some ⟨q.1, 4, 2, q.2⟩ := by
 intro k hk
 rcases k with _ | _ | _ | _ | _ | k
 · exact ⟨_, rfl, by decide⟩
 · exact ⟨_, rfl, by decide⟩
 · exact ⟨_, rfl, by decide⟩
 · exact ⟨_, rfl, by decide⟩
 · exact ⟨_, rfl, by decide⟩
 · omega
def scI3 : List Int := [5000, 5100, 5500, 5600, 5700]
theorem scI3_at : ∀ k : Nat, k < 5 → ∃ q, scI3[k]? = some q ∧ chartS[21 + k]? = some ⟨q, 5, 2, 0⟩ := by
 intro k hk
 rcases k with _ | _ | _ | _ | _ | k
 · exact ⟨_, rfl, by decide⟩
 · exact ⟨_, rfl, by decide⟩
 · exact ⟨_, rfl, by decide⟩
 · exact ⟨_, rfl, by decide⟩
 · exact ⟨_, rfl, by decide⟩
 · omega
set_option maxHeartbeats 8000000 in
theorem pChart_c (w : World) : Calls Tryz.prog 61 #[] w (fun e w' => ∃ v, e = .returned v ∧ ListC AccountC 4 w' (fun k => w.heap.size ≤ k ∧ k < w'.heap.size) [v] chartS ∧ Below w.heap.size w w') := by
 obtain ⟨ia, hia, hzia, hsia, hbia⟩ := info_parts info_accA
 have HOWN0 := Lib.hid (show w.ownsRow w.heap.size 87 4 (.slice none 0 0) 0 ((chartS.take 0).flatMap accL) from World.ownsRow_nil _ _ _ _)
 have hb0 := Below.refl w.heap.size w
 go_enter Tryz.func61, Tryz.ntmps61
 go_upto_region 3 with fail
 have HA0 := heap_alloc_new w (.cells #[.int .i64 1000, .int .i64 0, .int .i64 1010, .int .i64 1000, .int .i64 1100, .int .i64 1000, .int .i64 1200, .int .i64 1000] 141)
 have HAB0 := below1 w (.cells #[.int .i64 1000, .int .i64 0, .int .i64 1010, .int .i64 1000, .int .i64 1100, .int .i64 1000, .int .i64 1200, .int .i64 1000] 141)
 have HAS0 := blk_lt HA0
 generalize w.alloc (Obj.cells #[.int .i64 1000, .int .i64 0, .int .i64 1010, .int .i64 1000, .int .i64 1100, .int .i64 1000, .int .i64 1200, .int .i64 1000] 141) = V0 at *
 have HV0 := Lib.hid (show V0.heap[w.heap.size]? = some (.cells (scP1.flatMap pairL).toArray 141 (0, 0)) from HA0)
 have hbv0 := hb0.trans (HAB0.mono hb0.size)
 have HOV0 := Lib.hid (own_below HOWN0.out HAB0)
 clear HA0
 obtain ⟨B0, hB0⟩ : ∃ B, w.heap.size = B := ⟨_, rfl⟩
 rw [hB0] at HV0 HAS0 ⊢
 clear hB0
 go_loopw [1, 18] (fun v i wr => ∃ k : Nat, k ≤ 4 ∧ i = .int .i64 (k : Int) ∧ wr.ownsRow w.heap.size 87 4 v (0 + k) ((chartS.take (0 + k)).flatMap accL) ∧ Below w.heap.size w wr ∧ wr.heap[B0]? = some (.cells (scP1.flatMap pairL).toArray 141 (0, 0))) (fun _ i _ => 4 - (intOf i).toNat)
 case atStart => exact ⟨0, by omega, rfl, HOV0.out, hbv0, HV0.out⟩
 case round =>
  rename World => U0
  obtain ⟨k, hk, rfl, hown, hb, harr⟩ := hrel
  have HAR := Lib.hid harr
  clear harr
  have HOW := Lib.hid hown
  clear hown
  by_cases hlt : k < 4
  case pos =>
   have hltI : (k : Int) < 4 := by omega
   obtain ⟨q, hq1, hq2⟩ := scP1_at k hlt
   have HST := Lib.hid (chart_step hq2)
   have HR := Lib.hid (show U0.rangeAt B0 (k * 2) [.int .i64 q.1, .int .i64 q.2] from pair_rows HAR.out hq1)
   clear hq1 hq2
   go_upto_region 5 with (first | (show wpList _ _ _ (Oper.mk (some 21) _ _ _ _ _ :: _) _ _; refine wpList_load_mid rfl 141 (.tmp 20) rfl B0 (k * 2) rfl [.int .i64 q.1, .int .i64 q.2] _ HR.out Tryz.underlying141 rfl info_pair ?_) | (show wpList _ _ _ (Oper.mk none (Op.store _ (Operand.tmp 3) _) _ _ _ _ :: _) _ _; refine wpList_store_fresh3 rfl 141 (.tmp 3) (.tmp 21) rfl rfl U0 #[.int .i64 0, .int .i64 0] 141 #[.int .i64 q.1, .int .i64 q.2] rfl rfl rfl info_pair rfl (by simp [Value.oneCell']) ?_; intro w2 H2 HB2 HS2))
   have c0 := blk_cell H2 0
   have c1 := blk_cell H2 1
   clear H2
   go_wp2_with fail
   refine (account_c q.1 1 1 q.2 w2).mono ?_
   rintro e w3 ⟨rfl, hb3⟩
   replace hb3 := HB2.trans (hb3.mono HB2.size)
   have HOW3 := Lib.hid (own_below HOW.out hb3)
   have hb03 := hb.trans (hb3.mono hb.size)
   have HA3 := Lib.hid ((hb3.block _ (blk_lt HAR.out)).trans HAR.out)
   have hsz3 := hb03.size
   go_wp2_with (at_builtin; go_loud (refine wpList_app _ rfl (.tmp 22) (.tmp 28) 24 rfl w.heap.size 87 ia _ 4 32 accs_uty hia hzia hsia hbia rfl (by decide) u1 (0 + k) ((chartS.take (0 + k)).flatMap accL) rfl (HOW3.out.alloc _) (fun _ => True) (some ⟨w3.heap.size, 0, none⟩) 1 1 [.int .i64 q.1, .int .i64 1, .int .i64 1, .int .i64 q.2] rfl (rd_new (heap_alloc_new _ _) rfl) (by simp [Value.oneCell']) (by simp only [maxLen]; omega) (by omega) (by simp; omega) ?_); intro v9 w9 hown9 hg9 _)
   go_roundw
   case rel => exact ⟨k + 1, by omega, by go_num, by rw [← Nat.add_assoc, HST.out]; exact hown9, below_grown (hb03.alloc hb03.size _) hg9 (fun q2 hq2 => (HOW3.out.lt _ hq2).1) (Nat.le_refl _), (hg9.block _ (blk_lt (alloc_keep HA3.out _)) (own_other HOW3.out HA3.out (by decide))).trans (alloc_keep HA3.out _)⟩
   case measure => first | exact meas_v hlt | (simp only [intOf]; omega)
  case neg =>
   have hltI : ¬ (k : Int) < 4 := by omega
   obtain rfl : k = 4 := by omega
   have HOWN1 := Lib.hid (show U0.ownsRow w.heap.size 87 4 u1 4 ((chartS.take 4).flatMap accL) from HOW.out)
   have hbU0 := hb
   clear hb HOW hk hlt HAR
   go_upto_region 8 with fail
   have HA1 := heap_alloc_new U0 (.cells #[.int .i64 1300, .int .i64 1500, .int .i64 1600, .int .i64 1700] 3)
   have HAB1 := below1 U0 (.cells #[.int .i64 1300, .int .i64 1500, .int .i64 1600, .int .i64 1700] 3)
   have HAS1 := blk_lt HA1
   generalize U0.alloc (Obj.cells #[.int .i64 1300, .int .i64 1500, .int .i64 1600, .int .i64 1700] 3) = V1 at *
   have HV1 := Lib.hid (show V1.heap[U0.heap.size]? = some (.cells (scI1.map (Value.int .i64)).toArray 3 (0, 0)) from HA1)
   have hbv1 := hbU0.trans (HAB1.mono hbU0.size)
   have HOV1 := Lib.hid (own_below HOWN1.out HAB1)
   clear HA1
   obtain ⟨B1, hB1⟩ : ∃ B, U0.heap.size = B := ⟨_, rfl⟩
   rw [hB1] at HV1 HAS1 ⊢
   clear hB1
   go_loopw [1, 33] (fun v i wr => ∃ k : Nat, k ≤ 4 ∧ i = .int .i64 (k : Int) ∧ wr.ownsRow w.heap.size 87 4 v (4 + k) ((chartS.take (4 + k)).flatMap accL) ∧ Below w.heap.size w wr ∧ wr.heap[B1]? = some (.cells (scI1.map (Value.int .i64)).toArray 3 (0, 0))) (fun _ i _ => 4 - (intOf i).toNat)
   case atStart => exact ⟨0, by omega, rfl, HOV1.out, hbv1, HV1.out⟩
   case round =>
    rename World => U1
    obtain ⟨k, hk, rfl, hown, hb, harr⟩ := hrel
    have HAR := Lib.hid harr
    clear harr
    have HOW := Lib.hid hown
    clear hown
    by_cases hlt : k < 4
    case pos =>
     have hltI : (k : Int) < 4 := by omega
     obtain ⟨q, hq1, hq2⟩ := scI1_at k hlt
     have HST := Lib.hid (chart_step hq2)
     have hcc : U1.cell? ⟨B1, k, none⟩ = some (.int .i64 q) := int_rows HAR.out hq1; clear hq1 hq2
     go_wp2_with fail
     refine (account_c q 1 3 0 U1).mono ?_
     rintro e w3 ⟨rfl, hb3⟩
     have HOW3 := Lib.hid (own_below HOW.out hb3)
     have hb03 := hb.trans (hb3.mono hb.size)
     have HA3 := Lib.hid ((hb3.block _ (blk_lt HAR.out)).trans HAR.out)
     have hsz3 := hb03.size
     go_wp2_with (at_builtin; go_loud (refine wpList_app _ rfl (.tmp 37) (.tmp 40) 24 rfl w.heap.size 87 ia _ 4 32 accs_uty hia hzia hsia hbia rfl (by decide) u1 (4 + k) ((chartS.take (4 + k)).flatMap accL) rfl (HOW3.out.alloc _) (fun _ => True) (some ⟨w3.heap.size, 0, none⟩) 1 1 [.int .i64 q, .int .i64 1, .int .i64 3, .int .i64 0] rfl (rd_new (heap_alloc_new _ _) rfl) (by simp [Value.oneCell']) (by simp only [maxLen]; omega) (by omega) (by simp; omega) ?_); intro v9 w9 hown9 hg9 _)
     go_roundw
     case rel => exact ⟨k + 1, by omega, by go_num, by rw [← Nat.add_assoc, HST.out]; exact hown9, below_grown (hb03.alloc hb03.size _) hg9 (fun q2 hq2 => (HOW3.out.lt _ hq2).1) (Nat.le_refl _), (hg9.block _ (blk_lt (alloc_keep HA3.out _)) (own_other HOW3.out HA3.out (by decide))).trans (alloc_keep HA3.out _)⟩
     case measure => first | exact meas_v hlt | (simp only [intOf]; omega)
    case neg =>
     have hltI : ¬ (k : Int) < 4 := by omega
     obtain rfl : k = 4 := by omega
     have HOWN2 := Lib.hid (show U1.ownsRow w.heap.size 87 4 u1 8 ((chartS.take 8).flatMap accL) from HOW.out)
     have hbU1 := hb
     clear hb HOW hk hlt HAR
     go_wp2_with fail
     refine (account_c 2000 2 1 0 U1).mono ?_
     rintro e x1 ⟨rfl, hx1⟩
     go_wp2_with fail
     refine (account_c 2100 2 1 2000 x1).mono ?_
     rintro e x2 ⟨rfl, hx2⟩
     replace hx2 := hx1.trans (hx2.mono hx1.size)
     have HOX := Lib.hid (own_below HOWN2.out hx2)
     have hbx := hbU1.trans (hx2.mono hbU1.size)
     have hszx := hbx.size
     go_upto_region 13 with (at_builtin; go_loud (refine wpList_app _ rfl (.tmp 43) (.tmp 46) 24 rfl w.heap.size 87 ia _ 4 32 accs_uty hia hzia hsia hbia rfl (by decide) u1 (8) ((chartS.take 8).flatMap accL) rfl (HOX.out.alloc _) (fun _ => True) (some ⟨x2.heap.size, 0, none⟩) 2 2 [.int .i64 2000, .int .i64 2, .int .i64 1, .int .i64 0, .int .i64 2100, .int .i64 2, .int .i64 1, .int .i64 2000] rfl (rd_new (heap_alloc_new _ _) rfl) (by simp [Value.oneCell']) (by simp only [maxLen]; omega) (by omega) (by simp; omega) ?_); intro v9 w9 hown9 hg9 _)
     have HOWN2 := Lib.hid (show w9.ownsRow w.heap.size 87 4 v9 10 ((chartS.take 10).flatMap accL) from hown9)
     have hbw9 : Below w.heap.size w w9 := below_grown (hbx.alloc hbx.size _) hg9 (fun q2 hq2 => (HOX.out.lt _ hq2).1) (Nat.le_refl _)
     clear hown9 hg9 HOX hbx hszx hx1 hx2
     go_upto_region 14 with fail
     have HA2 := heap_alloc_new w9 (.cells #[.int .i64 3000, .int .i64 3100, .int .i64 3200, .int .i64 3300, .int .i64 3400, .int .i64 3500] 3)
     have HAB2 := below1 w9 (.cells #[.int .i64 3000, .int .i64 3100, .int .i64 3200, .int .i64 3300, .int .i64 3400, .int .i64 3500] 3)
     have HAS2 := blk_lt HA2
     generalize w9.alloc (Obj.cells #[.int .i64 3000, .int .i64 3100, .int .i64 3200, .int .i64 3300, .int .i64 3400, .int .i64 3500] 3) = V2 at *
     have HV2 := Lib.hid (show V2.heap[w9.heap.size]? = some (.cells (scI2.map (Value.int .i64)).toArray 3 (0, 0)) from HA2)
     have hbv2 := hbw9.trans (HAB2.mono hbw9.size)
     have HOV2 := Lib.hid (own_below HOWN2.out HAB2)
     clear HA2
     obtain ⟨B2, hB2⟩ : ∃ B, w9.heap.size = B := ⟨_, rfl⟩
     rw [hB2] at HV2 HAS2 ⊢
     clear hB2
     go_loopw [1, 50] (fun v i wr => ∃ k : Nat, k ≤ 6 ∧ i = .int .i64 (k : Int) ∧ wr.ownsRow w.heap.size 87 4 v (10 + k) ((chartS.take (10 + k)).flatMap accL) ∧ Below w.heap.size w wr ∧ wr.heap[B2]? = some (.cells (scI2.map (Value.int .i64)).toArray 3 (0, 0))) (fun _ i _ => 6 - (intOf i).toNat)
     case atStart => exact ⟨0, by omega, rfl, HOV2.out, hbv2, HV2.out⟩
     case round =>
      rename World => U2
      obtain ⟨k, hk, rfl, hown, hb, harr⟩ := hrel
      have HAR := Lib.hid harr
      clear harr
      have HOW := Lib.hid hown
      clear hown
      by_cases hlt : k < 6
      case pos =>
       have hltI : (k : Int) < 6 := by omega
       obtain ⟨q, hq1, hq2⟩ := scI2_at k hlt
       have HST := Lib.hid (chart_step hq2)
       have hcc : U2.cell? ⟨B2, k, none⟩ = some (.int .i64 q) := int_rows HAR.out hq1; clear hq1 hq2
       go_wp2_with fail
       refine (account_c q 3 3 0 U2).mono ?_
       rintro e w3 ⟨rfl, hb3⟩
       have HOW3 := Lib.hid (own_below HOW.out hb3)
       have hb03 := hb.trans (hb3.mono hb.size)
       have HA3 := Lib.hid ((hb3.block _ (blk_lt HAR.out)).trans HAR.out)
       have hsz3 := hb03.size
       go_wp2_with (at_builtin; go_loud (refine wpList_app _ rfl (.tmp 54) (.tmp 57) 24 rfl w.heap.size 87 ia _ 4 32 accs_uty hia hzia hsia hbia rfl (by decide) u1 (10 + k) ((chartS.take (10 + k)).flatMap accL) rfl (HOW3.out.alloc _) (fun _ => True) (some ⟨w3.heap.size, 0, none⟩) 1 1 [.int .i64 q, .int .i64 3, .int .i64 3, .int .i64 0] rfl (rd_new (heap_alloc_new _ _) rfl) (by simp [Value.oneCell']) (by simp only [maxLen]; omega) (by omega) (by simp; omega) ?_); intro v9 w9 hown9 hg9 _)
       go_roundw
       case rel => exact ⟨k + 1, by omega, by go_num, by rw [← Nat.add_assoc, HST.out]; exact hown9, below_grown (hb03.alloc hb03.size _) hg9 (fun q2 hq2 => (HOW3.out.lt _ hq2).1) (Nat.le_refl _), (hg9.block _ (blk_lt (alloc_keep HA3.out _)) (own_other HOW3.out HA3.out (by decide))).trans (alloc_keep HA3.out _)⟩
       case measure => first | exact meas_v hlt | (simp only [intOf]; omega)
      case neg =>
       have hltI : ¬ (k : Int) < 6 := by omega
       obtain rfl : k = 6 := by omega
       have HOWN3 := Lib.hid (show U2.ownsRow w.heap.size 87 4 u1 16 ((chartS.take 16).flatMap accL) from HOW.out)
       have hbU2 := hb
       clear hb HOW hk hlt HAR
       go_upto_region 19 with fail
       have HA3 := heap_alloc_new U2 (.cells #[.int .i64 4000, .int .i64 0, .int .i64 4100, .int .i64 4000, .int .i64 4500, .int .i64 0, .int .i64 4600, .int .i64 0, .int .i64 4700, .int .i64 0] 141)
       have HAB3 := below1 U2 (.cells #[.int .i64 4000, .int .i64 0, .int .i64 4100, .int .i64 4000, .int .i64 4500, .int .i64 0, .int .i64 4600, .int .i64 0, .int .i64 4700, .int .i64 0] 141)
       have HAS3 := blk_lt HA3
       generalize U2.alloc (Obj.cells #[.int .i64 4000, .int .i64 0, .int .i64 4100, .int .i64 4000, .int .i64 4500, .int .i64 0, .int .i64 4600, .int .i64 0, .int .i64 4700, .int .i64 0] 141) = V3 at *
       have HV3 := Lib.hid (show V3.heap[U2.heap.size]? = some (.cells (scP2.flatMap pairL).toArray 141 (0, 0)) from HA3)
       have hbv3 := hbU2.trans (HAB3.mono hbU2.size)
       have HOV3 := Lib.hid (own_below HOWN3.out HAB3)
       clear HA3
       obtain ⟨B3, hB3⟩ : ∃ B, U2.heap.size = B := ⟨_, rfl⟩
       rw [hB3] at HV3 HAS3 ⊢
       clear hB3
       go_loopw [1, 67] (fun v i wr => ∃ k : Nat, k ≤ 5 ∧ i = .int .i64 (k : Int) ∧ wr.ownsRow w.heap.size 87 4 v (16 + k) ((chartS.take (16 + k)).flatMap accL) ∧ Below w.heap.size w wr ∧ wr.heap[B3]? = some (.cells (scP2.flatMap pairL).toArray 141 (0, 0))) (fun _ i _ => 5 - (intOf i).toNat)
       case atStart => exact ⟨0, by omega, rfl, HOV3.out, hbv3, HV3.out⟩
       case round =>
        rename World => U3
        obtain ⟨k, hk, rfl, hown, hb, harr⟩ := hrel
        have HAR := Lib.hid harr
        clear harr
        have HOW := Lib.hid hown
        clear hown
        by_cases hlt : k < 5
        case pos =>
         have hltI : (k : Int) < 5 := by omega
         obtain ⟨q, hq1, hq2⟩ := scP2_at k hlt
         have HST := Lib.hid (chart_step hq2)
         have HR := Lib.hid (show U3.rangeAt B3 (k * 2) [.int .i64 q.1, .int .i64 q.2] from pair_rows HAR.out hq1)
         clear hq1 hq2
         go_upto_region 21 with (first | (show wpList _ _ _ (Oper.mk (some 70) _ _ _ _ _ :: _) _ _; refine wpList_load_mid rfl 141 (.tmp 69) rfl B3 (k * 2) rfl [.int .i64 q.1, .int .i64 q.2] _ HR.out Tryz.underlying141 rfl info_pair ?_) | (show wpList _ _ _ (Oper.mk none (Op.store _ (Operand.tmp 9) _) _ _ _ _ :: _) _ _; refine wpList_store_fresh3 rfl 141 (.tmp 9) (.tmp 70) rfl rfl U3 #[.int .i64 0, .int .i64 0] 141 #[.int .i64 q.1, .int .i64 q.2] rfl rfl rfl info_pair rfl (by simp [Value.oneCell']) ?_; intro w2 H2 HB2 HS2))
         have c0 := blk_cell H2 0
         have c1 := blk_cell H2 1
         clear H2
         go_wp2_with fail
         refine (account_c q.1 4 2 q.2 w2).mono ?_
         rintro e w3 ⟨rfl, hb3⟩
         replace hb3 := HB2.trans (hb3.mono HB2.size)
         have HOW3 := Lib.hid (own_below HOW.out hb3)
         have hb03 := hb.trans (hb3.mono hb.size)
         have HA3 := Lib.hid ((hb3.block _ (blk_lt HAR.out)).trans HAR.out)
         have hsz3 := hb03.size
         go_wp2_with (at_builtin; go_loud (refine wpList_app _ rfl (.tmp 71) (.tmp 77) 24 rfl w.heap.size 87 ia _ 4 32 accs_uty hia hzia hsia hbia rfl (by decide) u1 (16 + k) ((chartS.take (16 + k)).flatMap accL) rfl (HOW3.out.alloc _) (fun _ => True) (some ⟨w3.heap.size, 0, none⟩) 1 1 [.int .i64 q.1, .int .i64 4, .int .i64 2, .int .i64 q.2] rfl (rd_new (heap_alloc_new _ _) rfl) (by simp [Value.oneCell']) (by simp only [maxLen]; omega) (by omega) (by simp; omega) ?_); intro v9 w9 hown9 hg9 _)
         go_roundw
         case rel => exact ⟨k + 1, by omega, by go_num, by rw [← Nat.add_assoc, HST.out]; exact hown9, below_grown (hb03.alloc hb03.size _) hg9 (fun q2 hq2 => (HOW3.out.lt _ hq2).1) (Nat.le_refl _), (hg9.block _ (blk_lt (alloc_keep HA3.out _)) (own_other HOW3.out HA3.out (by decide))).trans (alloc_keep HA3.out _)⟩
         case measure => first | exact meas_v hlt | (simp only [intOf]; omega)
        case neg =>
         have hltI : ¬ (k : Int) < 5 := by omega
         obtain rfl : k = 5 := by omega
         have HOWN4 := Lib.hid (show U3.ownsRow w.heap.size 87 4 u1 21 ((chartS.take 21).flatMap accL) from HOW.out)
         have hbU3 := hb
         clear hb HOW hk hlt HAR
         go_upto_region 24 with fail
         have HA4 := heap_alloc_new U3 (.cells #[.int .i64 5000, .int .i64 5100, .int .i64 5500, .int .i64 5600, .int .i64 5700] 3)
         have HAB4 := below1 U3 (.cells #[.int .i64 5000, .int .i64 5100, .int .i64 5500, .int .i64 5600, .int .i64 5700] 3)
         have HAS4 := blk_lt HA4
         generalize U3.alloc (Obj.cells #[.int .i64 5000, .int .i64 5100, .int .i64 5500, .int .i64 5600, .int .i64 5700] 3) = V4 at *
         have HV4 := Lib.hid (show V4.heap[U3.heap.size]? = some (.cells (scI3.map (Value.int .i64)).toArray 3 (0, 0)) from HA4)
         have hbv4 := hbU3.trans (HAB4.mono hbU3.size)
         have HOV4 := Lib.hid (own_below HOWN4.out HAB4)
         clear HA4
         obtain ⟨B4, hB4⟩ : ∃ B, U3.heap.size = B := ⟨_, rfl⟩
         rw [hB4] at HV4 HAS4 ⊢
         clear hB4
         go_loopw [1, 82] (fun v i wr => ∃ k : Nat, k ≤ 5 ∧ i = .int .i64 (k : Int) ∧ wr.ownsRow w.heap.size 87 4 v (21 + k) ((chartS.take (21 + k)).flatMap accL) ∧ Below w.heap.size w wr ∧ wr.heap[B4]? = some (.cells (scI3.map (Value.int .i64)).toArray 3 (0, 0))) (fun _ i _ => 5 - (intOf i).toNat)
         case atStart => exact ⟨0, by omega, rfl, HOV4.out, hbv4, HV4.out⟩
         case round =>
          rename World => U4
          obtain ⟨k, hk, rfl, hown, hb, harr⟩ := hrel
          have HAR := Lib.hid harr
          clear harr
          have HOW := Lib.hid hown
          clear hown
          by_cases hlt : k < 5
          case pos =>
           have hltI : (k : Int) < 5 := by omega
           obtain ⟨q, hq1, hq2⟩ := scI3_at k hlt
           have HST := Lib.hid (chart_step hq2)
           have hcc : U4.cell? ⟨B4, k, none⟩ = some (.int .i64 q) := int_rows HAR.out hq1; clear hq1 hq2
           go_wp2_with fail
           refine (account_c q 5 2 0 U4).mono ?_
           rintro e w3 ⟨rfl, hb3⟩
           have HOW3 := Lib.hid (own_below HOW.out hb3)
           have hb03 := hb.trans (hb3.mono hb.size)
           have HA3 := Lib.hid ((hb3.block _ (blk_lt HAR.out)).trans HAR.out)
           have hsz3 := hb03.size
           go_wp2_with (at_builtin; go_loud (refine wpList_app _ rfl (.tmp 86) (.tmp 89) 24 rfl w.heap.size 87 ia _ 4 32 accs_uty hia hzia hsia hbia rfl (by decide) u1 (21 + k) ((chartS.take (21 + k)).flatMap accL) rfl (HOW3.out.alloc _) (fun _ => True) (some ⟨w3.heap.size, 0, none⟩) 1 1 [.int .i64 q, .int .i64 5, .int .i64 2, .int .i64 0] rfl (rd_new (heap_alloc_new _ _) rfl) (by simp [Value.oneCell']) (by simp only [maxLen]; omega) (by omega) (by simp; omega) ?_); intro v9 w9 hown9 hg9 _)
           go_roundw
           case rel => exact ⟨k + 1, by omega, by go_num, by rw [← Nat.add_assoc, HST.out]; exact hown9, below_grown (hb03.alloc hb03.size _) hg9 (fun q2 hq2 => (HOW3.out.lt _ hq2).1) (Nat.le_refl _), (hg9.block _ (blk_lt (alloc_keep HA3.out _)) (own_other HOW3.out HA3.out (by decide))).trans (alloc_keep HA3.out _)⟩
           case measure => first | exact meas_v hlt | (simp only [intOf]; omega)
          case neg =>
           have hltI : ¬ (k : Int) < 5 := by omega
           obtain rfl : k = 5 := by omega
           have HOWN5 := Lib.hid (show U4.ownsRow w.heap.size 87 4 u1 26 ((chartS.take 26).flatMap accL) from HOW.out)
           have hbU4 := hb
           clear hb HOW hk hlt HAR
           go_wp2_with fail
           go_ret
           exact ⟨_, rfl, own_listC (El := AccountC) (f := accL) (fun _ => rfl) (show U4.ownsRow w.heap.size 87 4 u1 chartS.length (chartS.flatMap accL) from HOWN5.out) (fun x hx => accC_of (chartS_bd x hx)) (fun q hq => by have := HOWN5.out.lt _ hq; omega) (by decide), hbU4⟩
set_option maxHeartbeats 4000000 in
theorem pEntity_c (nm cu : ByteArray) (jb : Bool) (w : World) : Calls Tryz.prog 62 #[.string nm, .string cu, .bool jb] w (fun e w' => ∃ vs : List Value, e = .returned (.agg vs.toArray) ∧ EntityC w' (fun k => w.heap.size ≤ k ∧ k < w'.heap.size) vs (entS nm cu jb) ∧ Below w.heap.size w w') := by
 obtain ⟨ia, hia, hzia, hsia, hbia⟩ := info_parts info_accA
 obtain ⟨il, hil, hzil, hsil, hbil⟩ := info_parts info_linkA
 go_enter Tryz.func62, Tryz.ntmps62
 go_upto_region 4 with fail
 have HZ := heap_alloc_new w (.cells #[.string ⟨#[]⟩, .string ⟨#[]⟩, .slice none 0 0, .slice none 0 0, .bool false] 92)
 have eb1 := below1 w (.cells #[.string ⟨#[]⟩, .string ⟨#[]⟩, .slice none 0 0, .slice none 0 0, .bool false] 92)
 have ez1 : (w.alloc (.cells #[.string ⟨#[]⟩, .string ⟨#[]⟩, .slice none 0 0, .slice none 0 0, .bool false] 92)).heap.size = w.heap.size + 1 := by simp
 generalize w.alloc (Obj.cells #[.string ⟨#[]⟩, .string ⟨#[]⟩, .slice none 0 0, .slice none 0 0, .bool false] 92) = W1 at *
 have HE := heap_alloc_new W1 (.cells #[.string nm, .string cu, .slice none 0 0, .slice none 0 0, .bool jb] 92)
 have eb2 := below1 W1 (.cells #[.string nm, .string cu, .slice none 0 0, .slice none 0 0, .bool jb] 92)
 have ez2 : (W1.alloc (.cells #[.string nm, .string cu, .slice none 0 0, .slice none 0 0, .bool jb] 92)).heap.size = W1.heap.size + 1 := by simp
 replace HZ := alloc_keep HZ (Obj.cells #[.string nm, .string cu, .slice none 0 0, .slice none 0 0, .bool jb] 92)
 generalize W1.alloc (Obj.cells #[.string nm, .string cu, .slice none 0 0, .slice none 0 0, .bool jb] 92) = W2 at *
 have HK := heap_alloc_new W2 (.cells #[.int .i64 1, .int .i64 1, .int .i64 1, .int .i64 1, .int .i64 1, .int .i64 2, .int .i64 2, .int .i64 3, .int .i64 3, .int .i64 4, .int .i64 4, .int .i64 4, .int .i64 5, .int .i64 5] 3)
 have eb3 := below1 W2 (.cells #[.int .i64 1, .int .i64 1, .int .i64 1, .int .i64 1, .int .i64 1, .int .i64 2, .int .i64 2, .int .i64 3, .int .i64 3, .int .i64 4, .int .i64 4, .int .i64 4, .int .i64 5, .int .i64 5] 3)
 have ez3 : (W2.alloc (.cells #[.int .i64 1, .int .i64 1, .int .i64 1, .int .i64 1, .int .i64 1, .int .i64 2, .int .i64 2, .int .i64 3, .int .i64 3, .int .i64 4, .int .i64 4, .int .i64 4, .int .i64 5, .int .i64 5] 3)).heap.size = W2.heap.size + 1 := by simp
 replace HZ := alloc_keep HZ (Obj.cells #[.int .i64 1, .int .i64 1, .int .i64 1, .int .i64 1, .int .i64 1, .int .i64 2, .int .i64 2, .int .i64 3, .int .i64 3, .int .i64 4, .int .i64 4, .int .i64 4, .int .i64 5, .int .i64 5] 3)
 replace HE := alloc_keep HE (Obj.cells #[.int .i64 1, .int .i64 1, .int .i64 1, .int .i64 1, .int .i64 1, .int .i64 2, .int .i64 2, .int .i64 3, .int .i64 3, .int .i64 4, .int .i64 4, .int .i64 4, .int .i64 5, .int .i64 5] 3)
 generalize W2.alloc (Obj.cells #[.int .i64 1, .int .i64 1, .int .i64 1, .int .i64 1, .int .i64 1, .int .i64 2, .int .i64 2, .int .i64 3, .int .i64 3, .int .i64 4, .int .i64 4, .int .i64 4, .int .i64 5, .int .i64 5] 3) = W3 at *
 have HT := heap_alloc_new W3 (.cells #[.int .i64 1010, .int .i64 1100, .int .i64 1200, .int .i64 1300, .int .i64 1500, .int .i64 2000, .int .i64 2100, .int .i64 3000, .int .i64 3300, .int .i64 4000, .int .i64 4100, .int .i64 4700, .int .i64 5000, .int .i64 5100] 3)
 have eb4 := below1 W3 (.cells #[.int .i64 1010, .int .i64 1100, .int .i64 1200, .int .i64 1300, .int .i64 1500, .int .i64 2000, .int .i64 2100, .int .i64 3000, .int .i64 3300, .int .i64 4000, .int .i64 4100, .int .i64 4700, .int .i64 5000, .int .i64 5100] 3)
 have ez4 : (W3.alloc (.cells #[.int .i64 1010, .int .i64 1100, .int .i64 1200, .int .i64 1300, .int .i64 1500, .int .i64 2000, .int .i64 2100, .int .i64 3000, .int .i64 3300, .int .i64 4000, .int .i64 4100, .int .i64 4700, .int .i64 5000, .int .i64 5100] 3)).heap.size = W3.heap.size + 1 := by simp
 replace HZ := alloc_keep HZ (Obj.cells #[.int .i64 1010, .int .i64 1100, .int .i64 1200, .int .i64 1300, .int .i64 1500, .int .i64 2000, .int .i64 2100, .int .i64 3000, .int .i64 3300, .int .i64 4000, .int .i64 4100, .int .i64 4700, .int .i64 5000, .int .i64 5100] 3)
 replace HE := alloc_keep HE (Obj.cells #[.int .i64 1010, .int .i64 1100, .int .i64 1200, .int .i64 1300, .int .i64 1500, .int .i64 2000, .int .i64 2100, .int .i64 3000, .int .i64 3300, .int .i64 4000, .int .i64 4100, .int .i64 4700, .int .i64 5000, .int .i64 5100] 3)
 replace HK := alloc_keep HK (Obj.cells #[.int .i64 1010, .int .i64 1100, .int .i64 1200, .int .i64 1300, .int .i64 1500, .int .i64 2000, .int .i64 2100, .int .i64 3000, .int .i64 3300, .int .i64 4000, .int .i64 4100, .int .i64 4700, .int .i64 5000, .int .i64 5100] 3)
 generalize W3.alloc (Obj.cells #[.int .i64 1010, .int .i64 1100, .int .i64 1200, .int .i64 1300, .int .i64 1500, .int .i64 2000, .int .i64 2100, .int .i64 3000, .int .i64 3300, .int .i64 4000, .int .i64 4100, .int .i64 4700, .int .i64 5000, .int .i64 5100] 3) = W4 at *
 rw [ez1] at HE
 rw [ez2, ez1] at HK
 rw [ez3, ez2, ez1] at HT
 have hb4 : Below w.heap.size w W4 := eb1.trans ((eb2.mono (by omega)).trans ((eb3.mono (by omega)).trans (eb4.mono (by omega))))
 have hz4 : W4.heap.size = w.heap.size + 4 := by omega
 have HZ' := Lib.hid HZ
 have HTO := Lib.hid (show W4.heap[w.heap.size + 1 + 1 + 1]? = some (.cells (iv tosS).toArray 3 (0, 0)) from HT)
 have HKI := Lib.hid (show W4.heap[w.heap.size + 1 + 1]? = some (.cells (iv kindsS).toArray 3 (0, 0)) from HK)
 have HE' := Lib.hid HE
 have HZ4 := Lib.hid hz4
 clear HZ HT HK HE ez1 ez2 ez3 ez4 eb1 eb2 eb3 eb4 hz4
 go_wp2_with fail
 go_loopw [21] (fun i wr => ∃ (k : Nat) (vC vL : Value), k ≤ 14 ∧ i = .int .i64 (k : Int) ∧ Fr (QX W4.heap.size (w.heap.size + 1)) W4 wr ∧ wr.heap[w.heap.size + 1]? = some (.cells #[.string nm, .string cu, vC, vL, .bool jb] 92 (0, 0)) ∧ wr.ownsRow W4.heap.size 87 4 vC k ((echartS.take k).flatMap accL) ∧ wr.ownsRow W4.heap.size 135 3 vL k ((elinksS.take k).flatMap linkL) ∧ (∀ g, vC.ownBlock = some g → vL.ownBlock ≠ some g)) (fun i _ => 14 - (intOf i).toNat)
 case atStart => exact ⟨0, _, _, by omega, rfl, Fr.refl _ _, HE'.out, World.ownsRow_nil _ _ _ _, World.ownsRow_nil _ _ _ _, fun g h => by cases h⟩
 case round =>
  obtain ⟨k, vC, vL, hk, rfl, hfr, hE, hoC, hoL, hne⟩ := hrel
  have HF := Lib.hid hfr
  have hsz := hfr.size
  have HEW := Lib.hid hE
  have HOC := Lib.hid hoC
  have HOL := Lib.hid hoL
  have HNE := Lib.hid hne
  clear hfr hE hoC hoL hne
  by_cases hlt : k < 14
  case pos =>
   have hltI : (k : Int) < 14 := by omega
   obtain ⟨K1, hK1⟩ : ∃ x, kindsS.getD k 0 = x := ⟨_, rfl⟩
   obtain ⟨K2, hK2⟩ : ∃ x, tosS.getD k 0 = x := ⟨_, rfl⟩
   have hkc : wr.cell? ⟨w.heap.size + 1 + 1, k, none⟩ = some (.int .i64 K1) := by
    rw [(HF.out.cell (p := ⟨w.heap.size + 1 + 1, k, none⟩) ⟨by have := HZ4.out; show w.heap.size + 1 + 1 < _; omega, by show w.heap.size + 1 + 1 ≠ _; omega⟩), blk_cell HKI.out k]
    rw [← hK1]
    simp only [iv, List.map_toArray, List.getElem?_toArray, List.getElem?_map, List.getD_eq_getElem?_getD]
    rw [List.getElem?_eq_getElem (show k < kindsS.length from hlt)]; rfl
   have htc : wr.cell? ⟨w.heap.size + 1 + 1 + 1, k, none⟩ = some (.int .i64 K2) := by
    rw [(HF.out.cell (p := ⟨w.heap.size + 1 + 1 + 1, k, none⟩) ⟨by have := HZ4.out; show w.heap.size + 1 + 1 + 1 < _; omega, by show w.heap.size + 1 + 1 + 1 ≠ _; omega⟩), blk_cell HTO.out k]
    rw [← hK2]
    simp only [iv, List.map_toArray, List.getElem?_toArray, List.getElem?_map, List.getD_eq_getElem?_getD]
    rw [List.getElem?_eq_getElem (show k < tosS.length from hlt)]; rfl
   have HA := Lib.hid (take_flat (f := accL) (echart_at k hlt))
   have HL := Lib.hid (take_flat (f := linkL) (elinks_at k hlt))
   rw [hK1] at HA
   rw [hK2] at HL
   have c2 := blk_cell HEW.out 2
   have c2A : ∀ o : Obj, (wr.alloc o).cell? ⟨w.heap.size + 1, 2, none⟩ = some vC := fun o => blk_cell (alloc_keep HEW.out o) 2
   have HTC := Lib.hid htc
   clear hK1 hK2 htc
   have NEC := Lib.hid (show some (w.heap.size + 1) ≠ vC.ownBlock from fun e => by have := (HOC.out.lt _ e.symm).1; have := HZ4.out; omega)
   have NEL := Lib.hid (show some (w.heap.size + 1) ≠ vL.ownBlock from fun e => by have := (HOL.out.lt _ e.symm).1; have := HZ4.out; omega)
   have hnm := HZ4.out
   have hu : IntKind.i64.wrap ((k : Int) + 1) = (k : Int) + 1 := by rw [IntKind.wrap_i64]; omega
   have hu2 : IntKind.i64.wrap (10 * ((k : Int) + 1)) = 10 * ((k : Int) + 1) := by rw [IntKind.wrap_i64]; omega
   go_upto_region 8 with fail
   go_upto_region 9 with (at_builtin; refine wpList_app _ rfl (.tmp 30) (.tmp 34) 24 rfl W4.heap.size 87 ia _ 4 32 accs_uty hia hzia hsia hbia rfl (by decide) vC k ((echartS.take k).flatMap accL) (by rfl) (by exact (own_below HOC.out ((Below.refl _ _).alloc (Nat.le_refl _) _))) (fun _ => True) (some ⟨_, 0, none⟩) 1 1 [.int .i64 (10 * ((k : Int) + 1)), .int .i64 K1, .int .i64 0, .int .i64 0] (by rfl) (by exact rd_new (w := wr.alloc _) (heap_alloc_new wr _) rfl) (by simp [Value.oneCell']) (by unfold maxLen; omega) (by omega) (by simp; omega) ?_; intro v2 w2 hown2 hg2 hat2; obtain ⟨A2, n2, cc2, rfl⟩ := own_shape hown2; have hE2 := (hg2.block (w.heap.size + 1) (blk_lt (alloc_keep HEW.out _)) NEC.out).trans (alloc_keep HEW.out _); have hc2 := blk_cell hE2 2; have hf2 := blk_frozen hE2 2)
   obtain ⟨hoC, hoL, hfr, hne⟩ := ent_step (i := 2) (by have := HZ4.out; omega) HF.out ((Below.refl _ _).alloc (Nat.le_refl _) _) hg2 (fun g h => (HOC.out.lt _ h).1) HOL.out HNE.out hat2 hown2
   rw [← HA.out] at hoC
   have hE := heap_setCell_same hE2 2 (.slice A2 n2 cc2)
   generalize w2.setCell ⟨w.heap.size + 1, 2, none⟩ (.slice A2 n2 cc2) = wc at *
   have HEC := Lib.hid hE
   have HOC2 := Lib.hid hoC
   have HOL2 := Lib.hid hoL
   have HFC := Lib.hid hfr
   have HNE2 := Lib.hid hne
   have c3 := blk_cell hE 3
   have hsc := hfr.size
   clear hE hoC hoL hfr hne c2A c2 hc2 hf2 hE2 hat2 hg2 hown2 hkc
   have htc2 : wc.cell? ⟨w.heap.size + 1 + 1 + 1, k, none⟩ = some (.int .i64 K2) :=
    (HFC.out.cell (p := ⟨w.heap.size + 1 + 1 + 1, k, none⟩) ⟨by have := HZ4.out; show w.heap.size + 1 + 1 + 1 < _; omega, by show w.heap.size + 1 + 1 + 1 ≠ _; omega⟩).trans ((HF.out.cell (p := ⟨w.heap.size + 1 + 1 + 1, k, none⟩) ⟨by have := HZ4.out; show w.heap.size + 1 + 1 + 1 < _; omega, by show w.heap.size + 1 + 1 + 1 ≠ _; omega⟩).symm.trans HTC.out)
   have c3A : ∀ o : Obj, (wc.alloc o).cell? ⟨w.heap.size + 1, 3, none⟩ = some vL := fun o => blk_cell (alloc_keep HEC.out o) 3
   have htA : ∀ o : Obj, (wc.alloc o).cell? ⟨w.heap.size + 1 + 1 + 1, k, none⟩ = some (.int .i64 K2) := fun o => ((below1 wc o).cell (p := ⟨w.heap.size + 1 + 1 + 1, k, none⟩) (by have := HZ4.out; show w.heap.size + 1 + 1 + 1 < _; omega)).trans htc2
   go_region_law (refine step_app _ (by rfl) _ _ 90 (by rfl) W4.heap.size 135 il _ 3 24 links_uty hil hzil hsil hbil rfl (by decide) vL k ((elinksS.take k).flatMap linkL) (by rfl) (by exact (own_below HOL2.out (((Below.refl _ _).alloc (Nat.le_refl _) _).drew))) (fun _ => True) (some ⟨_, 0, none⟩) 1 1 [.int .i64 (10 * ((k : Int) + 1)), .int .i64 K2, .int .i64 (-25567)] (by rfl) (by exact rd_new (w := World.drew (wc.alloc _)) (heap_alloc_new wc _) rfl) (by simp [Value.oneCell']) (by unfold maxLen; omega) (by omega) (by simp; omega) ?_; intro v2 w2 hown2 hg2 hat2; obtain ⟨A3, n3, cc3, rfl⟩ := own_shape hown2; have hE2 := (hg2.block (w.heap.size + 1) (blk_lt (alloc_keep HEC.out _)) NEL.out).trans (alloc_keep HEC.out _); have hc2 := blk_cell hE2 3; have hf2 := blk_frozen hE2 3)
   all_goals (go_wp2_with fail)
   all_goals (
    go_roundw
    case rel =>
     obtain ⟨h1, h2, h3, h4⟩ := ent_step (i := 3) (by have := HZ4.out; omega) HFC.out (((Below.refl _ _).alloc (Nat.le_refl _) _).drew) hg2 (fun g h => (HOL2.out.lt _ h).1) HOC2.out (fun g h h' => HNE2.out g h' h) hat2 hown2
     rw [← HL.out] at h1
     exact ⟨k + 1, _, _, by omega, by go_num, h3, heap_setCell_same hE2 3 _, h2, h1, fun g h h' => h4 g h' h⟩
    case measure => first | exact meas_v hlt | (simp only [intOf]; omega))
  case neg =>
   have hltI : ¬ (k : Int) < 14 := by omega
   have hk14 : k = 14 := by omega
   have HOC3 := Lib.hid (show wr.ownsRow W4.heap.size 87 4 vC echartS.length (echartS.flatMap accL) by have h := HOC.out; rw [hk14] at h; exact h)
   have HOL3 := Lib.hid (show wr.ownsRow W4.heap.size 135 3 vL elinksS.length (elinksS.flatMap linkL) by have h := HOL.out; rw [hk14] at h; exact h)
   clear hk14
   have HZR := Lib.hid ((HF.out.block w.heap.size ⟨by have := HZ4.out; omega, by omega⟩).trans HZ'.out)
   have LTR := blk_lt HZR.out
   go_wp2_with (first | (show wpList _ _ _ (Oper.mk (some 49) _ _ _ _ _ :: _) _ _; refine wpList_load_row_g rfl 92 (.tmp 7) rfl (w.heap.size + 1) rfl _ _ _ _ HEW.out Tryz.underlying92 rfl info_entity ?_) | (show wpList _ _ _ (Oper.mk none (Op.store _ (Operand.tmp 6) _) _ _ _ _ :: _) _ _; refine wpList_store_row rfl 92 (.tmp 6) (.tmp 49) rfl w.heap.size #[.string nm, .string cu, vC, vL, .bool jb] rfl rfl 92 #[.string ⟨#[]⟩, .string ⟨#[]⟩, .slice none 0 0, .slice none 0 0, .bool false] HZR.out info_entity rfl (by obtain ⟨_, _, _, rfl⟩ := own_shape HOC3.out; obtain ⟨_, _, _, rfl⟩ := own_shape HOL3.out; simp [Value.oneCell']) ?_))
   refine bodyPost_ret (v := _) (results_cell rfl _ _ w.heap.size 92 _ (0, 0) _ rfl (heap_setRow HZR.out _) Tryz.underlying92 rfl info_entity) rfl ?_
   have hsz' := HF.out.size
   have hz := HZ4.out
   have hb9 : Below w.heap.size w (wr.setRow w.heap.size #[.string nm, .string cu, vC, vL, .bool jb]) := below_setRow (((Fr.ofBelow hb4).trans (HF.out.mono (fun k (hk : k < w.heap.size) => ⟨by omega, by omega⟩))).below) (Nat.le_refl _) _
   have hsr : (wr.setRow w.heap.size #[.string nm, .string cu, vC, vL, .bool jb]).heap.size = wr.heap.size := by simp
   have o1 := own_same (w' := wr.setRow w.heap.size #[.string nm, .string cu, vC, vL, .bool jb]) HOC3.out (fun g hg => (fr_setRow wr w.heap.size _).block g (by have := (HOC3.out.lt _ hg).1; show g ≠ _; omega))
   have o2 := own_same (w' := wr.setRow w.heap.size #[.string nm, .string cu, vC, vL, .bool jb]) HOL3.out (fun g hg => (fr_setRow wr w.heap.size _).block g (by have := (HOL3.out.lt _ hg).1; show g ≠ _; omega))
   have l1 := own_listC (El := AccountC) (f := accL) (fun _ => rfl) o1 (Q := fun k => w.heap.size ≤ k ∧ k < (wr.setRow w.heap.size #[.string nm, .string cu, vC, vL, .bool jb]).heap.size) (fun x hx => accC_of (echart_bd x hx)) (fun g hg => by have := o1.lt _ hg; omega) (by decide)
   have l2 := own_listC (El := LinkC) (f := linkL) (fun _ => rfl) o2 (Q := fun k => w.heap.size ≤ k ∧ k < (wr.setRow w.heap.size #[.string nm, .string cu, vC, vL, .bool jb]).heap.size) (fun x hx => linkC_of (elinks_bd x hx)) (fun g hg => by have := o2.lt _ hg; omega) (by decide)
   exact ⟨[.string nm, .string cu, vC, vL, .bool jb], rfl, ⟨[_], [_], [_], [_], [_], rfl, rfl, rfl, l1, l2, rfl⟩, hb9⟩
theorem built_groupE (s : ByteArray) (y m p : Int) (A : Option Addr) (n c : Nat) (r0 r1 r2 r3 r4 r5 r6 r7 r8 r9 r10 r11 r12 r13 r14 : Int) (B : Option Addr) (nb cb : Nat) : Tryz.prog.built 29 [(0, .string s), (1, .agg #[.int .i64 y, .int .i64 m, .int .i64 p]), (2, .slice A n c), (3, .agg #[.int .i64 r0, .int .i64 r1, .int .i64 r2, .int .i64 r3, .int .i64 r4, .int .i64 r5, .int .i64 r6, .int .i64 r7, .int .i64 r8, .int .i64 r9, .int .i64 r10, .int .i64 r11, .int .i64 r12, .int .i64 r13, .int .i64 r14]), (4, .slice B nb cb)] = some #[.string s, .int .i64 y, .int .i64 m, .int .i64 p, .slice A n c, .int .i64 r0, .int .i64 r1, .int .i64 r2, .int .i64 r3, .int .i64 r4, .int .i64 r5, .int .i64 r6, .int .i64 r7, .int .i64 r8, .int .i64 r9, .int .i64 r10, .int .i64 r11, .int .i64 r12, .int .i64 r13, .int .i64 r14, .slice B nb cb] := by kernel_rfl
theorem pChart_n (n : Nat) (hn : chartS.length = n) (w : World) : Calls Tryz.prog 61 #[] w (fun e w' => ∃ A c, e = .returned (.slice A n c) ∧ ListC AccountC 4 w' (fun k => w.heap.size ≤ k ∧ k < w'.heap.size) [.slice A chartS.length c] chartS ∧ Below w.heap.size w w') := by
 refine (pChart_c w).mono ?_
 rintro e w' ⟨v, rfl, hl, hb⟩
 obtain ⟨A, c, he, _⟩ := hl.form
 have hv : v = .slice A chartS.length c := by simpa using he
 subst hv
 exact ⟨A, c, by rw [hn], hl, hb⟩
theorem pEntity_n (nE nL : Nat) (hE : echartS.length = nE) (hL : elinksS.length = nL) (nm cu : ByteArray) (jb : Bool) (w : World) : Calls Tryz.prog 62 #[.string nm, .string cu, .bool jb] w (fun e w' => ∃ Ec c Al d, e = .returned (.agg #[.string nm, .string cu, .slice Ec nE c, .slice Al nL d, .bool jb]) ∧ ListC AccountC 4 w' (fun k => w.heap.size ≤ k ∧ k < w'.heap.size) [.slice Ec echartS.length c] echartS ∧ ListC LinkC 3 w' (fun k => w.heap.size ≤ k ∧ k < w'.heap.size) [.slice Al elinksS.length d] elinksS ∧ Below w.heap.size w w') := by
 refine (pEntity_c nm cu jb w).mono ?_
 rintro e w' ⟨vs, rfl, he, hb⟩
 obtain ⟨Ec, c, Al, d, rfl, h1, h2⟩ := he.lit
 subst hE hL
 exact ⟨Ec, c, Al, d, rfl, h1, h2, hb⟩
theorem psample_fin {w W w2 v0 v1 v2 v3 : World} {n nE nL : Nat} {Ac Ec0 Al0 Ec1 Al1 Ec2 Al2 Ec3 Al3 : Option Addr} {cc c0 d0 c1 d1 c2 d2 c3 d3 : Nat} {T : TypeId} (hN : chartS.length = n) (hE : echartS.length = nE) (hL : elinksS.length = nL) (h1 : w.heap.size < W.heap.size) (HB : Below w.heap.size w W) (hb2 : Below W.heap.size W w2) (hbv0 : Below w2.heap.size w2 v0) (hbv1 : Below v0.heap.size v0 v1) (hbv2 : Below v1.heap.size v1 v2) (hbv3 : Below v2.heap.size v2 v3)
 (HCH : ListC AccountC 4 w2 (fun k => W.heap.size ≤ k ∧ k < w2.heap.size) [.slice Ac chartS.length cc] chartS) (HC0 : ListC AccountC 4 v0 (fun k => w2.heap.size ≤ k ∧ k < v0.heap.size) [.slice Ec0 echartS.length c0] echartS) (HL0 : ListC LinkC 3 v0 (fun k => w2.heap.size ≤ k ∧ k < v0.heap.size) [.slice Al0 elinksS.length d0] elinksS) (HC1 : ListC AccountC 4 v1 (fun k => v0.heap.size ≤ k ∧ k < v1.heap.size) [.slice Ec1 echartS.length c1] echartS) (HL1 : ListC LinkC 3 v1 (fun k => v0.heap.size ≤ k ∧ k < v1.heap.size) [.slice Al1 elinksS.length d1] elinksS) (HC2 : ListC AccountC 4 v2 (fun k => v1.heap.size ≤ k ∧ k < v2.heap.size) [.slice Ec2 echartS.length c2] echartS) (HL2 : ListC LinkC 3 v2 (fun k => v1.heap.size ≤ k ∧ k < v2.heap.size) [.slice Al2 elinksS.length d2] elinksS) (HC3 : ListC AccountC 4 v3 (fun k => v2.heap.size ≤ k ∧ k < v3.heap.size) [.slice Ec3 echartS.length c3] echartS) (HL3 : ListC LinkC 3 v3 (fun k => v2.heap.size ≤ k ∧ k < v3.heap.size) [.slice Al3 elinksS.length d3] elinksS) : GroupC ((v3.alloc (Obj.cells #[.string ⟨#[112, 97, 114, 101, 110, 116]⟩, .string ⟨#[69, 85, 82]⟩, .slice Ec0 nE c0, .slice Al0 nL d0, .bool false, .string ⟨#[110, 111, 114, 116, 104]⟩, .string ⟨#[69, 85, 82]⟩, .slice Ec1 nE c1, .slice Al1 nL d1, .bool false, .string ⟨#[119, 101, 115, 116]⟩, .string ⟨#[85, 83, 68]⟩, .slice Ec2 nE c2, .slice Al2 nL d2, .bool false, .string ⟨#[106, 111, 105, 110, 116]⟩, .string ⟨#[85, 83, 68]⟩, .slice Ec3 nE c3, .slice Al3 nL d3, .bool true] T)).setRow w.heap.size #[.string ⟨#[69, 85, 82]⟩, .int .i64 2026, .int .i64 1, .int .i64 36, .slice Ac n cc, .int .i64 1500, .int .i64 1600, .int .i64 1700, .int .i64 1200, .int .i64 3100, .int .i64 3200, .int .i64 3300, .int .i64 3400, .int .i64 3500, .int .i64 4500, .int .i64 4600, .int .i64 4700, .int .i64 5500, .int .i64 5600, .int .i64 5700, .slice (some ⟨v3.heap.size, 0, none⟩) 4 4]) (· < ((v3.alloc (Obj.cells #[.string ⟨#[112, 97, 114, 101, 110, 116]⟩, .string ⟨#[69, 85, 82]⟩, .slice Ec0 nE c0, .slice Al0 nL d0, .bool false, .string ⟨#[110, 111, 114, 116, 104]⟩, .string ⟨#[69, 85, 82]⟩, .slice Ec1 nE c1, .slice Al1 nL d1, .bool false, .string ⟨#[119, 101, 115, 116]⟩, .string ⟨#[85, 83, 68]⟩, .slice Ec2 nE c2, .slice Al2 nL d2, .bool false, .string ⟨#[106, 111, 105, 110, 116]⟩, .string ⟨#[85, 83, 68]⟩, .slice Ec3 nE c3, .slice Al3 nL d3, .bool true] T)).setRow w.heap.size #[.string ⟨#[69, 85, 82]⟩, .int .i64 2026, .int .i64 1, .int .i64 36, .slice Ac n cc, .int .i64 1500, .int .i64 1600, .int .i64 1700, .int .i64 1200, .int .i64 3100, .int .i64 3200, .int .i64 3300, .int .i64 3400, .int .i64 3500, .int .i64 4500, .int .i64 4600, .int .i64 4700, .int .i64 5500, .int .i64 5600, .int .i64 5700, .slice (some ⟨v3.heap.size, 0, none⟩) 4 4]).heap.size) [.string ⟨#[69, 85, 82]⟩, .int .i64 2026, .int .i64 1, .int .i64 36, .slice Ac n cc, .int .i64 1500, .int .i64 1600, .int .i64 1700, .int .i64 1200, .int .i64 3100, .int .i64 3200, .int .i64 3300, .int .i64 3400, .int .i64 3500, .int .i64 4500, .int .i64 4600, .int .i64 4700, .int .i64 5500, .int .i64 5600, .int .i64 5700, .slice (some ⟨v3.heap.size, 0, none⟩) 4 4] sampleG ∧ Below w.heap.size w ((v3.alloc (Obj.cells #[.string ⟨#[112, 97, 114, 101, 110, 116]⟩, .string ⟨#[69, 85, 82]⟩, .slice Ec0 nE c0, .slice Al0 nL d0, .bool false, .string ⟨#[110, 111, 114, 116, 104]⟩, .string ⟨#[69, 85, 82]⟩, .slice Ec1 nE c1, .slice Al1 nL d1, .bool false, .string ⟨#[119, 101, 115, 116]⟩, .string ⟨#[85, 83, 68]⟩, .slice Ec2 nE c2, .slice Al2 nL d2, .bool false, .string ⟨#[106, 111, 105, 110, 116]⟩, .string ⟨#[85, 83, 68]⟩, .slice Ec3 nE c3, .slice Al3 nL d3, .bool true] T)).setRow w.heap.size #[.string ⟨#[69, 85, 82]⟩, .int .i64 2026, .int .i64 1, .int .i64 36, .slice Ac n cc, .int .i64 1500, .int .i64 1600, .int .i64 1700, .int .i64 1200, .int .i64 3100, .int .i64 3200, .int .i64 3300, .int .i64 3400, .int .i64 3500, .int .i64 4500, .int .i64 4600, .int .i64 4700, .int .i64 5500, .int .i64 5600, .int .i64 5700, .slice (some ⟨v3.heap.size, 0, none⟩) 4 4]) := by
 have s2 := hb2.size
 have s3 := hbv0.size
 have s4 := hbv1.size
 have s5 := hbv2.size
 have s6 := hbv3.size
 have hsz : ((v3.alloc (Obj.cells #[.string ⟨#[112, 97, 114, 101, 110, 116]⟩, .string ⟨#[69, 85, 82]⟩, .slice Ec0 nE c0, .slice Al0 nL d0, .bool false, .string ⟨#[110, 111, 114, 116, 104]⟩, .string ⟨#[69, 85, 82]⟩, .slice Ec1 nE c1, .slice Al1 nL d1, .bool false, .string ⟨#[119, 101, 115, 116]⟩, .string ⟨#[85, 83, 68]⟩, .slice Ec2 nE c2, .slice Al2 nL d2, .bool false, .string ⟨#[106, 111, 105, 110, 116]⟩, .string ⟨#[85, 83, 68]⟩, .slice Ec3 nE c3, .slice Al3 nL d3, .bool true] T)).setRow w.heap.size #[.string ⟨#[69, 85, 82]⟩, .int .i64 2026, .int .i64 1, .int .i64 36, .slice Ac n cc, .int .i64 1500, .int .i64 1600, .int .i64 1700, .int .i64 1200, .int .i64 3100, .int .i64 3200, .int .i64 3300, .int .i64 3400, .int .i64 3500, .int .i64 4500, .int .i64 4600, .int .i64 4700, .int .i64 5500, .int .i64 5600, .int .i64 5700, .slice (some ⟨v3.heap.size, 0, none⟩) 4 4]).heap.size = v3.heap.size + 1 := by simp
 have FR : ∀ a : World, Below a.heap.size a v3 → Fr (fun k => w.heap.size < k ∧ k < a.heap.size) a ((v3.alloc (Obj.cells #[.string ⟨#[112, 97, 114, 101, 110, 116]⟩, .string ⟨#[69, 85, 82]⟩, .slice Ec0 nE c0, .slice Al0 nL d0, .bool false, .string ⟨#[110, 111, 114, 116, 104]⟩, .string ⟨#[69, 85, 82]⟩, .slice Ec1 nE c1, .slice Al1 nL d1, .bool false, .string ⟨#[119, 101, 115, 116]⟩, .string ⟨#[85, 83, 68]⟩, .slice Ec2 nE c2, .slice Al2 nL d2, .bool false, .string ⟨#[106, 111, 105, 110, 116]⟩, .string ⟨#[85, 83, 68]⟩, .slice Ec3 nE c3, .slice Al3 nL d3, .bool true] T)).setRow w.heap.size #[.string ⟨#[69, 85, 82]⟩, .int .i64 2026, .int .i64 1, .int .i64 36, .slice Ac n cc, .int .i64 1500, .int .i64 1600, .int .i64 1700, .int .i64 1200, .int .i64 3100, .int .i64 3200, .int .i64 3300, .int .i64 3400, .int .i64 3500, .int .i64 4500, .int .i64 4600, .int .i64 4700, .int .i64 5500, .int .i64 5600, .int .i64 5700, .slice (some ⟨v3.heap.size, 0, none⟩) 4 4]) := fun a h => (((Fr.ofBelow h).mono (fun k hk => hk.2)).trans ((Fr.ofBelow (below1 v3 _)).mono (fun k hk => Nat.lt_of_lt_of_le hk.2 h.size))).trans ((fr_setRow _ w.heap.size _).mono (fun k hk => by have := hk.1; omega))
 have HEF : ((v3.alloc (Obj.cells #[.string ⟨#[112, 97, 114, 101, 110, 116]⟩, .string ⟨#[69, 85, 82]⟩, .slice Ec0 nE c0, .slice Al0 nL d0, .bool false, .string ⟨#[110, 111, 114, 116, 104]⟩, .string ⟨#[69, 85, 82]⟩, .slice Ec1 nE c1, .slice Al1 nL d1, .bool false, .string ⟨#[119, 101, 115, 116]⟩, .string ⟨#[85, 83, 68]⟩, .slice Ec2 nE c2, .slice Al2 nL d2, .bool false, .string ⟨#[106, 111, 105, 110, 116]⟩, .string ⟨#[85, 83, 68]⟩, .slice Ec3 nE c3, .slice Al3 nL d3, .bool true] T)).setRow w.heap.size #[.string ⟨#[69, 85, 82]⟩, .int .i64 2026, .int .i64 1, .int .i64 36, .slice Ac n cc, .int .i64 1500, .int .i64 1600, .int .i64 1700, .int .i64 1200, .int .i64 3100, .int .i64 3200, .int .i64 3300, .int .i64 3400, .int .i64 3500, .int .i64 4500, .int .i64 4600, .int .i64 4700, .int .i64 5500, .int .i64 5600, .int .i64 5700, .slice (some ⟨v3.heap.size, 0, none⟩) 4 4]).heap[v3.heap.size]? = some (.cells #[.string ⟨#[112, 97, 114, 101, 110, 116]⟩, .string ⟨#[69, 85, 82]⟩, .slice Ec0 nE c0, .slice Al0 nL d0, .bool false, .string ⟨#[110, 111, 114, 116, 104]⟩, .string ⟨#[69, 85, 82]⟩, .slice Ec1 nE c1, .slice Al1 nL d1, .bool false, .string ⟨#[119, 101, 115, 116]⟩, .string ⟨#[85, 83, 68]⟩, .slice Ec2 nE c2, .slice Al2 nL d2, .bool false, .string ⟨#[106, 111, 105, 110, 116]⟩, .string ⟨#[85, 83, 68]⟩, .slice Ec3 nE c3, .slice Al3 nL d3, .bool true] T (0, 0)) := setRow_keep (g := w.heap.size) (cs := #[.string ⟨#[69, 85, 82]⟩, .int .i64 2026, .int .i64 1, .int .i64 36, .slice Ac n cc, .int .i64 1500, .int .i64 1600, .int .i64 1700, .int .i64 1200, .int .i64 3100, .int .i64 3200, .int .i64 3300, .int .i64 3400, .int .i64 3500, .int .i64 4500, .int .i64 4600, .int .i64 4700, .int .i64 5500, .int .i64 5600, .int .i64 5700, .slice (some ⟨v3.heap.size, 0, none⟩) 4 4]) (heap_alloc_new v3 _) (by omega)
 have FC := FR w2 (hbv0.trans ((hbv1.mono s3).trans ((hbv2.mono (by omega)).trans (hbv3.mono (by omega)))))
 have hbF : Below w.heap.size w ((v3.alloc (Obj.cells #[.string ⟨#[112, 97, 114, 101, 110, 116]⟩, .string ⟨#[69, 85, 82]⟩, .slice Ec0 nE c0, .slice Al0 nL d0, .bool false, .string ⟨#[110, 111, 114, 116, 104]⟩, .string ⟨#[69, 85, 82]⟩, .slice Ec1 nE c1, .slice Al1 nL d1, .bool false, .string ⟨#[119, 101, 115, 116]⟩, .string ⟨#[85, 83, 68]⟩, .slice Ec2 nE c2, .slice Al2 nL d2, .bool false, .string ⟨#[106, 111, 105, 110, 116]⟩, .string ⟨#[85, 83, 68]⟩, .slice Ec3 nE c3, .slice Al3 nL d3, .bool true] T)).setRow w.heap.size #[.string ⟨#[69, 85, 82]⟩, .int .i64 2026, .int .i64 1, .int .i64 36, .slice Ac n cc, .int .i64 1500, .int .i64 1600, .int .i64 1700, .int .i64 1200, .int .i64 3100, .int .i64 3200, .int .i64 3300, .int .i64 3400, .int .i64 3500, .int .i64 4500, .int .i64 4600, .int .i64 4700, .int .i64 5500, .int .i64 5600, .int .i64 5700, .slice (some ⟨v3.heap.size, 0, none⟩) 4 4]) := below_setRow ((HB.trans ((hb2.mono (by omega)).trans ((hbv0.mono (by omega)).trans ((hbv1.mono (by omega)).trans ((hbv2.mono (by omega)).trans (hbv3.mono (by omega))))))).alloc (by omega) _) (Nat.le_refl _) _
 generalize (v3.alloc (Obj.cells #[.string ⟨#[112, 97, 114, 101, 110, 116]⟩, .string ⟨#[69, 85, 82]⟩, .slice Ec0 nE c0, .slice Al0 nL d0, .bool false, .string ⟨#[110, 111, 114, 116, 104]⟩, .string ⟨#[69, 85, 82]⟩, .slice Ec1 nE c1, .slice Al1 nL d1, .bool false, .string ⟨#[119, 101, 115, 116]⟩, .string ⟨#[85, 83, 68]⟩, .slice Ec2 nE c2, .slice Al2 nL d2, .bool false, .string ⟨#[106, 111, 105, 110, 116]⟩, .string ⟨#[85, 83, 68]⟩, .slice Ec3 nE c3, .slice Al3 nL d3, .bool true] T)).setRow w.heap.size #[.string ⟨#[69, 85, 82]⟩, .int .i64 2026, .int .i64 1, .int .i64 36, .slice Ac n cc, .int .i64 1500, .int .i64 1600, .int .i64 1700, .int .i64 1200, .int .i64 3100, .int .i64 3200, .int .i64 3300, .int .i64 3400, .int .i64 3500, .int .i64 4500, .int .i64 4600, .int .i64 4700, .int .i64 5500, .int .i64 5600, .int .i64 5700, .slice (some ⟨v3.heap.size, 0, none⟩) 4 4] = wF at *
 have F0 := FR v0 (hbv1.trans ((hbv2.mono hbv1.size).trans (hbv3.mono (by omega))))
 have E0 : EntityC wF (· < wF.heap.size) [.string ⟨#[112, 97, 114, 101, 110, 116]⟩, .string ⟨#[69, 85, 82]⟩, .slice Ec0 nE c0, .slice Al0 nL d0, .bool false] (entS ⟨#[112, 97, 114, 101, 110, 116]⟩ ⟨#[69, 85, 82]⟩ false) :=
  ⟨[_], [_], [_], [_], [_], rfl, rfl, rfl, by rw [← hE]; exact ((HC0.mono (fun h => AccountC.mono h (fun k (hk : w2.heap.size ≤ k ∧ k < v0.heap.size) => (show w.heap.size < k ∧ k < v0.heap.size by omega))) (fun k hk => by omega)).fr (fun h => AccountC.fr h F0) F0).mono (fun h => AccountC.mono h (fun k hk => by omega)) (fun k hk => by omega), by rw [← hL]; exact ((HL0.mono (fun h => LinkC.mono h (fun k (hk : w2.heap.size ≤ k ∧ k < v0.heap.size) => (show w.heap.size < k ∧ k < v0.heap.size by omega))) (fun k hk => by omega)).fr (fun h => LinkC.fr h F0) F0).mono (fun h => LinkC.mono h (fun k hk => by omega)) (fun k hk => by omega), rfl⟩
 have F1 := FR v1 (hbv2.trans (hbv3.mono hbv2.size))
 have E1 : EntityC wF (· < wF.heap.size) [.string ⟨#[110, 111, 114, 116, 104]⟩, .string ⟨#[69, 85, 82]⟩, .slice Ec1 nE c1, .slice Al1 nL d1, .bool false] (entS ⟨#[110, 111, 114, 116, 104]⟩ ⟨#[69, 85, 82]⟩ false) :=
  ⟨[_], [_], [_], [_], [_], rfl, rfl, rfl, by rw [← hE]; exact ((HC1.mono (fun h => AccountC.mono h (fun k (hk : v0.heap.size ≤ k ∧ k < v1.heap.size) => (show w.heap.size < k ∧ k < v1.heap.size by omega))) (fun k hk => by omega)).fr (fun h => AccountC.fr h F1) F1).mono (fun h => AccountC.mono h (fun k hk => by omega)) (fun k hk => by omega), by rw [← hL]; exact ((HL1.mono (fun h => LinkC.mono h (fun k (hk : v0.heap.size ≤ k ∧ k < v1.heap.size) => (show w.heap.size < k ∧ k < v1.heap.size by omega))) (fun k hk => by omega)).fr (fun h => LinkC.fr h F1) F1).mono (fun h => LinkC.mono h (fun k hk => by omega)) (fun k hk => by omega), rfl⟩
 have F2 := FR v2 hbv3
 have E2 : EntityC wF (· < wF.heap.size) [.string ⟨#[119, 101, 115, 116]⟩, .string ⟨#[85, 83, 68]⟩, .slice Ec2 nE c2, .slice Al2 nL d2, .bool false] (entS ⟨#[119, 101, 115, 116]⟩ ⟨#[85, 83, 68]⟩ false) :=
  ⟨[_], [_], [_], [_], [_], rfl, rfl, rfl, by rw [← hE]; exact ((HC2.mono (fun h => AccountC.mono h (fun k (hk : v1.heap.size ≤ k ∧ k < v2.heap.size) => (show w.heap.size < k ∧ k < v2.heap.size by omega))) (fun k hk => by omega)).fr (fun h => AccountC.fr h F2) F2).mono (fun h => AccountC.mono h (fun k hk => by omega)) (fun k hk => by omega), by rw [← hL]; exact ((HL2.mono (fun h => LinkC.mono h (fun k (hk : v1.heap.size ≤ k ∧ k < v2.heap.size) => (show w.heap.size < k ∧ k < v2.heap.size by omega))) (fun k hk => by omega)).fr (fun h => LinkC.fr h F2) F2).mono (fun h => LinkC.mono h (fun k hk => by omega)) (fun k hk => by omega), rfl⟩
 have F3 := FR v3 (Below.refl v3.heap.size v3)
 have E3 : EntityC wF (· < wF.heap.size) [.string ⟨#[106, 111, 105, 110, 116]⟩, .string ⟨#[85, 83, 68]⟩, .slice Ec3 nE c3, .slice Al3 nL d3, .bool true] (entS ⟨#[106, 111, 105, 110, 116]⟩ ⟨#[85, 83, 68]⟩ true) :=
  ⟨[_], [_], [_], [_], [_], rfl, rfl, rfl, by rw [← hE]; exact ((HC3.mono (fun h => AccountC.mono h (fun k (hk : v2.heap.size ≤ k ∧ k < v3.heap.size) => (show w.heap.size < k ∧ k < v3.heap.size by omega))) (fun k hk => by omega)).fr (fun h => AccountC.fr h F3) F3).mono (fun h => AccountC.mono h (fun k hk => by omega)) (fun k hk => by omega), by rw [← hL]; exact ((HL3.mono (fun h => LinkC.mono h (fun k (hk : v2.heap.size ≤ k ∧ k < v3.heap.size) => (show w.heap.size < k ∧ k < v3.heap.size by omega))) (fun k hk => by omega)).fr (fun h => LinkC.fr h F3) F3).mono (fun h => LinkC.mono h (fun k hk => by omega)) (fun k hk => by omega), rfl⟩
 have hat := box_at (cs := [.string ⟨#[112, 97, 114, 101, 110, 116]⟩, .string ⟨#[69, 85, 82]⟩, .slice Ec0 nE c0, .slice Al0 nL d0, .bool false] ++ ([.string ⟨#[110, 111, 114, 116, 104]⟩, .string ⟨#[69, 85, 82]⟩, .slice Ec1 nE c1, .slice Al1 nL d1, .bool false] ++ ([.string ⟨#[119, 101, 115, 116]⟩, .string ⟨#[85, 83, 68]⟩, .slice Ec2 nE c2, .slice Al2 nL d2, .bool false] ++ [.string ⟨#[106, 111, 105, 110, 116]⟩, .string ⟨#[85, 83, 68]⟩, .slice Ec3 nE c3, .slice Al3 nL d3, .bool true]))) HEF
 obtain ⟨t0, r0⟩ := hat.split
 obtain ⟨t1, r1⟩ := r0.split
 obtain ⟨t2, t3⟩ := r1.split
 have hents : ListC EntityC 5 wF (· < wF.heap.size) [.slice (some ⟨v3.heap.size, 0, none⟩) 4 4] sampleG.entities := by
  refine ⟨_, _, rfl, Nat.le_refl _, by unfold maxLen; decide, fun _ => ⟨v3.heap.size, 0, rfl, by omega, fun i x hx => ?_⟩⟩
  rcases i with _ | _ | _ | _ | i
  · obtain rfl : _ = x := Option.some.inj hx
    exact ⟨_, E0, t0⟩
  · obtain rfl : _ = x := Option.some.inj hx
    exact ⟨_, E1, t1⟩
  · obtain rfl : _ = x := Option.some.inj hx
    exact ⟨_, E2, t2⟩
  · obtain rfl : _ = x := Option.some.inj hx
    exact ⟨_, E3, t3⟩
  · simp [sampleG] at hx
 refine ⟨⟨[_], [_, _, _], [_], [_, _, _, _, _, _, _, _, _, _, _, _, _, _, _], [_], rfl, rfl, ⟨[_], [_], [_], rfl, ⟨rfl, by decide⟩, ⟨rfl, by decide⟩, ⟨rfl, by decide⟩⟩, by rw [← hN]; exact ((HCH.mono (fun h => AccountC.mono h (fun k (hk : W.heap.size ≤ k ∧ k < w2.heap.size) => (show w.heap.size < k ∧ k < w2.heap.size by omega))) (fun k hk => by omega)).fr (fun h => AccountC.fr h FC) FC).mono (fun h => AccountC.mono h (fun k hk => by omega)) (fun k hk => by omega), ⟨[_], [_], [_], [_], [_], [_], [_], [_], [_], [_], [_], [_], [_], [_], [_], rfl, ⟨rfl, by decide⟩, ⟨rfl, by decide⟩, ⟨rfl, by decide⟩, ⟨rfl, by decide⟩, ⟨rfl, by decide⟩, ⟨rfl, by decide⟩, ⟨rfl, by decide⟩, ⟨rfl, by decide⟩, ⟨rfl, by decide⟩, ⟨rfl, by decide⟩, ⟨rfl, by decide⟩, ⟨rfl, by decide⟩, ⟨rfl, by decide⟩, ⟨rfl, by decide⟩, ⟨rfl, by decide⟩⟩, hents⟩, hbF⟩
set_option maxHeartbeats 4000000 in
theorem psample_c (w : World) : Calls Tryz.prog 34 #[] w (fun e w' => ∃ vs : List Value, e = .returned (.agg vs.toArray) ∧ GroupC w' (· < w'.heap.size) vs sampleG ∧ Below w.heap.size w w') := by
 obtain ⟨n, hn⟩ : ∃ n, chartS.length = n := ⟨_, rfl⟩
 obtain ⟨nE, hnE⟩ : ∃ n, echartS.length = n := ⟨_, rfl⟩
 obtain ⟨nL, hnL⟩ : ∃ n, elinksS.length = n := ⟨_, rfl⟩
 have HN := Lib.hid hn
 have HNE := Lib.hid hnE
 have HNL := Lib.hid hnL
 clear hn hnE hnL
 go_enter Tryz.func34, Tryz.ntmps34
 go_upto_region 1 with fail
 have H := heap_alloc_new w (.cells #[.string ⟨#[]⟩, .int .i64 0, .int .i64 0, .int .i64 0, .slice none 0 0, .int .i64 0, .int .i64 0, .int .i64 0, .int .i64 0, .int .i64 0, .int .i64 0, .int .i64 0, .int .i64 0, .int .i64 0, .int .i64 0, .int .i64 0, .int .i64 0, .int .i64 0, .int .i64 0, .int .i64 0, .slice none 0 0] 29)
 have HB := below1 w (.cells #[.string ⟨#[]⟩, .int .i64 0, .int .i64 0, .int .i64 0, .slice none 0 0, .int .i64 0, .int .i64 0, .int .i64 0, .int .i64 0, .int .i64 0, .int .i64 0, .int .i64 0, .int .i64 0, .int .i64 0, .int .i64 0, .int .i64 0, .int .i64 0, .int .i64 0, .int .i64 0, .int .i64 0, .slice none 0 0] 29)
 have HS := blk_lt H
 generalize hW : w.alloc (Obj.cells #[.string ⟨#[]⟩, .int .i64 0, .int .i64 0, .int .i64 0, .slice none 0 0, .int .i64 0, .int .i64 0, .int .i64 0, .int .i64 0, .int .i64 0, .int .i64 0, .int .i64 0, .int .i64 0, .int .i64 0, .int .i64 0, .int .i64 0, .int .i64 0, .int .i64 0, .int .i64 0, .int .i64 0, .slice none 0 0] 29) = W at *
 clear hW
 have HZ := Lib.hid H
 clear H
 go_wp2_with fail
 refine (pChart_n n HN.out W).mono ?_
 rintro e w2 ⟨Ac, cc, rfl, hch, hb2⟩
 have HCH := Lib.hid hch
 have hs2 := hb2.size
 clear hch
 go_wp2_with fail
 refine (pEntity_n nE nL HNE.out HNL.out _ _ _ w2).mono ?_
 rintro e v0 ⟨Ec0, c0, Al0, d0, rfl, hc0, hl0, hbv0⟩
 have hsv0 := hbv0.size
 have HC0 := Lib.hid hc0
 have HL0 := Lib.hid hl0
 clear hc0 hl0
 go_wp2_with fail
 refine (pEntity_n nE nL HNE.out HNL.out _ _ _ v0).mono ?_
 rintro e v1 ⟨Ec1, c1, Al1, d1, rfl, hc1, hl1, hbv1⟩
 have hsv1 := hbv1.size
 have HC1 := Lib.hid hc1
 have HL1 := Lib.hid hl1
 clear hc1 hl1
 go_wp2_with fail
 refine (pEntity_n nE nL HNE.out HNL.out _ _ _ v1).mono ?_
 rintro e v2 ⟨Ec2, c2, Al2, d2, rfl, hc2, hl2, hbv2⟩
 have hsv2 := hbv2.size
 have HC2 := Lib.hid hc2
 have HL2 := Lib.hid hl2
 clear hc2 hl2
 go_wp2_with fail
 refine (pEntity_n nE nL HNE.out HNL.out _ _ _ v2).mono ?_
 rintro e v3 ⟨Ec3, c3, Al3, d3, rfl, hc3, hl3, hbv3⟩
 have hsv3 := hbv3.size
 have HC3 := Lib.hid hc3
 have HL3 := Lib.hid hl3
 clear hc3 hl3
 have HZ3 := Lib.hid (show v3.heap[w.heap.size]? = _ from (hbv3.block _ (by omega)).trans ((hbv2.block _ (by omega)).trans ((hbv1.block _ (by omega)).trans ((hbv0.block _ (by omega)).trans ((hb2.block _ HS).trans HZ.out)))))
 have hlt3 := blk_lt HZ3.out
 go_wp2_with (first | (show wpList _ _ _ (Oper.mk (some 9) _ _ _ _ _ :: _) _ _; refine wpList_built rfl 29 _ rfl [(0, .string ⟨#[69, 85, 82]⟩), (1, .agg #[.int .i64 2026, .int .i64 1, .int .i64 36]), (2, .slice Ac n cc), (3, .agg #[.int .i64 1500, .int .i64 1600, .int .i64 1700, .int .i64 1200, .int .i64 3100, .int .i64 3200, .int .i64 3300, .int .i64 3400, .int .i64 3500, .int .i64 4500, .int .i64 4600, .int .i64 4700, .int .i64 5500, .int .i64 5600, .int .i64 5700]), (4, .slice (some ⟨v3.heap.size, 0, none⟩) 4 4)] (by simp [Act.eval]) #[.string ⟨#[69, 85, 82]⟩, .int .i64 2026, .int .i64 1, .int .i64 36, .slice Ac n cc, .int .i64 1500, .int .i64 1600, .int .i64 1700, .int .i64 1200, .int .i64 3100, .int .i64 3200, .int .i64 3300, .int .i64 3400, .int .i64 3500, .int .i64 4500, .int .i64 4600, .int .i64 4700, .int .i64 5500, .int .i64 5600, .int .i64 5700, .slice (some ⟨v3.heap.size, 0, none⟩) 4 4] (built_groupE _ _ _ _ _ _ _ _ _ _ _ _ _ _ _ _ _ _ _ _ _ _ _ _ _) ?_) | (show wpList _ _ _ (Oper.mk none (Op.store _ (Operand.tmp 0) _) _ _ _ _ :: _) _ _; refine wpList_store_row rfl 29 (.tmp 0) (.tmp 9) rfl w.heap.size #[.string ⟨#[69, 85, 82]⟩, .int .i64 2026, .int .i64 1, .int .i64 36, .slice Ac n cc, .int .i64 1500, .int .i64 1600, .int .i64 1700, .int .i64 1200, .int .i64 3100, .int .i64 3200, .int .i64 3300, .int .i64 3400, .int .i64 3500, .int .i64 4500, .int .i64 4600, .int .i64 4700, .int .i64 5500, .int .i64 5600, .int .i64 5700, .slice (some ⟨v3.heap.size, 0, none⟩) 4 4] rfl rfl 29 #[.string ⟨#[]⟩, .int .i64 0, .int .i64 0, .int .i64 0, .slice none 0 0, .int .i64 0, .int .i64 0, .int .i64 0, .int .i64 0, .int .i64 0, .int .i64 0, .int .i64 0, .int .i64 0, .int .i64 0, .int .i64 0, .int .i64 0, .int .i64 0, .int .i64 0, .int .i64 0, .int .i64 0, .slice none 0 0] (alloc_keep HZ3.out _) info_group rfl (by simp [Value.oneCell']) ?_))
 refine bodyPost_ret (v := _) (results_cell rfl _ _ w.heap.size 29 _ (0, 0) _ rfl (heap_setRow (alloc_keep HZ3.out _) _) Tryz.underlying29 rfl info_group) rfl ?_
 exact ⟨_, rfl, psample_fin HN.out HNE.out HNL.out HS HB hb2 hbv0 hbv1 hbv2 hbv3 HCH.out HC0.out HL0.out HC1.out HL1.out HC2.out HL2.out HC3.out HL3.out⟩
theorem info_step : (Tryz.prog.info? 57).map (·.size) = some 3 := by kernel_rfl
abbrev stepL (x : XStep) : List Value := [.int .i64 x.entity, .int .i64 x.period, .bool x.unlock]
theorem StepC.lit {w : World} {Q : Nat → Prop} {cs : List Value} {x : XStep} (h : StepC w Q cs x) : cs = stepL x ∧ bdS x := by
 obtain ⟨c0, c1, c2, rfl, ⟨rfl, h0⟩, ⟨rfl, h1⟩, h2⟩ := h
 have e2 : c2 = _ := h2
 subst e2
 exact ⟨rfl, h0, h1⟩
theorem steps_bd {w : World} {Q : Nat → Prop} {A : Option Addr} {n c : Nat} {l : List XStep} (h : ListC StepC 3 w Q [.slice A n c] l) : ∀ x ∈ l, bdS x := fun x hx => by
 obtain ⟨i, hi, rfl⟩ := List.getElem_of_mem hx
 obtain ⟨b, o, cs, _, _, hc, _⟩ := ListC.get h i hi
 exact (StepC.lit hc).2
def k11 : KK := ⟨(1, 1), by unfold intBd; omega, by unfold intBd; omega⟩
theorem aw_lockE : lockE 36 4 (fun _ => false) k11 = 0 := by decide
theorem aw_lockF : lockF 36 4 (fun _ => false) k11 = (fun d => if d = k11 then true else false) := by
 unfold lockF
 rw [if_pos aw_lockE]
theorem aw_most {last : Int} (h : MostP (lockF 36 4 (fun _ => false) k11) 1 last) : last = 1 := by
 rw [aw_lockF] at h
 refine MostP.uniq (f := fun d => if d = k11 then true else false) (e := 1) (fun c hc => ?_) h ⟨fun c hc _ => ?_, Or.inr ⟨k11, by simp, rfl, rfl⟩⟩
 · replace hc : (if c = k11 then true else false) = true := hc
   split at hc
   · rename_i e; rw [e]; decide
   · cases hc
 · replace hc : (if c = k11 then true else false) = true := hc
   split at hc
   · rename_i e; rw [e]; decide
   · cases hc
theorem aw_pos : ∀ c, lockF 36 4 (fun _ => false) k11 c = true → 0 ≤ c.1.2 ∧ c.1.2 ≤ 1000 := by
 rw [aw_lockF]
 intro c hc
 replace hc : (if c = k11 then true else false) = true := hc
 split at hc
 · rename_i e; rw [e]; decide
 · cases hc
theorem aw_chk1 : chkL 2026 1 36 4 1 20512 1 = 12 := by decide +kernel
theorem aw_chk2 : chkL 2026 1 36 4 1 20513 1 = 0 := by decide +kernel
theorem aw_ck {d r s : Int} (hs : chkL 2026 1 36 4 1 d 1 = s) (h : ((1 : Int) < 0 ∨ 4 ≤ (1 : Int)) ∧ r = 1 ∨ ∃ last, MostP (lockF 36 4 (fun _ => false) k11) 1 last ∧ -1 ≤ last ∧ r = chkL 2026 1 36 4 1 d last) : r = s := by
 rcases h with ⟨h, _⟩ | ⟨last, h1, _, h2⟩
 · omega
 · rw [aw_most h1] at h2
   exact h2.trans hs
set_option maxHeartbeats 2000000 in
theorem awake13_c (w : World) : Calls Tryz.prog 10 #[] w (Quiet w (.bool true)) := by
 go_enter Tryz.func10, Tryz.ntmps10
 go_wp2_with fail
 refine (psample_c w).mono ?_
 rintro e w2 ⟨vs, rfl, hg, hb2⟩
 have HNEW := Lib.hid (lnew_c sampleG vs w2 hg sample_small)
 clear hg
 go_wp2_with fail
 refine HNEW.out.mono ?_
 rintro e w3 ⟨hb3, hcase⟩
 replace hb3 := hb2.trans (hb3.mono hb2.size)
 rcases hcase with ⟨hF, _⟩ | ⟨_, L, b, rfl, hLK, hL1, hL2⟩
 · exact absurd sample_valid (by rw [hF]; decide)
 have HLK := Lib.hid (show LkC w3 L b 2026 1 36 4 0 (fun _ => false) from hLK)
 have HGE := Lib.hid (show w.heap.size ≤ b from by have := hb2.size; omega)
 clear hLK hL1 hL2 HNEW
 go_wp2_with fail
 have hlk := lock_c L b 2026 1 36 4 0 (fun _ => false) k11 w3 HLK.out (by unfold maxLen; omega)
 rw [aw_lockE] at hlk
 refine (show Calls Tryz.prog 35 #[.pointer (some ⟨L, 0, none⟩), .int .i64 1, .int .i64 1] w3 _ from hlk).mono ?_
 rintro e w4 ⟨rfl, hk4, hf4, hs4⟩
 have HK4 := Lib.hid hk4
 have hb4 : Below w.heap.size w w4 := ((Fr.ofBelow hb3).trans (hf4.mono (fun q hq => by have := HGE.out; omega))).below
 clear hk4 hf4 hs4 hlk
 go_wp2_with fail
 refine (show Calls Tryz.prog 21 #[.pointer (some ⟨L, 0, none⟩), .agg #[.int .i64 0, .int .i64 1, .int .i64 20512, .int .i64 0, .int .i64 0, .string ⟨#[]⟩, .slice none 0 0]] w4 _ from lcheck_c L b 2026 1 36 4 _ _ 0 1 20512 0 0 _ none 0 0 w4 HK4.out aw_pos).mono ?_
 rintro e w5 ⟨r, rfl, hr, hb5⟩
 obtain rfl := aw_ck aw_chk1 hr
 have HK5 := Lib.hid (HK4.out.below hb5)
 replace hb5 := hb4.trans (hb5.mono hb4.size)
 clear hr
 go_wp2_with fail
 refine (show Calls Tryz.prog 21 #[.pointer (some ⟨L, 0, none⟩), .agg #[.int .i64 0, .int .i64 1, .int .i64 20513, .int .i64 0, .int .i64 0, .string ⟨#[]⟩, .slice none 0 0]] w5 _ from lcheck_c L b 2026 1 36 4 _ _ 0 1 20513 0 0 _ none 0 0 w5 HK5.out aw_pos).mono ?_
 rintro e w6 ⟨r, rfl, hr, hb6⟩
 obtain rfl := aw_ck aw_chk2 hr
 replace hb6 := hb5.trans (hb6.mono hb5.size)
 clear hr
 go_wp2_with fail
 go_ret
 exact ⟨rfl, hb6⟩
theorem groupB_cal {g : XGroup} (h : groupB g = true) : calB g.calendar.year g.calendar.month g.calendar.periods = true := by
 unfold groupB at h
 simp only [Bool.and_eq_true] at h
 exact h.1.1.1.1.2
theorem allF_pos {p ne : Int} {l : List XStep} (hp : p ≤ 120) : ∀ c, allF p ne l c = true → 0 ≤ c.1.2 ∧ c.1.2 ≤ 1000 := fun c hc => by
 have := (allF_range p ne l c hc).2
 omega
end Go.Proofs.YtekelchdbkjjjaaGreat
namespace Go.Proofs.YtekelchdbkjjjaaGreat
open Go Go.RowKit Go.Sort
def kL (c : KK) : List Value := [.int .i64 c.1.1, .int .i64 c.1.2]
def cmpK (x y : KK) : Int := orI (cmpI x.1.1 y.1.1) (cmpI x.1.2 y.1.2)
set_option maxHeartbeats 1000000 in
theorem closk_c (x y : KK) (w : World) : Calls Tryz.prog 44 #[.agg (kL x).toArray, .agg (kL y).toArray] w (fun e w' => e = .returned (.int .i64 (cmpK x y)) ∧ Lays w w') := by
 obtain ⟨⟨xa, xp⟩, hx1, hx2⟩ := x
 obtain ⟨⟨ya, yp⟩, hy1, hy2⟩ := y
 show Calls Tryz.prog 44 #[.agg #[.int .i64 xa, .int .i64 xp], .agg #[.int .i64 ya, .int .i64 yp]] w (fun e w' => e = .returned (.int .i64 (orI (cmpI xa ya) (cmpI xp yp))) ∧ Lays w w')
 go_enter Tryz.func44, Tryz.ntmps44
 go_upto_region 1 with fail
 have H := heap_alloc_new w (.cells #[.int .i64 xa, .int .i64 xp] 100)
 have HB := below1 w (.cells #[.int .i64 xa, .int .i64 xp] 100)
 have HS := blk_lt H
 have HLW : Lays w (w.alloc (.cells #[.int .i64 xa, .int .i64 xp] 100)) := (Lays.refl w).alloc _
 generalize hW : w.alloc (Obj.cells #[.int .i64 xa, .int .i64 xp] 100) = W at *
 have H2 := heap_alloc_new W (.cells #[.int .i64 ya, .int .i64 yp] 100)
 have HB2 := below1 W (.cells #[.int .i64 ya, .int .i64 yp] 100)
 have HS2 := blk_lt H2
 replace H := alloc_keep H (Obj.cells #[.int .i64 ya, .int .i64 yp] 100)
 have HLW2 : Lays W (W.alloc (.cells #[.int .i64 ya, .int .i64 yp] 100)) := (Lays.refl W).alloc _
 generalize hW2 : W.alloc (Obj.cells #[.int .i64 ya, .int .i64 yp] 100) = W2 at *
 clear hW2
 have eW : W.heap.size = w.heap.size + 1 := by rw [← hW]; simp
 rw [eW] at H2
 clear hW
 have hb2 := HB.trans (HB2.mono HB.size)
 have hs2 := HB2.size
 have LT1 := blk_lt H2
 have LT0 : w.heap.size < W2.heap.size := by omega
 have HH := Lib.hid H
 have HZ := Lib.hid H2
 have EW := Lib.hid eW
 clear H H2 eW
 have HLY := Lib.hid (HLW.trans HLW2)
 have X0 := Lib.hid (blk_cell HH.out 0)
 have X2 := Lib.hid (blk_cell HH.out 1)
 have Y0 := Lib.hid (blk_cell HZ.out 0)
 have Y2 := Lib.hid (blk_cell HZ.out 1)
 have LT0 := Lib.hid LT0
 have LT1 := Lib.hid LT1
 clear HLW HLW2
 refine wp_region_inv (Ks W2 [.val (.pointer (some ⟨w.heap.size, 0, none⟩)), .val (.int .i64 xa), .val (.pointer (some ⟨(w.heap.size + 1), 0, none⟩)), .val (.int .i64 ya), .val (.int .i64 (cmpI xa ya)), .val (.pointer (some ⟨w.heap.size, 1, none⟩)), .val (.int .i64 xp), .val (.pointer (some ⟨(w.heap.size + 1), 1, none⟩)), .val (.int .i64 yp), .val (.int .i64 (cmpI xp yp)), .own (IsSl (cmpI xa ya) (cmpI xp yp)) (IsSl.keep _ _), .val (.int .i64 (orI (cmpI xa ya) (cmpI xp yp))), .val (.int .i64 (orI (cmpI xa ya) (cmpI xp yp)))])
  (fun w' => Lays W2 w') (by kernel_rfl) (by kernel_rfl) (by kernel_rfl) (Lays.refl _).drew ?_ ?_
 · refine ⟨?_, ?_, ?_, ?_, ?_, ?_, ?_, ?_, ?_, ?_, ?_, ?_, ?_, trivial⟩
   · intro _ A0 w2 hI hd hnd K hK; have e0 := hI.q hnd 2; exact hI.z hK
   · intro _ A0 w2 hI hd hnd K hK; have e0 := hI.p hd 0 5; have hS := hI.world; have hcc : w2.cell? ⟨w.heap.size, 0, none⟩ = _ := ((Lays.below hS).cell (p := ⟨w.heap.size, 0, none⟩) LT0.out).trans X0.out; exact hI.z hK
   · intro _ A0 w2 hI hd hnd K hK; have e0 := hI.q hnd 3; exact hI.z hK
   · intro _ A0 w2 hI hd hnd K hK; have e0 := hI.p hd 2 7; have hS := hI.world; have hcc : w2.cell? ⟨(w.heap.size + 1), 0, none⟩ = _ := ((Lays.below hS).cell (p := ⟨(w.heap.size + 1), 0, none⟩) LT1.out).trans Y0.out; exact hI.z hK
   · intro _ A0 w2 hI hd hnd K hK; have e0 := hI.p hd 1 6; have e1 := hI.p hd 3 8; have hS := hI.world; refine wanted_go rfl ?_; clear hI hd hnd; go_simp
     go_at_call 46
     refine (compare_c xa ya w2).mono ?_
     rintro e w3 ⟨rfl, rfl⟩
     exact kq hK hS rfl
   · intro _ A0 w2 hI hd hnd K hK; have e0 := hI.q hnd 2; exact hI.z hK
   · intro _ A0 w2 hI hd hnd K hK; have e0 := hI.p hd 5 10; have hS := hI.world; have hcc : w2.cell? ⟨w.heap.size, 1, none⟩ = _ := ((Lays.below hS).cell (p := ⟨w.heap.size, 1, none⟩) LT0.out).trans X2.out; exact hI.z hK
   · intro _ A0 w2 hI hd hnd K hK; have e0 := hI.q hnd 3; exact hI.z hK
   · intro _ A0 w2 hI hd hnd K hK; have e0 := hI.p hd 7 12; have hS := hI.world; have hcc : w2.cell? ⟨(w.heap.size + 1), 1, none⟩ = _ := ((Lays.below hS).cell (p := ⟨(w.heap.size + 1), 1, none⟩) LT1.out).trans Y2.out; exact hI.z hK
   · intro _ A0 w2 hI hd hnd K hK; have e0 := hI.p hd 6 11; have e1 := hI.p hd 8 13; have hS := hI.world; refine wanted_go rfl ?_; clear hI hd hnd; go_simp
     go_at_call 46
     refine (compare_c xp yp w2).mono ?_
     rintro e w3 ⟨rfl, rfl⟩
     exact kq hK hS rfl
   · intro _ A0 w2 hI hd hnd K hK; have e0 := hI.p hd 4 9; have e1 := hI.p hd 9 14; have hS := hI.world; refine wanted_go rfl ?_; clear hI hd hnd; go_simp
     exact hK.out _ _ (hS.alloc _) (Ks.of rfl (IsSl.made _ _ _ _)) (Ks.keep (below1 w2 _))
   · intro _ A0 w2 hI hd hnd K hK
     obtain ⟨x0, e0, h0⟩ := hI.dep hd 10 15 rfl rfl rfl (by kernel_rfl)
     have hS := hI.world
     obtain ⟨gs, T0, rfl, hgs⟩ := h0
     refine wanted_go rfl ?_; clear hI hd hnd; go_simp
     go_at_call 45
     refine (or_c gs _ _ T0 w2 hgs).mono ?_
     rintro e w3 ⟨rfl, rfl⟩
     exact kq hK hS rfl
   · intro _ A0 w2 hI hd hnd K hK; have e0 := hI.p hd 11 16; exact hI.z hK
 · intro _ A0 w2 hI hall; have hS := hI.world; have c9 := hI.ch hall [5, 6, 7, 8, 9, 10, 11, 12, 13, 14, 15, 16, 4]; obtain ⟨x0, x1, x2, x3, x4, x5, x6, x7, x8, x9, x10, x11, x12, hA, hV⟩ := c9
   obtain rfl : x12 = .int .i64 (orI (cmpI xa ya) (cmpI xp yp)) := hV 12 _ _ rfl _ rfl
   clear hV hI hall
   simp only [setAll, List.foldl, List.setIfInBounds_toArray, List.set_cons_zero, List.set_cons_succ] at hA
   rw [hA]
   clear hA
   go_wp2_with fail
   go_ret
   exact ⟨rfl, HLY.out.trans hS⟩
end Go.Proofs.YtekelchdbkjjjaaGreat
