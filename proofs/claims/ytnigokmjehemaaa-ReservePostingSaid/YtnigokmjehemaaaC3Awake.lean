/- The example of the document: awake. Written by gen_c3.py. -/
import Derived.Test.YtnigokmjehemaaaProg
import Derived.Test.YtnigokmjehemaaaS5Walk
namespace Go.Proofs.Ytnigokmjehemaaa
open Go Go.RowKit
set_option linter.unusedVariables false
set_option linter.unusedSimpArgs false
set_option maxRecDepth 4000
attribute [local go_sem ↓] Go.wp_at_zero Go.wp_at_succ
def itemsS : List XItem := [{ amount := 95 }, { amount := -90 }]
theorem itemsS_small : smallI itemsS := ⟨by decide, by decide⟩
theorem post_sample : postB sampleG 2 (-sumI itemsS) = (⟨1, 2, -1, 0, [⟨3100, -5⟩]⟩, 0) := by
  unfold postB
  rw [if_neg (by rw [sample_valid]; decide), if_neg (by decide), if_neg (by decide)]
  rfl
theorem sample_small : smallG sampleG := by
  refine ⟨by decide, by decide, by decide, ?_⟩
  unfold smallE
  decide
theorem items_lay (w : World) : ListC ItemC 7 (w.alloc (.cells #[.int .i64 0, .int .i64 0, .int .i64 0, .int .i64 0, .int .i64 0, .int .i64 0, .int .i64 95, .int .i64 0, .int .i64 0, .int .i64 0, .int .i64 0, .int .i64 0, .int .i64 0, .int .i64 (-90)] 110)) (· < (w.alloc (.cells #[.int .i64 0, .int .i64 0, .int .i64 0, .int .i64 0, .int .i64 0, .int .i64 0, .int .i64 95, .int .i64 0, .int .i64 0, .int .i64 0, .int .i64 0, .int .i64 0, .int .i64 0, .int .i64 (-90)] 110)).heap.size) [.slice (some ⟨w.heap.size, 0, none⟩) 2 2] itemsS := by
  have hB := heap_alloc_new w (.cells #[.int .i64 0, .int .i64 0, .int .i64 0, .int .i64 0, .int .i64 0, .int .i64 0, .int .i64 95, .int .i64 0, .int .i64 0, .int .i64 0, .int .i64 0, .int .i64 0, .int .i64 0, .int .i64 (-90)] 110)
  have h2 := box_at (cs := [.int .i64 0, .int .i64 0, .int .i64 0, .int .i64 0, .int .i64 0, .int .i64 0, .int .i64 95, .int .i64 0, .int .i64 0, .int .i64 0, .int .i64 0, .int .i64 0, .int .i64 0, .int .i64 (-90)]) hB
  generalize (w.alloc (.cells #[.int .i64 0, .int .i64 0, .int .i64 0, .int .i64 0, .int .i64 0, .int .i64 0, .int .i64 95, .int .i64 0, .int .i64 0, .int .i64 0, .int .i64 0, .int .i64 0, .int .i64 0, .int .i64 (-90)] 110)) = W at hB h2
  have hs := At.split (xs := [.int .i64 0, .int .i64 0, .int .i64 0, .int .i64 0, .int .i64 0, .int .i64 0, .int .i64 95]) (ys := [.int .i64 0, .int .i64 0, .int .i64 0, .int .i64 0, .int .i64 0, .int .i64 0, .int .i64 (-90)]) h2
  have bd : ∀ n : Int, -100 ≤ n ∧ n ≤ 100 → intBd n := fun n h => by unfold intBd; omega
  have z0 : intBd 0 := bd _ (by decide)
  refine ⟨_, _, rfl, Nat.le_refl _, by unfold maxLen; decide, fun _ => ⟨w.heap.size, 0, rfl, blk_lt hB, fun i x hx => ?_⟩⟩
  match i, hx with
  | 0, hx =>
    simp only [itemsS, List.getElem?_cons_zero, Option.some.injEq] at hx
    subst hx
    exact ⟨_, ⟨[_, _], [_], [_], [_], [_], [_], rfl, ⟨[_], [_], rfl, ⟨rfl, z0⟩, ⟨rfl, z0⟩⟩, ⟨rfl, z0⟩, ⟨rfl, z0⟩, ⟨rfl, z0⟩, ⟨rfl, z0⟩, ⟨rfl, bd _ (by decide)⟩⟩, hs.1⟩
  | 1, hx =>
    simp only [itemsS, List.getElem?_cons_zero, List.getElem?_cons_succ, Option.some.injEq] at hx
    subst hx
    exact ⟨_, ⟨[_, _], [_], [_], [_], [_], [_], rfl, ⟨[_], [_], rfl, ⟨rfl, z0⟩, ⟨rfl, z0⟩⟩, ⟨rfl, z0⟩, ⟨rfl, z0⟩, ⟨rfl, z0⟩, ⟨rfl, z0⟩, ⟨rfl, bd _ (by decide)⟩⟩, hs.2⟩
  | i + 2, hx => simp [itemsS] at hx
theorem post_awake (vs : List Value) (w : World) (hg : GroupC w (· < w.heap.size) vs sampleG) : Calls Try.prog 19 #[.agg vs.toArray, .int .i64 2, .slice (some ⟨w.heap.size, 0, none⟩) 2 2] (w.alloc (.cells #[.int .i64 0, .int .i64 0, .int .i64 0, .int .i64 0, .int .i64 0, .int .i64 0, .int .i64 95, .int .i64 0, .int .i64 0, .int .i64 0, .int .i64 0, .int .i64 0, .int .i64 0, .int .i64 (-90)] 110))
    (fun e w' => ∃ b o c, e = .returned (.tuple #[.agg #[.int .i64 1, .int .i64 2, .int .i64 (-1), .int .i64 0, .slice (some ⟨b, o, none⟩) 1 c], .int .i64 0]) ∧ At w' (· < w'.heap.size) ⟨b, o, none⟩ [.int .i64 3100, .int .i64 (-5)] ∧ Below w.heap.size w w') := by
  have hb := below1 w (.cells #[.int .i64 0, .int .i64 0, .int .i64 0, .int .i64 0, .int .i64 0, .int .i64 0, .int .i64 95, .int .i64 0, .int .i64 0, .int .i64 0, .int .i64 0, .int .i64 0, .int .i64 0, .int .i64 (-90)] 110)
  have hl := items_lay w
  generalize (w.alloc (.cells #[.int .i64 0, .int .i64 0, .int .i64 0, .int .i64 0, .int .i64 0, .int .i64 0, .int .i64 95, .int .i64 0, .int .i64 0, .int .i64 0, .int .i64 0, .int .i64 0, .int .i64 0, .int .i64 (-90)] 110)) = W at hb hl ⊢
  refine (posting_c sampleG vs 2 itemsS _ 2 W (hg.keep hb) sample_small (by unfold intBd; decide) hl itemsS_small).mono ?_
  rintro e w' ⟨A, c, he, hl', hb'⟩
  rw [post_sample] at he hl'
  obtain ⟨b, o, es, hA, hbd, hel, hat⟩ := ListC.get hl' 0 (by decide)
  subst hA
  have hes : es = [.int .i64 3100, .int .i64 (-5)] := by
    obtain ⟨c0, c1, rfl, ⟨rfl, _⟩, ⟨rfl, _⟩⟩ := hel
    rfl
  subst hes
  exact ⟨b, o, c, he, hat.mono (fun k hk => hk.2), hb.trans (hb'.mono hb.size)⟩
theorem wpList_load_mid_g {P : Program} {ops : Array Oper} {rest : List Oper} {op : Oper} {a : Act} {w : World} {Q : Exit → Act → World → Prop} (hw : Region.wanted op (yielded ops a.tmps) = true) (ty : TypeId) (x : Operand) (ho : op.op = .load ty x)
    (b o : Nat) (hx : a.eval x = .pointer (some ⟨b, o, none⟩)) (cs : List Value) (d : TypeDesc) (hc : w.rangeAt b o cs)
    (hu : P.underlying ty = some d) (hd : d.isRow = true) (hi : (P.info? ty).map (·.size) = some cs.length)
    (h : wpList P ops Q rest (a.put op.dst (.agg cs.toArray)) w) : wpList P ops Q (op :: rest) a w :=
  wpList_step fun K hK => by rw [if_pos hw]; exact wp_load_mid ty x ho b o hx cs d hc hu hd hi (hK _ _ h)
theorem info_part : (Try.prog.info? 42).map (·.size) = some 2 := by kernel_rfl
set_option maxHeartbeats 2000000 in
theorem awake_c (w : World) : Calls Try.prog 16 #[] w (Quiet w (.bool true)) := by
  go_enter Try.func16, Try.ntmps16
  go_wp2_with fail
  refine (sample_c w).mono ?_
  rintro e w2 ⟨vs, rfl, hg, hb2⟩
  have HP := Lib.hid (post_awake vs w2 hg)
  clear hg
  go_wp2_with fail
  refine HP.out.mono ?_
  rintro e w3 ⟨b, o, c, rfl, hat, hb3⟩
  clear HP
  have hbl := hat.1
  go_upto_region 2 with (show wpList _ _ _ (Oper.mk none (Op.store _ (Operand.tmp 1) _) _ _ _ _ :: _) _ _; refine wpList_store_fresh3 rfl 36 (.tmp 1) (.tmp 9) rfl rfl w3 #[.int .i64 0, .int .i64 0, .int .i64 0, .int .i64 0, .slice none 0 0] 36 #[.int .i64 1, .int .i64 2, .int .i64 (-1), .int .i64 0, .slice (some ⟨b, o, none⟩) 1 c] rfl rfl rfl info_post rfl (by simp [Value.oneCell']) ?_; intro W4 H4 HB4 HS4)
  have d4 := blk_cell H4 4
  have hat4 := hat.fr (Fr.ofBelow HB4)
  have HAR := Lib.hid (hat4.range)
  clear hat hat4 H4
  go_wp2_with (show wpList _ _ _ (Oper.mk (some 23) _ _ _ _ _ :: _) _ _; refine wpList_load_mid_g rfl 42 (.tmp 22) rfl b o rfl [.int .i64 3100, .int .i64 (-5)] _ HAR.out Try.underlying42 rfl info_part ?_)
  go_ret
  exact ⟨rfl, hb2.trans ((hb3.trans (HB4.mono hb3.size)).mono hb2.size)⟩
end Go.Proofs.Ytnigokmjehemaaa
