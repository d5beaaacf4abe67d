/- The sample's entities. Written by gen_s2.py. -/
import Derived.Test.YtnigokmjehemaaaProg
import Derived.Test.YtnigokmjehemaaaS0Sample
import Derived.Test.YtnigokmjehemaaaB23Chain
import Derived.Test.YtnigokmjehemaaaS1Append
namespace Go.Proofs.Ytnigokmjehemaaa
open Go Go.RowKit
set_option linter.unusedVariables false
set_option linter.unusedSimpArgs false
set_option maxRecDepth 4000
attribute [local go_sem ↓] Go.wp_at_zero Go.wp_at_succ
theorem info_accA : (Try.prog.info? 157).map (fun i => (i.zero, i.size, i.bytes)) = some (some (.agg #[.int .i64 0, .int .i64 0, .int .i64 0, .int .i64 0]), 4, 32) := by kernel_rfl
theorem info_linkA : (Try.prog.info? 182).map (fun i => (i.zero, i.size, i.bytes)) = some (some (.agg #[.int .i64 0, .int .i64 0, .int .i64 0]), 3, 24) := by kernel_rfl
theorem accs_uty : Try.prog.underlying 24 = some (.slice 157) := by kernel_rfl
theorem links_uty : Try.prog.underlying 111 = some (.slice 182) := by kernel_rfl
theorem echart_at : ∀ k : Nat, k < 14 → echartS[k]? = some ⟨10 * ((k : Int) + 1), kindsS.getD k 0, 0, 0⟩ := by decide +kernel
theorem elinks_at : ∀ k : Nat, k < 14 → elinksS[k]? = some ⟨10 * ((k : Int) + 1), tosS.getD k 0, -25567⟩ := by decide +kernel
theorem own_shape {w : World} {base : Nat} {e : TypeId} {size n : Nat} {v : Value} {xs : List Value} (h : w.ownsRow base e size v n xs) : ∃ A n c, v = .slice A n c := by
  rcases h.2 with ⟨rfl, _⟩ | ⟨g, cap, cur, rfl, _⟩
  · exact ⟨_, _, _, rfl⟩
  · exact ⟨_, _, _, rfl⟩
theorem own_same {w w' : World} {base : Nat} {e : TypeId} {size n : Nat} {v : Value} {xs : List Value} (h : w.ownsRow base e size v n xs) (hb : ∀ g, v.ownBlock = some g → w'.heap[g]? = w.heap[g]?) : w'.ownsRow base e size v n xs := by
  refine ⟨h.1, ?_⟩
  rcases h.2 with h1 | ⟨g, cap, cur, rfl, h1, h2, h3⟩
  · exact .inl h1
  · exact .inr ⟨g, cap, cur, rfl, h1, (hb g rfl).trans h2, h3⟩
theorem wrap10 {k : Nat} (h : k < 14) : IntKind.i64.wrap (10 * IntKind.i64.wrap ((k : Int) + 1)) = 10 * ((k : Int) + 1) := by
  rw [IntKind.wrap_i64, IntKind.wrap_i64]; omega
theorem ent_step {W4 wr wb w2 : World} {eb i n nB s sB : Nat} {e eB : TypeId} {vA vB v2 : Value} {xs xsB : List Value} (heb : eb < W4.heap.size) (hF : Fr (QX W4.heap.size eb) W4 wr) (hwb : Below wr.heap.size wr wb) (hg : wb.grownBy w2 vA.ownBlock)
    (hA : ∀ g, vA.ownBlock = some g → W4.heap.size ≤ g) (hB : wr.ownsRow W4.heap.size eB sB vB nB xsB) (hN : ∀ g, vA.ownBlock = some g → vB.ownBlock ≠ some g) (hat : v2.ownBlock = vA.ownBlock ∨ v2.ownBlock = some wb.heap.size) (h2 : w2.ownsRow W4.heap.size e s v2 n xs) :
    (w2.setCell ⟨eb, i, none⟩ v2).ownsRow W4.heap.size e s v2 n xs ∧ (w2.setCell ⟨eb, i, none⟩ v2).ownsRow W4.heap.size eB sB vB nB xsB ∧ Fr (QX W4.heap.size eb) W4 (w2.setCell ⟨eb, i, none⟩ v2) ∧ (∀ g, v2.ownBlock = some g → vB.ownBlock ≠ some g) := by
  refine ⟨own_same h2 (fun g hg' => ?_), own_same hB (fun g hg' => ?_), ?_, fun g hg' hb => ?_⟩
  · have := (h2.lt _ hg').1
    exact Below.heap_setCell w2 ⟨eb, i, none⟩ v2 g (by show g ≠ eb; omega)
  · have h3 := hB.lt _ hg'
    have hsz := hwb.size
    rw [Below.heap_setCell w2 ⟨eb, i, none⟩ v2 g (by show g ≠ eb; omega), hg.block g (by omega) (fun e => hN g e.symm hg'), hwb.block g (by omega)]
  · have hsz := hF.size
    refine Fr.setCell (((hF.trans ((Fr.ofBelow hwb).mono (fun k hk => by have := hk.1; omega))).grown hg (fun k hk => hk.1) (fun k hk hq => ?_))) (fun h => h.2 rfl) v2
    have := hA k hk
    have := hq.1
    omega
  · rcases hat with h | h
    · exact hN g (h ▸ hg') hb
    · rw [h] at hg'
      injection hg' with hg'
      have := (hB.lt _ hb).2
      have := hwb.size
      omega
instance (n : Int) : Decidable (intBd n) := by unfold intBd; infer_instance
theorem echart_bd : ∀ x ∈ echartS, accB x := by
  show ∀ x ∈ echartS, intBd x.code ∧ intBd x.kind ∧ intBd x.basis ∧ intBd x.parent
  decide +kernel
theorem elinks_bd : ∀ x ∈ elinksS, linkBd x := by
  show ∀ x ∈ elinksS, intBd x.from_ ∧ intBd x.to_ ∧ intBd x.since
  decide +kernel
theorem accC_of {w : World} {Q : Nat → Prop} {x : XAccount} (h : accB x) : AccountC w Q (accL x) x := ⟨[_], [_], [_], [_], rfl, ⟨rfl, h.1⟩, ⟨rfl, h.2.1⟩, ⟨rfl, h.2.2.1⟩, ⟨rfl, h.2.2.2⟩⟩
theorem linkC_of {w : World} {Q : Nat → Prop} {x : XLink} (h : linkBd x) : LinkC w Q (linkL x) x := ⟨[_], [_], [_], rfl, ⟨rfl, h.1⟩, ⟨rfl, h.2.1⟩, ⟨rfl, h.2.2⟩⟩
theorem take_flat {α : Type} {f : α → List Value} {l : List α} {k : Nat} {x : α} (h : l[k]? = some x) : (l.take (k + 1)).flatMap f = (l.take k).flatMap f ++ f x := by
  rw [List.take_add_one, h, List.flatMap_append]; simp
set_option maxHeartbeats 4000000 in
theorem sEntity_c (nm cu : ByteArray) (w : World) : Calls Try.prog 117 #[.string nm, .string cu] w (fun e w' => ∃ vs : List Value, e = .returned (.agg vs.toArray) ∧ EntityC w' (fun k => w.heap.size ≤ k ∧ k < w'.heap.size) vs (entS nm cu false) ∧ Below w.heap.size w w') := by
  obtain ⟨ia, hia, hzia, hsia, hbia⟩ := info_parts info_accA
  obtain ⟨il, hil, hzil, hsil, hbil⟩ := info_parts info_linkA
  go_enter Try.func117, Try.ntmps117
  go_upto_region 4 with fail
  have HZ := heap_alloc_new w (.cells #[.string ⟨#[]⟩, .string ⟨#[]⟩, .slice none 0 0, .slice none 0 0, .bool false] 113)
  have eb1 := below1 w (.cells #[.string ⟨#[]⟩, .string ⟨#[]⟩, .slice none 0 0, .slice none 0 0, .bool false] 113)
  have ez1 : (w.alloc (.cells #[.string ⟨#[]⟩, .string ⟨#[]⟩, .slice none 0 0, .slice none 0 0, .bool false] 113)).heap.size = w.heap.size + 1 := by simp
  generalize w.alloc (Obj.cells #[.string ⟨#[]⟩, .string ⟨#[]⟩, .slice none 0 0, .slice none 0 0, .bool false] 113) = W1 at *
  have HT := heap_alloc_new W1 (.cells #[.int .i64 1010, .int .i64 1100, .int .i64 1200, .int .i64 1300, .int .i64 1500, .int .i64 2000, .int .i64 2100, .int .i64 3000, .int .i64 3300, .int .i64 4000, .int .i64 4100, .int .i64 4700, .int .i64 5000, .int .i64 5100] 3)
  have eb2 := below1 W1 (.cells #[.int .i64 1010, .int .i64 1100, .int .i64 1200, .int .i64 1300, .int .i64 1500, .int .i64 2000, .int .i64 2100, .int .i64 3000, .int .i64 3300, .int .i64 4000, .int .i64 4100, .int .i64 4700, .int .i64 5000, .int .i64 5100] 3)
  have ez2 : (W1.alloc (.cells #[.int .i64 1010, .int .i64 1100, .int .i64 1200, .int .i64 1300, .int .i64 1500, .int .i64 2000, .int .i64 2100, .int .i64 3000, .int .i64 3300, .int .i64 4000, .int .i64 4100, .int .i64 4700, .int .i64 5000, .int .i64 5100] 3)).heap.size = W1.heap.size + 1 := by simp
  replace HZ := alloc_keep HZ (Obj.cells #[.int .i64 1010, .int .i64 1100, .int .i64 1200, .int .i64 1300, .int .i64 1500, .int .i64 2000, .int .i64 2100, .int .i64 3000, .int .i64 3300, .int .i64 4000, .int .i64 4100, .int .i64 4700, .int .i64 5000, .int .i64 5100] 3)
  generalize W1.alloc (Obj.cells #[.int .i64 1010, .int .i64 1100, .int .i64 1200, .int .i64 1300, .int .i64 1500, .int .i64 2000, .int .i64 2100, .int .i64 3000, .int .i64 3300, .int .i64 4000, .int .i64 4100, .int .i64 4700, .int .i64 5000, .int .i64 5100] 3) = W2 at *
  have HK := heap_alloc_new W2 (.cells #[.int .i64 1, .int .i64 1, .int .i64 1, .int .i64 1, .int .i64 1, .int .i64 2, .int .i64 2, .int .i64 3, .int .i64 3, .int .i64 4, .int .i64 4, .int .i64 4, .int .i64 5, .int .i64 5] 3)
  have eb3 := below1 W2 (.cells #[.int .i64 1, .int .i64 1, .int .i64 1, .int .i64 1, .int .i64 1, .int .i64 2, .int .i64 2, .int .i64 3, .int .i64 3, .int .i64 4, .int .i64 4, .int .i64 4, .int .i64 5, .int .i64 5] 3)
  have ez3 : (W2.alloc (.cells #[.int .i64 1, .int .i64 1, .int .i64 1, .int .i64 1, .int .i64 1, .int .i64 2, .int .i64 2, .int .i64 3, .int .i64 3, .int .i64 4, .int .i64 4, .int .i64 4, .int .i64 5, .int .i64 5] 3)).heap.size = W2.heap.size + 1 := by simp
  replace HZ := alloc_keep HZ (Obj.cells #[.int .i64 1, .int .i64 1, .int .i64 1, .int .i64 1, .int .i64 1, .int .i64 2, .int .i64 2, .int .i64 3, .int .i64 3, .int .i64 4, .int .i64 4, .int .i64 4, .int .i64 5, .int .i64 5] 3)
  replace HT := alloc_keep HT (Obj.cells #[.int .i64 1, .int .i64 1, .int .i64 1, .int .i64 1, .int .i64 1, .int .i64 2, .int .i64 2, .int .i64 3, .int .i64 3, .int .i64 4, .int .i64 4, .int .i64 4, .int .i64 5, .int .i64 5] 3)
  generalize W2.alloc (Obj.cells #[.int .i64 1, .int .i64 1, .int .i64 1, .int .i64 1, .int .i64 1, .int .i64 2, .int .i64 2, .int .i64 3, .int .i64 3, .int .i64 4, .int .i64 4, .int .i64 4, .int .i64 5, .int .i64 5] 3) = W3 at *
  have HE := heap_alloc_new W3 (.cells #[.string nm, .string cu, .slice none 0 0, .slice none 0 0, .bool false] 113)
  have eb4 := below1 W3 (.cells #[.string nm, .string cu, .slice none 0 0, .slice none 0 0, .bool false] 113)
  have ez4 : (W3.alloc (.cells #[.string nm, .string cu, .slice none 0 0, .slice none 0 0, .bool false] 113)).heap.size = W3.heap.size + 1 := by simp
  replace HZ := alloc_keep HZ (Obj.cells #[.string nm, .string cu, .slice none 0 0, .slice none 0 0, .bool false] 113)
  replace HT := alloc_keep HT (Obj.cells #[.string nm, .string cu, .slice none 0 0, .slice none 0 0, .bool false] 113)
  replace HK := alloc_keep HK (Obj.cells #[.string nm, .string cu, .slice none 0 0, .slice none 0 0, .bool false] 113)
  generalize W3.alloc (Obj.cells #[.string nm, .string cu, .slice none 0 0, .slice none 0 0, .bool false] 113) = W4 at *
  rw [ez1] at HT
  rw [ez2, ez1] at HK
  rw [ez3, ez2, ez1] at HE
  have hb4 : Below w.heap.size w W4 := eb1.trans ((eb2.mono (by omega)).trans ((eb3.mono (by omega)).trans (eb4.mono (by omega))))
  have hz4 : W4.heap.size = w.heap.size + 4 := by omega
  have HZ' := Lib.hid HZ
  have HTO := Lib.hid (show W4.heap[w.heap.size + 1]? = some (.cells (iv tosS).toArray 3 (0, 0)) from HT)
  have HKI := Lib.hid (show W4.heap[w.heap.size + 1 + 1]? = some (.cells (iv kindsS).toArray 3 (0, 0)) from HK)
  have HE' := Lib.hid HE
  have HZ4 := Lib.hid hz4
  clear HZ HT HK HE ez1 ez2 ez3 ez4 eb1 eb2 eb3 eb4 hz4
  go_wp2_with fail
  go_loopw [8] (fun i wr => ∃ (k : Nat) (vC vL : Value), k ≤ 14 ∧ i = .int .i64 (k : Int) ∧ Fr (QX W4.heap.size (w.heap.size + 1 + 1 + 1)) W4 wr ∧ wr.heap[w.heap.size + 1 + 1 + 1]? = some (.cells #[.string nm, .string cu, vC, vL, .bool false] 113 (0, 0)) ∧ wr.ownsRow W4.heap.size 157 4 vC k ((echartS.take k).flatMap accL) ∧ wr.ownsRow W4.heap.size 182 3 vL k ((elinksS.take k).flatMap linkL) ∧ (∀ g, vC.ownBlock = some g → vL.ownBlock ≠ some g)) (fun i _ => 14 - (intOf i).toNat)
  case atStart => exact ⟨0, _, _, by omega, rfl, Fr.refl _ _, HE'.out, World.ownsRow_nil _ _ _ _, World.ownsRow_nil _ _ _ _, fun g h => by cases h⟩
  case round =>
    obtain ⟨k, vC, vL, hk, rfl, hfr, hE, hoC, hoL, hne⟩ := hrel
    have HF := Lib.hid hfr
    have hsz := hfr.size
    have HEW := Lib.hid hE
    have HOC := Lib.hid hoC
    have HOL := Lib.hid hoL
    have HNE := Lib.hid hne
    clear hfr hE hoC hoL hne
    by_cases hlt : k < 14
    case pos =>
      have hltI : (k : Int) < 14 := by omega
      obtain ⟨K1, hK1⟩ : ∃ x, kindsS.getD k 0 = x := ⟨_, rfl⟩
      obtain ⟨K2, hK2⟩ : ∃ x, tosS.getD k 0 = x := ⟨_, rfl⟩
      have hkc : wr.cell? ⟨w.heap.size + 1 + 1, k, none⟩ = some (.int .i64 K1) := by
        rw [(HF.out.cell (p := ⟨w.heap.size + 1 + 1, k, none⟩) ⟨by have := HZ4.out; show w.heap.size + 1 + 1 < _; omega, by show w.heap.size + 1 + 1 ≠ _; omega⟩), blk_cell HKI.out k]
        rw [← hK1]
        simp only [iv, List.map_toArray, List.getElem?_toArray, List.getElem?_map, List.getD_eq_getElem?_getD]
        rw [List.getElem?_eq_getElem (show k < kindsS.length from hlt)]; rfl
      have htc : wr.cell? ⟨w.heap.size + 1, k, none⟩ = some (.int .i64 K2) := by
        rw [(HF.out.cell (p := ⟨w.heap.size + 1, k, none⟩) ⟨by have := HZ4.out; show w.heap.size + 1 < _; omega, by show w.heap.size + 1 ≠ _; omega⟩), blk_cell HTO.out k]
        rw [← hK2]
        simp only [iv, List.map_toArray, List.getElem?_toArray, List.getElem?_map, List.getD_eq_getElem?_getD]
        rw [List.getElem?_eq_getElem (show k < tosS.length from hlt)]; rfl
      have HA := Lib.hid (take_flat (f := accL) (echart_at k hlt))
      have HL := Lib.hid (take_flat (f := linkL) (elinks_at k hlt))
      rw [hK1] at HA
      rw [hK2] at HL
      have c2 := blk_cell HEW.out 2
      have c3 := blk_cell HEW.out 3
      have c2A : ∀ o : Obj, (wr.alloc o).cell? ⟨w.heap.size + 1 + 1 + 1, 2, none⟩ = some vC := fun o => blk_cell (alloc_keep HEW.out o) 2
      have hkA : ∀ o : Obj, (wr.alloc o).cell? ⟨w.heap.size + 1 + 1, k, none⟩ = some (.int .i64 K1) := fun o => ((below1 wr o).cell (p := ⟨w.heap.size + 1 + 1, k, none⟩) (by have := HZ4.out; show w.heap.size + 1 + 1 < _; omega)).trans hkc
      have HKC := Lib.hid hkc
      have HTC := Lib.hid htc
      clear hK1 hK2
      have NEC := Lib.hid (show some (w.heap.size + 1 + 1 + 1) ≠ vC.ownBlock from fun e => by have := (HOC.out.lt _ e.symm).1; have := HZ4.out; omega)
      have NEL := Lib.hid (show some (w.heap.size + 1 + 1 + 1) ≠ vL.ownBlock from fun e => by have := (HOL.out.lt _ e.symm).1; have := HZ4.out; omega)
      have hnm := HZ4.out
      go_upto_region 7 with fail
      go_cut [31] from 20 to 32 (fun v wx => ∃ A2 n2 cc2, v = .slice A2 n2 cc2 ∧ wx.heap[w.heap.size + 1 + 1 + 1]? = some (.cells #[.string nm, .string cu, .slice A2 n2 cc2, vL, .bool false] 113 (0, 0)) ∧ wx.ownsRow W4.heap.size 157 4 (.slice A2 n2 cc2) (k + 1) ((echartS.take (k + 1)).flatMap accL) ∧ wx.ownsRow W4.heap.size 182 3 vL k ((elinksS.take k).flatMap linkL) ∧ Fr (QX W4.heap.size (w.heap.size + 1 + 1 + 1)) W4 wx ∧ (∀ g, (Value.slice A2 n2 cc2).ownBlock = some g → vL.ownBlock ≠ some g))
      case first =>
        go_region_law (refine step_app _ (by rfl) _ _ 24 (by rfl) W4.heap.size 157 ia _ 4 32 accs_uty hia hzia hsia hbia rfl (by decide) vC k ((echartS.take k).flatMap accL) (by rfl) (by exact (own_below HOC.out (((Below.refl _ _).alloc (Nat.le_refl _) _).drew))) (fun _ => True) (some ⟨_, 0, none⟩) 1 1 [.int .i64 (IntKind.i64.wrap (10 * IntKind.i64.wrap ((k : Int) + 1))), .int .i64 K1, .int .i64 0, .int .i64 0] (by rfl) (by exact rd_new (w := World.drew (wr.alloc _)) (heap_alloc_new wr _) rfl) (by simp [Value.oneCell']) (by unfold maxLen; omega) (by omega) (by simp; omega) ?_; intro v2 w2 hown2 hg2 hat2; obtain ⟨A2, n2, cc2, rfl⟩ := own_shape hown2; have hE2 := (hg2.block (w.heap.size + 1 + 1 + 1) (blk_lt (alloc_keep HEW.out _)) NEC.out).trans (alloc_keep HEW.out _); have hc2 := blk_cell hE2 2; have hf2 := blk_frozen hE2 2)
        all_goals (go_wp2_with fail)
        all_goals go_meet
        all_goals (obtain ⟨h1, h2, h3, h4⟩ := ent_step (i := 2) (by have := HZ4.out; omega) HF.out (((Below.refl _ _).alloc (Nat.le_refl _) _).drew) hg2 (fun g h => (HOC.out.lt _ h).1) HOL.out HNE.out hat2 hown2; rw [wrap10 hlt, ← HA.out] at h1; exact ⟨_, _, _, rfl, heap_setCell_same hE2 2 _, h1, h2, h3, h4⟩)
      case rest =>
        obtain ⟨A2, n2, cc2, rfl, hE, hoC, hoL, hfr, hne⟩ := hcut
        have HEC := Lib.hid hE
        have HOC2 := Lib.hid hoC
        have HOL2 := Lib.hid hoL
        have HFC := Lib.hid hfr
        have HNE2 := Lib.hid hne
        have c3 := blk_cell hE 3
        have hsc := hfr.size
        clear hE hoC hoL hfr hne c2A hkA c2
        have htc2 : wc.cell? ⟨w.heap.size + 1, k, none⟩ = some (.int .i64 K2) :=
          (HFC.out.cell (p := ⟨w.heap.size + 1, k, none⟩) ⟨by have := HZ4.out; show w.heap.size + 1 < _; omega, by show w.heap.size + 1 ≠ _; omega⟩).trans ((HF.out.cell (p := ⟨w.heap.size + 1, k, none⟩) ⟨by have := HZ4.out; show w.heap.size + 1 < _; omega, by show w.heap.size + 1 ≠ _; omega⟩).symm.trans HTC.out)
        have c3A : ∀ o : Obj, (wc.alloc o).cell? ⟨w.heap.size + 1 + 1 + 1, 3, none⟩ = some vL := fun o => blk_cell (alloc_keep HEC.out o) 3
        have htA : ∀ o : Obj, (wc.alloc o).cell? ⟨w.heap.size + 1, k, none⟩ = some (.int .i64 K2) := fun o => ((below1 wc o).cell (p := ⟨w.heap.size + 1, k, none⟩) (by have := HZ4.out; show w.heap.size + 1 < _; omega)).trans htc2
        go_upto_region 8 with fail
        go_region_law (refine step_app _ (by rfl) _ _ 111 (by rfl) W4.heap.size 182 il _ 3 24 links_uty hil hzil hsil hbil rfl (by decide) vL k ((elinksS.take k).flatMap linkL) (by rfl) (by exact (own_below HOL2.out (((Below.refl _ _).alloc (Nat.le_refl _) _).drew))) (fun _ => True) (some ⟨_, 0, none⟩) 1 1 [.int .i64 (IntKind.i64.wrap (10 * IntKind.i64.wrap ((k : Int) + 1))), .int .i64 K2, .int .i64 (-25567)] (by rfl) (by exact rd_new (w := World.drew (wc.alloc _)) (heap_alloc_new wc _) rfl) (by simp [Value.oneCell']) (by unfold maxLen; omega) (by omega) (by simp; omega) ?_; intro v2 w2 hown2 hg2 hat2; obtain ⟨A3, n3, cc3, rfl⟩ := own_shape hown2; have hE2 := (hg2.block (w.heap.size + 1 + 1 + 1) (blk_lt (alloc_keep HEC.out _)) NEL.out).trans (alloc_keep HEC.out _); have hc2 := blk_cell hE2 3; have hf2 := blk_frozen hE2 3)
        all_goals (go_wp2_with fail)
        all_goals (
          go_roundw
          case rel =>
            obtain ⟨h1, h2, h3, h4⟩ := ent_step (i := 3) (by have := HZ4.out; omega) HFC.out (((Below.refl _ _).alloc (Nat.le_refl _) _).drew) hg2 (fun g h => (HOL2.out.lt _ h).1) HOC2.out (fun g h h' => HNE2.out g h' h) hat2 hown2
            rw [wrap10 hlt, ← HL.out] at h1
            exact ⟨k + 1, _, _, by omega, by go_num, h3, heap_setCell_same hE2 3 _, h2, h1, fun g h h' => h4 g h' h⟩
          case measure => first | exact meas_v hlt | (simp only [intOf]; omega))
    case neg =>
      have hltI : ¬ (k : Int) < 14 := by omega
      have hk14 : k = 14 := by omega
      have HOC3 := Lib.hid (show wr.ownsRow W4.heap.size 157 4 vC echartS.length (echartS.flatMap accL) by have h := HOC.out; rw [hk14] at h; exact h)
      have HOL3 := Lib.hid (show wr.ownsRow W4.heap.size 182 3 vL elinksS.length (elinksS.flatMap linkL) by have h := HOL.out; rw [hk14] at h; exact h)
      clear hk14
      have HZR := Lib.hid ((HF.out.block w.heap.size ⟨by have := HZ4.out; omega, by omega⟩).trans HZ'.out)
      have LTR := blk_lt HZR.out
      go_wp2_with (first | (show wpList _ _ _ (Oper.mk (some 46) _ _ _ _ _ :: _) _ _; refine wpList_load_row_g rfl 113 (.tmp 7) rfl (w.heap.size + 1 + 1 + 1) rfl _ _ _ _ HEW.out Try.underlying113 rfl info_entity ?_) | (show wpList _ _ _ (Oper.mk none (Op.store _ (Operand.tmp 4) _) _ _ _ _ :: _) _ _; refine wpList_store_row rfl 113 (.tmp 4) (.tmp 46) rfl w.heap.size #[.string nm, .string cu, vC, vL, .bool false] rfl rfl 113 #[.string ⟨#[]⟩, .string ⟨#[]⟩, .slice none 0 0, .slice none 0 0, .bool false] HZR.out info_entity rfl (by obtain ⟨_, _, _, rfl⟩ := own_shape HOC3.out; obtain ⟨_, _, _, rfl⟩ := own_shape HOL3.out; simp [Value.oneCell']) ?_))
      refine bodyPost_ret (v := _) (results_cell rfl _ _ w.heap.size 113 _ (0, 0) _ rfl (heap_setRow HZR.out _) Try.underlying113 rfl info_entity) rfl ?_
      have hsz' := HF.out.size
      have hz := HZ4.out
      have hb9 : Below w.heap.size w (wr.setRow w.heap.size #[.string nm, .string cu, vC, vL, .bool false]) := below_setRow (((Fr.ofBelow hb4).trans (HF.out.mono (fun k (hk : k < w.heap.size) => ⟨by omega, by omega⟩))).below) (Nat.le_refl _) _
      have hsr : (wr.setRow w.heap.size #[.string nm, .string cu, vC, vL, .bool false]).heap.size = wr.heap.size := by simp
      have o1 := own_same (w' := wr.setRow w.heap.size #[.string nm, .string cu, vC, vL, .bool false]) HOC3.out (fun g hg => (fr_setRow wr w.heap.size _).block g (by have := (HOC3.out.lt _ hg).1; show g ≠ _; omega))
      have o2 := own_same (w' := wr.setRow w.heap.size #[.string nm, .string cu, vC, vL, .bool false]) HOL3.out (fun g hg => (fr_setRow wr w.heap.size _).block g (by have := (HOL3.out.lt _ hg).1; show g ≠ _; omega))
      have l1 := own_listC (El := AccountC) (f := accL) (fun _ => rfl) o1 (Q := fun k => w.heap.size ≤ k ∧ k < (wr.setRow w.heap.size #[.string nm, .string cu, vC, vL, .bool false]).heap.size) (fun x hx => accC_of (echart_bd x hx)) (fun g hg => by have := o1.lt _ hg; omega) (by decide)
      have l2 := own_listC (El := LinkC) (f := linkL) (fun _ => rfl) o2 (Q := fun k => w.heap.size ≤ k ∧ k < (wr.setRow w.heap.size #[.string nm, .string cu, vC, vL, .bool false]).heap.size) (fun x hx => linkC_of (elinks_bd x hx)) (fun g hg => by have := o2.lt _ hg; omega) (by decide)
      exact ⟨[.string nm, .string cu, vC, vL, .bool false], rfl, ⟨[_], [_], [_], [_], [_], rfl, rfl, rfl, l1, l2, rfl⟩, hb9⟩

end Go.Proofs.Ytnigokmjehemaaa
