/- Arguments of the types of package api, opened to data. Written by gen_i3.py. -/
import Derived.Test.YtgdibeegheddmaaYFa
import Derived.Deep.Slices
import Derived.Deep.Fields
import Derived.ChangeSame
namespace Go.Proofs.Ytgdibeegheddmaa
open Go Go.RowKit Go.ChangeShapes Go.WideShapes Go.Deep
set_option linter.unusedVariables false
set_option linter.unusedSimpArgs false
section
variable {H : Type} {enc : TypeId × Value → H} {W : World}
/-- What reads as a value of type T, with cells that may be written, is as P says of some datum. -/
def Opens (enc : TypeId × Value → H) (W : World) (T : TypeId) {α : Type} (P : List Value → α → Prop) : Prop :=
  ∀ fuel cs x, DataW.trod enc Try.prog W 0 (fun _ => true) true fuel T cs = some x → (∀ b off, MemPlace.cell b off ∈ x.2 → W.frozen? ⟨b, off, none⟩ = false) → ∃ a, P cs a
theorem opInt : Opens enc W 3 IntC := fun fuel cs x h _ => by
  obtain ⟨n, rfl, _, hwf⟩ := DataW.trod_int Try.underlying3 h
  refine ⟨n, rfl, ?_⟩
  simp only [Lit.wf, IntKind.min, IntKind.max, Bool.and_eq_true, decide_eq_true_eq] at hwf
  simp [IntKind.signed, IntKind.bits] at hwf
  unfold intBd; omega
theorem opStr : Opens enc W 9 StrC := fun fuel cs x h _ => by
  obtain ⟨s, rfl, _, _⟩ := DataW.trod_string Try.underlying9 h
  exact ⟨s, rfl⟩
theorem opBool : Opens enc W 4 BoolC := fun fuel cs x h _ => by
  obtain ⟨b, rfl, _⟩ := DataW.trod_bool Try.underlying4 h
  exact ⟨b, rfl⟩
theorem cells_at {a : Addr} {n k : Nat} {cs : List Value} (h : ∀ i, i < n → W.cell? ((a.add k).add i) = cs[i]?) : ∀ i, i < n → W.cell? (a.add (k + i)) = cs[i]? := fun i hi => by
  rw [← add_add']; exact h i hi
theorem opList {α : Type} {El : World → (Nat → Prop) → List Value → α → Prop} {T E : TypeId} {size : Nat} (ht : Try.prog.underlying T = some (.slice E)) (hC : Try.prog.cellsOf E = size) (hs : 0 < size)
    (hE : Opens enc W E (El W (· < W.heap.size))) : Opens enc W T (ListC El size W (· < W.heap.size)) := fun fuel cs x h hfz => by
  have hlt := DataW.trod_lt _ _ _ _ h
  rcases open_slice ht h with ⟨rfl, rfl⟩ | ⟨a, len, cap, m, n, Df, Pl, rfl, _, hl, hm, hmm, rfl, hi⟩
  · exact ⟨[], none, 0, rfl, by simp, by simp [maxLen], fun h => absurd h (by simp)⟩
  · simp only [if_true] at hmm
    subst hmm
    rw [hC] at hi hlt hfz
    have key : ∀ i, i < m → ∃ es y, (∀ j, j < es.length → W.cell? (a.add (i * size + j)) = es[j]?) ∧ es.length = size ∧ El W (· < W.heap.size) es y := by
      intro i him
      obtain ⟨cs', hc, ht'⟩ := hi i him
      obtain ⟨_, hcl, hat⟩ := World.cells?_some hc
      obtain ⟨y, hy⟩ := hE _ _ _ ht' (fun b off hb => hfz b off (List.mem_append_right _ (List.mem_flatMap.2 ⟨i, List.mem_range.2 him, hb⟩)))
      exact ⟨cs', y, fun j hj => cells_at hat j (by omega), hcl, hy⟩
    have hlen : ∃ xs : List α, xs.length = len ∧ ∀ i x, xs[i]? = some x → ∃ es, (∀ j, j < es.length → W.cell? (a.add (i * size + j)) = es[j]?) ∧ es.length = size ∧ El W (· < W.heap.size) es x := by
      have : ∀ k, k ≤ m → ∃ xs : List α, xs.length = k ∧ ∀ i x, xs[i]? = some x → ∃ es, (∀ j, j < es.length → W.cell? (a.add (i * size + j)) = es[j]?) ∧ es.length = size ∧ El W (· < W.heap.size) es x := by
        intro k
        induction k with
        | zero => exact fun _ => ⟨[], rfl, fun i x h => by simp at h⟩
        | succ k ih =>
          intro hk
          obtain ⟨xs, hxl, hx⟩ := ih (by omega)
          obtain ⟨es, y, h1, h2, h3⟩ := key k (by omega)
          refine ⟨xs ++ [y], by simp [hxl], fun i x hix => ?_⟩
          by_cases hik : i < xs.length
          · rw [List.getElem?_append_left hik] at hix
            exact hx i x hix
          · rw [List.getElem?_append_right (by omega)] at hix
            have h0 : i - xs.length = 0 := by
              have := (List.getElem?_eq_some_iff.1 hix).1
              simp at this; omega
            rw [h0] at hix
            simp at hix
            subst hix
            have : i = k := by omega
            subst this
            exact ⟨es, h1, h2, h3⟩
      exact this len hl
    obtain ⟨xs, rfl, hx⟩ := hlen
    refine ⟨xs, some a, m, rfl, hl, hm, fun hn => ?_⟩
    have h0 := hx 0 xs[0] (List.getElem?_eq_getElem hn)
    obtain ⟨es0, hc0, hl0, _⟩ := h0
    have hcell0 := hc0 0 (by omega)
    rw [List.getElem?_eq_getElem (by omega)] at hcell0
    obtain ⟨b, off, spot⟩ := a
    have hspot : spot = none := by simpa [Addr.add] using World.cell?_spot hcell0
    subst hspot
    have hmem : ∀ q, q < m * size → MemPlace.cell b (off + q) ∈ MemPlace.row ⟨b, off, none⟩ (m * size) := fun q hq => MemPlace.mem_row.2 ⟨q, hq, rfl⟩
    have hms : 0 < m * size := Nat.mul_pos (by omega) hs
    refine ⟨b, off, rfl, hlt _ (List.mem_append_left _ (hmem 0 hms)), fun i x hix => ?_⟩
    obtain ⟨es, hc, hlE, hel⟩ := hx i x hix
    have hil : i < xs.length := (List.getElem?_eq_some_iff.1 hix).1
    refine ⟨es, hel, hlt _ (List.mem_append_left _ (hmem 0 hms)), fun j u hu => ?_⟩
    have hj : j < es.length := (List.getElem?_eq_some_iff.1 hu).1
    have e1 := hc j hj
    rw [add_plain] at e1
    rw [Addr.add_lit, Nat.add_assoc]
    refine ⟨e1.trans hu, hfz _ _ (List.mem_append_left _ (hmem (i * size + j) ?_))⟩
    have : i * size + size ≤ m * size := by rw [← Nat.succ_mul]; exact Nat.mul_le_mul_right _ (by omega)
    omega
theorem take_drop_one (cs : List Value) (a n : Nat) : cs.drop a = (cs.drop a).take n ++ cs.drop (a + n) := by
  rw [← List.drop_drop, List.take_append_drop]
theorem opLine : Opens enc W 127 (LineC W (· < W.heap.size)) := fun fuel cs x h hfz => by
  obtain ⟨xs, n, _, rfl, hcl, hxl, hf⟩ := DataW.trod_struct Try.underlying127 h
  have hcl2 : cs.length = 3 := hcl.trans (by kernel_rfl)
  have h0 := hf 0 _ rfl
  obtain ⟨y0, hy0⟩ : ∃ y, xs[0]? = some y := ⟨_, List.getElem?_eq_getElem (by rw [hxl]; decide)⟩
  obtain ⟨a0, q0⟩ := opInt _ _ _ (h0.trans hy0) (fun b off hb => hfz b off (List.mem_flatMap.2 ⟨y0, List.mem_of_getElem? hy0, hb⟩))
  have h1 := hf 1 _ rfl
  obtain ⟨y1, hy1⟩ : ∃ y, xs[1]? = some y := ⟨_, List.getElem?_eq_getElem (by rw [hxl]; decide)⟩
  obtain ⟨a1, q1⟩ := opInt _ _ _ (h1.trans hy1) (fun b off hb => hfz b off (List.mem_flatMap.2 ⟨y1, List.mem_of_getElem? hy1, hb⟩))
  have h2 := hf 2 _ rfl
  obtain ⟨y2, hy2⟩ : ∃ y, xs[2]? = some y := ⟨_, List.getElem?_eq_getElem (by rw [hxl]; decide)⟩
  obtain ⟨a2, q2⟩ := opInt _ _ _ (h2.trans hy2) (fun b off hb => hfz b off (List.mem_flatMap.2 ⟨y2, List.mem_of_getElem? hy2, hb⟩))
  refine ⟨⟨a0, a1, a2⟩, _, _, _, ?_, q0, q1, q2⟩
  have e0 : (cs.drop 0).take (Try.prog.cellsOf 3) = (cs.drop 0).take 1 := by rw [show Try.prog.cellsOf 3 = 1 from by kernel_rfl]
  have e1 : (cs.drop 1).take (Try.prog.cellsOf 3) = (cs.drop 1).take 1 := by rw [show Try.prog.cellsOf 3 = 1 from by kernel_rfl]
  have e2 : (cs.drop 2).take (Try.prog.cellsOf 3) = (cs.drop 2).take 1 := by rw [show Try.prog.cellsOf 3 = 1 from by kernel_rfl]
  show cs = (cs.drop 0).take (Try.prog.cellsOf 3) ++ (cs.drop 1).take (Try.prog.cellsOf 3) ++ (cs.drop 2).take (Try.prog.cellsOf 3)
  rw [e0, e1, e2]
  have z : cs = cs.drop 0 := rfl
  have t0 := take_drop_one cs 0 1
  have t1 := take_drop_one cs 1 1
  have t2 := take_drop_one cs 2 1
  have tn : cs.drop 3 = [] := List.drop_eq_nil_of_le (by omega)
  simp only [Nat.reduceAdd] at t0 t1 t2
  have r2 := t2.trans (by rw [tn, List.append_nil])
  have r1 := t1.trans (congrArg (_ ++ ·) r2)
  have r0 := t0.trans (congrArg (_ ++ ·) r1)
  refine z.trans (r0.trans ?_)
  simp only [List.append_assoc]
theorem opLLine : Opens enc W 32 (ListC LineC 3 W (· < W.heap.size)) := opList Try.underlying32 (by kernel_rfl) (by decide) opLine
theorem opEntry : Opens enc W 34 (EntryC W (· < W.heap.size)) := fun fuel cs x h hfz => by
  obtain ⟨xs, n, _, rfl, hcl, hxl, hf⟩ := DataW.trod_struct Try.underlying34 h
  have hcl2 : cs.length = 7 := hcl.trans (by kernel_rfl)
  have h0 := hf 0 _ rfl
  obtain ⟨y0, hy0⟩ : ∃ y, xs[0]? = some y := ⟨_, List.getElem?_eq_getElem (by rw [hxl]; decide)⟩
  obtain ⟨a0, q0⟩ := opInt _ _ _ (h0.trans hy0) (fun b off hb => hfz b off (List.mem_flatMap.2 ⟨y0, List.mem_of_getElem? hy0, hb⟩))
  have h1 := hf 1 _ rfl
  obtain ⟨y1, hy1⟩ : ∃ y, xs[1]? = some y := ⟨_, List.getElem?_eq_getElem (by rw [hxl]; decide)⟩
  obtain ⟨a1, q1⟩ := opInt _ _ _ (h1.trans hy1) (fun b off hb => hfz b off (List.mem_flatMap.2 ⟨y1, List.mem_of_getElem? hy1, hb⟩))
  have h2 := hf 2 _ rfl
  obtain ⟨y2, hy2⟩ : ∃ y, xs[2]? = some y := ⟨_, List.getElem?_eq_getElem (by rw [hxl]; decide)⟩
  obtain ⟨a2, q2⟩ := opInt _ _ _ (h2.trans hy2) (fun b off hb => hfz b off (List.mem_flatMap.2 ⟨y2, List.mem_of_getElem? hy2, hb⟩))
  have h3 := hf 3 _ rfl
  obtain ⟨y3, hy3⟩ : ∃ y, xs[3]? = some y := ⟨_, List.getElem?_eq_getElem (by rw [hxl]; decide)⟩
  obtain ⟨a3, q3⟩ := opInt _ _ _ (h3.trans hy3) (fun b off hb => hfz b off (List.mem_flatMap.2 ⟨y3, List.mem_of_getElem? hy3, hb⟩))
  have h4 := hf 4 _ rfl
  obtain ⟨y4, hy4⟩ : ∃ y, xs[4]? = some y := ⟨_, List.getElem?_eq_getElem (by rw [hxl]; decide)⟩
  obtain ⟨a4, q4⟩ := opInt _ _ _ (h4.trans hy4) (fun b off hb => hfz b off (List.mem_flatMap.2 ⟨y4, List.mem_of_getElem? hy4, hb⟩))
  have h5 := hf 5 _ rfl
  obtain ⟨y5, hy5⟩ : ∃ y, xs[5]? = some y := ⟨_, List.getElem?_eq_getElem (by rw [hxl]; decide)⟩
  obtain ⟨a5, q5⟩ := opStr _ _ _ (h5.trans hy5) (fun b off hb => hfz b off (List.mem_flatMap.2 ⟨y5, List.mem_of_getElem? hy5, hb⟩))
  have h6 := hf 6 _ rfl
  obtain ⟨y6, hy6⟩ : ∃ y, xs[6]? = some y := ⟨_, List.getElem?_eq_getElem (by rw [hxl]; decide)⟩
  obtain ⟨a6, q6⟩ := opLLine _ _ _ (h6.trans hy6) (fun b off hb => hfz b off (List.mem_flatMap.2 ⟨y6, List.mem_of_getElem? hy6, hb⟩))
  refine ⟨⟨a0, a1, a2, a3, a4, a5, a6⟩, _, _, _, _, _, _, _, ?_, q0, q1, q2, q3, q4, q5, q6⟩
  have e0 : (cs.drop 0).take (Try.prog.cellsOf 3) = (cs.drop 0).take 1 := by rw [show Try.prog.cellsOf 3 = 1 from by kernel_rfl]
  have e1 : (cs.drop 1).take (Try.prog.cellsOf 3) = (cs.drop 1).take 1 := by rw [show Try.prog.cellsOf 3 = 1 from by kernel_rfl]
  have e2 : (cs.drop 2).take (Try.prog.cellsOf 3) = (cs.drop 2).take 1 := by rw [show Try.prog.cellsOf 3 = 1 from by kernel_rfl]
  have e3 : (cs.drop 3).take (Try.prog.cellsOf 3) = (cs.drop 3).take 1 := by rw [show Try.prog.cellsOf 3 = 1 from by kernel_rfl]
  have e4 : (cs.drop 4).take (Try.prog.cellsOf 3) = (cs.drop 4).take 1 := by rw [show Try.prog.cellsOf 3 = 1 from by kernel_rfl]
  have e5 : (cs.drop 5).take (Try.prog.cellsOf 9) = (cs.drop 5).take 1 := by rw [show Try.prog.cellsOf 9 = 1 from by kernel_rfl]
  have e6 : (cs.drop 6).take (Try.prog.cellsOf 32) = (cs.drop 6).take 1 := by rw [show Try.prog.cellsOf 32 = 1 from by kernel_rfl]
  show cs = (cs.drop 0).take (Try.prog.cellsOf 3) ++ (cs.drop 1).take (Try.prog.cellsOf 3) ++ (cs.drop 2).take (Try.prog.cellsOf 3) ++ (cs.drop 3).take (Try.prog.cellsOf 3) ++ (cs.drop 4).take (Try.prog.cellsOf 3) ++ (cs.drop 5).take (Try.prog.cellsOf 9) ++ (cs.drop 6).take (Try.prog.cellsOf 32)
  rw [e0, e1, e2, e3, e4, e5, e6]
  have z : cs = cs.drop 0 := rfl
  have t0 := take_drop_one cs 0 1
  have t1 := take_drop_one cs 1 1
  have t2 := take_drop_one cs 2 1
  have t3 := take_drop_one cs 3 1
  have t4 := take_drop_one cs 4 1
  have t5 := take_drop_one cs 5 1
  have t6 := take_drop_one cs 6 1
  have tn : cs.drop 7 = [] := List.drop_eq_nil_of_le (by omega)
  simp only [Nat.reduceAdd] at t0 t1 t2 t3 t4 t5 t6
  have r6 := t6.trans (by rw [tn, List.append_nil])
  have r5 := t5.trans (congrArg (_ ++ ·) r6)
  have r4 := t4.trans (congrArg (_ ++ ·) r5)
  have r3 := t3.trans (congrArg (_ ++ ·) r4)
  have r2 := t2.trans (congrArg (_ ++ ·) r3)
  have r1 := t1.trans (congrArg (_ ++ ·) r2)
  have r0 := t0.trans (congrArg (_ ++ ·) r1)
  refine z.trans (r0.trans ?_)
  simp only [List.append_assoc]
theorem opLEntry : Opens enc W 61 (ListC EntryC 7 W (· < W.heap.size)) := opList Try.underlying61 (by kernel_rfl) (by decide) opEntry
theorem opRate : Opens enc W 36 (RateC W (· < W.heap.size)) := fun fuel cs x h hfz => by
  obtain ⟨xs, n, _, rfl, hcl, hxl, hf⟩ := DataW.trod_struct Try.underlying36 h
  have hcl2 : cs.length = 4 := hcl.trans (by kernel_rfl)
  have h0 := hf 0 _ rfl
  obtain ⟨y0, hy0⟩ : ∃ y, xs[0]? = some y := ⟨_, List.getElem?_eq_getElem (by rw [hxl]; decide)⟩
  obtain ⟨a0, q0⟩ := opStr _ _ _ (h0.trans hy0) (fun b off hb => hfz b off (List.mem_flatMap.2 ⟨y0, List.mem_of_getElem? hy0, hb⟩))
  have h1 := hf 1 _ rfl
  obtain ⟨y1, hy1⟩ : ∃ y, xs[1]? = some y := ⟨_, List.getElem?_eq_getElem (by rw [hxl]; decide)⟩
  obtain ⟨a1, q1⟩ := opInt _ _ _ (h1.trans hy1) (fun b off hb => hfz b off (List.mem_flatMap.2 ⟨y1, List.mem_of_getElem? hy1, hb⟩))
  have h2 := hf 2 _ rfl
  obtain ⟨y2, hy2⟩ : ∃ y, xs[2]? = some y := ⟨_, List.getElem?_eq_getElem (by rw [hxl]; decide)⟩
  obtain ⟨a2, q2⟩ := opInt _ _ _ (h2.trans hy2) (fun b off hb => hfz b off (List.mem_flatMap.2 ⟨y2, List.mem_of_getElem? hy2, hb⟩))
  have h3 := hf 3 _ rfl
  obtain ⟨y3, hy3⟩ : ∃ y, xs[3]? = some y := ⟨_, List.getElem?_eq_getElem (by rw [hxl]; decide)⟩
  obtain ⟨a3, q3⟩ := opInt _ _ _ (h3.trans hy3) (fun b off hb => hfz b off (List.mem_flatMap.2 ⟨y3, List.mem_of_getElem? hy3, hb⟩))
  refine ⟨⟨a0, a1, a2, a3⟩, _, _, _, _, ?_, q0, q1, q2, q3⟩
  have e0 : (cs.drop 0).take (Try.prog.cellsOf 9) = (cs.drop 0).take 1 := by rw [show Try.prog.cellsOf 9 = 1 from by kernel_rfl]
  have e1 : (cs.drop 1).take (Try.prog.cellsOf 3) = (cs.drop 1).take 1 := by rw [show Try.prog.cellsOf 3 = 1 from by kernel_rfl]
  have e2 : (cs.drop 2).take (Try.prog.cellsOf 3) = (cs.drop 2).take 1 := by rw [show Try.prog.cellsOf 3 = 1 from by kernel_rfl]
  have e3 : (cs.drop 3).take (Try.prog.cellsOf 3) = (cs.drop 3).take 1 := by rw [show Try.prog.cellsOf 3 = 1 from by kernel_rfl]
  show cs = (cs.drop 0).take (Try.prog.cellsOf 9) ++ (cs.drop 1).take (Try.prog.cellsOf 3) ++ (cs.drop 2).take (Try.prog.cellsOf 3) ++ (cs.drop 3).take (Try.prog.cellsOf 3)
  rw [e0, e1, e2, e3]
  have z : cs = cs.drop 0 := rfl
  have t0 := take_drop_one cs 0 1
  have t1 := take_drop_one cs 1 1
  have t2 := take_drop_one cs 2 1
  have t3 := take_drop_one cs 3 1
  have tn : cs.drop 4 = [] := List.drop_eq_nil_of_le (by omega)
  simp only [Nat.reduceAdd] at t0 t1 t2 t3
  have r3 := t3.trans (by rw [tn, List.append_nil])
  have r2 := t2.trans (congrArg (_ ++ ·) r3)
  have r1 := t1.trans (congrArg (_ ++ ·) r2)
  have r0 := t0.trans (congrArg (_ ++ ·) r1)
  refine z.trans (r0.trans ?_)
  simp only [List.append_assoc]
theorem opLRate : Opens enc W 62 (ListC RateC 4 W (· < W.heap.size)) := opList Try.underlying62 (by kernel_rfl) (by decide) opRate
theorem opHolding : Opens enc W 38 (HoldingC W (· < W.heap.size)) := fun fuel cs x h hfz => by
  obtain ⟨xs, n, _, rfl, hcl, hxl, hf⟩ := DataW.trod_struct Try.underlying38 h
  have hcl2 : cs.length = 4 := hcl.trans (by kernel_rfl)
  have h0 := hf 0 _ rfl
  obtain ⟨y0, hy0⟩ : ∃ y, xs[0]? = some y := ⟨_, List.getElem?_eq_getElem (by rw [hxl]; decide)⟩
  obtain ⟨a0, q0⟩ := opInt _ _ _ (h0.trans hy0) (fun b off hb => hfz b off (List.mem_flatMap.2 ⟨y0, List.mem_of_getElem? hy0, hb⟩))
  have h1 := hf 1 _ rfl
  obtain ⟨y1, hy1⟩ : ∃ y, xs[1]? = some y := ⟨_, List.getElem?_eq_getElem (by rw [hxl]; decide)⟩
  obtain ⟨a1, q1⟩ := opInt _ _ _ (h1.trans hy1) (fun b off hb => hfz b off (List.mem_flatMap.2 ⟨y1, List.mem_of_getElem? hy1, hb⟩))
  have h2 := hf 2 _ rfl
  obtain ⟨y2, hy2⟩ : ∃ y, xs[2]? = some y := ⟨_, List.getElem?_eq_getElem (by rw [hxl]; decide)⟩
  obtain ⟨a2, q2⟩ := opInt _ _ _ (h2.trans hy2) (fun b off hb => hfz b off (List.mem_flatMap.2 ⟨y2, List.mem_of_getElem? hy2, hb⟩))
  have h3 := hf 3 _ rfl
  obtain ⟨y3, hy3⟩ : ∃ y, xs[3]? = some y := ⟨_, List.getElem?_eq_getElem (by rw [hxl]; decide)⟩
  obtain ⟨a3, q3⟩ := opInt _ _ _ (h3.trans hy3) (fun b off hb => hfz b off (List.mem_flatMap.2 ⟨y3, List.mem_of_getElem? hy3, hb⟩))
  refine ⟨⟨a0, a1, a2, a3⟩, _, _, _, _, ?_, q0, q1, q2, q3⟩
  have e0 : (cs.drop 0).take (Try.prog.cellsOf 3) = (cs.drop 0).take 1 := by rw [show Try.prog.cellsOf 3 = 1 from by kernel_rfl]
  have e1 : (cs.drop 1).take (Try.prog.cellsOf 3) = (cs.drop 1).take 1 := by rw [show Try.prog.cellsOf 3 = 1 from by kernel_rfl]
  have e2 : (cs.drop 2).take (Try.prog.cellsOf 3) = (cs.drop 2).take 1 := by rw [show Try.prog.cellsOf 3 = 1 from by kernel_rfl]
  have e3 : (cs.drop 3).take (Try.prog.cellsOf 3) = (cs.drop 3).take 1 := by rw [show Try.prog.cellsOf 3 = 1 from by kernel_rfl]
  show cs = (cs.drop 0).take (Try.prog.cellsOf 3) ++ (cs.drop 1).take (Try.prog.cellsOf 3) ++ (cs.drop 2).take (Try.prog.cellsOf 3) ++ (cs.drop 3).take (Try.prog.cellsOf 3)
  rw [e0, e1, e2, e3]
  have z : cs = cs.drop 0 := rfl
  have t0 := take_drop_one cs 0 1
  have t1 := take_drop_one cs 1 1
  have t2 := take_drop_one cs 2 1
  have t3 := take_drop_one cs 3 1
  have tn : cs.drop 4 = [] := List.drop_eq_nil_of_le (by omega)
  simp only [Nat.reduceAdd] at t0 t1 t2 t3
  have r3 := t3.trans (by rw [tn, List.append_nil])
  have r2 := t2.trans (congrArg (_ ++ ·) r3)
  have r1 := t1.trans (congrArg (_ ++ ·) r2)
  have r0 := t0.trans (congrArg (_ ++ ·) r1)
  refine z.trans (r0.trans ?_)
  simp only [List.append_assoc]
theorem opLHolding : Opens enc W 63 (ListC HoldingC 4 W (· < W.heap.size)) := opList Try.underlying63 (by kernel_rfl) (by decide) opHolding
theorem opRef : Opens enc W 160 (RefC W (· < W.heap.size)) := fun fuel cs x h hfz => by
  obtain ⟨xs, n, _, rfl, hcl, hxl, hf⟩ := DataW.trod_struct Try.underlying160 h
  have hcl2 : cs.length = 2 := hcl.trans (by kernel_rfl)
  have h0 := hf 0 _ rfl
  obtain ⟨y0, hy0⟩ : ∃ y, xs[0]? = some y := ⟨_, List.getElem?_eq_getElem (by rw [hxl]; decide)⟩
  obtain ⟨a0, q0⟩ := opInt _ _ _ (h0.trans hy0) (fun b off hb => hfz b off (List.mem_flatMap.2 ⟨y0, List.mem_of_getElem? hy0, hb⟩))
  have h1 := hf 1 _ rfl
  obtain ⟨y1, hy1⟩ : ∃ y, xs[1]? = some y := ⟨_, List.getElem?_eq_getElem (by rw [hxl]; decide)⟩
  obtain ⟨a1, q1⟩ := opInt _ _ _ (h1.trans hy1) (fun b off hb => hfz b off (List.mem_flatMap.2 ⟨y1, List.mem_of_getElem? hy1, hb⟩))
  refine ⟨⟨a0, a1⟩, _, _, ?_, q0, q1⟩
  have e0 : (cs.drop 0).take (Try.prog.cellsOf 3) = (cs.drop 0).take 1 := by rw [show Try.prog.cellsOf 3 = 1 from by kernel_rfl]
  have e1 : (cs.drop 1).take (Try.prog.cellsOf 3) = (cs.drop 1).take 1 := by rw [show Try.prog.cellsOf 3 = 1 from by kernel_rfl]
  show cs = (cs.drop 0).take (Try.prog.cellsOf 3) ++ (cs.drop 1).take (Try.prog.cellsOf 3)
  rw [e0, e1]
  have z : cs = cs.drop 0 := rfl
  have t0 := take_drop_one cs 0 1
  have t1 := take_drop_one cs 1 1
  have tn : cs.drop 2 = [] := List.drop_eq_nil_of_le (by omega)
  simp only [Nat.reduceAdd] at t0 t1
  have r1 := t1.trans (by rw [tn, List.append_nil])
  have r0 := t0.trans (congrArg (_ ++ ·) r1)
  refine z.trans (r0.trans ?_)
  simp only [List.append_assoc]
theorem opLRef : Opens enc W 39 (ListC RefC 2 W (· < W.heap.size)) := opList Try.underlying39 (by kernel_rfl) (by decide) opRef
theorem opMatch : Opens enc W 41 (MatchC W (· < W.heap.size)) := fun fuel cs x h hfz => by
  obtain ⟨xs, n, _, rfl, hcl, hxl, hf⟩ := DataW.trod_struct Try.underlying41 h
  have hcl2 : cs.length = 4 := hcl.trans (by kernel_rfl)
  have h0 := hf 0 _ rfl
  obtain ⟨y0, hy0⟩ : ∃ y, xs[0]? = some y := ⟨_, List.getElem?_eq_getElem (by rw [hxl]; decide)⟩
  obtain ⟨a0, q0⟩ := opInt _ _ _ (h0.trans hy0) (fun b off hb => hfz b off (List.mem_flatMap.2 ⟨y0, List.mem_of_getElem? hy0, hb⟩))
  have h1 := hf 1 _ rfl
  obtain ⟨y1, hy1⟩ : ∃ y, xs[1]? = some y := ⟨_, List.getElem?_eq_getElem (by rw [hxl]; decide)⟩
  obtain ⟨a1, q1⟩ := opLRef _ _ _ (h1.trans hy1) (fun b off hb => hfz b off (List.mem_flatMap.2 ⟨y1, List.mem_of_getElem? hy1, hb⟩))
  have h2 := hf 2 _ rfl
  obtain ⟨y2, hy2⟩ : ∃ y, xs[2]? = some y := ⟨_, List.getElem?_eq_getElem (by rw [hxl]; decide)⟩
  obtain ⟨a2, q2⟩ := opLRef _ _ _ (h2.trans hy2) (fun b off hb => hfz b off (List.mem_flatMap.2 ⟨y2, List.mem_of_getElem? hy2, hb⟩))
  have h3 := hf 3 _ rfl
  obtain ⟨y3, hy3⟩ : ∃ y, xs[3]? = some y := ⟨_, List.getElem?_eq_getElem (by rw [hxl]; decide)⟩
  obtain ⟨a3, q3⟩ := opInt _ _ _ (h3.trans hy3) (fun b off hb => hfz b off (List.mem_flatMap.2 ⟨y3, List.mem_of_getElem? hy3, hb⟩))
  refine ⟨⟨a0, a1, a2, a3⟩, _, _, _, _, ?_, q0, q1, q2, q3⟩
  have e0 : (cs.drop 0).take (Try.prog.cellsOf 3) = (cs.drop 0).take 1 := by rw [show Try.prog.cellsOf 3 = 1 from by kernel_rfl]
  have e1 : (cs.drop 1).take (Try.prog.cellsOf 39) = (cs.drop 1).take 1 := by rw [show Try.prog.cellsOf 39 = 1 from by kernel_rfl]
  have e2 : (cs.drop 2).take (Try.prog.cellsOf 39) = (cs.drop 2).take 1 := by rw [show Try.prog.cellsOf 39 = 1 from by kernel_rfl]
  have e3 : (cs.drop 3).take (Try.prog.cellsOf 3) = (cs.drop 3).take 1 := by rw [show Try.prog.cellsOf 3 = 1 from by kernel_rfl]
  show cs = (cs.drop 0).take (Try.prog.cellsOf 3) ++ (cs.drop 1).take (Try.prog.cellsOf 39) ++ (cs.drop 2).take (Try.prog.cellsOf 39) ++ (cs.drop 3).take (Try.prog.cellsOf 3)
  rw [e0, e1, e2, e3]
  have z : cs = cs.drop 0 := rfl
  have t0 := take_drop_one cs 0 1
  have t1 := take_drop_one cs 1 1
  have t2 := take_drop_one cs 2 1
  have t3 := take_drop_one cs 3 1
  have tn : cs.drop 4 = [] := List.drop_eq_nil_of_le (by omega)
  simp only [Nat.reduceAdd] at t0 t1 t2 t3
  have r3 := t3.trans (by rw [tn, List.append_nil])
  have r2 := t2.trans (congrArg (_ ++ ·) r3)
  have r1 := t1.trans (congrArg (_ ++ ·) r2)
  have r0 := t0.trans (congrArg (_ ++ ·) r1)
  refine z.trans (r0.trans ?_)
  simp only [List.append_assoc]
theorem opLMatch : Opens enc W 64 (ListC MatchC 4 W (· < W.heap.size)) := opList Try.underlying64 (by kernel_rfl) (by decide) opMatch
theorem opStock : Opens enc W 43 (StockC W (· < W.heap.size)) := fun fuel cs x h hfz => by
  obtain ⟨xs, n, _, rfl, hcl, hxl, hf⟩ := DataW.trod_struct Try.underlying43 h
  have hcl2 : cs.length = 5 := hcl.trans (by kernel_rfl)
  have h0 := hf 0 _ rfl
  obtain ⟨y0, hy0⟩ : ∃ y, xs[0]? = some y := ⟨_, List.getElem?_eq_getElem (by rw [hxl]; decide)⟩
  obtain ⟨a0, q0⟩ := opInt _ _ _ (h0.trans hy0) (fun b off hb => hfz b off (List.mem_flatMap.2 ⟨y0, List.mem_of_getElem? hy0, hb⟩))
  have h1 := hf 1 _ rfl
  obtain ⟨y1, hy1⟩ : ∃ y, xs[1]? = some y := ⟨_, List.getElem?_eq_getElem (by rw [hxl]; decide)⟩
  obtain ⟨a1, q1⟩ := opInt _ _ _ (h1.trans hy1) (fun b off hb => hfz b off (List.mem_flatMap.2 ⟨y1, List.mem_of_getElem? hy1, hb⟩))
  have h2 := hf 2 _ rfl
  obtain ⟨y2, hy2⟩ : ∃ y, xs[2]? = some y := ⟨_, List.getElem?_eq_getElem (by rw [hxl]; decide)⟩
  obtain ⟨a2, q2⟩ := opInt _ _ _ (h2.trans hy2) (fun b off hb => hfz b off (List.mem_flatMap.2 ⟨y2, List.mem_of_getElem? hy2, hb⟩))
  have h3 := hf 3 _ rfl
  obtain ⟨y3, hy3⟩ : ∃ y, xs[3]? = some y := ⟨_, List.getElem?_eq_getElem (by rw [hxl]; decide)⟩
  obtain ⟨a3, q3⟩ := opInt _ _ _ (h3.trans hy3) (fun b off hb => hfz b off (List.mem_flatMap.2 ⟨y3, List.mem_of_getElem? hy3, hb⟩))
  have h4 := hf 4 _ rfl
  obtain ⟨y4, hy4⟩ : ∃ y, xs[4]? = some y := ⟨_, List.getElem?_eq_getElem (by rw [hxl]; decide)⟩
  obtain ⟨a4, q4⟩ := opInt _ _ _ (h4.trans hy4) (fun b off hb => hfz b off (List.mem_flatMap.2 ⟨y4, List.mem_of_getElem? hy4, hb⟩))
  refine ⟨⟨a0, a1, a2, a3, a4⟩, _, _, _, _, _, ?_, q0, q1, q2, q3, q4⟩
  have e0 : (cs.drop 0).take (Try.prog.cellsOf 3) = (cs.drop 0).take 1 := by rw [show Try.prog.cellsOf 3 = 1 from by kernel_rfl]
  have e1 : (cs.drop 1).take (Try.prog.cellsOf 3) = (cs.drop 1).take 1 := by rw [show Try.prog.cellsOf 3 = 1 from by kernel_rfl]
  have e2 : (cs.drop 2).take (Try.prog.cellsOf 3) = (cs.drop 2).take 1 := by rw [show Try.prog.cellsOf 3 = 1 from by kernel_rfl]
  have e3 : (cs.drop 3).take (Try.prog.cellsOf 3) = (cs.drop 3).take 1 := by rw [show Try.prog.cellsOf 3 = 1 from by kernel_rfl]
  have e4 : (cs.drop 4).take (Try.prog.cellsOf 3) = (cs.drop 4).take 1 := by rw [show Try.prog.cellsOf 3 = 1 from by kernel_rfl]
  show cs = (cs.drop 0).take (Try.prog.cellsOf 3) ++ (cs.drop 1).take (Try.prog.cellsOf 3) ++ (cs.drop 2).take (Try.prog.cellsOf 3) ++ (cs.drop 3).take (Try.prog.cellsOf 3) ++ (cs.drop 4).take (Try.prog.cellsOf 3)
  rw [e0, e1, e2, e3, e4]
  have z : cs = cs.drop 0 := rfl
  have t0 := take_drop_one cs 0 1
  have t1 := take_drop_one cs 1 1
  have t2 := take_drop_one cs 2 1
  have t3 := take_drop_one cs 3 1
  have t4 := take_drop_one cs 4 1
  have tn : cs.drop 5 = [] := List.drop_eq_nil_of_le (by omega)
  simp only [Nat.reduceAdd] at t0 t1 t2 t3 t4
  have r4 := t4.trans (by rw [tn, List.append_nil])
  have r3 := t3.trans (congrArg (_ ++ ·) r4)
  have r2 := t2.trans (congrArg (_ ++ ·) r3)
  have r1 := t1.trans (congrArg (_ ++ ·) r2)
  have r0 := t0.trans (congrArg (_ ++ ·) r1)
  refine z.trans (r0.trans ?_)
  simp only [List.append_assoc]
theorem opLStock : Opens enc W 65 (ListC StockC 5 W (· < W.heap.size)) := opList Try.underlying65 (by kernel_rfl) (by decide) opStock
theorem opAccount : Opens enc W 167 (AccountC W (· < W.heap.size)) := fun fuel cs x h hfz => by
  obtain ⟨xs, n, _, rfl, hcl, hxl, hf⟩ := DataW.trod_struct Try.underlying167 h
  have hcl2 : cs.length = 4 := hcl.trans (by kernel_rfl)
  have h0 := hf 0 _ rfl
  obtain ⟨y0, hy0⟩ : ∃ y, xs[0]? = some y := ⟨_, List.getElem?_eq_getElem (by rw [hxl]; decide)⟩
  obtain ⟨a0, q0⟩ := opInt _ _ _ (h0.trans hy0) (fun b off hb => hfz b off (List.mem_flatMap.2 ⟨y0, List.mem_of_getElem? hy0, hb⟩))
  have h1 := hf 1 _ rfl
  obtain ⟨y1, hy1⟩ : ∃ y, xs[1]? = some y := ⟨_, List.getElem?_eq_getElem (by rw [hxl]; decide)⟩
  obtain ⟨a1, q1⟩ := opInt _ _ _ (h1.trans hy1) (fun b off hb => hfz b off (List.mem_flatMap.2 ⟨y1, List.mem_of_getElem? hy1, hb⟩))
  have h2 := hf 2 _ rfl
  obtain ⟨y2, hy2⟩ : ∃ y, xs[2]? = some y := ⟨_, List.getElem?_eq_getElem (by rw [hxl]; decide)⟩
  obtain ⟨a2, q2⟩ := opInt _ _ _ (h2.trans hy2) (fun b off hb => hfz b off (List.mem_flatMap.2 ⟨y2, List.mem_of_getElem? hy2, hb⟩))
  have h3 := hf 3 _ rfl
  obtain ⟨y3, hy3⟩ : ∃ y, xs[3]? = some y := ⟨_, List.getElem?_eq_getElem (by rw [hxl]; decide)⟩
  obtain ⟨a3, q3⟩ := opInt _ _ _ (h3.trans hy3) (fun b off hb => hfz b off (List.mem_flatMap.2 ⟨y3, List.mem_of_getElem? hy3, hb⟩))
  refine ⟨⟨a0, a1, a2, a3⟩, _, _, _, _, ?_, q0, q1, q2, q3⟩
  have e0 : (cs.drop 0).take (Try.prog.cellsOf 3) = (cs.drop 0).take 1 := by rw [show Try.prog.cellsOf 3 = 1 from by kernel_rfl]
  have e1 : (cs.drop 1).take (Try.prog.cellsOf 3) = (cs.drop 1).take 1 := by rw [show Try.prog.cellsOf 3 = 1 from by kernel_rfl]
  have e2 : (cs.drop 2).take (Try.prog.cellsOf 3) = (cs.drop 2).take 1 := by rw [show Try.prog.cellsOf 3 = 1 from by kernel_rfl]
  have e3 : (cs.drop 3).take (Try.prog.cellsOf 3) = (cs.drop 3).take 1 := by rw [show Try.prog.cellsOf 3 = 1 from by kernel_rfl]
  show cs = (cs.drop 0).take (Try.prog.cellsOf 3) ++ (cs.drop 1).take (Try.prog.cellsOf 3) ++ (cs.drop 2).take (Try.prog.cellsOf 3) ++ (cs.drop 3).take (Try.prog.cellsOf 3)
  rw [e0, e1, e2, e3]
  have z : cs = cs.drop 0 := rfl
  have t0 := take_drop_one cs 0 1
  have t1 := take_drop_one cs 1 1
  have t2 := take_drop_one cs 2 1
  have t3 := take_drop_one cs 3 1
  have tn : cs.drop 4 = [] := List.drop_eq_nil_of_le (by omega)
  simp only [Nat.reduceAdd] at t0 t1 t2 t3
  have r3 := t3.trans (by rw [tn, List.append_nil])
  have r2 := t2.trans (congrArg (_ ++ ·) r3)
  have r1 := t1.trans (congrArg (_ ++ ·) r2)
  have r0 := t0.trans (congrArg (_ ++ ·) r1)
  refine z.trans (r0.trans ?_)
  simp only [List.append_assoc]
theorem opLAccount : Opens enc W 55 (ListC AccountC 4 W (· < W.heap.size)) := opList Try.underlying55 (by kernel_rfl) (by decide) opAccount
theorem opLink : Opens enc W 179 (LinkC W (· < W.heap.size)) := fun fuel cs x h hfz => by
  obtain ⟨xs, n, _, rfl, hcl, hxl, hf⟩ := DataW.trod_struct Try.underlying179 h
  have hcl2 : cs.length = 3 := hcl.trans (by kernel_rfl)
  have h0 := hf 0 _ rfl
  obtain ⟨y0, hy0⟩ : ∃ y, xs[0]? = some y := ⟨_, List.getElem?_eq_getElem (by rw [hxl]; decide)⟩
  obtain ⟨a0, q0⟩ := opInt _ _ _ (h0.trans hy0) (fun b off hb => hfz b off (List.mem_flatMap.2 ⟨y0, List.mem_of_getElem? hy0, hb⟩))
  have h1 := hf 1 _ rfl
  obtain ⟨y1, hy1⟩ : ∃ y, xs[1]? = some y := ⟨_, List.getElem?_eq_getElem (by rw [hxl]; decide)⟩
  obtain ⟨a1, q1⟩ := opInt _ _ _ (h1.trans hy1) (fun b off hb => hfz b off (List.mem_flatMap.2 ⟨y1, List.mem_of_getElem? hy1, hb⟩))
  have h2 := hf 2 _ rfl
  obtain ⟨y2, hy2⟩ : ∃ y, xs[2]? = some y := ⟨_, List.getElem?_eq_getElem (by rw [hxl]; decide)⟩
  obtain ⟨a2, q2⟩ := opInt _ _ _ (h2.trans hy2) (fun b off hb => hfz b off (List.mem_flatMap.2 ⟨y2, List.mem_of_getElem? hy2, hb⟩))
  refine ⟨⟨a0, a1, a2⟩, _, _, _, ?_, q0, q1, q2⟩
  have e0 : (cs.drop 0).take (Try.prog.cellsOf 3) = (cs.drop 0).take 1 := by rw [show Try.prog.cellsOf 3 = 1 from by kernel_rfl]
  have e1 : (cs.drop 1).take (Try.prog.cellsOf 3) = (cs.drop 1).take 1 := by rw [show Try.prog.cellsOf 3 = 1 from by kernel_rfl]
  have e2 : (cs.drop 2).take (Try.prog.cellsOf 3) = (cs.drop 2).take 1 := by rw [show Try.prog.cellsOf 3 = 1 from by kernel_rfl]
  show cs = (cs.drop 0).take (Try.prog.cellsOf 3) ++ (cs.drop 1).take (Try.prog.cellsOf 3) ++ (cs.drop 2).take (Try.prog.cellsOf 3)
  rw [e0, e1, e2]
  have z : cs = cs.drop 0 := rfl
  have t0 := take_drop_one cs 0 1
  have t1 := take_drop_one cs 1 1
  have t2 := take_drop_one cs 2 1
  have tn : cs.drop 3 = [] := List.drop_eq_nil_of_le (by omega)
  simp only [Nat.reduceAdd] at t0 t1 t2
  have r2 := t2.trans (by rw [tn, List.append_nil])
  have r1 := t1.trans (congrArg (_ ++ ·) r2)
  have r0 := t0.trans (congrArg (_ ++ ·) r1)
  refine z.trans (r0.trans ?_)
  simp only [List.append_assoc]
theorem opLLink : Opens enc W 131 (ListC LinkC 3 W (· < W.heap.size)) := opList Try.underlying131 (by kernel_rfl) (by decide) opLink
theorem opEntity : Opens enc W 133 (EntityC W (· < W.heap.size)) := fun fuel cs x h hfz => by
  obtain ⟨xs, n, _, rfl, hcl, hxl, hf⟩ := DataW.trod_struct Try.underlying133 h
  have hcl2 : cs.length = 5 := hcl.trans (by kernel_rfl)
  have h0 := hf 0 _ rfl
  obtain ⟨y0, hy0⟩ : ∃ y, xs[0]? = some y := ⟨_, List.getElem?_eq_getElem (by rw [hxl]; decide)⟩
  obtain ⟨a0, q0⟩ := opStr _ _ _ (h0.trans hy0) (fun b off hb => hfz b off (List.mem_flatMap.2 ⟨y0, List.mem_of_getElem? hy0, hb⟩))
  have h1 := hf 1 _ rfl
  obtain ⟨y1, hy1⟩ : ∃ y, xs[1]? = some y := ⟨_, List.getElem?_eq_getElem (by rw [hxl]; decide)⟩
  obtain ⟨a1, q1⟩ := opStr _ _ _ (h1.trans hy1) (fun b off hb => hfz b off (List.mem_flatMap.2 ⟨y1, List.mem_of_getElem? hy1, hb⟩))
  have h2 := hf 2 _ rfl
  obtain ⟨y2, hy2⟩ : ∃ y, xs[2]? = some y := ⟨_, List.getElem?_eq_getElem (by rw [hxl]; decide)⟩
  obtain ⟨a2, q2⟩ := opLAccount _ _ _ (h2.trans hy2) (fun b off hb => hfz b off (List.mem_flatMap.2 ⟨y2, List.mem_of_getElem? hy2, hb⟩))
  have h3 := hf 3 _ rfl
  obtain ⟨y3, hy3⟩ : ∃ y, xs[3]? = some y := ⟨_, List.getElem?_eq_getElem (by rw [hxl]; decide)⟩
  obtain ⟨a3, q3⟩ := opLLink _ _ _ (h3.trans hy3) (fun b off hb => hfz b off (List.mem_flatMap.2 ⟨y3, List.mem_of_getElem? hy3, hb⟩))
  have h4 := hf 4 _ rfl
  obtain ⟨y4, hy4⟩ : ∃ y, xs[4]? = some y := ⟨_, List.getElem?_eq_getElem (by rw [hxl]; decide)⟩
  obtain ⟨a4, q4⟩ := opBool _ _ _ (h4.trans hy4) (fun b off hb => hfz b off (List.mem_flatMap.2 ⟨y4, List.mem_of_getElem? hy4, hb⟩))
  refine ⟨⟨a0, a1, a2, a3, a4⟩, _, _, _, _, _, ?_, q0, q1, q2, q3, q4⟩
  have e0 : (cs.drop 0).take (Try.prog.cellsOf 9) = (cs.drop 0).take 1 := by rw [show Try.prog.cellsOf 9 = 1 from by kernel_rfl]
  have e1 : (cs.drop 1).take (Try.prog.cellsOf 9) = (cs.drop 1).take 1 := by rw [show Try.prog.cellsOf 9 = 1 from by kernel_rfl]
  have e2 : (cs.drop 2).take (Try.prog.cellsOf 55) = (cs.drop 2).take 1 := by rw [show Try.prog.cellsOf 55 = 1 from by kernel_rfl]
  have e3 : (cs.drop 3).take (Try.prog.cellsOf 131) = (cs.drop 3).take 1 := by rw [show Try.prog.cellsOf 131 = 1 from by kernel_rfl]
  have e4 : (cs.drop 4).take (Try.prog.cellsOf 4) = (cs.drop 4).take 1 := by rw [show Try.prog.cellsOf 4 = 1 from by kernel_rfl]
  show cs = (cs.drop 0).take (Try.prog.cellsOf 9) ++ (cs.drop 1).take (Try.prog.cellsOf 9) ++ (cs.drop 2).take (Try.prog.cellsOf 55) ++ (cs.drop 3).take (Try.prog.cellsOf 131) ++ (cs.drop 4).take (Try.prog.cellsOf 4)
  rw [e0, e1, e2, e3, e4]
  have z : cs = cs.drop 0 := rfl
  have t0 := take_drop_one cs 0 1
  have t1 := take_drop_one cs 1 1
  have t2 := take_drop_one cs 2 1
  have t3 := take_drop_one cs 3 1
  have t4 := take_drop_one cs 4 1
  have tn : cs.drop 5 = [] := List.drop_eq_nil_of_le (by omega)
  simp only [Nat.reduceAdd] at t0 t1 t2 t3 t4
  have r4 := t4.trans (by rw [tn, List.append_nil])
  have r3 := t3.trans (congrArg (_ ++ ·) r4)
  have r2 := t2.trans (congrArg (_ ++ ·) r3)
  have r1 := t1.trans (congrArg (_ ++ ·) r2)
  have r0 := t0.trans (congrArg (_ ++ ·) r1)
  refine z.trans (r0.trans ?_)
  simp only [List.append_assoc]
theorem opLEntity : Opens enc W 58 (ListC EntityC 5 W (· < W.heap.size)) := opList Try.underlying58 (by kernel_rfl) (by decide) opEntity
theorem opCal : Opens enc W 54 (CalC W (· < W.heap.size)) := fun fuel cs x h hfz => by
  obtain ⟨xs, n, _, rfl, hcl, hxl, hf⟩ := DataW.trod_struct Try.underlying54 h
  have hcl2 : cs.length = 3 := hcl.trans (by kernel_rfl)
  have h0 := hf 0 _ rfl
  obtain ⟨y0, hy0⟩ : ∃ y, xs[0]? = some y := ⟨_, List.getElem?_eq_getElem (by rw [hxl]; decide)⟩
  obtain ⟨a0, q0⟩ := opInt _ _ _ (h0.trans hy0) (fun b off hb => hfz b off (List.mem_flatMap.2 ⟨y0, List.mem_of_getElem? hy0, hb⟩))
  have h1 := hf 1 _ rfl
  obtain ⟨y1, hy1⟩ : ∃ y, xs[1]? = some y := ⟨_, List.getElem?_eq_getElem (by rw [hxl]; decide)⟩
  obtain ⟨a1, q1⟩ := opInt _ _ _ (h1.trans hy1) (fun b off hb => hfz b off (List.mem_flatMap.2 ⟨y1, List.mem_of_getElem? hy1, hb⟩))
  have h2 := hf 2 _ rfl
  obtain ⟨y2, hy2⟩ : ∃ y, xs[2]? = some y := ⟨_, List.getElem?_eq_getElem (by rw [hxl]; decide)⟩
  obtain ⟨a2, q2⟩ := opInt _ _ _ (h2.trans hy2) (fun b off hb => hfz b off (List.mem_flatMap.2 ⟨y2, List.mem_of_getElem? hy2, hb⟩))
  refine ⟨⟨a0, a1, a2⟩, _, _, _, ?_, q0, q1, q2⟩
  have e0 : (cs.drop 0).take (Try.prog.cellsOf 3) = (cs.drop 0).take 1 := by rw [show Try.prog.cellsOf 3 = 1 from by kernel_rfl]
  have e1 : (cs.drop 1).take (Try.prog.cellsOf 3) = (cs.drop 1).take 1 := by rw [show Try.prog.cellsOf 3 = 1 from by kernel_rfl]
  have e2 : (cs.drop 2).take (Try.prog.cellsOf 3) = (cs.drop 2).take 1 := by rw [show Try.prog.cellsOf 3 = 1 from by kernel_rfl]
  show cs = (cs.drop 0).take (Try.prog.cellsOf 3) ++ (cs.drop 1).take (Try.prog.cellsOf 3) ++ (cs.drop 2).take (Try.prog.cellsOf 3)
  rw [e0, e1, e2]
  have z : cs = cs.drop 0 := rfl
  have t0 := take_drop_one cs 0 1
  have t1 := take_drop_one cs 1 1
  have t2 := take_drop_one cs 2 1
  have tn : cs.drop 3 = [] := List.drop_eq_nil_of_le (by omega)
  simp only [Nat.reduceAdd] at t0 t1 t2
  have r2 := t2.trans (by rw [tn, List.append_nil])
  have r1 := t1.trans (congrArg (_ ++ ·) r2)
  have r0 := t0.trans (congrArg (_ ++ ·) r1)
  refine z.trans (r0.trans ?_)
  simp only [List.append_assoc]
theorem opRoles : Opens enc W 57 (RolesC W (· < W.heap.size)) := fun fuel cs x h hfz => by
  obtain ⟨xs, n, _, rfl, hcl, hxl, hf⟩ := DataW.trod_struct Try.underlying57 h
  have hcl2 : cs.length = 15 := hcl.trans (by kernel_rfl)
  have h0 := hf 0 _ rfl
  obtain ⟨y0, hy0⟩ : ∃ y, xs[0]? = some y := ⟨_, List.getElem?_eq_getElem (by rw [hxl]; decide)⟩
  obtain ⟨a0, q0⟩ := opInt _ _ _ (h0.trans hy0) (fun b off hb => hfz b off (List.mem_flatMap.2 ⟨y0, List.mem_of_getElem? hy0, hb⟩))
  have h1 := hf 1 _ rfl
  obtain ⟨y1, hy1⟩ : ∃ y, xs[1]? = some y := ⟨_, List.getElem?_eq_getElem (by rw [hxl]; decide)⟩
  obtain ⟨a1, q1⟩ := opInt _ _ _ (h1.trans hy1) (fun b off hb => hfz b off (List.mem_flatMap.2 ⟨y1, List.mem_of_getElem? hy1, hb⟩))
  have h2 := hf 2 _ rfl
  obtain ⟨y2, hy2⟩ : ∃ y, xs[2]? = some y := ⟨_, List.getElem?_eq_getElem (by rw [hxl]; decide)⟩
  obtain ⟨a2, q2⟩ := opInt _ _ _ (h2.trans hy2) (fun b off hb => hfz b off (List.mem_flatMap.2 ⟨y2, List.mem_of_getElem? hy2, hb⟩))
  have h3 := hf 3 _ rfl
  obtain ⟨y3, hy3⟩ : ∃ y, xs[3]? = some y := ⟨_, List.getElem?_eq_getElem (by rw [hxl]; decide)⟩
  obtain ⟨a3, q3⟩ := opInt _ _ _ (h3.trans hy3) (fun b off hb => hfz b off (List.mem_flatMap.2 ⟨y3, List.mem_of_getElem? hy3, hb⟩))
  have h4 := hf 4 _ rfl
  obtain ⟨y4, hy4⟩ : ∃ y, xs[4]? = some y := ⟨_, List.getElem?_eq_getElem (by rw [hxl]; decide)⟩
  obtain ⟨a4, q4⟩ := opInt _ _ _ (h4.trans hy4) (fun b off hb => hfz b off (List.mem_flatMap.2 ⟨y4, List.mem_of_getElem? hy4, hb⟩))
  have h5 := hf 5 _ rfl
  obtain ⟨y5, hy5⟩ : ∃ y, xs[5]? = some y := ⟨_, List.getElem?_eq_getElem (by rw [hxl]; decide)⟩
  obtain ⟨a5, q5⟩ := opInt _ _ _ (h5.trans hy5) (fun b off hb => hfz b off (List.mem_flatMap.2 ⟨y5, List.mem_of_getElem? hy5, hb⟩))
  have h6 := hf 6 _ rfl
  obtain ⟨y6, hy6⟩ : ∃ y, xs[6]? = some y := ⟨_, List.getElem?_eq_getElem (by rw [hxl]; decide)⟩
  obtain ⟨a6, q6⟩ := opInt _ _ _ (h6.trans hy6) (fun b off hb => hfz b off (List.mem_flatMap.2 ⟨y6, List.mem_of_getElem? hy6, hb⟩))
  have h7 := hf 7 _ rfl
  obtain ⟨y7, hy7⟩ : ∃ y, xs[7]? = some y := ⟨_, List.getElem?_eq_getElem (by rw [hxl]; decide)⟩
  obtain ⟨a7, q7⟩ := opInt _ _ _ (h7.trans hy7) (fun b off hb => hfz b off (List.mem_flatMap.2 ⟨y7, List.mem_of_getElem? hy7, hb⟩))
  have h8 := hf 8 _ rfl
  obtain ⟨y8, hy8⟩ : ∃ y, xs[8]? = some y := ⟨_, List.getElem?_eq_getElem (by rw [hxl]; decide)⟩
  obtain ⟨a8, q8⟩ := opInt _ _ _ (h8.trans hy8) (fun b off hb => hfz b off (List.mem_flatMap.2 ⟨y8, List.mem_of_getElem? hy8, hb⟩))
  have h9 := hf 9 _ rfl
  obtain ⟨y9, hy9⟩ : ∃ y, xs[9]? = some y := ⟨_, List.getElem?_eq_getElem (by rw [hxl]; decide)⟩
  obtain ⟨a9, q9⟩ := opInt _ _ _ (h9.trans hy9) (fun b off hb => hfz b off (List.mem_flatMap.2 ⟨y9, List.mem_of_getElem? hy9, hb⟩))
  have h10 := hf 10 _ rfl
  obtain ⟨y10, hy10⟩ : ∃ y, xs[10]? = some y := ⟨_, List.getElem?_eq_getElem (by rw [hxl]; decide)⟩
  obtain ⟨a10, q10⟩ := opInt _ _ _ (h10.trans hy10) (fun b off hb => hfz b off (List.mem_flatMap.2 ⟨y10, List.mem_of_getElem? hy10, hb⟩))
  have h11 := hf 11 _ rfl
  obtain ⟨y11, hy11⟩ : ∃ y, xs[11]? = some y := ⟨_, List.getElem?_eq_getElem (by rw [hxl]; decide)⟩
  obtain ⟨a11, q11⟩ := opInt _ _ _ (h11.trans hy11) (fun b off hb => hfz b off (List.mem_flatMap.2 ⟨y11, List.mem_of_getElem? hy11, hb⟩))
  have h12 := hf 12 _ rfl
  obtain ⟨y12, hy12⟩ : ∃ y, xs[12]? = some y := ⟨_, List.getElem?_eq_getElem (by rw [hxl]; decide)⟩
  obtain ⟨a12, q12⟩ := opInt _ _ _ (h12.trans hy12) (fun b off hb => hfz b off (List.mem_flatMap.2 ⟨y12, List.mem_of_getElem? hy12, hb⟩))
  have h13 := hf 13 _ rfl
  obtain ⟨y13, hy13⟩ : ∃ y, xs[13]? = some y := ⟨_, List.getElem?_eq_getElem (by rw [hxl]; decide)⟩
  obtain ⟨a13, q13⟩ := opInt _ _ _ (h13.trans hy13) (fun b off hb => hfz b off (List.mem_flatMap.2 ⟨y13, List.mem_of_getElem? hy13, hb⟩))
  have h14 := hf 14 _ rfl
  obtain ⟨y14, hy14⟩ : ∃ y, xs[14]? = some y := ⟨_, List.getElem?_eq_getElem (by rw [hxl]; decide)⟩
  obtain ⟨a14, q14⟩ := opInt _ _ _ (h14.trans hy14) (fun b off hb => hfz b off (List.mem_flatMap.2 ⟨y14, List.mem_of_getElem? hy14, hb⟩))
  refine ⟨⟨a0, a1, a2, a3, a4, a5, a6, a7, a8, a9, a10, a11, a12, a13, a14⟩, _, _, _, _, _, _, _, _, _, _, _, _, _, _, _, ?_, q0, q1, q2, q3, q4, q5, q6, q7, q8, q9, q10, q11, q12, q13, q14⟩
  have e0 : (cs.drop 0).take (Try.prog.cellsOf 3) = (cs.drop 0).take 1 := by rw [show Try.prog.cellsOf 3 = 1 from by kernel_rfl]
  have e1 : (cs.drop 1).take (Try.prog.cellsOf 3) = (cs.drop 1).take 1 := by rw [show Try.prog.cellsOf 3 = 1 from by kernel_rfl]
  have e2 : (cs.drop 2).take (Try.prog.cellsOf 3) = (cs.drop 2).take 1 := by rw [show Try.prog.cellsOf 3 = 1 from by kernel_rfl]
  have e3 : (cs.drop 3).take (Try.prog.cellsOf 3) = (cs.drop 3).take 1 := by rw [show Try.prog.cellsOf 3 = 1 from by kernel_rfl]
  have e4 : (cs.drop 4).take (Try.prog.cellsOf 3) = (cs.drop 4).take 1 := by rw [show Try.prog.cellsOf 3 = 1 from by kernel_rfl]
  have e5 : (cs.drop 5).take (Try.prog.cellsOf 3) = (cs.drop 5).take 1 := by rw [show Try.prog.cellsOf 3 = 1 from by kernel_rfl]
  have e6 : (cs.drop 6).take (Try.prog.cellsOf 3) = (cs.drop 6).take 1 := by rw [show Try.prog.cellsOf 3 = 1 from by kernel_rfl]
  have e7 : (cs.drop 7).take (Try.prog.cellsOf 3) = (cs.drop 7).take 1 := by rw [show Try.prog.cellsOf 3 = 1 from by kernel_rfl]
  have e8 : (cs.drop 8).take (Try.prog.cellsOf 3) = (cs.drop 8).take 1 := by rw [show Try.prog.cellsOf 3 = 1 from by kernel_rfl]
  have e9 : (cs.drop 9).take (Try.prog.cellsOf 3) = (cs.drop 9).take 1 := by rw [show Try.prog.cellsOf 3 = 1 from by kernel_rfl]
  have e10 : (cs.drop 10).take (Try.prog.cellsOf 3) = (cs.drop 10).take 1 := by rw [show Try.prog.cellsOf 3 = 1 from by kernel_rfl]
  have e11 : (cs.drop 11).take (Try.prog.cellsOf 3) = (cs.drop 11).take 1 := by rw [show Try.prog.cellsOf 3 = 1 from by kernel_rfl]
  have e12 : (cs.drop 12).take (Try.prog.cellsOf 3) = (cs.drop 12).take 1 := by rw [show Try.prog.cellsOf 3 = 1 from by kernel_rfl]
  have e13 : (cs.drop 13).take (Try.prog.cellsOf 3) = (cs.drop 13).take 1 := by rw [show Try.prog.cellsOf 3 = 1 from by kernel_rfl]
  have e14 : (cs.drop 14).take (Try.prog.cellsOf 3) = (cs.drop 14).take 1 := by rw [show Try.prog.cellsOf 3 = 1 from by kernel_rfl]
  show cs = (cs.drop 0).take (Try.prog.cellsOf 3) ++ (cs.drop 1).take (Try.prog.cellsOf 3) ++ (cs.drop 2).take (Try.prog.cellsOf 3) ++ (cs.drop 3).take (Try.prog.cellsOf 3) ++ (cs.drop 4).take (Try.prog.cellsOf 3) ++ (cs.drop 5).take (Try.prog.cellsOf 3) ++ (cs.drop 6).take (Try.prog.cellsOf 3) ++ (cs.drop 7).take (Try.prog.cellsOf 3) ++ (cs.drop 8).take (Try.prog.cellsOf 3) ++ (cs.drop 9).take (Try.prog.cellsOf 3) ++ (cs.drop 10).take (Try.prog.cellsOf 3) ++ (cs.drop 11).take (Try.prog.cellsOf 3) ++ (cs.drop 12).take (Try.prog.cellsOf 3) ++ (cs.drop 13).take (Try.prog.cellsOf 3) ++ (cs.drop 14).take (Try.prog.cellsOf 3)
  rw [e0, e1, e2, e3, e4, e5, e6, e7, e8, e9, e10, e11, e12, e13, e14]
  have z : cs = cs.drop 0 := rfl
  have t0 := take_drop_one cs 0 1
  have t1 := take_drop_one cs 1 1
  have t2 := take_drop_one cs 2 1
  have t3 := take_drop_one cs 3 1
  have t4 := take_drop_one cs 4 1
  have t5 := take_drop_one cs 5 1
  have t6 := take_drop_one cs 6 1
  have t7 := take_drop_one cs 7 1
  have t8 := take_drop_one cs 8 1
  have t9 := take_drop_one cs 9 1
  have t10 := take_drop_one cs 10 1
  have t11 := take_drop_one cs 11 1
  have t12 := take_drop_one cs 12 1
  have t13 := take_drop_one cs 13 1
  have t14 := take_drop_one cs 14 1
  have tn : cs.drop 15 = [] := List.drop_eq_nil_of_le (by omega)
  simp only [Nat.reduceAdd] at t0 t1 t2 t3 t4 t5 t6 t7 t8 t9 t10 t11 t12 t13 t14
  have r14 := t14.trans (by rw [tn, List.append_nil])
  have r13 := t13.trans (congrArg (_ ++ ·) r14)
  have r12 := t12.trans (congrArg (_ ++ ·) r13)
  have r11 := t11.trans (congrArg (_ ++ ·) r12)
  have r10 := t10.trans (congrArg (_ ++ ·) r11)
  have r9 := t9.trans (congrArg (_ ++ ·) r10)
  have r8 := t8.trans (congrArg (_ ++ ·) r9)
  have r7 := t7.trans (congrArg (_ ++ ·) r8)
  have r6 := t6.trans (congrArg (_ ++ ·) r7)
  have r5 := t5.trans (congrArg (_ ++ ·) r6)
  have r4 := t4.trans (congrArg (_ ++ ·) r5)
  have r3 := t3.trans (congrArg (_ ++ ·) r4)
  have r2 := t2.trans (congrArg (_ ++ ·) r3)
  have r1 := t1.trans (congrArg (_ ++ ·) r2)
  have r0 := t0.trans (congrArg (_ ++ ·) r1)
  refine z.trans (r0.trans ?_)
  simp only [List.append_assoc]
theorem opGroup : Opens enc W 60 (GroupC W (· < W.heap.size)) := fun fuel cs x h hfz => by
  obtain ⟨xs, n, _, rfl, hcl, hxl, hf⟩ := DataW.trod_struct Try.underlying60 h
  have hcl2 : cs.length = 21 := hcl.trans (by kernel_rfl)
  have h0 := hf 0 _ rfl
  obtain ⟨y0, hy0⟩ : ∃ y, xs[0]? = some y := ⟨_, List.getElem?_eq_getElem (by rw [hxl]; decide)⟩
  obtain ⟨a0, q0⟩ := opStr _ _ _ (h0.trans hy0) (fun b off hb => hfz b off (List.mem_flatMap.2 ⟨y0, List.mem_of_getElem? hy0, hb⟩))
  have h1 := hf 1 _ rfl
  obtain ⟨y1, hy1⟩ : ∃ y, xs[1]? = some y := ⟨_, List.getElem?_eq_getElem (by rw [hxl]; decide)⟩
  obtain ⟨a1, q1⟩ := opCal _ _ _ (h1.trans hy1) (fun b off hb => hfz b off (List.mem_flatMap.2 ⟨y1, List.mem_of_getElem? hy1, hb⟩))
  have h2 := hf 2 _ rfl
  obtain ⟨y2, hy2⟩ : ∃ y, xs[2]? = some y := ⟨_, List.getElem?_eq_getElem (by rw [hxl]; decide)⟩
  obtain ⟨a2, q2⟩ := opLAccount _ _ _ (h2.trans hy2) (fun b off hb => hfz b off (List.mem_flatMap.2 ⟨y2, List.mem_of_getElem? hy2, hb⟩))
  have h3 := hf 3 _ rfl
  obtain ⟨y3, hy3⟩ : ∃ y, xs[3]? = some y := ⟨_, List.getElem?_eq_getElem (by rw [hxl]; decide)⟩
  obtain ⟨a3, q3⟩ := opRoles _ _ _ (h3.trans hy3) (fun b off hb => hfz b off (List.mem_flatMap.2 ⟨y3, List.mem_of_getElem? hy3, hb⟩))
  have h4 := hf 4 _ rfl
  obtain ⟨y4, hy4⟩ : ∃ y, xs[4]? = some y := ⟨_, List.getElem?_eq_getElem (by rw [hxl]; decide)⟩
  obtain ⟨a4, q4⟩ := opLEntity _ _ _ (h4.trans hy4) (fun b off hb => hfz b off (List.mem_flatMap.2 ⟨y4, List.mem_of_getElem? hy4, hb⟩))
  refine ⟨⟨a0, a1, a2, a3, a4⟩, _, _, _, _, _, ?_, q0, q1, q2, q3, q4⟩
  have e0 : (cs.drop 0).take (Try.prog.cellsOf 9) = (cs.drop 0).take 1 := by rw [show Try.prog.cellsOf 9 = 1 from by kernel_rfl]
  have e1 : (cs.drop 1).take (Try.prog.cellsOf 54) = (cs.drop 1).take 3 := by rw [show Try.prog.cellsOf 54 = 3 from by kernel_rfl]
  have e2 : (cs.drop 4).take (Try.prog.cellsOf 55) = (cs.drop 4).take 1 := by rw [show Try.prog.cellsOf 55 = 1 from by kernel_rfl]
  have e3 : (cs.drop 5).take (Try.prog.cellsOf 57) = (cs.drop 5).take 15 := by rw [show Try.prog.cellsOf 57 = 15 from by kernel_rfl]
  have e4 : (cs.drop 20).take (Try.prog.cellsOf 58) = (cs.drop 20).take 1 := by rw [show Try.prog.cellsOf 58 = 1 from by kernel_rfl]
  show cs = (cs.drop 0).take (Try.prog.cellsOf 9) ++ (cs.drop 1).take (Try.prog.cellsOf 54) ++ (cs.drop 4).take (Try.prog.cellsOf 55) ++ (cs.drop 5).take (Try.prog.cellsOf 57) ++ (cs.drop 20).take (Try.prog.cellsOf 58)
  rw [e0, e1, e2, e3, e4]
  have z : cs = cs.drop 0 := rfl
  have t0 := take_drop_one cs 0 1
  have t1 := take_drop_one cs 1 3
  have t2 := take_drop_one cs 4 1
  have t3 := take_drop_one cs 5 15
  have t4 := take_drop_one cs 20 1
  have tn : cs.drop 21 = [] := List.drop_eq_nil_of_le (by omega)
  simp only [Nat.reduceAdd] at t0 t1 t2 t3 t4
  have r4 := t4.trans (by rw [tn, List.append_nil])
  have r3 := t3.trans (congrArg (_ ++ ·) r4)
  have r2 := t2.trans (congrArg (_ ++ ·) r3)
  have r1 := t1.trans (congrArg (_ ++ ·) r2)
  have r0 := t0.trans (congrArg (_ ++ ·) r1)
  refine z.trans (r0.trans ?_)
  simp only [List.append_assoc]
theorem opBooks : Opens enc W 67 (BooksC W (· < W.heap.size)) := fun fuel cs x h hfz => by
  obtain ⟨xs, n, _, rfl, hcl, hxl, hf⟩ := DataW.trod_struct Try.underlying67 h
  have hcl2 : cs.length = 27 := hcl.trans (by kernel_rfl)
  have h0 := hf 0 _ rfl
  obtain ⟨y0, hy0⟩ : ∃ y, xs[0]? = some y := ⟨_, List.getElem?_eq_getElem (by rw [hxl]; decide)⟩
  obtain ⟨a0, q0⟩ := opGroup _ _ _ (h0.trans hy0) (fun b off hb => hfz b off (List.mem_flatMap.2 ⟨y0, List.mem_of_getElem? hy0, hb⟩))
  have h1 := hf 1 _ rfl
  obtain ⟨y1, hy1⟩ : ∃ y, xs[1]? = some y := ⟨_, List.getElem?_eq_getElem (by rw [hxl]; decide)⟩
  obtain ⟨a1, q1⟩ := opLEntry _ _ _ (h1.trans hy1) (fun b off hb => hfz b off (List.mem_flatMap.2 ⟨y1, List.mem_of_getElem? hy1, hb⟩))
  have h2 := hf 2 _ rfl
  obtain ⟨y2, hy2⟩ : ∃ y, xs[2]? = some y := ⟨_, List.getElem?_eq_getElem (by rw [hxl]; decide)⟩
  obtain ⟨a2, q2⟩ := opLRate _ _ _ (h2.trans hy2) (fun b off hb => hfz b off (List.mem_flatMap.2 ⟨y2, List.mem_of_getElem? hy2, hb⟩))
  have h3 := hf 3 _ rfl
  obtain ⟨y3, hy3⟩ : ∃ y, xs[3]? = some y := ⟨_, List.getElem?_eq_getElem (by rw [hxl]; decide)⟩
  obtain ⟨a3, q3⟩ := opLHolding _ _ _ (h3.trans hy3) (fun b off hb => hfz b off (List.mem_flatMap.2 ⟨y3, List.mem_of_getElem? hy3, hb⟩))
  have h4 := hf 4 _ rfl
  obtain ⟨y4, hy4⟩ : ∃ y, xs[4]? = some y := ⟨_, List.getElem?_eq_getElem (by rw [hxl]; decide)⟩
  obtain ⟨a4, q4⟩ := opLMatch _ _ _ (h4.trans hy4) (fun b off hb => hfz b off (List.mem_flatMap.2 ⟨y4, List.mem_of_getElem? hy4, hb⟩))
  have h5 := hf 5 _ rfl
  obtain ⟨y5, hy5⟩ : ∃ y, xs[5]? = some y := ⟨_, List.getElem?_eq_getElem (by rw [hxl]; decide)⟩
  obtain ⟨a5, q5⟩ := opLStock _ _ _ (h5.trans hy5) (fun b off hb => hfz b off (List.mem_flatMap.2 ⟨y5, List.mem_of_getElem? hy5, hb⟩))
  have h6 := hf 6 _ rfl
  obtain ⟨y6, hy6⟩ : ∃ y, xs[6]? = some y := ⟨_, List.getElem?_eq_getElem (by rw [hxl]; decide)⟩
  obtain ⟨a6, q6⟩ := opStr _ _ _ (h6.trans hy6) (fun b off hb => hfz b off (List.mem_flatMap.2 ⟨y6, List.mem_of_getElem? hy6, hb⟩))
  refine ⟨⟨a0, a1, a2, a3, a4, a5, a6⟩, _, _, _, _, _, _, _, ?_, q0, q1, q2, q3, q4, q5, q6⟩
  have e0 : (cs.drop 0).take (Try.prog.cellsOf 60) = (cs.drop 0).take 21 := by rw [show Try.prog.cellsOf 60 = 21 from by kernel_rfl]
  have e1 : (cs.drop 21).take (Try.prog.cellsOf 61) = (cs.drop 21).take 1 := by rw [show Try.prog.cellsOf 61 = 1 from by kernel_rfl]
  have e2 : (cs.drop 22).take (Try.prog.cellsOf 62) = (cs.drop 22).take 1 := by rw [show Try.prog.cellsOf 62 = 1 from by kernel_rfl]
  have e3 : (cs.drop 23).take (Try.prog.cellsOf 63) = (cs.drop 23).take 1 := by rw [show Try.prog.cellsOf 63 = 1 from by kernel_rfl]
  have e4 : (cs.drop 24).take (Try.prog.cellsOf 64) = (cs.drop 24).take 1 := by rw [show Try.prog.cellsOf 64 = 1 from by kernel_rfl]
  have e5 : (cs.drop 25).take (Try.prog.cellsOf 65) = (cs.drop 25).take 1 := by rw [show Try.prog.cellsOf 65 = 1 from by kernel_rfl]
  have e6 : (cs.drop 26).take (Try.prog.cellsOf 9) = (cs.drop 26).take 1 := by rw [show Try.prog.cellsOf 9 = 1 from by kernel_rfl]
  show cs = (cs.drop 0).take (Try.prog.cellsOf 60) ++ (cs.drop 21).take (Try.prog.cellsOf 61) ++ (cs.drop 22).take (Try.prog.cellsOf 62) ++ (cs.drop 23).take (Try.prog.cellsOf 63) ++ (cs.drop 24).take (Try.prog.cellsOf 64) ++ (cs.drop 25).take (Try.prog.cellsOf 65) ++ (cs.drop 26).take (Try.prog.cellsOf 9)
  rw [e0, e1, e2, e3, e4, e5, e6]
  have z : cs = cs.drop 0 := rfl
  have t0 := take_drop_one cs 0 21
  have t1 := take_drop_one cs 21 1
  have t2 := take_drop_one cs 22 1
  have t3 := take_drop_one cs 23 1
  have t4 := take_drop_one cs 24 1
  have t5 := take_drop_one cs 25 1
  have t6 := take_drop_one cs 26 1
  have tn : cs.drop 27 = [] := List.drop_eq_nil_of_le (by omega)
  simp only [Nat.reduceAdd] at t0 t1 t2 t3 t4 t5 t6
  have r6 := t6.trans (by rw [tn, List.append_nil])
  have r5 := t5.trans (congrArg (_ ++ ·) r6)
  have r4 := t4.trans (congrArg (_ ++ ·) r5)
  have r3 := t3.trans (congrArg (_ ++ ·) r4)
  have r2 := t2.trans (congrArg (_ ++ ·) r3)
  have r1 := t1.trans (congrArg (_ ++ ·) r2)
  have r0 := t0.trans (congrArg (_ ++ ·) r1)
  refine z.trans (r0.trans ?_)
  simp only [List.append_assoc]
theorem opEvent : Opens enc W 45 (EventC W (· < W.heap.size)) := fun fuel cs x h hfz => by
  obtain ⟨xs, n, _, rfl, hcl, hxl, hf⟩ := DataW.trod_struct Try.underlying45 h
  have hcl2 : cs.length = 28 := hcl.trans (by kernel_rfl)
  have h0 := hf 0 _ rfl
  obtain ⟨y0, hy0⟩ : ∃ y, xs[0]? = some y := ⟨_, List.getElem?_eq_getElem (by rw [hxl]; decide)⟩
  obtain ⟨a0, q0⟩ := opInt _ _ _ (h0.trans hy0) (fun b off hb => hfz b off (List.mem_flatMap.2 ⟨y0, List.mem_of_getElem? hy0, hb⟩))
  have h1 := hf 1 _ rfl
  obtain ⟨y1, hy1⟩ : ∃ y, xs[1]? = some y := ⟨_, List.getElem?_eq_getElem (by rw [hxl]; decide)⟩
  obtain ⟨a1, q1⟩ := opEntry _ _ _ (h1.trans hy1) (fun b off hb => hfz b off (List.mem_flatMap.2 ⟨y1, List.mem_of_getElem? hy1, hb⟩))
  have h2 := hf 2 _ rfl
  obtain ⟨y2, hy2⟩ : ∃ y, xs[2]? = some y := ⟨_, List.getElem?_eq_getElem (by rw [hxl]; decide)⟩
  obtain ⟨a2, q2⟩ := opRate _ _ _ (h2.trans hy2) (fun b off hb => hfz b off (List.mem_flatMap.2 ⟨y2, List.mem_of_getElem? hy2, hb⟩))
  have h3 := hf 3 _ rfl
  obtain ⟨y3, hy3⟩ : ∃ y, xs[3]? = some y := ⟨_, List.getElem?_eq_getElem (by rw [hxl]; decide)⟩
  obtain ⟨a3, q3⟩ := opHolding _ _ _ (h3.trans hy3) (fun b off hb => hfz b off (List.mem_flatMap.2 ⟨y3, List.mem_of_getElem? hy3, hb⟩))
  have h4 := hf 4 _ rfl
  obtain ⟨y4, hy4⟩ : ∃ y, xs[4]? = some y := ⟨_, List.getElem?_eq_getElem (by rw [hxl]; decide)⟩
  obtain ⟨a4, q4⟩ := opMatch _ _ _ (h4.trans hy4) (fun b off hb => hfz b off (List.mem_flatMap.2 ⟨y4, List.mem_of_getElem? hy4, hb⟩))
  have h5 := hf 5 _ rfl
  obtain ⟨y5, hy5⟩ : ∃ y, xs[5]? = some y := ⟨_, List.getElem?_eq_getElem (by rw [hxl]; decide)⟩
  obtain ⟨a5, q5⟩ := opStock _ _ _ (h5.trans hy5) (fun b off hb => hfz b off (List.mem_flatMap.2 ⟨y5, List.mem_of_getElem? hy5, hb⟩))
  have h6 := hf 6 _ rfl
  obtain ⟨y6, hy6⟩ : ∃ y, xs[6]? = some y := ⟨_, List.getElem?_eq_getElem (by rw [hxl]; decide)⟩
  obtain ⟨a6, q6⟩ := opInt _ _ _ (h6.trans hy6) (fun b off hb => hfz b off (List.mem_flatMap.2 ⟨y6, List.mem_of_getElem? hy6, hb⟩))
  have h7 := hf 7 _ rfl
  obtain ⟨y7, hy7⟩ : ∃ y, xs[7]? = some y := ⟨_, List.getElem?_eq_getElem (by rw [hxl]; decide)⟩
  obtain ⟨a7, q7⟩ := opInt _ _ _ (h7.trans hy7) (fun b off hb => hfz b off (List.mem_flatMap.2 ⟨y7, List.mem_of_getElem? hy7, hb⟩))
  have h8 := hf 8 _ rfl
  obtain ⟨y8, hy8⟩ : ∃ y, xs[8]? = some y := ⟨_, List.getElem?_eq_getElem (by rw [hxl]; decide)⟩
  obtain ⟨a8, q8⟩ := opStr _ _ _ (h8.trans hy8) (fun b off hb => hfz b off (List.mem_flatMap.2 ⟨y8, List.mem_of_getElem? hy8, hb⟩))
  refine ⟨⟨a0, a1, a2, a3, a4, a5, a6, a7, a8⟩, _, _, _, _, _, _, _, _, _, ?_, q0, q1, q2, q3, q4, q5, q6, q7, q8⟩
  have e0 : (cs.drop 0).take (Try.prog.cellsOf 3) = (cs.drop 0).take 1 := by rw [show Try.prog.cellsOf 3 = 1 from by kernel_rfl]
  have e1 : (cs.drop 1).take (Try.prog.cellsOf 34) = (cs.drop 1).take 7 := by rw [show Try.prog.cellsOf 34 = 7 from by kernel_rfl]
  have e2 : (cs.drop 8).take (Try.prog.cellsOf 36) = (cs.drop 8).take 4 := by rw [show Try.prog.cellsOf 36 = 4 from by kernel_rfl]
  have e3 : (cs.drop 12).take (Try.prog.cellsOf 38) = (cs.drop 12).take 4 := by rw [show Try.prog.cellsOf 38 = 4 from by kernel_rfl]
  have e4 : (cs.drop 16).take (Try.prog.cellsOf 41) = (cs.drop 16).take 4 := by rw [show Try.prog.cellsOf 41 = 4 from by kernel_rfl]
  have e5 : (cs.drop 20).take (Try.prog.cellsOf 43) = (cs.drop 20).take 5 := by rw [show Try.prog.cellsOf 43 = 5 from by kernel_rfl]
  have e6 : (cs.drop 25).take (Try.prog.cellsOf 3) = (cs.drop 25).take 1 := by rw [show Try.prog.cellsOf 3 = 1 from by kernel_rfl]
  have e7 : (cs.drop 26).take (Try.prog.cellsOf 3) = (cs.drop 26).take 1 := by rw [show Try.prog.cellsOf 3 = 1 from by kernel_rfl]
  have e8 : (cs.drop 27).take (Try.prog.cellsOf 9) = (cs.drop 27).take 1 := by rw [show Try.prog.cellsOf 9 = 1 from by kernel_rfl]
  show cs = (cs.drop 0).take (Try.prog.cellsOf 3) ++ (cs.drop 1).take (Try.prog.cellsOf 34) ++ (cs.drop 8).take (Try.prog.cellsOf 36) ++ (cs.drop 12).take (Try.prog.cellsOf 38) ++ (cs.drop 16).take (Try.prog.cellsOf 41) ++ (cs.drop 20).take (Try.prog.cellsOf 43) ++ (cs.drop 25).take (Try.prog.cellsOf 3) ++ (cs.drop 26).take (Try.prog.cellsOf 3) ++ (cs.drop 27).take (Try.prog.cellsOf 9)
  rw [e0, e1, e2, e3, e4, e5, e6, e7, e8]
  have z : cs = cs.drop 0 := rfl
  have t0 := take_drop_one cs 0 1
  have t1 := take_drop_one cs 1 7
  have t2 := take_drop_one cs 8 4
  have t3 := take_drop_one cs 12 4
  have t4 := take_drop_one cs 16 4
  have t5 := take_drop_one cs 20 5
  have t6 := take_drop_one cs 25 1
  have t7 := take_drop_one cs 26 1
  have t8 := take_drop_one cs 27 1
  have tn : cs.drop 28 = [] := List.drop_eq_nil_of_le (by omega)
  simp only [Nat.reduceAdd] at t0 t1 t2 t3 t4 t5 t6 t7 t8
  have r8 := t8.trans (by rw [tn, List.append_nil])
  have r7 := t7.trans (congrArg (_ ++ ·) r8)
  have r6 := t6.trans (congrArg (_ ++ ·) r7)
  have r5 := t5.trans (congrArg (_ ++ ·) r6)
  have r4 := t4.trans (congrArg (_ ++ ·) r5)
  have r3 := t3.trans (congrArg (_ ++ ·) r4)
  have r2 := t2.trans (congrArg (_ ++ ·) r3)
  have r1 := t1.trans (congrArg (_ ++ ·) r2)
  have r0 := t0.trans (congrArg (_ ++ ·) r1)
  refine z.trans (r0.trans ?_)
  simp only [List.append_assoc]
end
end Go.Proofs.Ytgdibeegheddmaa
