/- codec.SameEvent compares the encodings of all fields. -/
import Derived.Test.YtgdibeegheddmaaD9Ev
import Derived.Test.YtgdibeegheddmaaE1Equal
import Derived.Deep.CutRange
import Derived.BigQuiet
import Derived.Deep.QuietTactic
namespace Go.Proofs.Ytgdibeegheddmaa
open Go Go.RowKit
attribute [local go_sem ↓] Go.wp_at_zero Go.wp_at_succ

theorem heap4 (w : World) (o1 o2 o3 o4 : Obj) : ((((w.alloc o1).alloc o2).alloc o3).alloc o4).heap[w.heap.size]? = some o1 ∧ ((((w.alloc o1).alloc o2).alloc o3).alloc o4).heap[w.heap.size + 1]? = some o2 ∧
    ((((w.alloc o1).alloc o2).alloc o3).alloc o4).heap[w.heap.size + 2]? = some o3 ∧ ((((w.alloc o1).alloc o2).alloc o3).alloc o4).heap[w.heap.size + 3]? = some o4 ∧
    ((((w.alloc o1).alloc o2).alloc o3).alloc o4).heap.size = w.heap.size + 4 ∧ Fr (· < w.heap.size) w ((((w.alloc o1).alloc o2).alloc o3).alloc o4) := by
  have e1 : (w.alloc o1).heap.size = w.heap.size + 1 := by simp
  have e2 : ((w.alloc o1).alloc o2).heap.size = w.heap.size + 2 := by simp
  have e3 : (((w.alloc o1).alloc o2).alloc o3).heap.size = w.heap.size + 3 := by simp
  refine ⟨?_, ?_, ?_, ?_, by simp, ?_⟩
  · rw [Below.heap_alloc _ _ _ (by omega), Below.heap_alloc _ _ _ (by omega), Below.heap_alloc _ _ _ (by omega)]; exact heap_alloc_new w o1
  · rw [Below.heap_alloc _ _ _ (by omega), Below.heap_alloc _ _ _ (by omega), ← e1]; exact heap_alloc_new _ o2
  · rw [Below.heap_alloc _ _ _ (by omega), ← e2]; exact heap_alloc_new _ o3
  · rw [← e3]; exact heap_alloc_new _ o4
  · exact (((((Fr.refl _ w).alloc (fun _ h => h) o1).alloc (fun _ h => h) o2).alloc (fun _ h => h) o3).alloc (fun _ h => h) o4)

theorem Rd.drewN {w : World} {Q : Nat → Prop} {A : Option Addr} {n size : Nat} {vs : List Value} (h : Rd w Q A n size vs) (k : Nat) : Rd (w.drewN k) Q A n size vs := h

theorem size45 {cs : List Value} (h : cs.length = 28) : (Try.prog.info? 45).map (·.size) = some cs.toArray.size := by
  have : (Try.prog.info? 45).map (·.size) = some 28 := by kernel_rfl
  rw [this, List.size_toArray, h]

set_option maxHeartbeats 1000000 in
set_option maxRecDepth 100000 in
theorem sameEvent_c (x y : XEvent) (cx cy : List Value) (w : World) (hx : EventC w (· < w.heap.size) cx x) (hy : EventC w (· < w.heap.size) cy y)
    (hLx : (encAll x).length ≤ Lim) (hLy : (encAll y).length ≤ Lim) :
    Calls Try.prog 21 #[.agg cx.toArray, .agg cy.toArray] w fun e w' => e = .returned (.bool (decide (encAll x = encAll y))) ∧ Below w.heap.size w w' := by
  have hcx := size45 hx.len
  have hcy := size45 hy.len
  have HCX := Lib.hid hcx
  have HCY := Lib.hid hcy
  clear hcx hcy
  go_enter Try.func21, Try.ntmps21
  go_upto_region 2 with fail
  generalize hW : (((w.alloc (.cells cx.toArray 45)).alloc (.cells cy.toArray 45)).alloc (.cells #[.slice none 0 0, .bool false, .bool false] 81)).alloc (.cells #[.slice none 0 0, .bool false, .bool false] 81) = W
  have h4 := heap4 w (.cells cx.toArray 45) (.cells cy.toArray 45) (.cells #[.slice none 0 0, .bool false, .bool false] 81) (.cells #[.slice none 0 0, .bool false, .bool false] 81)
  rw [hW] at h4
  clear hW
  obtain ⟨H0, H1, H2, H3, HS, HF⟩ := h4
  have hsz : w.heap.size + 4 ≤ W.heap.size := by omega
  have HSZ := Lib.hid HS
  clear HS
  go_wp2_with (refine wpList_load_row rfl 45 (.tmp 2) rfl w.heap.size rfl 45 cx.toArray (0, 0) _ H0 Try.underlying45 rfl HCX.out ?_)
  have q0 : ∀ k, k < w.heap.size → Oth W (w.heap.size + 2) (.slice none 0 0) k := fun k hk => ⟨by omega, by omega, by simp [Value.ownBlock]⟩
  refine (all_w (w.heap.size + 2) (.slice none 0 0) [] false x W (· < w.heap.size) cx ⟨H2, Bytes.nil W⟩ q0 (hx.fr HF) (by simpa using hLx)).mono ?_
  rintro e w1 ⟨rfl, v1, hs1, hst1⟩
  have o1 : Oth W (w.heap.size + 2) (.slice none 0 0) (w.heap.size + 1) := ⟨by omega, by omega, by simp [Value.ownBlock]⟩
  have o3 : Oth W (w.heap.size + 2) (.slice none 0 0) (w.heap.size + 3) := ⟨by omega, by omega, by simp [Value.ownBlock]⟩
  have K1 := (hst1.fr.block _ o1).trans H1
  have K3 := (hst1.fr.block _ o3).trans H3
  have hz1 := hst1.fr.size
  go_wp2_with (refine wpList_load_row rfl 45 (.tmp 3) rfl (w.heap.size + 1) rfl 45 cy.toArray (0, 0) _ K1 Try.underlying45 rfl HCY.out ?_)
  have q1 : ∀ k, k < w.heap.size → Oth w1 (w.heap.size + 3) (.slice none 0 0) k := fun k hk => ⟨by omega, by omega, by simp [Value.ownBlock]⟩
  have f1 : Fr (· < w.heap.size) w w1 := HF.trans (hst1.fr.mono q0)
  refine (all_w (w.heap.size + 3) (.slice none 0 0) [] false y w1 (· < w.heap.size) cy ⟨K3, Bytes.nil w1⟩ q1 (hy.fr f1) (by simpa using hLy)).mono ?_
  rintro e w2 ⟨rfl, v2, hs2, hst2⟩
  have f2 : Fr (· < w.heap.size) w w2 := f1.trans (hst2.fr.mono q1)
  have hs1' := hs1.fr hst2.fr ⟨hs1.lt, by omega, by simp [Value.ownBlock]⟩ (fun k hk => ⟨hs1.2.lt hk, fun e => own_ne hs1.2 K3 (by decide) (by rw [hk, e]), by simp [Value.ownBlock]⟩)
  have c1 : w2.cell? ⟨w.heap.size + 1 + 1, 0, none⟩ = _ := blk_cell hs1'.1 0
  have c2 : w2.cell? ⟨w.heap.size + 1 + 1 + 1, 0, none⟩ = _ := blk_cell hs2.1 0
  rw [List.nil_append] at hs1' hs2
  obtain ⟨A1, d1, rfl, _, _⟩ := hs1'.2.form
  obtain ⟨A2, d2, rfl, _, _⟩ := hs2.2.form
  have r1 := (hs1'.2.rd (Q := fun _ => True) (fun _ _ => trivial)).2
  have r2 := (hs2.2.rd (Q := fun _ => True) (fun _ _ => trivial)).2
  have R1 := Lib.hid r1
  have R2 := Lib.hid r2
  unfold Lim at hLx hLy
  clear r1 r2 hs1 hs1' hs2 H0 H1 H2 H3 K1 K3
  go_wp2_with fail
  go_quiet ((go_at_call 44; exact Calls.quiet_of (equal_c A1 A2 d1 d2 (encAll x) (encAll y) _ _ (Rd.drewN R1.out _) (Rd.drewN R2.out _) hLx hLy)))
  go_wp2_with fail
  go_ret
  exact ⟨rfl, (f2.drewN nq).below⟩
end Go.Proofs.Ytgdibeegheddmaa
