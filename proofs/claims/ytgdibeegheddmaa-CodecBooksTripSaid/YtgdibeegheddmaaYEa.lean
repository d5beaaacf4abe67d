/- slices.Equal at bytes. (joined: E1Equal, E2Same, A5Rows) -/
import Derived.Test.YtgdibeegheddmaaYC1Data
import Derived.BigQuiet
import Derived.Deep.QuietTactic
import Derived.Test.YtgdibeegheddmaaYD9Ev
import Derived.Deep.CutRange
import Derived.Deep.MidRow
import Derived.Test.YtgdibeegheddmaaYA
namespace Go.Proofs.Ytgdibeegheddmaa
open Go Go.RowKit

theorem ret_bool {a b : Bool} (h : a = b) : Ending.returned (.bool a) = .returned (.bool b) := by rw [h]

set_option maxHeartbeats 400000 in
theorem equal_c (A B : Option Addr) (c d : Nat) (L M : List UInt8) (w : World) (Q : Nat → Prop) (ha : Rd w Q A L.length 1 (bv L)) (hb : Rd w Q B M.length 1 (bv M)) (hl : L.length ≤ 1000000000000) (hm : M.length ≤ 1000000000000) :
    Calls Try.prog 44 #[.slice A L.length c, .slice B M.length d] w fun e w' => e = .returned (.bool (decide (L = M))) ∧ ∃ n, w' = w.drewN n := by
  by_cases hne : L.length = M.length
  · have hE : (((L.length : Nat) : Int) != ((M.length : Nat) : Int)) = false := by simp [hne]
    have HN := Lib.hid hne
    clear hne
    go_enter Try.func44, Try.ntmps44
    go_wp2_with fail
    go_loopw [13] (fun i wr => ∃ k n : Nat, k ≤ L.length ∧ i = .int .i64 (k : Int) ∧ L.take k = M.take k ∧ wr = w.drewN n) (fun i _ => L.length - (intOf i).toNat)
    case atStart => exact ⟨0, 0, Nat.zero_le _, rfl, by simp, rfl⟩
    case round =>
      obtain ⟨k, n, hk, rfl, htk, rfl⟩ := hrel
      have HT := Lib.hid htk
      clear htk
      by_cases hlt : k < L.length
      · have hlt2 : k < M.length := by have := HN.out; omega
        obtain ⟨a, u, rfl, _, hu, hca⟩ := ha.at_ hlt
        obtain ⟨a2, u2, rfl, _, hu2, hca2⟩ := hb.at_ hlt2
        have e1 : u = .int .u8 (L[k].toNat : Int) := by
          rw [bv_get, List.getElem?_eq_getElem hlt] at hu; simpa using hu.symm
        have e2 : u2 = .int .u8 (M[k].toNat : Int) := by
          rw [bv_get, List.getElem?_eq_getElem hlt2] at hu2; simpa using hu2.symm
        subst e1 e2
        have hA : (k : Int) < (L.length : Int) := by omega
        have hB : (k : Int) < (M.length : Int) := by omega
        have h0 : (0 : Int) ≤ (k : Int) := by omega
        clear hu hu2
        by_cases heq : L[k] = M[k]
        · have hq : (((L[k].toNat : Nat) : Int) != ((M[k].toNat : Nat) : Int)) = false := by simp [heq]
          have HQ := Lib.hid heq
          clear heq
          go_wp2_with fail
          go_quiet (fail)
          go_wp2_with fail
          go_roundw
          case rel =>
            refine ⟨k + 1, _, by omega, by go_num, ?_, rfl⟩
            rw [List.take_succ_eq_append_getElem hlt, List.take_succ_eq_append_getElem hlt2, HT.out, HQ.out]
          case measure => simp [intOf]; omega
        · have hq : (((L[k].toNat : Nat) : Int) != ((M[k].toNat : Nat) : Int)) = true := by
            simp only [bne_iff_ne, ne_eq]
            intro h
            exact heq (UInt8.toNat_inj.1 (by omega))
          have hne' : ¬ L = M := by
            intro h
            subst h
            exact heq rfl
          have HNE := Lib.hid hne'
          clear hne' heq
          go_wp2_with fail
          go_quiet (fail)
          go_wp2_with fail
          go_ret
          exact ⟨ret_bool (decide_eq_false HNE.out).symm, n + nq, by rw [World.drewN_drewN]⟩
      · have hkl : L.length ≤ k := by omega
        have hLM : L = M := by
          have h := HT.out
          rwa [List.take_of_length_le hkl, List.take_of_length_le (by have := HN.out; omega)] at h
        have HLM := Lib.hid hLM
        have hA : ¬ (k : Int) < (L.length : Int) := by omega
        clear hlt hkl hLM
        go_wp2_with fail
        go_ret
        exact ⟨ret_bool (decide_eq_true HLM.out).symm, _, rfl⟩
  · have hE : (((L.length : Nat) : Int) != ((M.length : Nat) : Int)) = true := by
      simp only [bne_iff_ne, ne_eq]; omega
    have hne' : ¬ L = M := fun h => hne (by rw [h])
    have HNE := Lib.hid hne'
    clear hne' hne
    go_enter Try.func44, Try.ntmps44
    go_wp2_with fail
    go_ret
    exact ⟨ret_bool (decide_eq_false HNE.out).symm, 0, rfl⟩
end Go.Proofs.Ytgdibeegheddmaa

namespace Go.Proofs.Ytgdibeegheddmaa
open Go Go.RowKit
attribute [local go_sem ↓] Go.wp_at_zero Go.wp_at_succ

theorem heap4 (w : World) (o1 o2 o3 o4 : Obj) : ((((w.alloc o1).alloc o2).alloc o3).alloc o4).heap[w.heap.size]? = some o1 ∧ ((((w.alloc o1).alloc o2).alloc o3).alloc o4).heap[w.heap.size + 1]? = some o2 ∧
    ((((w.alloc o1).alloc o2).alloc o3).alloc o4).heap[w.heap.size + 2]? = some o3 ∧ ((((w.alloc o1).alloc o2).alloc o3).alloc o4).heap[w.heap.size + 3]? = some o4 ∧
    ((((w.alloc o1).alloc o2).alloc o3).alloc o4).heap.size = w.heap.size + 4 ∧ Fr (· < w.heap.size) w ((((w.alloc o1).alloc o2).alloc o3).alloc o4) := by
  have e1 : (w.alloc o1).heap.size = w.heap.size + 1 := by simp
  have e2 : ((w.alloc o1).alloc o2).heap.size = w.heap.size + 2 := by simp
  have e3 : (((w.alloc o1).alloc o2).alloc o3).heap.size = w.heap.size + 3 := by simp
  refine ⟨?_, ?_, ?_, ?_, by simp, ?_⟩
  · rw [Below.heap_alloc _ _ _ (by omega), Below.heap_alloc _ _ _ (by omega), Below.heap_alloc _ _ _ (by omega)]; exact heap_alloc_new w o1
  · rw [Below.heap_alloc _ _ _ (by omega), Below.heap_alloc _ _ _ (by omega), ← e1]; exact heap_alloc_new _ o2
  · rw [Below.heap_alloc _ _ _ (by omega), ← e2]; exact heap_alloc_new _ o3
  · rw [← e3]; exact heap_alloc_new _ o4
  · exact (((((Fr.refl _ w).alloc (fun _ h => h) o1).alloc (fun _ h => h) o2).alloc (fun _ h => h) o3).alloc (fun _ h => h) o4)

theorem Rd.drewN {w : World} {Q : Nat → Prop} {A : Option Addr} {n size : Nat} {vs : List Value} (h : Rd w Q A n size vs) (k : Nat) : Rd (w.drewN k) Q A n size vs := h

theorem size45 {cs : List Value} (h : cs.length = 28) : (Try.prog.info? 45).map (·.size) = some cs.toArray.size := by
  have : (Try.prog.info? 45).map (·.size) = some 28 := by kernel_rfl
  rw [this, List.size_toArray, h]

set_option maxHeartbeats 1000000 in
set_option maxRecDepth 100000 in
theorem sameEvent_c (x y : XEvent) (cx cy : List Value) (w : World) (hx : EventC w (· < w.heap.size) cx x) (hy : EventC w (· < w.heap.size) cy y)
    (hLx : (encAll x).length ≤ Lim) (hLy : (encAll y).length ≤ Lim) :
    Calls Try.prog 21 #[.agg cx.toArray, .agg cy.toArray] w fun e w' => e = .returned (.bool (decide (encAll x = encAll y))) ∧ Below w.heap.size w w' := by
  have hcx := size45 hx.len
  have hcy := size45 hy.len
  have HCX := Lib.hid hcx
  have HCY := Lib.hid hcy
  clear hcx hcy
  go_enter Try.func21, Try.ntmps21
  go_upto_region 2 with fail
  generalize hW : (((w.alloc (.cells cx.toArray 45)).alloc (.cells cy.toArray 45)).alloc (.cells #[.slice none 0 0, .bool false, .bool false] 81)).alloc (.cells #[.slice none 0 0, .bool false, .bool false] 81) = W
  have h4 := heap4 w (.cells cx.toArray 45) (.cells cy.toArray 45) (.cells #[.slice none 0 0, .bool false, .bool false] 81) (.cells #[.slice none 0 0, .bool false, .bool false] 81)
  rw [hW] at h4
  clear hW
  obtain ⟨H0, H1, H2, H3, HS, HF⟩ := h4
  have hsz : w.heap.size + 4 ≤ W.heap.size := by omega
  have HSZ := Lib.hid HS
  clear HS
  go_wp2_with (refine wpList_load_row rfl 45 (.tmp 2) rfl w.heap.size rfl 45 cx.toArray (0, 0) _ H0 Try.underlying45 rfl HCX.out ?_)
  have q0 : ∀ k, k < w.heap.size → Oth W (w.heap.size + 2) (.slice none 0 0) k := fun k hk => ⟨by omega, by omega, by simp [Value.ownBlock]⟩
  refine (all_w (w.heap.size + 2) (.slice none 0 0) [] false x W (· < w.heap.size) cx ⟨H2, Bytes.nil W⟩ q0 (hx.fr HF) (by simpa using hLx)).mono ?_
  rintro e w1 ⟨rfl, v1, hs1, hst1⟩
  have o1 : Oth W (w.heap.size + 2) (.slice none 0 0) (w.heap.size + 1) := ⟨by omega, by omega, by simp [Value.ownBlock]⟩
  have o3 : Oth W (w.heap.size + 2) (.slice none 0 0) (w.heap.size + 3) := ⟨by omega, by omega, by simp [Value.ownBlock]⟩
  have K1 := (hst1.fr.block _ o1).trans H1
  have K3 := (hst1.fr.block _ o3).trans H3
  have hz1 := hst1.fr.size
  go_wp2_with (refine wpList_load_row rfl 45 (.tmp 3) rfl (w.heap.size + 1) rfl 45 cy.toArray (0, 0) _ K1 Try.underlying45 rfl HCY.out ?_)
  have q1 : ∀ k, k < w.heap.size → Oth w1 (w.heap.size + 3) (.slice none 0 0) k := fun k hk => ⟨by omega, by omega, by simp [Value.ownBlock]⟩
  have f1 : Fr (· < w.heap.size) w w1 := HF.trans (hst1.fr.mono q0)
  refine (all_w (w.heap.size + 3) (.slice none 0 0) [] false y w1 (· < w.heap.size) cy ⟨K3, Bytes.nil w1⟩ q1 (hy.fr f1) (by simpa using hLy)).mono ?_
  rintro e w2 ⟨rfl, v2, hs2, hst2⟩
  have f2 : Fr (· < w.heap.size) w w2 := f1.trans (hst2.fr.mono q1)
  have hs1' := hs1.fr hst2.fr ⟨hs1.lt, by omega, by simp [Value.ownBlock]⟩ (fun k hk => ⟨hs1.2.lt hk, fun e => own_ne hs1.2 K3 (by decide) (by rw [hk, e]), by simp [Value.ownBlock]⟩)
  have c1 : w2.cell? ⟨w.heap.size + 1 + 1, 0, none⟩ = _ := blk_cell hs1'.1 0
  have c2 : w2.cell? ⟨w.heap.size + 1 + 1 + 1, 0, none⟩ = _ := blk_cell hs2.1 0
  rw [List.nil_append] at hs1' hs2
  obtain ⟨A1, d1, rfl, _, _⟩ := hs1'.2.form
  obtain ⟨A2, d2, rfl, _, _⟩ := hs2.2.form
  have r1 := (hs1'.2.rd (Q := fun _ => True) (fun _ _ => trivial)).2
  have r2 := (hs2.2.rd (Q := fun _ => True) (fun _ _ => trivial)).2
  have R1 := Lib.hid r1
  have R2 := Lib.hid r2
  unfold Lim at hLx hLy
  clear r1 r2 hs1 hs1' hs2 H0 H1 H2 H3 K1 K3
  go_wp2_with fail
  go_quiet ((go_at_call 44; exact Calls.quiet_of (equal_c A1 A2 d1 d2 (encAll x) (encAll y) _ _ (Rd.drewN R1.out _) (Rd.drewN R2.out _) hLx hLy)))
  go_wp2_with fail
  go_ret
  exact ⟨rfl, (f2.drewN nq).below⟩
end Go.Proofs.Ytgdibeegheddmaa

namespace Go.Proofs.Ytgdibeegheddmaa
open Go Go.RowKit

def putAt : List Value → Nat → List Value → List Value
  | cs, _, [] => cs
  | cs, o, v :: r => putAt (cs.set o v) (o + 1) r

theorem heap_setCell_same {w : World} {b : Nat} {cs : Array Value} {t : TypeId} {fr : Nat × Nat} (h : w.heap[b]? = some (.cells cs t fr)) (i : Nat) (u : Value) :
    (w.setCell ⟨b, i, none⟩ u).heap[b]? = some (.cells (cs.setIfInBounds i u) t fr) := by
  simp [World.setCell, Array.getElem?_modify, h]
theorem heap_setCells {b : Nat} {t : TypeId} {fr : Nat × Nat} : ∀ (vs : List Value) (o : Nat) (w : World) (cs : List Value), w.heap[b]? = some (.cells cs.toArray t fr) →
    (w.setCells b o vs).heap[b]? = some (.cells (putAt cs o vs).toArray t fr)
  | [], _, _, _, h => h
  | v :: r, o, w, cs, h => by
    have h1 := heap_setCell_same h o v
    rw [show cs.toArray.setIfInBounds o v = (cs.set o v).toArray from by simp] at h1
    exact heap_setCells r (o + 1) _ _ h1
theorem fr_setCells {b : Nat} : ∀ (vs : List Value) (o : Nat) (w : World), Fr (fun k => k ≠ b) w (w.setCells b o vs)
  | [], _, w => Fr.refl _ w
  | v :: r, o, w => (Fr.setCell (p := ⟨b, o, none⟩) (Fr.refl _ w) (fun h => h rfl) v).trans (fr_setCells r (o + 1) _)
theorem heap_setRow {w : World} {g : Nat} {old : Array Value} {t : TypeId} {fr : Nat × Nat} (h : w.heap[g]? = some (.cells old t fr)) (cs : Array Value) : (w.setRow g cs).heap[g]? = some (.cells cs t fr) := by
  simp [World.setRow, Array.getElem?_modify, h]
theorem fr_setRow (w : World) (g : Nat) (cs : Array Value) : Fr (fun k => k ≠ g) w (w.setRow g cs) :=
  ⟨rfl, rfl, rfl, by simp [World.setRow], fun k hk => by
    simp only [World.setRow, Array.getElem?_modify]
    rw [if_neg (fun e => hk e.symm)]⟩
theorem range_of_block {w : World} {b : Nat} {cs : List Value} {t : TypeId} {fr : Nat × Nat} (h : w.heap[b]? = some (.cells cs.toArray t fr)) (o : Nat) (vs : List Value)
    (hv : ∀ j v, vs[j]? = some v → cs[o + j]? = some v) : w.rangeAt b o vs := fun j v hj => by
  simp [World.cell?, h, hv j v hj]
theorem there_of_block {w : World} {b : Nat} {cs : Array Value} {t : TypeId} (h : w.heap[b]? = some (.cells cs t (0, 0))) (o n : Nat) (hn : o + n ≤ cs.size) : w.there b o n := fun j hj => by
  refine ⟨?_, blk_frozen h _⟩
  rw [blk_cell h]
  simp; omega
theorem heap2 (w : World) (o1 o2 : Obj) : ((w.alloc o1).alloc o2).heap[w.heap.size]? = some o1 ∧ ((w.alloc o1).alloc o2).heap[w.heap.size + 1]? = some o2 ∧
    ((w.alloc o1).alloc o2).heap.size = w.heap.size + 2 ∧ Fr (· < w.heap.size) w ((w.alloc o1).alloc o2) := by
  have e1 : (w.alloc o1).heap.size = w.heap.size + 1 := by simp
  refine ⟨?_, ?_, by simp, ?_⟩
  · rw [Below.heap_alloc _ _ _ (by omega)]; exact heap_alloc_new w o1
  · rw [← e1]; exact heap_alloc_new _ o2
  · exact (((Fr.refl _ w).alloc (fun _ h => h) o1).alloc (fun _ h => h) o2)
end Go.Proofs.Ytgdibeegheddmaa
