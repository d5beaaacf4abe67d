/- The reference's own: the event with the fields of its kind alone. Written by gen_h8.py. -/
import Derived.Test.YtgdibeegheddmaaZH7Whole
namespace Go.Proofs.Ytgdibeegheddmaa
open Go Go.RowKit
set_option linter.unusedVariables false
set_option linter.unusedSimpArgs false
attribute [local go_sem ↓] Go.wp_at_zero Go.wp_at_succ
def OwnPost (w : World) (x : XEvent) (e : Ending) (w' : World) : Prop := ∃ cy, e = .returned (.agg cy.toArray) ∧ EventC w' (· < w.heap.size) cy (ownEv x) ∧ Below w.heap.size w w'
def zCells : Array Value := #[.int .i64 0, .int .i64 0, .int .i64 0, .int .i64 0, .int .i64 0, .int .i64 0, .string ⟨#[]⟩, .slice none 0 0, .string ⟨#[]⟩, .int .i64 0, .int .i64 0, .int .i64 0, .int .i64 0, .int .i64 0, .int .i64 0, .int .i64 0, .int .i64 0, .slice none 0 0, .slice none 0 0, .int .i64 0, .int .i64 0, .int .i64 0, .int .i64 0, .int .i64 0, .int .i64 0, .int .i64 0, .int .i64 0, .string ⟨#[]⟩]
theorem heap3 (w : World) (o1 o2 o3 : Obj) : (((w.alloc o1).alloc o2).alloc o3).heap[w.heap.size]? = some o1 ∧ (((w.alloc o1).alloc o2).alloc o3).heap[w.heap.size + 1]? = some o2 ∧
    (((w.alloc o1).alloc o2).alloc o3).heap[w.heap.size + 2]? = some o3 ∧
    (((w.alloc o1).alloc o2).alloc o3).heap.size = w.heap.size + 3 ∧ Fr (· < w.heap.size) w (((w.alloc o1).alloc o2).alloc o3) := by
  have e1 : (w.alloc o1).heap.size = w.heap.size + 1 := by simp
  have e2 : ((w.alloc o1).alloc o2).heap.size = w.heap.size + 2 := by simp
  refine ⟨?_, ?_, ?_, by simp, ?_⟩
  · rw [Below.heap_alloc _ _ _ (by omega), Below.heap_alloc _ _ _ (by omega)]; exact heap_alloc_new w o1
  · rw [Below.heap_alloc _ _ _ (by omega), ← e1]; exact heap_alloc_new _ o2
  · rw [← e2]; exact heap_alloc_new _ o3
  · exact ((((Fr.refl _ w).alloc (fun _ h => h) o1).alloc (fun _ h => h) o2).alloc (fun _ h => h) o3)
theorem zsize {w : World} {Q : Nat → Prop} {cs : List Value} {x : XEvent} (h : EventC w Q cs x) : zCells.size = cs.toArray.size := by
  have := h.len
  rw [show zCells.size = 28 from rfl]
  simp [this]
theorem EventC.one {w : World} {Q : Nat → Prop} {cs : List Value} {x : XEvent} (h : EventC w Q cs x) : cs.toArray.all (·.oneCell') = true := by
  obtain ⟨_, _, _, _, _, _, _, _, _, rfl, ⟨rfl, _⟩, h1, h2, h3, h4, h5, ⟨rfl, _⟩, ⟨rfl, _⟩, h8⟩ := h
  cases h8
  have h1 := h1.one
  have h2 := h2.one
  have h3 := h3.one
  have h4 := h4.one
  have h5 := h5.one
  simp only [List.all_toArray] at h1 h2 h3 h4 h5
  simp only [List.all_toArray, List.all_append, List.all_cons, List.all_nil, h1, h2, h3, h4, h5, Bool.and_true]
  rfl

set_option maxHeartbeats 1000000 in
set_option maxRecDepth 100000 in
theorem own_1 (x : XEvent) (cx : List Value) (w : World) (hx : EventC w (· < w.heap.size) cx x) (hk : x.kind = 1) :
    Calls Try.prog 42 #[.agg cx.toArray] w (OwnPost w x) := by
  have hlen := hx.len
  have hkk : cx[0]? = some (.int .i64 x.kind) ∧ intBd x.kind := by
    obtain ⟨_, _, _, _, _, _, _, _, _, rfl, ⟨rfl, k0⟩, _⟩ := hx
    exact ⟨rfl, k0⟩
  obtain ⟨hk0, hkb⟩ := hkk
  rw [hk] at hk0 hkb
  have hoe : ownEv x = { kind := 1, entry := x.entry } := by simp [ownEv, hk]
  have hK0 : (w.alloc (.cells cx.toArray 45)).cell? ⟨w.heap.size, 0, none⟩ = some (.int .i64 1) := by
    rw [blk_cell (heap_alloc_new w _) 0]; simpa using hk0
  have HOE := Lib.hid hoe
  have HLEN := Lib.hid hlen
  clear hoe hk hlen
  go_enter Try.func42, Try.ntmps42
  go_upto_region 2 with (refine wpList_store_row rfl 45 (.tmp 3) (.tmp 6) rfl (w.heap.size + 2) _ rfl rfl 45 _ (heap3 w _ _ _).2.2.1 info45 rfl (by simp only [List.all_toArray, List.all_cons, List.all_nil, Value.oneCell', Bool.and_true]) ?_)
  generalize hW : World.setRow (((w.alloc (.cells cx.toArray 45)).alloc (.cells #[.int .i64 0, .int .i64 0, .int .i64 0, .int .i64 0, .int .i64 0, .int .i64 0, .string ⟨#[]⟩, .slice none 0 0, .string ⟨#[]⟩, .int .i64 0, .int .i64 0, .int .i64 0, .int .i64 0, .int .i64 0, .int .i64 0, .int .i64 0, .int .i64 0, .slice none 0 0, .slice none 0 0, .int .i64 0, .int .i64 0, .int .i64 0, .int .i64 0, .int .i64 0, .int .i64 0, .int .i64 0, .int .i64 0, .string ⟨#[]⟩] 45)).alloc (.cells #[.int .i64 0, .int .i64 0, .int .i64 0, .int .i64 0, .int .i64 0, .int .i64 0, .string ⟨#[]⟩, .slice none 0 0, .string ⟨#[]⟩, .int .i64 0, .int .i64 0, .int .i64 0, .int .i64 0, .int .i64 0, .int .i64 0, .int .i64 0, .int .i64 0, .slice none 0 0, .slice none 0 0, .int .i64 0, .int .i64 0, .int .i64 0, .int .i64 0, .int .i64 0, .int .i64 0, .int .i64 0, .int .i64 0, .string ⟨#[]⟩] 45)) (w.heap.size + 2) #[.int .i64 1, .int .i64 0, .int .i64 0, .int .i64 0, .int .i64 0, .int .i64 0, .string ⟨#[]⟩, .slice none 0 0, .string ⟨#[]⟩, .int .i64 0, .int .i64 0, .int .i64 0, .int .i64 0, .int .i64 0, .int .i64 0, .int .i64 0, .int .i64 0, .slice none 0 0, .slice none 0 0, .int .i64 0, .int .i64 0, .int .i64 0, .int .i64 0, .int .i64 0, .int .i64 0, .int .i64 0, .int .i64 0, .string ⟨#[]⟩] = W
  have hh2 := heap3 w (.cells cx.toArray 45) (.cells #[.int .i64 0, .int .i64 0, .int .i64 0, .int .i64 0, .int .i64 0, .int .i64 0, .string ⟨#[]⟩, .slice none 0 0, .string ⟨#[]⟩, .int .i64 0, .int .i64 0, .int .i64 0, .int .i64 0, .int .i64 0, .int .i64 0, .int .i64 0, .int .i64 0, .slice none 0 0, .slice none 0 0, .int .i64 0, .int .i64 0, .int .i64 0, .int .i64 0, .int .i64 0, .int .i64 0, .int .i64 0, .int .i64 0, .string ⟨#[]⟩] 45) (.cells #[.int .i64 0, .int .i64 0, .int .i64 0, .int .i64 0, .int .i64 0, .int .i64 0, .string ⟨#[]⟩, .slice none 0 0, .string ⟨#[]⟩, .int .i64 0, .int .i64 0, .int .i64 0, .int .i64 0, .int .i64 0, .int .i64 0, .int .i64 0, .int .i64 0, .slice none 0 0, .slice none 0 0, .int .i64 0, .int .i64 0, .int .i64 0, .int .i64 0, .int .i64 0, .int .i64 0, .int .i64 0, .int .i64 0, .string ⟨#[]⟩] 45)
  have H2 : W.heap[w.heap.size + 2]? = some (.cells (evCells 1 zEntry zRate zHolding zMatch zStock 0 0 ⟨#[]⟩).toArray 45 (0, 0)) := by rw [← hW]; exact heap_setRow hh2.2.2.1 _
  have fW : Fr (fun k => k ≠ w.heap.size + 2) (((w.alloc (.cells cx.toArray 45)).alloc (.cells #[.int .i64 0, .int .i64 0, .int .i64 0, .int .i64 0, .int .i64 0, .int .i64 0, .string ⟨#[]⟩, .slice none 0 0, .string ⟨#[]⟩, .int .i64 0, .int .i64 0, .int .i64 0, .int .i64 0, .int .i64 0, .int .i64 0, .int .i64 0, .int .i64 0, .slice none 0 0, .slice none 0 0, .int .i64 0, .int .i64 0, .int .i64 0, .int .i64 0, .int .i64 0, .int .i64 0, .int .i64 0, .int .i64 0, .string ⟨#[]⟩] 45)).alloc (.cells #[.int .i64 0, .int .i64 0, .int .i64 0, .int .i64 0, .int .i64 0, .int .i64 0, .string ⟨#[]⟩, .slice none 0 0, .string ⟨#[]⟩, .int .i64 0, .int .i64 0, .int .i64 0, .int .i64 0, .int .i64 0, .int .i64 0, .int .i64 0, .int .i64 0, .slice none 0 0, .slice none 0 0, .int .i64 0, .int .i64 0, .int .i64 0, .int .i64 0, .int .i64 0, .int .i64 0, .int .i64 0, .int .i64 0, .string ⟨#[]⟩] 45)) W := by rw [← hW]; exact fr_setRow _ _ _
  clear hW hK0
  have H0 : W.heap[w.heap.size]? = some (.cells cx.toArray 45 (0, 0)) := (fW.block w.heap.size (by show w.heap.size ≠ w.heap.size + 2; omega)).trans hh2.1
  have H1 : W.heap[w.heap.size + 1]? = some (.cells zCells 45 (0, 0)) := (fW.block (w.heap.size + 1) (by show w.heap.size + 1 ≠ w.heap.size + 2; omega)).trans hh2.2.1
  have FW : Fr (· < w.heap.size) w W := hh2.2.2.2.2.trans (fW.mono (fun k hk => by show k ≠ w.heap.size + 2; omega))
  have hsz : w.heap.size + 3 ≤ W.heap.size := by have := fW.size; have := hh2.2.2.2.1; omega
  clear fW hh2
  have haW : At W (fun k => k < w.heap.size ∨ k = w.heap.size) ⟨w.heap.size, 0, none⟩ cx := by
    refine ⟨.inr rfl, fun j u hu => ?_⟩
    rw [Addr.add_lit, Nat.zero_add, blk_cell H0 j, blk_frozen H0 j]
    exact ⟨by simpa using hu, rfl⟩
  have hxW : EventC W (· < w.heap.size) cx x := hx.fr FW
  have hat := hxW.at_ haW
  simp only [Nat.zero_add] at hat
  obtain ⟨⟨f0, i0⟩, ⟨l1, f1, m1⟩, ⟨l2, f2, m2⟩, ⟨l3, f3, m3⟩, ⟨l4, f4, m4⟩, ⟨l5, f5, m5⟩, ⟨f6, i6⟩, ⟨f7, i7⟩, f8⟩ := hat
  have c0 : W.cell? ⟨w.heap.size, 0, none⟩ = some (.int .i64 1) := by rw [blk_cell H0 0]; simpa using hk0
  clear f0 hk0
  have hlm := f1.len
  clear f2 f3 f4 f5 f6 f7 f8
  have R : W.rangeAt w.heap.size 1 l1 := fun q u hq => m1.c hq
  have TH : W.there (w.heap.size + 2) 1 l1.toArray.size := there_of_block H2 _ _ (by simp [hlm, evCells, zEntry, zRate, zHolding, zMatch, zStock])
  have HI : (Try.prog.info? 34).map (·.size) = some l1.length := by rw [info34, hlm]
  have HI2 : (Try.prog.info? 34).map (·.size) = some l1.toArray.size := by rw [info34, List.size_toArray, hlm]
  have H1C : l1.toArray.all (·.oneCell') = true := EntryC.one f1
  have fS := fr_setCells (b := w.heap.size + 2) l1 1 W
  have G1 := (fS.block (w.heap.size + 1) (by show w.heap.size + 1 ≠ w.heap.size + 2; omega)).trans H1
  have G2 := heap_setCells l1 1 W _ H2
  have hput : putAt (evCells 1 zEntry zRate zHolding zMatch zStock 0 0 ⟨#[]⟩) 1 l1 = (evCells 1 l1 zRate zHolding zMatch zStock 0 0 ⟨#[]⟩) := by
    have := putAt_head .nilFunc ([.int .i64 1]) zEntry (zRate ++ zHolding ++ zMatch ++ zStock ++ [.int .i64 0] ++ [.int .i64 0] ++ [.string ⟨#[]⟩]) l1 1 (by simp [zEntry, zRate, zHolding, zMatch, zStock]) (by rw [hlm]; rfl)
    simpa only [evCells, List.append_assoc] using this
  rw [hput] at G2
  have FW2 : Fr (· < w.heap.size) w (W.setCells (w.heap.size + 2) 1 l1) := FW.trans (fS.mono (fun k hk => by show k ≠ w.heap.size + 2; omega))
  have HG1 := Lib.hid G1
  have HG2 := Lib.hid G2
  have HHI := Lib.hid HI
  have HHI2 := Lib.hid HI2
  have HH1C := Lib.hid H1C
  clear hlm G1 G2 HI HI2 H1C hput H0 H1 H2
  go_upto_region 21 with (first | refine wpList_load_mid rfl 34 (.tmp 11) rfl w.heap.size 1 rfl l1 _ R Try.underlying34 rfl HHI.out ?_ | refine wpList_store_mid rfl 34 (.tmp 13) (.tmp 12) rfl (w.heap.size + 2) 1 l1.toArray rfl rfl TH HHI2.out HH1C.out ?_)
  have hE2 : EventC (W.setCells (w.heap.size + 2) 1 l1) (fun k => k < w.heap.size) (evCells 1 l1 zRate zHolding zMatch zStock 0 0 ⟨#[]⟩) (ownEv x) := by
    rw [HOE.out]
    have hf2 : Fr (· < w.heap.size) W (W.setCells (w.heap.size + 2) 1 l1) := fS.mono (fun k hk => by show k ≠ w.heap.size + 2; omega)
    exact evC hkb (EntryC.fr f1 hf2) (zRateC _ _) (zHoldingC _ _) (zMatchC _ _) (zStockC _ _) bd0 bd0
  have HC45b := Lib.hid (size45 hE2.len)
  have HE2 := Lib.hid hE2
  have HONE := Lib.hid hE2.one
  have HEL := Lib.hid (zsize hE2)
  clear hE2
  go_wp2_with (first | refine wpList_load_row rfl 45 (.tmp 3) rfl (w.heap.size + 2) rfl 45 (evCells 1 l1 zRate zHolding zMatch zStock 0 0 ⟨#[]⟩).toArray (0, 0) _ HG2.out Try.underlying45 rfl HC45b.out ?_ | refine wpList_store_row rfl 45 (.tmp 2) (.tmp 60) rfl (w.heap.size + 1) (evCells 1 l1 zRate zHolding zMatch zStock 0 0 ⟨#[]⟩).toArray rfl rfl 45 _ HG1.out HC45b.out HEL.out HONE.out ?_)
  have hfr := fr_setRow ((W.setCells (w.heap.size + 2) 1 l1)) (w.heap.size + 1) (evCells 1 l1 zRate zHolding zMatch zStock 0 0 ⟨#[]⟩).toArray
  (try simp only [Exit.inBlock, Exit.then])
  refine bodyPost_ret (v := .agg (evCells 1 l1 zRate zHolding zMatch zStock 0 0 ⟨#[]⟩).toArray) (results_cell_row rfl _ _ (w.heap.size + 1) 45 _ (0, 0) _ rfl (heap_setRow HG1.out _) Try.underlying45 rfl HC45b.out) rfl ⟨(evCells 1 l1 zRate zHolding zMatch zStock 0 0 ⟨#[]⟩), rfl, HE2.out.fr (id (hfr.mono (fun k hk => by show k ≠ w.heap.size + 1; omega))), ?_⟩
  exact (FW2.trans (hfr.mono (fun k hk => by show k ≠ w.heap.size + 1; omega))).below

set_option maxHeartbeats 1000000 in
set_option maxRecDepth 100000 in
theorem own_2 (x : XEvent) (cx : List Value) (w : World) (hx : EventC w (· < w.heap.size) cx x) (hk : x.kind = 2) :
    Calls Try.prog 42 #[.agg cx.toArray] w (OwnPost w x) := by
  have hlen := hx.len
  have hkk : cx[0]? = some (.int .i64 x.kind) ∧ intBd x.kind := by
    obtain ⟨_, _, _, _, _, _, _, _, _, rfl, ⟨rfl, k0⟩, _⟩ := hx
    exact ⟨rfl, k0⟩
  obtain ⟨hk0, hkb⟩ := hkk
  rw [hk] at hk0 hkb
  have hoe : ownEv x = { kind := 2, rate := x.rate } := by simp [ownEv, hk]
  have hK0 : (w.alloc (.cells cx.toArray 45)).cell? ⟨w.heap.size, 0, none⟩ = some (.int .i64 2) := by
    rw [blk_cell (heap_alloc_new w _) 0]; simpa using hk0
  have HOE := Lib.hid hoe
  have HLEN := Lib.hid hlen
  clear hoe hk hlen
  go_enter Try.func42, Try.ntmps42
  go_upto_region 2 with (refine wpList_store_row rfl 45 (.tmp 3) (.tmp 6) rfl (w.heap.size + 2) _ rfl rfl 45 _ (heap3 w _ _ _).2.2.1 info45 rfl (by simp only [List.all_toArray, List.all_cons, List.all_nil, Value.oneCell', Bool.and_true]) ?_)
  generalize hW : World.setRow (((w.alloc (.cells cx.toArray 45)).alloc (.cells #[.int .i64 0, .int .i64 0, .int .i64 0, .int .i64 0, .int .i64 0, .int .i64 0, .string ⟨#[]⟩, .slice none 0 0, .string ⟨#[]⟩, .int .i64 0, .int .i64 0, .int .i64 0, .int .i64 0, .int .i64 0, .int .i64 0, .int .i64 0, .int .i64 0, .slice none 0 0, .slice none 0 0, .int .i64 0, .int .i64 0, .int .i64 0, .int .i64 0, .int .i64 0, .int .i64 0, .int .i64 0, .int .i64 0, .string ⟨#[]⟩] 45)).alloc (.cells #[.int .i64 0, .int .i64 0, .int .i64 0, .int .i64 0, .int .i64 0, .int .i64 0, .string ⟨#[]⟩, .slice none 0 0, .string ⟨#[]⟩, .int .i64 0, .int .i64 0, .int .i64 0, .int .i64 0, .int .i64 0, .int .i64 0, .int .i64 0, .int .i64 0, .slice none 0 0, .slice none 0 0, .int .i64 0, .int .i64 0, .int .i64 0, .int .i64 0, .int .i64 0, .int .i64 0, .int .i64 0, .int .i64 0, .string ⟨#[]⟩] 45)) (w.heap.size + 2) #[.int .i64 2, .int .i64 0, .int .i64 0, .int .i64 0, .int .i64 0, .int .i64 0, .string ⟨#[]⟩, .slice none 0 0, .string ⟨#[]⟩, .int .i64 0, .int .i64 0, .int .i64 0, .int .i64 0, .int .i64 0, .int .i64 0, .int .i64 0, .int .i64 0, .slice none 0 0, .slice none 0 0, .int .i64 0, .int .i64 0, .int .i64 0, .int .i64 0, .int .i64 0, .int .i64 0, .int .i64 0, .int .i64 0, .string ⟨#[]⟩] = W
  have hh2 := heap3 w (.cells cx.toArray 45) (.cells #[.int .i64 0, .int .i64 0, .int .i64 0, .int .i64 0, .int .i64 0, .int .i64 0, .string ⟨#[]⟩, .slice none 0 0, .string ⟨#[]⟩, .int .i64 0, .int .i64 0, .int .i64 0, .int .i64 0, .int .i64 0, .int .i64 0, .int .i64 0, .int .i64 0, .slice none 0 0, .slice none 0 0, .int .i64 0, .int .i64 0, .int .i64 0, .int .i64 0, .int .i64 0, .int .i64 0, .int .i64 0, .int .i64 0, .string ⟨#[]⟩] 45) (.cells #[.int .i64 0, .int .i64 0, .int .i64 0, .int .i64 0, .int .i64 0, .int .i64 0, .string ⟨#[]⟩, .slice none 0 0, .string ⟨#[]⟩, .int .i64 0, .int .i64 0, .int .i64 0, .int .i64 0, .int .i64 0, .int .i64 0, .int .i64 0, .int .i64 0, .slice none 0 0, .slice none 0 0, .int .i64 0, .int .i64 0, .int .i64 0, .int .i64 0, .int .i64 0, .int .i64 0, .int .i64 0, .int .i64 0, .string ⟨#[]⟩] 45)
  have H2 : W.heap[w.heap.size + 2]? = some (.cells (evCells 2 zEntry zRate zHolding zMatch zStock 0 0 ⟨#[]⟩).toArray 45 (0, 0)) := by rw [← hW]; exact heap_setRow hh2.2.2.1 _
  have fW : Fr (fun k => k ≠ w.heap.size + 2) (((w.alloc (.cells cx.toArray 45)).alloc (.cells #[.int .i64 0, .int .i64 0, .int .i64 0, .int .i64 0, .int .i64 0, .int .i64 0, .string ⟨#[]⟩, .slice none 0 0, .string ⟨#[]⟩, .int .i64 0, .int .i64 0, .int .i64 0, .int .i64 0, .int .i64 0, .int .i64 0, .int .i64 0, .int .i64 0, .slice none 0 0, .slice none 0 0, .int .i64 0, .int .i64 0, .int .i64 0, .int .i64 0, .int .i64 0, .int .i64 0, .int .i64 0, .int .i64 0, .string ⟨#[]⟩] 45)).alloc (.cells #[.int .i64 0, .int .i64 0, .int .i64 0, .int .i64 0, .int .i64 0, .int .i64 0, .string ⟨#[]⟩, .slice none 0 0, .string ⟨#[]⟩, .int .i64 0, .int .i64 0, .int .i64 0, .int .i64 0, .int .i64 0, .int .i64 0, .int .i64 0, .int .i64 0, .slice none 0 0, .slice none 0 0, .int .i64 0, .int .i64 0, .int .i64 0, .int .i64 0, .int .i64 0, .int .i64 0, .int .i64 0, .int .i64 0, .string ⟨#[]⟩] 45)) W := by rw [← hW]; exact fr_setRow _ _ _
  clear hW hK0
  have H0 : W.heap[w.heap.size]? = some (.cells cx.toArray 45 (0, 0)) := (fW.block w.heap.size (by show w.heap.size ≠ w.heap.size + 2; omega)).trans hh2.1
  have H1 : W.heap[w.heap.size + 1]? = some (.cells zCells 45 (0, 0)) := (fW.block (w.heap.size + 1) (by show w.heap.size + 1 ≠ w.heap.size + 2; omega)).trans hh2.2.1
  have FW : Fr (· < w.heap.size) w W := hh2.2.2.2.2.trans (fW.mono (fun k hk => by show k ≠ w.heap.size + 2; omega))
  have hsz : w.heap.size + 3 ≤ W.heap.size := by have := fW.size; have := hh2.2.2.2.1; omega
  clear fW hh2
  have haW : At W (fun k => k < w.heap.size ∨ k = w.heap.size) ⟨w.heap.size, 0, none⟩ cx := by
    refine ⟨.inr rfl, fun j u hu => ?_⟩
    rw [Addr.add_lit, Nat.zero_add, blk_cell H0 j, blk_frozen H0 j]
    exact ⟨by simpa using hu, rfl⟩
  have hxW : EventC W (· < w.heap.size) cx x := hx.fr FW
  have hat := hxW.at_ haW
  simp only [Nat.zero_add] at hat
  obtain ⟨⟨f0, i0⟩, ⟨l1, f1, m1⟩, ⟨l2, f2, m2⟩, ⟨l3, f3, m3⟩, ⟨l4, f4, m4⟩, ⟨l5, f5, m5⟩, ⟨f6, i6⟩, ⟨f7, i7⟩, f8⟩ := hat
  have c0 : W.cell? ⟨w.heap.size, 0, none⟩ = some (.int .i64 2) := by rw [blk_cell H0 0]; simpa using hk0
  clear f0 hk0
  have hlm := f2.len
  clear f1 f3 f4 f5 f6 f7 f8
  have R : W.rangeAt w.heap.size 8 l2 := fun q u hq => m2.c hq
  have TH : W.there (w.heap.size + 2) 8 l2.toArray.size := there_of_block H2 _ _ (by simp [hlm, evCells, zEntry, zRate, zHolding, zMatch, zStock])
  have HI : (Try.prog.info? 36).map (·.size) = some l2.length := by rw [info36, hlm]
  have HI2 : (Try.prog.info? 36).map (·.size) = some l2.toArray.size := by rw [info36, List.size_toArray, hlm]
  have H1C : l2.toArray.all (·.oneCell') = true := RateC.one f2
  have fS := fr_setCells (b := w.heap.size + 2) l2 8 W
  have G1 := (fS.block (w.heap.size + 1) (by show w.heap.size + 1 ≠ w.heap.size + 2; omega)).trans H1
  have G2 := heap_setCells l2 8 W _ H2
  have hput : putAt (evCells 2 zEntry zRate zHolding zMatch zStock 0 0 ⟨#[]⟩) 8 l2 = (evCells 2 zEntry l2 zHolding zMatch zStock 0 0 ⟨#[]⟩) := by
    have := putAt_head .nilFunc ([.int .i64 2] ++ zEntry) zRate (zHolding ++ zMatch ++ zStock ++ [.int .i64 0] ++ [.int .i64 0] ++ [.string ⟨#[]⟩]) l2 8 (by simp [zEntry, zRate, zHolding, zMatch, zStock]) (by rw [hlm]; rfl)
    simpa only [evCells, List.append_assoc] using this
  rw [hput] at G2
  have FW2 : Fr (· < w.heap.size) w (W.setCells (w.heap.size + 2) 8 l2) := FW.trans (fS.mono (fun k hk => by show k ≠ w.heap.size + 2; omega))
  have HG1 := Lib.hid G1
  have HG2 := Lib.hid G2
  have HHI := Lib.hid HI
  have HHI2 := Lib.hid HI2
  have HH1C := Lib.hid H1C
  clear hlm G1 G2 HI HI2 H1C hput H0 H1 H2
  go_upto_region 21 with (first | refine wpList_load_mid rfl 36 (.tmp 16) rfl w.heap.size 8 rfl l2 _ R Try.underlying36 rfl HHI.out ?_ | refine wpList_store_mid rfl 36 (.tmp 18) (.tmp 17) rfl (w.heap.size + 2) 8 l2.toArray rfl rfl TH HHI2.out HH1C.out ?_)
  have hE2 : EventC (W.setCells (w.heap.size + 2) 8 l2) (fun k => k < w.heap.size) (evCells 2 zEntry l2 zHolding zMatch zStock 0 0 ⟨#[]⟩) (ownEv x) := by
    rw [HOE.out]
    have hf2 : Fr (· < w.heap.size) W (W.setCells (w.heap.size + 2) 8 l2) := fS.mono (fun k hk => by show k ≠ w.heap.size + 2; omega)
    exact evC hkb (zEntryC _ _) (RateC.fr f2 hf2) (zHoldingC _ _) (zMatchC _ _) (zStockC _ _) bd0 bd0
  have HC45b := Lib.hid (size45 hE2.len)
  have HE2 := Lib.hid hE2
  have HONE := Lib.hid hE2.one
  have HEL := Lib.hid (zsize hE2)
  clear hE2
  go_wp2_with (first | refine wpList_load_row rfl 45 (.tmp 3) rfl (w.heap.size + 2) rfl 45 (evCells 2 zEntry l2 zHolding zMatch zStock 0 0 ⟨#[]⟩).toArray (0, 0) _ HG2.out Try.underlying45 rfl HC45b.out ?_ | refine wpList_store_row rfl 45 (.tmp 2) (.tmp 60) rfl (w.heap.size + 1) (evCells 2 zEntry l2 zHolding zMatch zStock 0 0 ⟨#[]⟩).toArray rfl rfl 45 _ HG1.out HC45b.out HEL.out HONE.out ?_)
  have hfr := fr_setRow ((W.setCells (w.heap.size + 2) 8 l2)) (w.heap.size + 1) (evCells 2 zEntry l2 zHolding zMatch zStock 0 0 ⟨#[]⟩).toArray
  (try simp only [Exit.inBlock, Exit.then])
  refine bodyPost_ret (v := .agg (evCells 2 zEntry l2 zHolding zMatch zStock 0 0 ⟨#[]⟩).toArray) (results_cell_row rfl _ _ (w.heap.size + 1) 45 _ (0, 0) _ rfl (heap_setRow HG1.out _) Try.underlying45 rfl HC45b.out) rfl ⟨(evCells 2 zEntry l2 zHolding zMatch zStock 0 0 ⟨#[]⟩), rfl, HE2.out.fr (id (hfr.mono (fun k hk => by show k ≠ w.heap.size + 1; omega))), ?_⟩
  exact (FW2.trans (hfr.mono (fun k hk => by show k ≠ w.heap.size + 1; omega))).below

set_option maxHeartbeats 1000000 in
set_option maxRecDepth 100000 in
theorem own_3 (x : XEvent) (cx : List Value) (w : World) (hx : EventC w (· < w.heap.size) cx x) (hk : x.kind = 3) :
    Calls Try.prog 42 #[.agg cx.toArray] w (OwnPost w x) := by
  have hlen := hx.len
  have hkk : cx[0]? = some (.int .i64 x.kind) ∧ intBd x.kind := by
    obtain ⟨_, _, _, _, _, _, _, _, _, rfl, ⟨rfl, k0⟩, _⟩ := hx
    exact ⟨rfl, k0⟩
  obtain ⟨hk0, hkb⟩ := hkk
  rw [hk] at hk0 hkb
  have hoe : ownEv x = { kind := 3, holding := x.holding } := by simp [ownEv, hk]
  have hK0 : (w.alloc (.cells cx.toArray 45)).cell? ⟨w.heap.size, 0, none⟩ = some (.int .i64 3) := by
    rw [blk_cell (heap_alloc_new w _) 0]; simpa using hk0
  have HOE := Lib.hid hoe
  have HLEN := Lib.hid hlen
  clear hoe hk hlen
  go_enter Try.func42, Try.ntmps42
  go_upto_region 2 with (refine wpList_store_row rfl 45 (.tmp 3) (.tmp 6) rfl (w.heap.size + 2) _ rfl rfl 45 _ (heap3 w _ _ _).2.2.1 info45 rfl (by simp only [List.all_toArray, List.all_cons, List.all_nil, Value.oneCell', Bool.and_true]) ?_)
  generalize hW : World.setRow (((w.alloc (.cells cx.toArray 45)).alloc (.cells #[.int .i64 0, .int .i64 0, .int .i64 0, .int .i64 0, .int .i64 0, .int .i64 0, .string ⟨#[]⟩, .slice none 0 0, .string ⟨#[]⟩, .int .i64 0, .int .i64 0, .int .i64 0, .int .i64 0, .int .i64 0, .int .i64 0, .int .i64 0, .int .i64 0, .slice none 0 0, .slice none 0 0, .int .i64 0, .int .i64 0, .int .i64 0, .int .i64 0, .int .i64 0, .int .i64 0, .int .i64 0, .int .i64 0, .string ⟨#[]⟩] 45)).alloc (.cells #[.int .i64 0, .int .i64 0, .int .i64 0, .int .i64 0, .int .i64 0, .int .i64 0, .string ⟨#[]⟩, .slice none 0 0, .string ⟨#[]⟩, .int .i64 0, .int .i64 0, .int .i64 0, .int .i64 0, .int .i64 0, .int .i64 0, .int .i64 0, .int .i64 0, .slice none 0 0, .slice none 0 0, .int .i64 0, .int .i64 0, .int .i64 0, .int .i64 0, .int .i64 0, .int .i64 0, .int .i64 0, .int .i64 0, .string ⟨#[]⟩] 45)) (w.heap.size + 2) #[.int .i64 3, .int .i64 0, .int .i64 0, .int .i64 0, .int .i64 0, .int .i64 0, .string ⟨#[]⟩, .slice none 0 0, .string ⟨#[]⟩, .int .i64 0, .int .i64 0, .int .i64 0, .int .i64 0, .int .i64 0, .int .i64 0, .int .i64 0, .int .i64 0, .slice none 0 0, .slice none 0 0, .int .i64 0, .int .i64 0, .int .i64 0, .int .i64 0, .int .i64 0, .int .i64 0, .int .i64 0, .int .i64 0, .string ⟨#[]⟩] = W
  have hh2 := heap3 w (.cells cx.toArray 45) (.cells #[.int .i64 0, .int .i64 0, .int .i64 0, .int .i64 0, .int .i64 0, .int .i64 0, .string ⟨#[]⟩, .slice none 0 0, .string ⟨#[]⟩, .int .i64 0, .int .i64 0, .int .i64 0, .int .i64 0, .int .i64 0, .int .i64 0, .int .i64 0, .int .i64 0, .slice none 0 0, .slice none 0 0, .int .i64 0, .int .i64 0, .int .i64 0, .int .i64 0, .int .i64 0, .int .i64 0, .int .i64 0, .int .i64 0, .string ⟨#[]⟩] 45) (.cells #[.int .i64 0, .int .i64 0, .int .i64 0, .int .i64 0, .int .i64 0, .int .i64 0, .string ⟨#[]⟩, .slice none 0 0, .string ⟨#[]⟩, .int .i64 0, .int .i64 0, .int .i64 0, .int .i64 0, .int .i64 0, .int .i64 0, .int .i64 0, .int .i64 0, .slice none 0 0, .slice none 0 0, .int .i64 0, .int .i64 0, .int .i64 0, .int .i64 0, .int .i64 0, .int .i64 0, .int .i64 0, .int .i64 0, .string ⟨#[]⟩] 45)
  have H2 : W.heap[w.heap.size + 2]? = some (.cells (evCells 3 zEntry zRate zHolding zMatch zStock 0 0 ⟨#[]⟩).toArray 45 (0, 0)) := by rw [← hW]; exact heap_setRow hh2.2.2.1 _
  have fW : Fr (fun k => k ≠ w.heap.size + 2) (((w.alloc (.cells cx.toArray 45)).alloc (.cells #[.int .i64 0, .int .i64 0, .int .i64 0, .int .i64 0, .int .i64 0, .int .i64 0, .string ⟨#[]⟩, .slice none 0 0, .string ⟨#[]⟩, .int .i64 0, .int .i64 0, .int .i64 0, .int .i64 0, .int .i64 0, .int .i64 0, .int .i64 0, .int .i64 0, .slice none 0 0, .slice none 0 0, .int .i64 0, .int .i64 0, .int .i64 0, .int .i64 0, .int .i64 0, .int .i64 0, .int .i64 0, .int .i64 0, .string ⟨#[]⟩] 45)).alloc (.cells #[.int .i64 0, .int .i64 0, .int .i64 0, .int .i64 0, .int .i64 0, .int .i64 0, .string ⟨#[]⟩, .slice none 0 0, .string ⟨#[]⟩, .int .i64 0, .int .i64 0, .int .i64 0, .int .i64 0, .int .i64 0, .int .i64 0, .int .i64 0, .int .i64 0, .slice none 0 0, .slice none 0 0, .int .i64 0, .int .i64 0, .int .i64 0, .int .i64 0, .int .i64 0, .int .i64 0, .int .i64 0, .int .i64 0, .string ⟨#[]⟩] 45)) W := by rw [← hW]; exact fr_setRow _ _ _
  clear hW hK0
  have H0 : W.heap[w.heap.size]? = some (.cells cx.toArray 45 (0, 0)) := (fW.block w.heap.size (by show w.heap.size ≠ w.heap.size + 2; omega)).trans hh2.1
  have H1 : W.heap[w.heap.size + 1]? = some (.cells zCells 45 (0, 0)) := (fW.block (w.heap.size + 1) (by show w.heap.size + 1 ≠ w.heap.size + 2; omega)).trans hh2.2.1
  have FW : Fr (· < w.heap.size) w W := hh2.2.2.2.2.trans (fW.mono (fun k hk => by show k ≠ w.heap.size + 2; omega))
  have hsz : w.heap.size + 3 ≤ W.heap.size := by have := fW.size; have := hh2.2.2.2.1; omega
  clear fW hh2
  have haW : At W (fun k => k < w.heap.size ∨ k = w.heap.size) ⟨w.heap.size, 0, none⟩ cx := by
    refine ⟨.inr rfl, fun j u hu => ?_⟩
    rw [Addr.add_lit, Nat.zero_add, blk_cell H0 j, blk_frozen H0 j]
    exact ⟨by simpa using hu, rfl⟩
  have hxW : EventC W (· < w.heap.size) cx x := hx.fr FW
  have hat := hxW.at_ haW
  simp only [Nat.zero_add] at hat
  obtain ⟨⟨f0, i0⟩, ⟨l1, f1, m1⟩, ⟨l2, f2, m2⟩, ⟨l3, f3, m3⟩, ⟨l4, f4, m4⟩, ⟨l5, f5, m5⟩, ⟨f6, i6⟩, ⟨f7, i7⟩, f8⟩ := hat
  have c0 : W.cell? ⟨w.heap.size, 0, none⟩ = some (.int .i64 3) := by rw [blk_cell H0 0]; simpa using hk0
  clear f0 hk0
  have hlm := f3.len
  clear f1 f2 f4 f5 f6 f7 f8
  have R : W.rangeAt w.heap.size 12 l3 := fun q u hq => m3.c hq
  have TH : W.there (w.heap.size + 2) 12 l3.toArray.size := there_of_block H2 _ _ (by simp [hlm, evCells, zEntry, zRate, zHolding, zMatch, zStock])
  have HI : (Try.prog.info? 38).map (·.size) = some l3.length := by rw [info38, hlm]
  have HI2 : (Try.prog.info? 38).map (·.size) = some l3.toArray.size := by rw [info38, List.size_toArray, hlm]
  have H1C : l3.toArray.all (·.oneCell') = true := HoldingC.one f3
  have fS := fr_setCells (b := w.heap.size + 2) l3 12 W
  have G1 := (fS.block (w.heap.size + 1) (by show w.heap.size + 1 ≠ w.heap.size + 2; omega)).trans H1
  have G2 := heap_setCells l3 12 W _ H2
  have hput : putAt (evCells 3 zEntry zRate zHolding zMatch zStock 0 0 ⟨#[]⟩) 12 l3 = (evCells 3 zEntry zRate l3 zMatch zStock 0 0 ⟨#[]⟩) := by
    have := putAt_head .nilFunc ([.int .i64 3] ++ zEntry ++ zRate) zHolding (zMatch ++ zStock ++ [.int .i64 0] ++ [.int .i64 0] ++ [.string ⟨#[]⟩]) l3 12 (by simp [zEntry, zRate, zHolding, zMatch, zStock]) (by rw [hlm]; rfl)
    simpa only [evCells, List.append_assoc] using this
  rw [hput] at G2
  have FW2 : Fr (· < w.heap.size) w (W.setCells (w.heap.size + 2) 12 l3) := FW.trans (fS.mono (fun k hk => by show k ≠ w.heap.size + 2; omega))
  have HG1 := Lib.hid G1
  have HG2 := Lib.hid G2
  have HHI := Lib.hid HI
  have HHI2 := Lib.hid HI2
  have HH1C := Lib.hid H1C
  clear hlm G1 G2 HI HI2 H1C hput H0 H1 H2
  go_upto_region 21 with (first | refine wpList_load_mid rfl 38 (.tmp 21) rfl w.heap.size 12 rfl l3 _ R Try.underlying38 rfl HHI.out ?_ | refine wpList_store_mid rfl 38 (.tmp 23) (.tmp 22) rfl (w.heap.size + 2) 12 l3.toArray rfl rfl TH HHI2.out HH1C.out ?_)
  have hE2 : EventC (W.setCells (w.heap.size + 2) 12 l3) (fun k => k < w.heap.size) (evCells 3 zEntry zRate l3 zMatch zStock 0 0 ⟨#[]⟩) (ownEv x) := by
    rw [HOE.out]
    have hf2 : Fr (· < w.heap.size) W (W.setCells (w.heap.size + 2) 12 l3) := fS.mono (fun k hk => by show k ≠ w.heap.size + 2; omega)
    exact evC hkb (zEntryC _ _) (zRateC _ _) (HoldingC.fr f3 hf2) (zMatchC _ _) (zStockC _ _) bd0 bd0
  have HC45b := Lib.hid (size45 hE2.len)
  have HE2 := Lib.hid hE2
  have HONE := Lib.hid hE2.one
  have HEL := Lib.hid (zsize hE2)
  clear hE2
  go_wp2_with (first | refine wpList_load_row rfl 45 (.tmp 3) rfl (w.heap.size + 2) rfl 45 (evCells 3 zEntry zRate l3 zMatch zStock 0 0 ⟨#[]⟩).toArray (0, 0) _ HG2.out Try.underlying45 rfl HC45b.out ?_ | refine wpList_store_row rfl 45 (.tmp 2) (.tmp 60) rfl (w.heap.size + 1) (evCells 3 zEntry zRate l3 zMatch zStock 0 0 ⟨#[]⟩).toArray rfl rfl 45 _ HG1.out HC45b.out HEL.out HONE.out ?_)
  have hfr := fr_setRow ((W.setCells (w.heap.size + 2) 12 l3)) (w.heap.size + 1) (evCells 3 zEntry zRate l3 zMatch zStock 0 0 ⟨#[]⟩).toArray
  (try simp only [Exit.inBlock, Exit.then])
  refine bodyPost_ret (v := .agg (evCells 3 zEntry zRate l3 zMatch zStock 0 0 ⟨#[]⟩).toArray) (results_cell_row rfl _ _ (w.heap.size + 1) 45 _ (0, 0) _ rfl (heap_setRow HG1.out _) Try.underlying45 rfl HC45b.out) rfl ⟨(evCells 3 zEntry zRate l3 zMatch zStock 0 0 ⟨#[]⟩), rfl, HE2.out.fr (id (hfr.mono (fun k hk => by show k ≠ w.heap.size + 1; omega))), ?_⟩
  exact (FW2.trans (hfr.mono (fun k hk => by show k ≠ w.heap.size + 1; omega))).below

set_option maxHeartbeats 1000000 in
set_option maxRecDepth 100000 in
theorem own_4 (x : XEvent) (cx : List Value) (w : World) (hx : EventC w (· < w.heap.size) cx x) (hk : x.kind = 4) :
    Calls Try.prog 42 #[.agg cx.toArray] w (OwnPost w x) := by
  have hlen := hx.len
  have hkk : cx[0]? = some (.int .i64 x.kind) ∧ intBd x.kind := by
    obtain ⟨_, _, _, _, _, _, _, _, _, rfl, ⟨rfl, k0⟩, _⟩ := hx
    exact ⟨rfl, k0⟩
  obtain ⟨hk0, hkb⟩ := hkk
  rw [hk] at hk0 hkb
  have hoe : ownEv x = { kind := 4, match_ := x.match_ } := by simp [ownEv, hk]
  have hK0 : (w.alloc (.cells cx.toArray 45)).cell? ⟨w.heap.size, 0, none⟩ = some (.int .i64 4) := by
    rw [blk_cell (heap_alloc_new w _) 0]; simpa using hk0
  have HOE := Lib.hid hoe
  have HLEN := Lib.hid hlen
  clear hoe hk hlen
  go_enter Try.func42, Try.ntmps42
  go_upto_region 2 with (refine wpList_store_row rfl 45 (.tmp 3) (.tmp 6) rfl (w.heap.size + 2) _ rfl rfl 45 _ (heap3 w _ _ _).2.2.1 info45 rfl (by simp only [List.all_toArray, List.all_cons, List.all_nil, Value.oneCell', Bool.and_true]) ?_)
  generalize hW : World.setRow (((w.alloc (.cells cx.toArray 45)).alloc (.cells #[.int .i64 0, .int .i64 0, .int .i64 0, .int .i64 0, .int .i64 0, .int .i64 0, .string ⟨#[]⟩, .slice none 0 0, .string ⟨#[]⟩, .int .i64 0, .int .i64 0, .int .i64 0, .int .i64 0, .int .i64 0, .int .i64 0, .int .i64 0, .int .i64 0, .slice none 0 0, .slice none 0 0, .int .i64 0, .int .i64 0, .int .i64 0, .int .i64 0, .int .i64 0, .int .i64 0, .int .i64 0, .int .i64 0, .string ⟨#[]⟩] 45)).alloc (.cells #[.int .i64 0, .int .i64 0, .int .i64 0, .int .i64 0, .int .i64 0, .int .i64 0, .string ⟨#[]⟩, .slice none 0 0, .string ⟨#[]⟩, .int .i64 0, .int .i64 0, .int .i64 0, .int .i64 0, .int .i64 0, .int .i64 0, .int .i64 0, .int .i64 0, .slice none 0 0, .slice none 0 0, .int .i64 0, .int .i64 0, .int .i64 0, .int .i64 0, .int .i64 0, .int .i64 0, .int .i64 0, .int .i64 0, .string ⟨#[]⟩] 45)) (w.heap.size + 2) #[.int .i64 4, .int .i64 0, .int .i64 0, .int .i64 0, .int .i64 0, .int .i64 0, .string ⟨#[]⟩, .slice none 0 0, .string ⟨#[]⟩, .int .i64 0, .int .i64 0, .int .i64 0, .int .i64 0, .int .i64 0, .int .i64 0, .int .i64 0, .int .i64 0, .slice none 0 0, .slice none 0 0, .int .i64 0, .int .i64 0, .int .i64 0, .int .i64 0, .int .i64 0, .int .i64 0, .int .i64 0, .int .i64 0, .string ⟨#[]⟩] = W
  have hh2 := heap3 w (.cells cx.toArray 45) (.cells #[.int .i64 0, .int .i64 0, .int .i64 0, .int .i64 0, .int .i64 0, .int .i64 0, .string ⟨#[]⟩, .slice none 0 0, .string ⟨#[]⟩, .int .i64 0, .int .i64 0, .int .i64 0, .int .i64 0, .int .i64 0, .int .i64 0, .int .i64 0, .int .i64 0, .slice none 0 0, .slice none 0 0, .int .i64 0, .int .i64 0, .int .i64 0, .int .i64 0, .int .i64 0, .int .i64 0, .int .i64 0, .int .i64 0, .string ⟨#[]⟩] 45) (.cells #[.int .i64 0, .int .i64 0, .int .i64 0, .int .i64 0, .int .i64 0, .int .i64 0, .string ⟨#[]⟩, .slice none 0 0, .string ⟨#[]⟩, .int .i64 0, .int .i64 0, .int .i64 0, .int .i64 0, .int .i64 0, .int .i64 0, .int .i64 0, .int .i64 0, .slice none 0 0, .slice none 0 0, .int .i64 0, .int .i64 0, .int .i64 0, .int .i64 0, .int .i64 0, .int .i64 0, .int .i64 0, .int .i64 0, .string ⟨#[]⟩] 45)
  have H2 : W.heap[w.heap.size + 2]? = some (.cells (evCells 4 zEntry zRate zHolding zMatch zStock 0 0 ⟨#[]⟩).toArray 45 (0, 0)) := by rw [← hW]; exact heap_setRow hh2.2.2.1 _
  have fW : Fr (fun k => k ≠ w.heap.size + 2) (((w.alloc (.cells cx.toArray 45)).alloc (.cells #[.int .i64 0, .int .i64 0, .int .i64 0, .int .i64 0, .int .i64 0, .int .i64 0, .string ⟨#[]⟩, .slice none 0 0, .string ⟨#[]⟩, .int .i64 0, .int .i64 0, .int .i64 0, .int .i64 0, .int .i64 0, .int .i64 0, .int .i64 0, .int .i64 0, .slice none 0 0, .slice none 0 0, .int .i64 0, .int .i64 0, .int .i64 0, .int .i64 0, .int .i64 0, .int .i64 0, .int .i64 0, .int .i64 0, .string ⟨#[]⟩] 45)).alloc (.cells #[.int .i64 0, .int .i64 0, .int .i64 0, .int .i64 0, .int .i64 0, .int .i64 0, .string ⟨#[]⟩, .slice none 0 0, .string ⟨#[]⟩, .int .i64 0, .int .i64 0, .int .i64 0, .int .i64 0, .int .i64 0, .int .i64 0, .int .i64 0, .int .i64 0, .slice none 0 0, .slice none 0 0, .int .i64 0, .int .i64 0, .int .i64 0, .int .i64 0, .int .i64 0, .int .i64 0, .int .i64 0, .int .i64 0, .string ⟨#[]⟩] 45)) W := by rw [← hW]; exact fr_setRow _ _ _
  clear hW hK0
  have H0 : W.heap[w.heap.size]? = some (.cells cx.toArray 45 (0, 0)) := (fW.block w.heap.size (by show w.heap.size ≠ w.heap.size + 2; omega)).trans hh2.1
  have H1 : W.heap[w.heap.size + 1]? = some (.cells zCells 45 (0, 0)) := (fW.block (w.heap.size + 1) (by show w.heap.size + 1 ≠ w.heap.size + 2; omega)).trans hh2.2.1
  have FW : Fr (· < w.heap.size) w W := hh2.2.2.2.2.trans (fW.mono (fun k hk => by show k ≠ w.heap.size + 2; omega))
  have hsz : w.heap.size + 3 ≤ W.heap.size := by have := fW.size; have := hh2.2.2.2.1; omega
  clear fW hh2
  have haW : At W (fun k => k < w.heap.size ∨ k = w.heap.size) ⟨w.heap.size, 0, none⟩ cx := by
    refine ⟨.inr rfl, fun j u hu => ?_⟩
    rw [Addr.add_lit, Nat.zero_add, blk_cell H0 j, blk_frozen H0 j]
    exact ⟨by simpa using hu, rfl⟩
  have hxW : EventC W (· < w.heap.size) cx x := hx.fr FW
  have hat := hxW.at_ haW
  simp only [Nat.zero_add] at hat
  obtain ⟨⟨f0, i0⟩, ⟨l1, f1, m1⟩, ⟨l2, f2, m2⟩, ⟨l3, f3, m3⟩, ⟨l4, f4, m4⟩, ⟨l5, f5, m5⟩, ⟨f6, i6⟩, ⟨f7, i7⟩, f8⟩ := hat
  have c0 : W.cell? ⟨w.heap.size, 0, none⟩ = some (.int .i64 4) := by rw [blk_cell H0 0]; simpa using hk0
  clear f0 hk0
  have hlm := f4.len
  clear f1 f2 f3 f5 f6 f7 f8
  have R : W.rangeAt w.heap.size 16 l4 := fun q u hq => m4.c hq
  have TH : W.there (w.heap.size + 2) 16 l4.toArray.size := there_of_block H2 _ _ (by simp [hlm, evCells, zEntry, zRate, zHolding, zMatch, zStock])
  have HI : (Try.prog.info? 41).map (·.size) = some l4.length := by rw [info41, hlm]
  have HI2 : (Try.prog.info? 41).map (·.size) = some l4.toArray.size := by rw [info41, List.size_toArray, hlm]
  have H1C : l4.toArray.all (·.oneCell') = true := MatchC.one f4
  have fS := fr_setCells (b := w.heap.size + 2) l4 16 W
  have G1 := (fS.block (w.heap.size + 1) (by show w.heap.size + 1 ≠ w.heap.size + 2; omega)).trans H1
  have G2 := heap_setCells l4 16 W _ H2
  have hput : putAt (evCells 4 zEntry zRate zHolding zMatch zStock 0 0 ⟨#[]⟩) 16 l4 = (evCells 4 zEntry zRate zHolding l4 zStock 0 0 ⟨#[]⟩) := by
    have := putAt_head .nilFunc ([.int .i64 4] ++ zEntry ++ zRate ++ zHolding) zMatch (zStock ++ [.int .i64 0] ++ [.int .i64 0] ++ [.string ⟨#[]⟩]) l4 16 (by simp [zEntry, zRate, zHolding, zMatch, zStock]) (by rw [hlm]; rfl)
    simpa only [evCells, List.append_assoc] using this
  rw [hput] at G2
  have FW2 : Fr (· < w.heap.size) w (W.setCells (w.heap.size + 2) 16 l4) := FW.trans (fS.mono (fun k hk => by show k ≠ w.heap.size + 2; omega))
  have HG1 := Lib.hid G1
  have HG2 := Lib.hid G2
  have HHI := Lib.hid HI
  have HHI2 := Lib.hid HI2
  have HH1C := Lib.hid H1C
  clear hlm G1 G2 HI HI2 H1C hput H0 H1 H2
  go_upto_region 21 with (first | refine wpList_load_mid rfl 41 (.tmp 26) rfl w.heap.size 16 rfl l4 _ R Try.underlying41 rfl HHI.out ?_ | refine wpList_store_mid rfl 41 (.tmp 28) (.tmp 27) rfl (w.heap.size + 2) 16 l4.toArray rfl rfl TH HHI2.out HH1C.out ?_)
  have hE2 : EventC (W.setCells (w.heap.size + 2) 16 l4) (fun k => k < w.heap.size) (evCells 4 zEntry zRate zHolding l4 zStock 0 0 ⟨#[]⟩) (ownEv x) := by
    rw [HOE.out]
    have hf2 : Fr (· < w.heap.size) W (W.setCells (w.heap.size + 2) 16 l4) := fS.mono (fun k hk => by show k ≠ w.heap.size + 2; omega)
    exact evC hkb (zEntryC _ _) (zRateC _ _) (zHoldingC _ _) (MatchC.fr f4 hf2) (zStockC _ _) bd0 bd0
  have HC45b := Lib.hid (size45 hE2.len)
  have HE2 := Lib.hid hE2
  have HONE := Lib.hid hE2.one
  have HEL := Lib.hid (zsize hE2)
  clear hE2
  go_wp2_with (first | refine wpList_load_row rfl 45 (.tmp 3) rfl (w.heap.size + 2) rfl 45 (evCells 4 zEntry zRate zHolding l4 zStock 0 0 ⟨#[]⟩).toArray (0, 0) _ HG2.out Try.underlying45 rfl HC45b.out ?_ | refine wpList_store_row rfl 45 (.tmp 2) (.tmp 60) rfl (w.heap.size + 1) (evCells 4 zEntry zRate zHolding l4 zStock 0 0 ⟨#[]⟩).toArray rfl rfl 45 _ HG1.out HC45b.out HEL.out HONE.out ?_)
  have hfr := fr_setRow ((W.setCells (w.heap.size + 2) 16 l4)) (w.heap.size + 1) (evCells 4 zEntry zRate zHolding l4 zStock 0 0 ⟨#[]⟩).toArray
  (try simp only [Exit.inBlock, Exit.then])
  refine bodyPost_ret (v := .agg (evCells 4 zEntry zRate zHolding l4 zStock 0 0 ⟨#[]⟩).toArray) (results_cell_row rfl _ _ (w.heap.size + 1) 45 _ (0, 0) _ rfl (heap_setRow HG1.out _) Try.underlying45 rfl HC45b.out) rfl ⟨(evCells 4 zEntry zRate zHolding l4 zStock 0 0 ⟨#[]⟩), rfl, HE2.out.fr (id (hfr.mono (fun k hk => by show k ≠ w.heap.size + 1; omega))), ?_⟩
  exact (FW2.trans (hfr.mono (fun k hk => by show k ≠ w.heap.size + 1; omega))).below

set_option maxHeartbeats 1000000 in
set_option maxRecDepth 100000 in
theorem own_5 (x : XEvent) (cx : List Value) (w : World) (hx : EventC w (· < w.heap.size) cx x) (hk : x.kind = 5) :
    Calls Try.prog 42 #[.agg cx.toArray] w (OwnPost w x) := by
  have hlen := hx.len
  have hkk : cx[0]? = some (.int .i64 x.kind) ∧ intBd x.kind := by
    obtain ⟨_, _, _, _, _, _, _, _, _, rfl, ⟨rfl, k0⟩, _⟩ := hx
    exact ⟨rfl, k0⟩
  obtain ⟨hk0, hkb⟩ := hkk
  rw [hk] at hk0 hkb
  have hoe : ownEv x = { kind := 5, a := x.a, b := x.b } := by simp [ownEv, hk]
  have hK0 : (w.alloc (.cells cx.toArray 45)).cell? ⟨w.heap.size, 0, none⟩ = some (.int .i64 5) := by
    rw [blk_cell (heap_alloc_new w _) 0]; simpa using hk0
  have HOE := Lib.hid hoe
  have HLEN := Lib.hid hlen
  clear hoe hk hlen
  go_enter Try.func42, Try.ntmps42
  go_upto_region 2 with (refine wpList_store_row rfl 45 (.tmp 3) (.tmp 6) rfl (w.heap.size + 2) _ rfl rfl 45 _ (heap3 w _ _ _).2.2.1 info45 rfl (by simp only [List.all_toArray, List.all_cons, List.all_nil, Value.oneCell', Bool.and_true]) ?_)
  generalize hW : World.setRow (((w.alloc (.cells cx.toArray 45)).alloc (.cells #[.int .i64 0, .int .i64 0, .int .i64 0, .int .i64 0, .int .i64 0, .int .i64 0, .string ⟨#[]⟩, .slice none 0 0, .string ⟨#[]⟩, .int .i64 0, .int .i64 0, .int .i64 0, .int .i64 0, .int .i64 0, .int .i64 0, .int .i64 0, .int .i64 0, .slice none 0 0, .slice none 0 0, .int .i64 0, .int .i64 0, .int .i64 0, .int .i64 0, .int .i64 0, .int .i64 0, .int .i64 0, .int .i64 0, .string ⟨#[]⟩] 45)).alloc (.cells #[.int .i64 0, .int .i64 0, .int .i64 0, .int .i64 0, .int .i64 0, .int .i64 0, .string ⟨#[]⟩, .slice none 0 0, .string ⟨#[]⟩, .int .i64 0, .int .i64 0, .int .i64 0, .int .i64 0, .int .i64 0, .int .i64 0, .int .i64 0, .int .i64 0, .slice none 0 0, .slice none 0 0, .int .i64 0, .int .i64 0, .int .i64 0, .int .i64 0, .int .i64 0, .int .i64 0, .int .i64 0, .int .i64 0, .string ⟨#[]⟩] 45)) (w.heap.size + 2) #[.int .i64 5, .int .i64 0, .int .i64 0, .int .i64 0, .int .i64 0, .int .i64 0, .string ⟨#[]⟩, .slice none 0 0, .string ⟨#[]⟩, .int .i64 0, .int .i64 0, .int .i64 0, .int .i64 0, .int .i64 0, .int .i64 0, .int .i64 0, .int .i64 0, .slice none 0 0, .slice none 0 0, .int .i64 0, .int .i64 0, .int .i64 0, .int .i64 0, .int .i64 0, .int .i64 0, .int .i64 0, .int .i64 0, .string ⟨#[]⟩] = W
  have hh2 := heap3 w (.cells cx.toArray 45) (.cells #[.int .i64 0, .int .i64 0, .int .i64 0, .int .i64 0, .int .i64 0, .int .i64 0, .string ⟨#[]⟩, .slice none 0 0, .string ⟨#[]⟩, .int .i64 0, .int .i64 0, .int .i64 0, .int .i64 0, .int .i64 0, .int .i64 0, .int .i64 0, .int .i64 0, .slice none 0 0, .slice none 0 0, .int .i64 0, .int .i64 0, .int .i64 0, .int .i64 0, .int .i64 0, .int .i64 0, .int .i64 0, .int .i64 0, .string ⟨#[]⟩] 45) (.cells #[.int .i64 0, .int .i64 0, .int .i64 0, .int .i64 0, .int .i64 0, .int .i64 0, .string ⟨#[]⟩, .slice none 0 0, .string ⟨#[]⟩, .int .i64 0, .int .i64 0, .int .i64 0, .int .i64 0, .int .i64 0, .int .i64 0, .int .i64 0, .int .i64 0, .slice none 0 0, .slice none 0 0, .int .i64 0, .int .i64 0, .int .i64 0, .int .i64 0, .int .i64 0, .int .i64 0, .int .i64 0, .int .i64 0, .string ⟨#[]⟩] 45)
  have H2 : W.heap[w.heap.size + 2]? = some (.cells (evCells 5 zEntry zRate zHolding zMatch zStock 0 0 ⟨#[]⟩).toArray 45 (0, 0)) := by rw [← hW]; exact heap_setRow hh2.2.2.1 _
  have fW : Fr (fun k => k ≠ w.heap.size + 2) (((w.alloc (.cells cx.toArray 45)).alloc (.cells #[.int .i64 0, .int .i64 0, .int .i64 0, .int .i64 0, .int .i64 0, .int .i64 0, .string ⟨#[]⟩, .slice none 0 0, .string ⟨#[]⟩, .int .i64 0, .int .i64 0, .int .i64 0, .int .i64 0, .int .i64 0, .int .i64 0, .int .i64 0, .int .i64 0, .slice none 0 0, .slice none 0 0, .int .i64 0, .int .i64 0, .int .i64 0, .int .i64 0, .int .i64 0, .int .i64 0, .int .i64 0, .int .i64 0, .string ⟨#[]⟩] 45)).alloc (.cells #[.int .i64 0, .int .i64 0, .int .i64 0, .int .i64 0, .int .i64 0, .int .i64 0, .string ⟨#[]⟩, .slice none 0 0, .string ⟨#[]⟩, .int .i64 0, .int .i64 0, .int .i64 0, .int .i64 0, .int .i64 0, .int .i64 0, .int .i64 0, .int .i64 0, .slice none 0 0, .slice none 0 0, .int .i64 0, .int .i64 0, .int .i64 0, .int .i64 0, .int .i64 0, .int .i64 0, .int .i64 0, .int .i64 0, .string ⟨#[]⟩] 45)) W := by rw [← hW]; exact fr_setRow _ _ _
  clear hW hK0
  have H0 : W.heap[w.heap.size]? = some (.cells cx.toArray 45 (0, 0)) := (fW.block w.heap.size (by show w.heap.size ≠ w.heap.size + 2; omega)).trans hh2.1
  have H1 : W.heap[w.heap.size + 1]? = some (.cells zCells 45 (0, 0)) := (fW.block (w.heap.size + 1) (by show w.heap.size + 1 ≠ w.heap.size + 2; omega)).trans hh2.2.1
  have FW : Fr (· < w.heap.size) w W := hh2.2.2.2.2.trans (fW.mono (fun k hk => by show k ≠ w.heap.size + 2; omega))
  have hsz : w.heap.size + 3 ≤ W.heap.size := by have := fW.size; have := hh2.2.2.2.1; omega
  clear fW hh2
  have haW : At W (fun k => k < w.heap.size ∨ k = w.heap.size) ⟨w.heap.size, 0, none⟩ cx := by
    refine ⟨.inr rfl, fun j u hu => ?_⟩
    rw [Addr.add_lit, Nat.zero_add, blk_cell H0 j, blk_frozen H0 j]
    exact ⟨by simpa using hu, rfl⟩
  have hxW : EventC W (· < w.heap.size) cx x := hx.fr FW
  have hat := hxW.at_ haW
  simp only [Nat.zero_add] at hat
  obtain ⟨⟨f0, i0⟩, ⟨l1, f1, m1⟩, ⟨l2, f2, m2⟩, ⟨l3, f3, m3⟩, ⟨l4, f4, m4⟩, ⟨l5, f5, m5⟩, ⟨f6, i6⟩, ⟨f7, i7⟩, f8⟩ := hat
  have c0 : W.cell? ⟨w.heap.size, 0, none⟩ = some (.int .i64 5) := by rw [blk_cell H0 0]; simpa using hk0
  clear f0 hk0
  clear f1 f2 f3 f4 f5 f8
  have o25 : W.cell? ⟨w.heap.size + 2, 25, none⟩ = some (.int .i64 0) := blk_cell H2 25
  have z25 : W.frozen? ⟨w.heap.size + 2, 25, none⟩ = false := blk_frozen H2 25
  have o26 : W.cell? ⟨w.heap.size + 2, 26, none⟩ = some (.int .i64 0) := blk_cell H2 26
  have z26 : W.frozen? ⟨w.heap.size + 2, 26, none⟩ = false := blk_frozen H2 26
  have fS : Fr (fun k => k ≠ w.heap.size + 2) W ((W.setCell ⟨w.heap.size + 2, 25, none⟩ (.int .i64 x.a)).setCell ⟨w.heap.size + 2, 26, none⟩ (.int .i64 x.b)) := Fr.setCell (p := ⟨w.heap.size + 2, 26, none⟩) (Fr.setCell (p := ⟨w.heap.size + 2, 25, none⟩) (Fr.refl _ W) (fun h => h rfl) _) (fun h => h rfl) _
  have G1 := (fS.block (w.heap.size + 1) (by show w.heap.size + 1 ≠ w.heap.size + 2; omega)).trans H1
  have G2 := heap_setCell_same (heap_setCell_same (H2) 25 (.int .i64 x.a)) 26 (.int .i64 x.b)
  have hput : (((evCells 5 zEntry zRate zHolding zMatch zStock 0 0 ⟨#[]⟩).toArray.setIfInBounds 25 (.int .i64 x.a)).setIfInBounds 26 (.int .i64 x.b)) = (evCells 5 zEntry zRate zHolding zMatch zStock x.a x.b ⟨#[]⟩).toArray := rfl
  rw [hput] at G2
  have FW2 : Fr (· < w.heap.size) w ((W.setCell ⟨w.heap.size + 2, 25, none⟩ (.int .i64 x.a)).setCell ⟨w.heap.size + 2, 26, none⟩ (.int .i64 x.b)) := FW.trans (fS.mono (fun k hk => by show k ≠ w.heap.size + 2; omega))
  have HG1 := Lib.hid G1
  have HG2 := Lib.hid G2
  clear G1 G2 hput H0 H1 H2
  have hE2 : EventC ((W.setCell ⟨w.heap.size + 2, 25, none⟩ (.int .i64 x.a)).setCell ⟨w.heap.size + 2, 26, none⟩ (.int .i64 x.b)) (fun k => k < w.heap.size) (evCells 5 zEntry zRate zHolding zMatch zStock x.a x.b ⟨#[]⟩) (ownEv x) := by
    rw [HOE.out]
    exact evC hkb (zEntryC _ _) (zRateC _ _) (zHoldingC _ _) (zMatchC _ _) (zStockC _ _) i6 i7
  have HFW2 := Lib.hid FW2
  clear FW2 fS
  go_wp2_with fail
  go_region
  have HC45b := Lib.hid (size45 hE2.len)
  have HE2 := Lib.hid hE2
  have HONE := Lib.hid hE2.one
  have HEL := Lib.hid (zsize hE2)
  clear hE2
  go_wp2_with (first | refine wpList_load_row rfl 45 (.tmp 3) rfl (w.heap.size + 2) rfl 45 (evCells 5 zEntry zRate zHolding zMatch zStock x.a x.b ⟨#[]⟩).toArray (0, 0) _ HG2.out Try.underlying45 rfl HC45b.out ?_ | refine wpList_store_row rfl 45 (.tmp 2) (.tmp 60) rfl (w.heap.size + 1) (evCells 5 zEntry zRate zHolding zMatch zStock x.a x.b ⟨#[]⟩).toArray rfl rfl 45 _ HG1.out HC45b.out HEL.out HONE.out ?_)
  have hfr := fr_setRow (((W.setCell ⟨w.heap.size + 2, 25, none⟩ (.int .i64 x.a)).setCell ⟨w.heap.size + 2, 26, none⟩ (.int .i64 x.b)).drew) (w.heap.size + 1) (evCells 5 zEntry zRate zHolding zMatch zStock x.a x.b ⟨#[]⟩).toArray
  (try simp only [Exit.inBlock, Exit.then])
  refine bodyPost_ret (v := .agg (evCells 5 zEntry zRate zHolding zMatch zStock x.a x.b ⟨#[]⟩).toArray) (results_cell_row rfl _ _ (w.heap.size + 1) 45 _ (0, 0) _ rfl (heap_setRow HG1.out _) Try.underlying45 rfl HC45b.out) rfl ⟨(evCells 5 zEntry zRate zHolding zMatch zStock x.a x.b ⟨#[]⟩), rfl, HE2.out.fr (Fr.ofDrew (hfr.mono (fun k hk => by show k ≠ w.heap.size + 1; omega))), ?_⟩
  exact (HFW2.out.drew.trans (hfr.mono (fun k hk => by show k ≠ w.heap.size + 1; omega))).below

set_option maxHeartbeats 1000000 in
set_option maxRecDepth 100000 in
theorem own_6 (x : XEvent) (cx : List Value) (w : World) (hx : EventC w (· < w.heap.size) cx x) (hk : x.kind = 6) :
    Calls Try.prog 42 #[.agg cx.toArray] w (OwnPost w x) := by
  have hlen := hx.len
  have hkk : cx[0]? = some (.int .i64 x.kind) ∧ intBd x.kind := by
    obtain ⟨_, _, _, _, _, _, _, _, _, rfl, ⟨rfl, k0⟩, _⟩ := hx
    exact ⟨rfl, k0⟩
  obtain ⟨hk0, hkb⟩ := hkk
  rw [hk] at hk0 hkb
  have hoe : ownEv x = { kind := 6, stock := x.stock } := by simp [ownEv, hk]
  have hK0 : (w.alloc (.cells cx.toArray 45)).cell? ⟨w.heap.size, 0, none⟩ = some (.int .i64 6) := by
    rw [blk_cell (heap_alloc_new w _) 0]; simpa using hk0
  have HOE := Lib.hid hoe
  have HLEN := Lib.hid hlen
  clear hoe hk hlen
  go_enter Try.func42, Try.ntmps42
  go_upto_region 2 with (refine wpList_store_row rfl 45 (.tmp 3) (.tmp 6) rfl (w.heap.size + 2) _ rfl rfl 45 _ (heap3 w _ _ _).2.2.1 info45 rfl (by simp only [List.all_toArray, List.all_cons, List.all_nil, Value.oneCell', Bool.and_true]) ?_)
  generalize hW : World.setRow (((w.alloc (.cells cx.toArray 45)).alloc (.cells #[.int .i64 0, .int .i64 0, .int .i64 0, .int .i64 0, .int .i64 0, .int .i64 0, .string ⟨#[]⟩, .slice none 0 0, .string ⟨#[]⟩, .int .i64 0, .int .i64 0, .int .i64 0, .int .i64 0, .int .i64 0, .int .i64 0, .int .i64 0, .int .i64 0, .slice none 0 0, .slice none 0 0, .int .i64 0, .int .i64 0, .int .i64 0, .int .i64 0, .int .i64 0, .int .i64 0, .int .i64 0, .int .i64 0, .string ⟨#[]⟩] 45)).alloc (.cells #[.int .i64 0, .int .i64 0, .int .i64 0, .int .i64 0, .int .i64 0, .int .i64 0, .string ⟨#[]⟩, .slice none 0 0, .string ⟨#[]⟩, .int .i64 0, .int .i64 0, .int .i64 0, .int .i64 0, .int .i64 0, .int .i64 0, .int .i64 0, .int .i64 0, .slice none 0 0, .slice none 0 0, .int .i64 0, .int .i64 0, .int .i64 0, .int .i64 0, .int .i64 0, .int .i64 0, .int .i64 0, .int .i64 0, .string ⟨#[]⟩] 45)) (w.heap.size + 2) #[.int .i64 6, .int .i64 0, .int .i64 0, .int .i64 0, .int .i64 0, .int .i64 0, .string ⟨#[]⟩, .slice none 0 0, .string ⟨#[]⟩, .int .i64 0, .int .i64 0, .int .i64 0, .int .i64 0, .int .i64 0, .int .i64 0, .int .i64 0, .int .i64 0, .slice none 0 0, .slice none 0 0, .int .i64 0, .int .i64 0, .int .i64 0, .int .i64 0, .int .i64 0, .int .i64 0, .int .i64 0, .int .i64 0, .string ⟨#[]⟩] = W
  have hh2 := heap3 w (.cells cx.toArray 45) (.cells #[.int .i64 0, .int .i64 0, .int .i64 0, .int .i64 0, .int .i64 0, .int .i64 0, .string ⟨#[]⟩, .slice none 0 0, .string ⟨#[]⟩, .int .i64 0, .int .i64 0, .int .i64 0, .int .i64 0, .int .i64 0, .int .i64 0, .int .i64 0, .int .i64 0, .slice none 0 0, .slice none 0 0, .int .i64 0, .int .i64 0, .int .i64 0, .int .i64 0, .int .i64 0, .int .i64 0, .int .i64 0, .int .i64 0, .string ⟨#[]⟩] 45) (.cells #[.int .i64 0, .int .i64 0, .int .i64 0, .int .i64 0, .int .i64 0, .int .i64 0, .string ⟨#[]⟩, .slice none 0 0, .string ⟨#[]⟩, .int .i64 0, .int .i64 0, .int .i64 0, .int .i64 0, .int .i64 0, .int .i64 0, .int .i64 0, .int .i64 0, .slice none 0 0, .slice none 0 0, .int .i64 0, .int .i64 0, .int .i64 0, .int .i64 0, .int .i64 0, .int .i64 0, .int .i64 0, .int .i64 0, .string ⟨#[]⟩] 45)
  have H2 : W.heap[w.heap.size + 2]? = some (.cells (evCells 6 zEntry zRate zHolding zMatch zStock 0 0 ⟨#[]⟩).toArray 45 (0, 0)) := by rw [← hW]; exact heap_setRow hh2.2.2.1 _
  have fW : Fr (fun k => k ≠ w.heap.size + 2) (((w.alloc (.cells cx.toArray 45)).alloc (.cells #[.int .i64 0, .int .i64 0, .int .i64 0, .int .i64 0, .int .i64 0, .int .i64 0, .string ⟨#[]⟩, .slice none 0 0, .string ⟨#[]⟩, .int .i64 0, .int .i64 0, .int .i64 0, .int .i64 0, .int .i64 0, .int .i64 0, .int .i64 0, .int .i64 0, .slice none 0 0, .slice none 0 0, .int .i64 0, .int .i64 0, .int .i64 0, .int .i64 0, .int .i64 0, .int .i64 0, .int .i64 0, .int .i64 0, .string ⟨#[]⟩] 45)).alloc (.cells #[.int .i64 0, .int .i64 0, .int .i64 0, .int .i64 0, .int .i64 0, .int .i64 0, .string ⟨#[]⟩, .slice none 0 0, .string ⟨#[]⟩, .int .i64 0, .int .i64 0, .int .i64 0, .int .i64 0, .int .i64 0, .int .i64 0, .int .i64 0, .int .i64 0, .slice none 0 0, .slice none 0 0, .int .i64 0, .int .i64 0, .int .i64 0, .int .i64 0, .int .i64 0, .int .i64 0, .int .i64 0, .int .i64 0, .string ⟨#[]⟩] 45)) W := by rw [← hW]; exact fr_setRow _ _ _
  clear hW hK0
  have H0 : W.heap[w.heap.size]? = some (.cells cx.toArray 45 (0, 0)) := (fW.block w.heap.size (by show w.heap.size ≠ w.heap.size + 2; omega)).trans hh2.1
  have H1 : W.heap[w.heap.size + 1]? = some (.cells zCells 45 (0, 0)) := (fW.block (w.heap.size + 1) (by show w.heap.size + 1 ≠ w.heap.size + 2; omega)).trans hh2.2.1
  have FW : Fr (· < w.heap.size) w W := hh2.2.2.2.2.trans (fW.mono (fun k hk => by show k ≠ w.heap.size + 2; omega))
  have hsz : w.heap.size + 3 ≤ W.heap.size := by have := fW.size; have := hh2.2.2.2.1; omega
  clear fW hh2
  have haW : At W (fun k => k < w.heap.size ∨ k = w.heap.size) ⟨w.heap.size, 0, none⟩ cx := by
    refine ⟨.inr rfl, fun j u hu => ?_⟩
    rw [Addr.add_lit, Nat.zero_add, blk_cell H0 j, blk_frozen H0 j]
    exact ⟨by simpa using hu, rfl⟩
  have hxW : EventC W (· < w.heap.size) cx x := hx.fr FW
  have hat := hxW.at_ haW
  simp only [Nat.zero_add] at hat
  obtain ⟨⟨f0, i0⟩, ⟨l1, f1, m1⟩, ⟨l2, f2, m2⟩, ⟨l3, f3, m3⟩, ⟨l4, f4, m4⟩, ⟨l5, f5, m5⟩, ⟨f6, i6⟩, ⟨f7, i7⟩, f8⟩ := hat
  have c0 : W.cell? ⟨w.heap.size, 0, none⟩ = some (.int .i64 6) := by rw [blk_cell H0 0]; simpa using hk0
  clear f0 hk0
  have hlm := f5.len
  clear f1 f2 f3 f4 f6 f7 f8
  have R : W.rangeAt w.heap.size 20 l5 := fun q u hq => m5.c hq
  have TH : W.there (w.heap.size + 2) 20 l5.toArray.size := there_of_block H2 _ _ (by simp [hlm, evCells, zEntry, zRate, zHolding, zMatch, zStock])
  have HI : (Try.prog.info? 43).map (·.size) = some l5.length := by rw [info43, hlm]
  have HI2 : (Try.prog.info? 43).map (·.size) = some l5.toArray.size := by rw [info43, List.size_toArray, hlm]
  have H1C : l5.toArray.all (·.oneCell') = true := StockC.one f5
  have fS := fr_setCells (b := w.heap.size + 2) l5 20 W
  have G1 := (fS.block (w.heap.size + 1) (by show w.heap.size + 1 ≠ w.heap.size + 2; omega)).trans H1
  have G2 := heap_setCells l5 20 W _ H2
  have hput : putAt (evCells 6 zEntry zRate zHolding zMatch zStock 0 0 ⟨#[]⟩) 20 l5 = (evCells 6 zEntry zRate zHolding zMatch l5 0 0 ⟨#[]⟩) := by
    have := putAt_head .nilFunc ([.int .i64 6] ++ zEntry ++ zRate ++ zHolding ++ zMatch) zStock ([.int .i64 0] ++ [.int .i64 0] ++ [.string ⟨#[]⟩]) l5 20 (by simp [zEntry, zRate, zHolding, zMatch, zStock]) (by rw [hlm]; rfl)
    simpa only [evCells, List.append_assoc] using this
  rw [hput] at G2
  have FW2 : Fr (· < w.heap.size) w (W.setCells (w.heap.size + 2) 20 l5) := FW.trans (fS.mono (fun k hk => by show k ≠ w.heap.size + 2; omega))
  have HG1 := Lib.hid G1
  have HG2 := Lib.hid G2
  have HHI := Lib.hid HI
  have HHI2 := Lib.hid HI2
  have HH1C := Lib.hid H1C
  clear hlm G1 G2 HI HI2 H1C hput H0 H1 H2
  go_upto_region 21 with (first | refine wpList_load_mid rfl 43 (.tmp 31) rfl w.heap.size 20 rfl l5 _ R Try.underlying43 rfl HHI.out ?_ | refine wpList_store_mid rfl 43 (.tmp 33) (.tmp 32) rfl (w.heap.size + 2) 20 l5.toArray rfl rfl TH HHI2.out HH1C.out ?_)
  have hE2 : EventC (W.setCells (w.heap.size + 2) 20 l5) (fun k => k < w.heap.size) (evCells 6 zEntry zRate zHolding zMatch l5 0 0 ⟨#[]⟩) (ownEv x) := by
    rw [HOE.out]
    have hf2 : Fr (· < w.heap.size) W (W.setCells (w.heap.size + 2) 20 l5) := fS.mono (fun k hk => by show k ≠ w.heap.size + 2; omega)
    exact evC hkb (zEntryC _ _) (zRateC _ _) (zHoldingC _ _) (zMatchC _ _) (StockC.fr f5 hf2) bd0 bd0
  have HC45b := Lib.hid (size45 hE2.len)
  have HE2 := Lib.hid hE2
  have HONE := Lib.hid hE2.one
  have HEL := Lib.hid (zsize hE2)
  clear hE2
  go_wp2_with (first | refine wpList_load_row rfl 45 (.tmp 3) rfl (w.heap.size + 2) rfl 45 (evCells 6 zEntry zRate zHolding zMatch l5 0 0 ⟨#[]⟩).toArray (0, 0) _ HG2.out Try.underlying45 rfl HC45b.out ?_ | refine wpList_store_row rfl 45 (.tmp 2) (.tmp 60) rfl (w.heap.size + 1) (evCells 6 zEntry zRate zHolding zMatch l5 0 0 ⟨#[]⟩).toArray rfl rfl 45 _ HG1.out HC45b.out HEL.out HONE.out ?_)
  have hfr := fr_setRow ((W.setCells (w.heap.size + 2) 20 l5)) (w.heap.size + 1) (evCells 6 zEntry zRate zHolding zMatch l5 0 0 ⟨#[]⟩).toArray
  (try simp only [Exit.inBlock, Exit.then])
  refine bodyPost_ret (v := .agg (evCells 6 zEntry zRate zHolding zMatch l5 0 0 ⟨#[]⟩).toArray) (results_cell_row rfl _ _ (w.heap.size + 1) 45 _ (0, 0) _ rfl (heap_setRow HG1.out _) Try.underlying45 rfl HC45b.out) rfl ⟨(evCells 6 zEntry zRate zHolding zMatch l5 0 0 ⟨#[]⟩), rfl, HE2.out.fr (id (hfr.mono (fun k hk => by show k ≠ w.heap.size + 1; omega))), ?_⟩
  exact (FW2.trans (hfr.mono (fun k hk => by show k ≠ w.heap.size + 1; omega))).below

set_option maxHeartbeats 1000000 in
set_option maxRecDepth 100000 in
theorem own_7 (x : XEvent) (cx : List Value) (w : World) (hx : EventC w (· < w.heap.size) cx x) (hk : x.kind = 7) :
    Calls Try.prog 42 #[.agg cx.toArray] w (OwnPost w x) := by
  have hlen := hx.len
  have hkk : cx[0]? = some (.int .i64 x.kind) ∧ intBd x.kind := by
    obtain ⟨_, _, _, _, _, _, _, _, _, rfl, ⟨rfl, k0⟩, _⟩ := hx
    exact ⟨rfl, k0⟩
  obtain ⟨hk0, hkb⟩ := hkk
  rw [hk] at hk0 hkb
  have hoe : ownEv x = { kind := 7, text := x.text } := by simp [ownEv, hk]
  have hK0 : (w.alloc (.cells cx.toArray 45)).cell? ⟨w.heap.size, 0, none⟩ = some (.int .i64 7) := by
    rw [blk_cell (heap_alloc_new w _) 0]; simpa using hk0
  have HOE := Lib.hid hoe
  have HLEN := Lib.hid hlen
  clear hoe hk hlen
  go_enter Try.func42, Try.ntmps42
  go_upto_region 2 with (refine wpList_store_row rfl 45 (.tmp 3) (.tmp 6) rfl (w.heap.size + 2) _ rfl rfl 45 _ (heap3 w _ _ _).2.2.1 info45 rfl (by simp only [List.all_toArray, List.all_cons, List.all_nil, Value.oneCell', Bool.and_true]) ?_)
  generalize hW : World.setRow (((w.alloc (.cells cx.toArray 45)).alloc (.cells #[.int .i64 0, .int .i64 0, .int .i64 0, .int .i64 0, .int .i64 0, .int .i64 0, .string ⟨#[]⟩, .slice none 0 0, .string ⟨#[]⟩, .int .i64 0, .int .i64 0, .int .i64 0, .int .i64 0, .int .i64 0, .int .i64 0, .int .i64 0, .int .i64 0, .slice none 0 0, .slice none 0 0, .int .i64 0, .int .i64 0, .int .i64 0, .int .i64 0, .int .i64 0, .int .i64 0, .int .i64 0, .int .i64 0, .string ⟨#[]⟩] 45)).alloc (.cells #[.int .i64 0, .int .i64 0, .int .i64 0, .int .i64 0, .int .i64 0, .int .i64 0, .string ⟨#[]⟩, .slice none 0 0, .string ⟨#[]⟩, .int .i64 0, .int .i64 0, .int .i64 0, .int .i64 0, .int .i64 0, .int .i64 0, .int .i64 0, .int .i64 0, .slice none 0 0, .slice none 0 0, .int .i64 0, .int .i64 0, .int .i64 0, .int .i64 0, .int .i64 0, .int .i64 0, .int .i64 0, .int .i64 0, .string ⟨#[]⟩] 45)) (w.heap.size + 2) #[.int .i64 7, .int .i64 0, .int .i64 0, .int .i64 0, .int .i64 0, .int .i64 0, .string ⟨#[]⟩, .slice none 0 0, .string ⟨#[]⟩, .int .i64 0, .int .i64 0, .int .i64 0, .int .i64 0, .int .i64 0, .int .i64 0, .int .i64 0, .int .i64 0, .slice none 0 0, .slice none 0 0, .int .i64 0, .int .i64 0, .int .i64 0, .int .i64 0, .int .i64 0, .int .i64 0, .int .i64 0, .int .i64 0, .string ⟨#[]⟩] = W
  have hh2 := heap3 w (.cells cx.toArray 45) (.cells #[.int .i64 0, .int .i64 0, .int .i64 0, .int .i64 0, .int .i64 0, .int .i64 0, .string ⟨#[]⟩, .slice none 0 0, .string ⟨#[]⟩, .int .i64 0, .int .i64 0, .int .i64 0, .int .i64 0, .int .i64 0, .int .i64 0, .int .i64 0, .int .i64 0, .slice none 0 0, .slice none 0 0, .int .i64 0, .int .i64 0, .int .i64 0, .int .i64 0, .int .i64 0, .int .i64 0, .int .i64 0, .int .i64 0, .string ⟨#[]⟩] 45) (.cells #[.int .i64 0, .int .i64 0, .int .i64 0, .int .i64 0, .int .i64 0, .int .i64 0, .string ⟨#[]⟩, .slice none 0 0, .string ⟨#[]⟩, .int .i64 0, .int .i64 0, .int .i64 0, .int .i64 0, .int .i64 0, .int .i64 0, .int .i64 0, .int .i64 0, .slice none 0 0, .slice none 0 0, .int .i64 0, .int .i64 0, .int .i64 0, .int .i64 0, .int .i64 0, .int .i64 0, .int .i64 0, .int .i64 0, .string ⟨#[]⟩] 45)
  have H2 : W.heap[w.heap.size + 2]? = some (.cells (evCells 7 zEntry zRate zHolding zMatch zStock 0 0 ⟨#[]⟩).toArray 45 (0, 0)) := by rw [← hW]; exact heap_setRow hh2.2.2.1 _
  have fW : Fr (fun k => k ≠ w.heap.size + 2) (((w.alloc (.cells cx.toArray 45)).alloc (.cells #[.int .i64 0, .int .i64 0, .int .i64 0, .int .i64 0, .int .i64 0, .int .i64 0, .string ⟨#[]⟩, .slice none 0 0, .string ⟨#[]⟩, .int .i64 0, .int .i64 0, .int .i64 0, .int .i64 0, .int .i64 0, .int .i64 0, .int .i64 0, .int .i64 0, .slice none 0 0, .slice none 0 0, .int .i64 0, .int .i64 0, .int .i64 0, .int .i64 0, .int .i64 0, .int .i64 0, .int .i64 0, .int .i64 0, .string ⟨#[]⟩] 45)).alloc (.cells #[.int .i64 0, .int .i64 0, .int .i64 0, .int .i64 0, .int .i64 0, .int .i64 0, .string ⟨#[]⟩, .slice none 0 0, .string ⟨#[]⟩, .int .i64 0, .int .i64 0, .int .i64 0, .int .i64 0, .int .i64 0, .int .i64 0, .int .i64 0, .int .i64 0, .slice none 0 0, .slice none 0 0, .int .i64 0, .int .i64 0, .int .i64 0, .int .i64 0, .int .i64 0, .int .i64 0, .int .i64 0, .int .i64 0, .string ⟨#[]⟩] 45)) W := by rw [← hW]; exact fr_setRow _ _ _
  clear hW hK0
  have H0 : W.heap[w.heap.size]? = some (.cells cx.toArray 45 (0, 0)) := (fW.block w.heap.size (by show w.heap.size ≠ w.heap.size + 2; omega)).trans hh2.1
  have H1 : W.heap[w.heap.size + 1]? = some (.cells zCells 45 (0, 0)) := (fW.block (w.heap.size + 1) (by show w.heap.size + 1 ≠ w.heap.size + 2; omega)).trans hh2.2.1
  have FW : Fr (· < w.heap.size) w W := hh2.2.2.2.2.trans (fW.mono (fun k hk => by show k ≠ w.heap.size + 2; omega))
  have hsz : w.heap.size + 3 ≤ W.heap.size := by have := fW.size; have := hh2.2.2.2.1; omega
  clear fW hh2
  have haW : At W (fun k => k < w.heap.size ∨ k = w.heap.size) ⟨w.heap.size, 0, none⟩ cx := by
    refine ⟨.inr rfl, fun j u hu => ?_⟩
    rw [Addr.add_lit, Nat.zero_add, blk_cell H0 j, blk_frozen H0 j]
    exact ⟨by simpa using hu, rfl⟩
  have hxW : EventC W (· < w.heap.size) cx x := hx.fr FW
  have hat := hxW.at_ haW
  simp only [Nat.zero_add] at hat
  obtain ⟨⟨f0, i0⟩, ⟨l1, f1, m1⟩, ⟨l2, f2, m2⟩, ⟨l3, f3, m3⟩, ⟨l4, f4, m4⟩, ⟨l5, f5, m5⟩, ⟨f6, i6⟩, ⟨f7, i7⟩, f8⟩ := hat
  have c0 : W.cell? ⟨w.heap.size, 0, none⟩ = some (.int .i64 7) := by rw [blk_cell H0 0]; simpa using hk0
  clear f0 hk0
  clear f1 f2 f3 f4 f5 f6 f7
  have o27 : W.cell? ⟨w.heap.size + 2, 27, none⟩ = some (.string ⟨#[]⟩) := blk_cell H2 27
  have z27 : W.frozen? ⟨w.heap.size + 2, 27, none⟩ = false := blk_frozen H2 27
  have fS : Fr (fun k => k ≠ w.heap.size + 2) W (W.setCell ⟨w.heap.size + 2, 27, none⟩ (.string x.text)) := Fr.setCell (p := ⟨w.heap.size + 2, 27, none⟩) (Fr.refl _ W) (fun h => h rfl) _
  have G1 := (fS.block (w.heap.size + 1) (by show w.heap.size + 1 ≠ w.heap.size + 2; omega)).trans H1
  have G2 := heap_setCell_same (H2) 27 (.string x.text)
  have hput : ((evCells 7 zEntry zRate zHolding zMatch zStock 0 0 ⟨#[]⟩).toArray.setIfInBounds 27 (.string x.text)) = (evCells 7 zEntry zRate zHolding zMatch zStock 0 0 x.text).toArray := rfl
  rw [hput] at G2
  have FW2 : Fr (· < w.heap.size) w (W.setCell ⟨w.heap.size + 2, 27, none⟩ (.string x.text)) := FW.trans (fS.mono (fun k hk => by show k ≠ w.heap.size + 2; omega))
  have HG1 := Lib.hid G1
  have HG2 := Lib.hid G2
  clear G1 G2 hput H0 H1 H2
  have hE2 : EventC (W.setCell ⟨w.heap.size + 2, 27, none⟩ (.string x.text)) (fun k => k < w.heap.size) (evCells 7 zEntry zRate zHolding zMatch zStock 0 0 x.text) (ownEv x) := by
    rw [HOE.out]
    exact evC hkb (zEntryC _ _) (zRateC _ _) (zHoldingC _ _) (zMatchC _ _) (zStockC _ _) bd0 bd0
  have HFW2 := Lib.hid FW2
  clear FW2 fS
  go_upto_region 21 with fail
  have HC45b := Lib.hid (size45 hE2.len)
  have HE2 := Lib.hid hE2
  have HONE := Lib.hid hE2.one
  have HEL := Lib.hid (zsize hE2)
  clear hE2
  go_wp2_with (first | refine wpList_load_row rfl 45 (.tmp 3) rfl (w.heap.size + 2) rfl 45 (evCells 7 zEntry zRate zHolding zMatch zStock 0 0 x.text).toArray (0, 0) _ HG2.out Try.underlying45 rfl HC45b.out ?_ | refine wpList_store_row rfl 45 (.tmp 2) (.tmp 60) rfl (w.heap.size + 1) (evCells 7 zEntry zRate zHolding zMatch zStock 0 0 x.text).toArray rfl rfl 45 _ HG1.out HC45b.out HEL.out HONE.out ?_)
  have hfr := fr_setRow ((W.setCell ⟨w.heap.size + 2, 27, none⟩ (.string x.text))) (w.heap.size + 1) (evCells 7 zEntry zRate zHolding zMatch zStock 0 0 x.text).toArray
  (try simp only [Exit.inBlock, Exit.then])
  refine bodyPost_ret (v := .agg (evCells 7 zEntry zRate zHolding zMatch zStock 0 0 x.text).toArray) (results_cell_row rfl _ _ (w.heap.size + 1) 45 _ (0, 0) _ rfl (heap_setRow HG1.out _) Try.underlying45 rfl HC45b.out) rfl ⟨(evCells 7 zEntry zRate zHolding zMatch zStock 0 0 x.text), rfl, HE2.out.fr (id (hfr.mono (fun k hk => by show k ≠ w.heap.size + 1; omega))), ?_⟩
  exact (HFW2.out.trans (hfr.mono (fun k hk => by show k ≠ w.heap.size + 1; omega))).below

set_option maxHeartbeats 1000000 in
set_option maxRecDepth 100000 in
theorem own_8 (x : XEvent) (cx : List Value) (w : World) (hx : EventC w (· < w.heap.size) cx x) (hk : x.kind = 8) :
    Calls Try.prog 42 #[.agg cx.toArray] w (OwnPost w x) := by
  have hlen := hx.len
  have hkk : cx[0]? = some (.int .i64 x.kind) ∧ intBd x.kind := by
    obtain ⟨_, _, _, _, _, _, _, _, _, rfl, ⟨rfl, k0⟩, _⟩ := hx
    exact ⟨rfl, k0⟩
  obtain ⟨hk0, hkb⟩ := hkk
  rw [hk] at hk0 hkb
  have hoe : ownEv x = { kind := 8, a := x.a, b := x.b } := by simp [ownEv, hk]
  have hK0 : (w.alloc (.cells cx.toArray 45)).cell? ⟨w.heap.size, 0, none⟩ = some (.int .i64 8) := by
    rw [blk_cell (heap_alloc_new w _) 0]; simpa using hk0
  have HOE := Lib.hid hoe
  have HLEN := Lib.hid hlen
  clear hoe hk hlen
  go_enter Try.func42, Try.ntmps42
  go_upto_region 2 with (refine wpList_store_row rfl 45 (.tmp 3) (.tmp 6) rfl (w.heap.size + 2) _ rfl rfl 45 _ (heap3 w _ _ _).2.2.1 info45 rfl (by simp only [List.all_toArray, List.all_cons, List.all_nil, Value.oneCell', Bool.and_true]) ?_)
  generalize hW : World.setRow (((w.alloc (.cells cx.toArray 45)).alloc (.cells #[.int .i64 0, .int .i64 0, .int .i64 0, .int .i64 0, .int .i64 0, .int .i64 0, .string ⟨#[]⟩, .slice none 0 0, .string ⟨#[]⟩, .int .i64 0, .int .i64 0, .int .i64 0, .int .i64 0, .int .i64 0, .int .i64 0, .int .i64 0, .int .i64 0, .slice none 0 0, .slice none 0 0, .int .i64 0, .int .i64 0, .int .i64 0, .int .i64 0, .int .i64 0, .int .i64 0, .int .i64 0, .int .i64 0, .string ⟨#[]⟩] 45)).alloc (.cells #[.int .i64 0, .int .i64 0, .int .i64 0, .int .i64 0, .int .i64 0, .int .i64 0, .string ⟨#[]⟩, .slice none 0 0, .string ⟨#[]⟩, .int .i64 0, .int .i64 0, .int .i64 0, .int .i64 0, .int .i64 0, .int .i64 0, .int .i64 0, .int .i64 0, .slice none 0 0, .slice none 0 0, .int .i64 0, .int .i64 0, .int .i64 0, .int .i64 0, .int .i64 0, .int .i64 0, .int .i64 0, .int .i64 0, .string ⟨#[]⟩] 45)) (w.heap.size + 2) #[.int .i64 8, .int .i64 0, .int .i64 0, .int .i64 0, .int .i64 0, .int .i64 0, .string ⟨#[]⟩, .slice none 0 0, .string ⟨#[]⟩, .int .i64 0, .int .i64 0, .int .i64 0, .int .i64 0, .int .i64 0, .int .i64 0, .int .i64 0, .int .i64 0, .slice none 0 0, .slice none 0 0, .int .i64 0, .int .i64 0, .int .i64 0, .int .i64 0, .int .i64 0, .int .i64 0, .int .i64 0, .int .i64 0, .string ⟨#[]⟩] = W
  have hh2 := heap3 w (.cells cx.toArray 45) (.cells #[.int .i64 0, .int .i64 0, .int .i64 0, .int .i64 0, .int .i64 0, .int .i64 0, .string ⟨#[]⟩, .slice none 0 0, .string ⟨#[]⟩, .int .i64 0, .int .i64 0, .int .i64 0, .int .i64 0, .int .i64 0, .int .i64 0, .int .i64 0, .int .i64 0, .slice none 0 0, .slice none 0 0, .int .i64 0, .int .i64 0, .int .i64 0, .int .i64 0, .int .i64 0, .int .i64 0, .int .i64 0, .int .i64 0, .string ⟨#[]⟩] 45) (.cells #[.int .i64 0, .int .i64 0, .int .i64 0, .int .i64 0, .int .i64 0, .int .i64 0, .string ⟨#[]⟩, .slice none 0 0, .string ⟨#[]⟩, .int .i64 0, .int .i64 0, .int .i64 0, .int .i64 0, .int .i64 0, .int .i64 0, .int .i64 0, .int .i64 0, .slice none 0 0, .slice none 0 0, .int .i64 0, .int .i64 0, .int .i64 0, .int .i64 0, .int .i64 0, .int .i64 0, .int .i64 0, .int .i64 0, .string ⟨#[]⟩] 45)
  have H2 : W.heap[w.heap.size + 2]? = some (.cells (evCells 8 zEntry zRate zHolding zMatch zStock 0 0 ⟨#[]⟩).toArray 45 (0, 0)) := by rw [← hW]; exact heap_setRow hh2.2.2.1 _
  have fW : Fr (fun k => k ≠ w.heap.size + 2) (((w.alloc (.cells cx.toArray 45)).alloc (.cells #[.int .i64 0, .int .i64 0, .int .i64 0, .int .i64 0, .int .i64 0, .int .i64 0, .string ⟨#[]⟩, .slice none 0 0, .string ⟨#[]⟩, .int .i64 0, .int .i64 0, .int .i64 0, .int .i64 0, .int .i64 0, .int .i64 0, .int .i64 0, .int .i64 0, .slice none 0 0, .slice none 0 0, .int .i64 0, .int .i64 0, .int .i64 0, .int .i64 0, .int .i64 0, .int .i64 0, .int .i64 0, .int .i64 0, .string ⟨#[]⟩] 45)).alloc (.cells #[.int .i64 0, .int .i64 0, .int .i64 0, .int .i64 0, .int .i64 0, .int .i64 0, .string ⟨#[]⟩, .slice none 0 0, .string ⟨#[]⟩, .int .i64 0, .int .i64 0, .int .i64 0, .int .i64 0, .int .i64 0, .int .i64 0, .int .i64 0, .int .i64 0, .slice none 0 0, .slice none 0 0, .int .i64 0, .int .i64 0, .int .i64 0, .int .i64 0, .int .i64 0, .int .i64 0, .int .i64 0, .int .i64 0, .string ⟨#[]⟩] 45)) W := by rw [← hW]; exact fr_setRow _ _ _
  clear hW hK0
  have H0 : W.heap[w.heap.size]? = some (.cells cx.toArray 45 (0, 0)) := (fW.block w.heap.size (by show w.heap.size ≠ w.heap.size + 2; omega)).trans hh2.1
  have H1 : W.heap[w.heap.size + 1]? = some (.cells zCells 45 (0, 0)) := (fW.block (w.heap.size + 1) (by show w.heap.size + 1 ≠ w.heap.size + 2; omega)).trans hh2.2.1
  have FW : Fr (· < w.heap.size) w W := hh2.2.2.2.2.trans (fW.mono (fun k hk => by show k ≠ w.heap.size + 2; omega))
  have hsz : w.heap.size + 3 ≤ W.heap.size := by have := fW.size; have := hh2.2.2.2.1; omega
  clear fW hh2
  have haW : At W (fun k => k < w.heap.size ∨ k = w.heap.size) ⟨w.heap.size, 0, none⟩ cx := by
    refine ⟨.inr rfl, fun j u hu => ?_⟩
    rw [Addr.add_lit, Nat.zero_add, blk_cell H0 j, blk_frozen H0 j]
    exact ⟨by simpa using hu, rfl⟩
  have hxW : EventC W (· < w.heap.size) cx x := hx.fr FW
  have hat := hxW.at_ haW
  simp only [Nat.zero_add] at hat
  obtain ⟨⟨f0, i0⟩, ⟨l1, f1, m1⟩, ⟨l2, f2, m2⟩, ⟨l3, f3, m3⟩, ⟨l4, f4, m4⟩, ⟨l5, f5, m5⟩, ⟨f6, i6⟩, ⟨f7, i7⟩, f8⟩ := hat
  have c0 : W.cell? ⟨w.heap.size, 0, none⟩ = some (.int .i64 8) := by rw [blk_cell H0 0]; simpa using hk0
  clear f0 hk0
  clear f1 f2 f3 f4 f5 f8
  have o25 : W.cell? ⟨w.heap.size + 2, 25, none⟩ = some (.int .i64 0) := blk_cell H2 25
  have z25 : W.frozen? ⟨w.heap.size + 2, 25, none⟩ = false := blk_frozen H2 25
  have o26 : W.cell? ⟨w.heap.size + 2, 26, none⟩ = some (.int .i64 0) := blk_cell H2 26
  have z26 : W.frozen? ⟨w.heap.size + 2, 26, none⟩ = false := blk_frozen H2 26
  have fS : Fr (fun k => k ≠ w.heap.size + 2) W ((W.setCell ⟨w.heap.size + 2, 25, none⟩ (.int .i64 x.a)).setCell ⟨w.heap.size + 2, 26, none⟩ (.int .i64 x.b)) := Fr.setCell (p := ⟨w.heap.size + 2, 26, none⟩) (Fr.setCell (p := ⟨w.heap.size + 2, 25, none⟩) (Fr.refl _ W) (fun h => h rfl) _) (fun h => h rfl) _
  have G1 := (fS.block (w.heap.size + 1) (by show w.heap.size + 1 ≠ w.heap.size + 2; omega)).trans H1
  have G2 := heap_setCell_same (heap_setCell_same (H2) 25 (.int .i64 x.a)) 26 (.int .i64 x.b)
  have hput : (((evCells 8 zEntry zRate zHolding zMatch zStock 0 0 ⟨#[]⟩).toArray.setIfInBounds 25 (.int .i64 x.a)).setIfInBounds 26 (.int .i64 x.b)) = (evCells 8 zEntry zRate zHolding zMatch zStock x.a x.b ⟨#[]⟩).toArray := rfl
  rw [hput] at G2
  have FW2 : Fr (· < w.heap.size) w ((W.setCell ⟨w.heap.size + 2, 25, none⟩ (.int .i64 x.a)).setCell ⟨w.heap.size + 2, 26, none⟩ (.int .i64 x.b)) := FW.trans (fS.mono (fun k hk => by show k ≠ w.heap.size + 2; omega))
  have HG1 := Lib.hid G1
  have HG2 := Lib.hid G2
  clear G1 G2 hput H0 H1 H2
  have hE2 : EventC ((W.setCell ⟨w.heap.size + 2, 25, none⟩ (.int .i64 x.a)).setCell ⟨w.heap.size + 2, 26, none⟩ (.int .i64 x.b)) (fun k => k < w.heap.size) (evCells 8 zEntry zRate zHolding zMatch zStock x.a x.b ⟨#[]⟩) (ownEv x) := by
    rw [HOE.out]
    exact evC hkb (zEntryC _ _) (zRateC _ _) (zHoldingC _ _) (zMatchC _ _) (zStockC _ _) i6 i7
  have HFW2 := Lib.hid FW2
  clear FW2 fS
  go_wp2_with fail
  go_region
  have HC45b := Lib.hid (size45 hE2.len)
  have HE2 := Lib.hid hE2
  have HONE := Lib.hid hE2.one
  have HEL := Lib.hid (zsize hE2)
  clear hE2
  go_wp2_with (first | refine wpList_load_row rfl 45 (.tmp 3) rfl (w.heap.size + 2) rfl 45 (evCells 8 zEntry zRate zHolding zMatch zStock x.a x.b ⟨#[]⟩).toArray (0, 0) _ HG2.out Try.underlying45 rfl HC45b.out ?_ | refine wpList_store_row rfl 45 (.tmp 2) (.tmp 60) rfl (w.heap.size + 1) (evCells 8 zEntry zRate zHolding zMatch zStock x.a x.b ⟨#[]⟩).toArray rfl rfl 45 _ HG1.out HC45b.out HEL.out HONE.out ?_)
  have hfr := fr_setRow (((W.setCell ⟨w.heap.size + 2, 25, none⟩ (.int .i64 x.a)).setCell ⟨w.heap.size + 2, 26, none⟩ (.int .i64 x.b)).drew) (w.heap.size + 1) (evCells 8 zEntry zRate zHolding zMatch zStock x.a x.b ⟨#[]⟩).toArray
  (try simp only [Exit.inBlock, Exit.then])
  refine bodyPost_ret (v := .agg (evCells 8 zEntry zRate zHolding zMatch zStock x.a x.b ⟨#[]⟩).toArray) (results_cell_row rfl _ _ (w.heap.size + 1) 45 _ (0, 0) _ rfl (heap_setRow HG1.out _) Try.underlying45 rfl HC45b.out) rfl ⟨(evCells 8 zEntry zRate zHolding zMatch zStock x.a x.b ⟨#[]⟩), rfl, HE2.out.fr (Fr.ofDrew (hfr.mono (fun k hk => by show k ≠ w.heap.size + 1; omega))), ?_⟩
  exact (HFW2.out.drew.trans (hfr.mono (fun k hk => by show k ≠ w.heap.size + 1; omega))).below

set_option maxHeartbeats 1000000 in
set_option maxRecDepth 100000 in
theorem own_9 (x : XEvent) (cx : List Value) (w : World) (hx : EventC w (· < w.heap.size) cx x) (hk : x.kind = 9) :
    Calls Try.prog 42 #[.agg cx.toArray] w (OwnPost w x) := by
  have hlen := hx.len
  have hkk : cx[0]? = some (.int .i64 x.kind) ∧ intBd x.kind := by
    obtain ⟨_, _, _, _, _, _, _, _, _, rfl, ⟨rfl, k0⟩, _⟩ := hx
    exact ⟨rfl, k0⟩
  obtain ⟨hk0, hkb⟩ := hkk
  rw [hk] at hk0 hkb
  have hoe : ownEv x = { kind := 9, a := x.a, b := x.b } := by simp [ownEv, hk]
  have hK0 : (w.alloc (.cells cx.toArray 45)).cell? ⟨w.heap.size, 0, none⟩ = some (.int .i64 9) := by
    rw [blk_cell (heap_alloc_new w _) 0]; simpa using hk0
  have HOE := Lib.hid hoe
  have HLEN := Lib.hid hlen
  clear hoe hk hlen
  go_enter Try.func42, Try.ntmps42
  go_upto_region 2 with (refine wpList_store_row rfl 45 (.tmp 3) (.tmp 6) rfl (w.heap.size + 2) _ rfl rfl 45 _ (heap3 w _ _ _).2.2.1 info45 rfl (by simp only [List.all_toArray, List.all_cons, List.all_nil, Value.oneCell', Bool.and_true]) ?_)
  generalize hW : World.setRow (((w.alloc (.cells cx.toArray 45)).alloc (.cells #[.int .i64 0, .int .i64 0, .int .i64 0, .int .i64 0, .int .i64 0, .int .i64 0, .string ⟨#[]⟩, .slice none 0 0, .string ⟨#[]⟩, .int .i64 0, .int .i64 0, .int .i64 0, .int .i64 0, .int .i64 0, .int .i64 0, .int .i64 0, .int .i64 0, .slice none 0 0, .slice none 0 0, .int .i64 0, .int .i64 0, .int .i64 0, .int .i64 0, .int .i64 0, .int .i64 0, .int .i64 0, .int .i64 0, .string ⟨#[]⟩] 45)).alloc (.cells #[.int .i64 0, .int .i64 0, .int .i64 0, .int .i64 0, .int .i64 0, .int .i64 0, .string ⟨#[]⟩, .slice none 0 0, .string ⟨#[]⟩, .int .i64 0, .int .i64 0, .int .i64 0, .int .i64 0, .int .i64 0, .int .i64 0, .int .i64 0, .int .i64 0, .slice none 0 0, .slice none 0 0, .int .i64 0, .int .i64 0, .int .i64 0, .int .i64 0, .int .i64 0, .int .i64 0, .int .i64 0, .int .i64 0, .string ⟨#[]⟩] 45)) (w.heap.size + 2) #[.int .i64 9, .int .i64 0, .int .i64 0, .int .i64 0, .int .i64 0, .int .i64 0, .string ⟨#[]⟩, .slice none 0 0, .string ⟨#[]⟩, .int .i64 0, .int .i64 0, .int .i64 0, .int .i64 0, .int .i64 0, .int .i64 0, .int .i64 0, .int .i64 0, .slice none 0 0, .slice none 0 0, .int .i64 0, .int .i64 0, .int .i64 0, .int .i64 0, .int .i64 0, .int .i64 0, .int .i64 0, .int .i64 0, .string ⟨#[]⟩] = W
  have hh2 := heap3 w (.cells cx.toArray 45) (.cells #[.int .i64 0, .int .i64 0, .int .i64 0, .int .i64 0, .int .i64 0, .int .i64 0, .string ⟨#[]⟩, .slice none 0 0, .string ⟨#[]⟩, .int .i64 0, .int .i64 0, .int .i64 0, .int .i64 0, .int .i64 0, .int .i64 0, .int .i64 0, .int .i64 0, .slice none 0 0, .slice none 0 0, .int .i64 0, .int .i64 0, .int .i64 0, .int .i64 0, .int .i64 0, .int .i64 0, .int .i64 0, .int .i64 0, .string ⟨#[]⟩] 45) (.cells #[.int .i64 0, .int .i64 0, .int .i64 0, .int .i64 0, .int .i64 0, .int .i64 0, .string ⟨#[]⟩, .slice none 0 0, .string ⟨#[]⟩, .int .i64 0, .int .i64 0, .int .i64 0, .int .i64 0, .int .i64 0, .int .i64 0, .int .i64 0, .int .i64 0, .slice none 0 0, .slice none 0 0, .int .i64 0, .int .i64 0, .int .i64 0, .int .i64 0, .int .i64 0, .int .i64 0, .int .i64 0, .int .i64 0, .string ⟨#[]⟩] 45)
  have H2 : W.heap[w.heap.size + 2]? = some (.cells (evCells 9 zEntry zRate zHolding zMatch zStock 0 0 ⟨#[]⟩).toArray 45 (0, 0)) := by rw [← hW]; exact heap_setRow hh2.2.2.1 _
  have fW : Fr (fun k => k ≠ w.heap.size + 2) (((w.alloc (.cells cx.toArray 45)).alloc (.cells #[.int .i64 0, .int .i64 0, .int .i64 0, .int .i64 0, .int .i64 0, .int .i64 0, .string ⟨#[]⟩, .slice none 0 0, .string ⟨#[]⟩, .int .i64 0, .int .i64 0, .int .i64 0, .int .i64 0, .int .i64 0, .int .i64 0, .int .i64 0, .int .i64 0, .slice none 0 0, .slice none 0 0, .int .i64 0, .int .i64 0, .int .i64 0, .int .i64 0, .int .i64 0, .int .i64 0, .int .i64 0, .int .i64 0, .string ⟨#[]⟩] 45)).alloc (.cells #[.int .i64 0, .int .i64 0, .int .i64 0, .int .i64 0, .int .i64 0, .int .i64 0, .string ⟨#[]⟩, .slice none 0 0, .string ⟨#[]⟩, .int .i64 0, .int .i64 0, .int .i64 0, .int .i64 0, .int .i64 0, .int .i64 0, .int .i64 0, .int .i64 0, .slice none 0 0, .slice none 0 0, .int .i64 0, .int .i64 0, .int .i64 0, .int .i64 0, .int .i64 0, .int .i64 0, .int .i64 0, .int .i64 0, .string ⟨#[]⟩] 45)) W := by rw [← hW]; exact fr_setRow _ _ _
  clear hW hK0
  have H0 : W.heap[w.heap.size]? = some (.cells cx.toArray 45 (0, 0)) := (fW.block w.heap.size (by show w.heap.size ≠ w.heap.size + 2; omega)).trans hh2.1
  have H1 : W.heap[w.heap.size + 1]? = some (.cells zCells 45 (0, 0)) := (fW.block (w.heap.size + 1) (by show w.heap.size + 1 ≠ w.heap.size + 2; omega)).trans hh2.2.1
  have FW : Fr (· < w.heap.size) w W := hh2.2.2.2.2.trans (fW.mono (fun k hk => by show k ≠ w.heap.size + 2; omega))
  have hsz : w.heap.size + 3 ≤ W.heap.size := by have := fW.size; have := hh2.2.2.2.1; omega
  clear fW hh2
  have haW : At W (fun k => k < w.heap.size ∨ k = w.heap.size) ⟨w.heap.size, 0, none⟩ cx := by
    refine ⟨.inr rfl, fun j u hu => ?_⟩
    rw [Addr.add_lit, Nat.zero_add, blk_cell H0 j, blk_frozen H0 j]
    exact ⟨by simpa using hu, rfl⟩
  have hxW : EventC W (· < w.heap.size) cx x := hx.fr FW
  have hat := hxW.at_ haW
  simp only [Nat.zero_add] at hat
  obtain ⟨⟨f0, i0⟩, ⟨l1, f1, m1⟩, ⟨l2, f2, m2⟩, ⟨l3, f3, m3⟩, ⟨l4, f4, m4⟩, ⟨l5, f5, m5⟩, ⟨f6, i6⟩, ⟨f7, i7⟩, f8⟩ := hat
  have c0 : W.cell? ⟨w.heap.size, 0, none⟩ = some (.int .i64 9) := by rw [blk_cell H0 0]; simpa using hk0
  clear f0 hk0
  clear f1 f2 f3 f4 f5 f8
  have o25 : W.cell? ⟨w.heap.size + 2, 25, none⟩ = some (.int .i64 0) := blk_cell H2 25
  have z25 : W.frozen? ⟨w.heap.size + 2, 25, none⟩ = false := blk_frozen H2 25
  have o26 : W.cell? ⟨w.heap.size + 2, 26, none⟩ = some (.int .i64 0) := blk_cell H2 26
  have z26 : W.frozen? ⟨w.heap.size + 2, 26, none⟩ = false := blk_frozen H2 26
  have fS : Fr (fun k => k ≠ w.heap.size + 2) W ((W.setCell ⟨w.heap.size + 2, 25, none⟩ (.int .i64 x.a)).setCell ⟨w.heap.size + 2, 26, none⟩ (.int .i64 x.b)) := Fr.setCell (p := ⟨w.heap.size + 2, 26, none⟩) (Fr.setCell (p := ⟨w.heap.size + 2, 25, none⟩) (Fr.refl _ W) (fun h => h rfl) _) (fun h => h rfl) _
  have G1 := (fS.block (w.heap.size + 1) (by show w.heap.size + 1 ≠ w.heap.size + 2; omega)).trans H1
  have G2 := heap_setCell_same (heap_setCell_same (H2) 25 (.int .i64 x.a)) 26 (.int .i64 x.b)
  have hput : (((evCells 9 zEntry zRate zHolding zMatch zStock 0 0 ⟨#[]⟩).toArray.setIfInBounds 25 (.int .i64 x.a)).setIfInBounds 26 (.int .i64 x.b)) = (evCells 9 zEntry zRate zHolding zMatch zStock x.a x.b ⟨#[]⟩).toArray := rfl
  rw [hput] at G2
  have FW2 : Fr (· < w.heap.size) w ((W.setCell ⟨w.heap.size + 2, 25, none⟩ (.int .i64 x.a)).setCell ⟨w.heap.size + 2, 26, none⟩ (.int .i64 x.b)) := FW.trans (fS.mono (fun k hk => by show k ≠ w.heap.size + 2; omega))
  have HG1 := Lib.hid G1
  have HG2 := Lib.hid G2
  clear G1 G2 hput H0 H1 H2
  have hE2 : EventC ((W.setCell ⟨w.heap.size + 2, 25, none⟩ (.int .i64 x.a)).setCell ⟨w.heap.size + 2, 26, none⟩ (.int .i64 x.b)) (fun k => k < w.heap.size) (evCells 9 zEntry zRate zHolding zMatch zStock x.a x.b ⟨#[]⟩) (ownEv x) := by
    rw [HOE.out]
    exact evC hkb (zEntryC _ _) (zRateC _ _) (zHoldingC _ _) (zMatchC _ _) (zStockC _ _) i6 i7
  have HFW2 := Lib.hid FW2
  clear FW2 fS
  go_wp2_with fail
  go_region
  have HC45b := Lib.hid (size45 hE2.len)
  have HE2 := Lib.hid hE2
  have HONE := Lib.hid hE2.one
  have HEL := Lib.hid (zsize hE2)
  clear hE2
  go_wp2_with (first | refine wpList_load_row rfl 45 (.tmp 3) rfl (w.heap.size + 2) rfl 45 (evCells 9 zEntry zRate zHolding zMatch zStock x.a x.b ⟨#[]⟩).toArray (0, 0) _ HG2.out Try.underlying45 rfl HC45b.out ?_ | refine wpList_store_row rfl 45 (.tmp 2) (.tmp 60) rfl (w.heap.size + 1) (evCells 9 zEntry zRate zHolding zMatch zStock x.a x.b ⟨#[]⟩).toArray rfl rfl 45 _ HG1.out HC45b.out HEL.out HONE.out ?_)
  have hfr := fr_setRow (((W.setCell ⟨w.heap.size + 2, 25, none⟩ (.int .i64 x.a)).setCell ⟨w.heap.size + 2, 26, none⟩ (.int .i64 x.b)).drew) (w.heap.size + 1) (evCells 9 zEntry zRate zHolding zMatch zStock x.a x.b ⟨#[]⟩).toArray
  (try simp only [Exit.inBlock, Exit.then])
  refine bodyPost_ret (v := .agg (evCells 9 zEntry zRate zHolding zMatch zStock x.a x.b ⟨#[]⟩).toArray) (results_cell_row rfl _ _ (w.heap.size + 1) 45 _ (0, 0) _ rfl (heap_setRow HG1.out _) Try.underlying45 rfl HC45b.out) rfl ⟨(evCells 9 zEntry zRate zHolding zMatch zStock x.a x.b ⟨#[]⟩), rfl, HE2.out.fr (Fr.ofDrew (hfr.mono (fun k hk => by show k ≠ w.heap.size + 1; omega))), ?_⟩
  exact (HFW2.out.drew.trans (hfr.mono (fun k hk => by show k ≠ w.heap.size + 1; omega))).below

set_option maxHeartbeats 1000000 in
set_option maxRecDepth 100000 in
theorem own_10 (x : XEvent) (cx : List Value) (w : World) (hx : EventC w (· < w.heap.size) cx x) (hk : x.kind = 10) :
    Calls Try.prog 42 #[.agg cx.toArray] w (OwnPost w x) := by
  have hlen := hx.len
  have hkk : cx[0]? = some (.int .i64 x.kind) ∧ intBd x.kind := by
    obtain ⟨_, _, _, _, _, _, _, _, _, rfl, ⟨rfl, k0⟩, _⟩ := hx
    exact ⟨rfl, k0⟩
  obtain ⟨hk0, hkb⟩ := hkk
  rw [hk] at hk0 hkb
  have hoe : ownEv x = { kind := 10, a := x.a, b := x.b, text := x.text } := by simp [ownEv, hk]
  have hK0 : (w.alloc (.cells cx.toArray 45)).cell? ⟨w.heap.size, 0, none⟩ = some (.int .i64 10) := by
    rw [blk_cell (heap_alloc_new w _) 0]; simpa using hk0
  have HOE := Lib.hid hoe
  have HLEN := Lib.hid hlen
  clear hoe hk hlen
  go_enter Try.func42, Try.ntmps42
  go_upto_region 2 with (refine wpList_store_row rfl 45 (.tmp 3) (.tmp 6) rfl (w.heap.size + 2) _ rfl rfl 45 _ (heap3 w _ _ _).2.2.1 info45 rfl (by simp only [List.all_toArray, List.all_cons, List.all_nil, Value.oneCell', Bool.and_true]) ?_)
  generalize hW : World.setRow (((w.alloc (.cells cx.toArray 45)).alloc (.cells #[.int .i64 0, .int .i64 0, .int .i64 0, .int .i64 0, .int .i64 0, .int .i64 0, .string ⟨#[]⟩, .slice none 0 0, .string ⟨#[]⟩, .int .i64 0, .int .i64 0, .int .i64 0, .int .i64 0, .int .i64 0, .int .i64 0, .int .i64 0, .int .i64 0, .slice none 0 0, .slice none 0 0, .int .i64 0, .int .i64 0, .int .i64 0, .int .i64 0, .int .i64 0, .int .i64 0, .int .i64 0, .int .i64 0, .string ⟨#[]⟩] 45)).alloc (.cells #[.int .i64 0, .int .i64 0, .int .i64 0, .int .i64 0, .int .i64 0, .int .i64 0, .string ⟨#[]⟩, .slice none 0 0, .string ⟨#[]⟩, .int .i64 0, .int .i64 0, .int .i64 0, .int .i64 0, .int .i64 0, .int .i64 0, .int .i64 0, .int .i64 0, .slice none 0 0, .slice none 0 0, .int .i64 0, .int .i64 0, .int .i64 0, .int .i64 0, .int .i64 0, .int .i64 0, .int .i64 0, .int .i64 0, .string ⟨#[]⟩] 45)) (w.heap.size + 2) #[.int .i64 10, .int .i64 0, .int .i64 0, .int .i64 0, .int .i64 0, .int .i64 0, .string ⟨#[]⟩, .slice none 0 0, .string ⟨#[]⟩, .int .i64 0, .int .i64 0, .int .i64 0, .int .i64 0, .int .i64 0, .int .i64 0, .int .i64 0, .int .i64 0, .slice none 0 0, .slice none 0 0, .int .i64 0, .int .i64 0, .int .i64 0, .int .i64 0, .int .i64 0, .int .i64 0, .int .i64 0, .int .i64 0, .string ⟨#[]⟩] = W
  have hh2 := heap3 w (.cells cx.toArray 45) (.cells #[.int .i64 0, .int .i64 0, .int .i64 0, .int .i64 0, .int .i64 0, .int .i64 0, .string ⟨#[]⟩, .slice none 0 0, .string ⟨#[]⟩, .int .i64 0, .int .i64 0, .int .i64 0, .int .i64 0, .int .i64 0, .int .i64 0, .int .i64 0, .int .i64 0, .slice none 0 0, .slice none 0 0, .int .i64 0, .int .i64 0, .int .i64 0, .int .i64 0, .int .i64 0, .int .i64 0, .int .i64 0, .int .i64 0, .string ⟨#[]⟩] 45) (.cells #[.int .i64 0, .int .i64 0, .int .i64 0, .int .i64 0, .int .i64 0, .int .i64 0, .string ⟨#[]⟩, .slice none 0 0, .string ⟨#[]⟩, .int .i64 0, .int .i64 0, .int .i64 0, .int .i64 0, .int .i64 0, .int .i64 0, .int .i64 0, .int .i64 0, .slice none 0 0, .slice none 0 0, .int .i64 0, .int .i64 0, .int .i64 0, .int .i64 0, .int .i64 0, .int .i64 0, .int .i64 0, .int .i64 0, .string ⟨#[]⟩] 45)
  have H2 : W.heap[w.heap.size + 2]? = some (.cells (evCells 10 zEntry zRate zHolding zMatch zStock 0 0 ⟨#[]⟩).toArray 45 (0, 0)) := by rw [← hW]; exact heap_setRow hh2.2.2.1 _
  have fW : Fr (fun k => k ≠ w.heap.size + 2) (((w.alloc (.cells cx.toArray 45)).alloc (.cells #[.int .i64 0, .int .i64 0, .int .i64 0, .int .i64 0, .int .i64 0, .int .i64 0, .string ⟨#[]⟩, .slice none 0 0, .string ⟨#[]⟩, .int .i64 0, .int .i64 0, .int .i64 0, .int .i64 0, .int .i64 0, .int .i64 0, .int .i64 0, .int .i64 0, .slice none 0 0, .slice none 0 0, .int .i64 0, .int .i64 0, .int .i64 0, .int .i64 0, .int .i64 0, .int .i64 0, .int .i64 0, .int .i64 0, .string ⟨#[]⟩] 45)).alloc (.cells #[.int .i64 0, .int .i64 0, .int .i64 0, .int .i64 0, .int .i64 0, .int .i64 0, .string ⟨#[]⟩, .slice none 0 0, .string ⟨#[]⟩, .int .i64 0, .int .i64 0, .int .i64 0, .int .i64 0, .int .i64 0, .int .i64 0, .int .i64 0, .int .i64 0, .slice none 0 0, .slice none 0 0, .int .i64 0, .int .i64 0, .int .i64 0, .int .i64 0, .int .i64 0, .int .i64 0, .int .i64 0, .int .i64 0, .string ⟨#[]⟩] 45)) W := by rw [← hW]; exact fr_setRow _ _ _
  clear hW hK0
  have H0 : W.heap[w.heap.size]? = some (.cells cx.toArray 45 (0, 0)) := (fW.block w.heap.size (by show w.heap.size ≠ w.heap.size + 2; omega)).trans hh2.1
  have H1 : W.heap[w.heap.size + 1]? = some (.cells zCells 45 (0, 0)) := (fW.block (w.heap.size + 1) (by show w.heap.size + 1 ≠ w.heap.size + 2; omega)).trans hh2.2.1
  have FW : Fr (· < w.heap.size) w W := hh2.2.2.2.2.trans (fW.mono (fun k hk => by show k ≠ w.heap.size + 2; omega))
  have hsz : w.heap.size + 3 ≤ W.heap.size := by have := fW.size; have := hh2.2.2.2.1; omega
  clear fW hh2
  have haW : At W (fun k => k < w.heap.size ∨ k = w.heap.size) ⟨w.heap.size, 0, none⟩ cx := by
    refine ⟨.inr rfl, fun j u hu => ?_⟩
    rw [Addr.add_lit, Nat.zero_add, blk_cell H0 j, blk_frozen H0 j]
    exact ⟨by simpa using hu, rfl⟩
  have hxW : EventC W (· < w.heap.size) cx x := hx.fr FW
  have hat := hxW.at_ haW
  simp only [Nat.zero_add] at hat
  obtain ⟨⟨f0, i0⟩, ⟨l1, f1, m1⟩, ⟨l2, f2, m2⟩, ⟨l3, f3, m3⟩, ⟨l4, f4, m4⟩, ⟨l5, f5, m5⟩, ⟨f6, i6⟩, ⟨f7, i7⟩, f8⟩ := hat
  have c0 : W.cell? ⟨w.heap.size, 0, none⟩ = some (.int .i64 10) := by rw [blk_cell H0 0]; simpa using hk0
  clear f0 hk0
  clear f1 f2 f3 f4 f5 
  have o25 : W.cell? ⟨w.heap.size + 2, 25, none⟩ = some (.int .i64 0) := blk_cell H2 25
  have z25 : W.frozen? ⟨w.heap.size + 2, 25, none⟩ = false := blk_frozen H2 25
  have o26 : W.cell? ⟨w.heap.size + 2, 26, none⟩ = some (.int .i64 0) := blk_cell H2 26
  have z26 : W.frozen? ⟨w.heap.size + 2, 26, none⟩ = false := blk_frozen H2 26
  have o27 : W.cell? ⟨w.heap.size + 2, 27, none⟩ = some (.string ⟨#[]⟩) := blk_cell H2 27
  have z27 : W.frozen? ⟨w.heap.size + 2, 27, none⟩ = false := blk_frozen H2 27
  have fS : Fr (fun k => k ≠ w.heap.size + 2) W (((W.setCell ⟨w.heap.size + 2, 25, none⟩ (.int .i64 x.a)).setCell ⟨w.heap.size + 2, 26, none⟩ (.int .i64 x.b)).setCell ⟨w.heap.size + 2, 27, none⟩ (.string x.text)) := Fr.setCell (p := ⟨w.heap.size + 2, 27, none⟩) (Fr.setCell (p := ⟨w.heap.size + 2, 26, none⟩) (Fr.setCell (p := ⟨w.heap.size + 2, 25, none⟩) (Fr.refl _ W) (fun h => h rfl) _) (fun h => h rfl) _) (fun h => h rfl) _
  have G1 := (fS.block (w.heap.size + 1) (by show w.heap.size + 1 ≠ w.heap.size + 2; omega)).trans H1
  have G2 := heap_setCell_same (heap_setCell_same (heap_setCell_same (H2) 25 (.int .i64 x.a)) 26 (.int .i64 x.b)) 27 (.string x.text)
  have hput : ((((evCells 10 zEntry zRate zHolding zMatch zStock 0 0 ⟨#[]⟩).toArray.setIfInBounds 25 (.int .i64 x.a)).setIfInBounds 26 (.int .i64 x.b)).setIfInBounds 27 (.string x.text)) = (evCells 10 zEntry zRate zHolding zMatch zStock x.a x.b x.text).toArray := rfl
  rw [hput] at G2
  have FW2 : Fr (· < w.heap.size) w (((W.setCell ⟨w.heap.size + 2, 25, none⟩ (.int .i64 x.a)).setCell ⟨w.heap.size + 2, 26, none⟩ (.int .i64 x.b)).setCell ⟨w.heap.size + 2, 27, none⟩ (.string x.text)) := FW.trans (fS.mono (fun k hk => by show k ≠ w.heap.size + 2; omega))
  have HG1 := Lib.hid G1
  have HG2 := Lib.hid G2
  clear G1 G2 hput H0 H1 H2
  have hE2 : EventC (((W.setCell ⟨w.heap.size + 2, 25, none⟩ (.int .i64 x.a)).setCell ⟨w.heap.size + 2, 26, none⟩ (.int .i64 x.b)).setCell ⟨w.heap.size + 2, 27, none⟩ (.string x.text)) (fun k => k < w.heap.size) (evCells 10 zEntry zRate zHolding zMatch zStock x.a x.b x.text) (ownEv x) := by
    rw [HOE.out]
    exact evC hkb (zEntryC _ _) (zRateC _ _) (zHoldingC _ _) (zMatchC _ _) (zStockC _ _) i6 i7
  have HFW2 := Lib.hid FW2
  clear FW2 fS
  go_wp2_with fail
  go_region
  have HC45b := Lib.hid (size45 hE2.len)
  have HE2 := Lib.hid hE2
  have HONE := Lib.hid hE2.one
  have HEL := Lib.hid (zsize hE2)
  clear hE2
  go_wp2_with (first | refine wpList_load_row rfl 45 (.tmp 3) rfl (w.heap.size + 2) rfl 45 (evCells 10 zEntry zRate zHolding zMatch zStock x.a x.b x.text).toArray (0, 0) _ HG2.out Try.underlying45 rfl HC45b.out ?_ | refine wpList_store_row rfl 45 (.tmp 2) (.tmp 60) rfl (w.heap.size + 1) (evCells 10 zEntry zRate zHolding zMatch zStock x.a x.b x.text).toArray rfl rfl 45 _ HG1.out HC45b.out HEL.out HONE.out ?_)
  have hfr := fr_setRow ((((W.setCell ⟨w.heap.size + 2, 25, none⟩ (.int .i64 x.a)).setCell ⟨w.heap.size + 2, 26, none⟩ (.int .i64 x.b)).setCell ⟨w.heap.size + 2, 27, none⟩ (.string x.text)).drew) (w.heap.size + 1) (evCells 10 zEntry zRate zHolding zMatch zStock x.a x.b x.text).toArray
  (try simp only [Exit.inBlock, Exit.then])
  refine bodyPost_ret (v := .agg (evCells 10 zEntry zRate zHolding zMatch zStock x.a x.b x.text).toArray) (results_cell_row rfl _ _ (w.heap.size + 1) 45 _ (0, 0) _ rfl (heap_setRow HG1.out _) Try.underlying45 rfl HC45b.out) rfl ⟨(evCells 10 zEntry zRate zHolding zMatch zStock x.a x.b x.text), rfl, HE2.out.fr (Fr.ofDrew (hfr.mono (fun k hk => by show k ≠ w.heap.size + 1; omega))), ?_⟩
  exact (HFW2.out.drew.trans (hfr.mono (fun k hk => by show k ≠ w.heap.size + 1; omega))).below

theorem rOwn_c (x : XEvent) (cx : List Value) (w : World) (hx : EventC w (· < w.heap.size) cx x) (hk : known x.kind = true) :
    Calls Try.prog 42 #[.agg cx.toArray] w (OwnPost w x) := by
  have h2 : 1 ≤ x.kind ∧ x.kind ≤ 10 := by simpa [known] using hk
  have hc : x.kind = 1 ∨ x.kind = 2 ∨ x.kind = 3 ∨ x.kind = 4 ∨ x.kind = 5 ∨ x.kind = 6 ∨ x.kind = 7 ∨ x.kind = 8 ∨ x.kind = 9 ∨ x.kind = 10 := by omega
  rcases hc with h | h | h | h | h | h | h | h | h | h
  · exact own_1 x cx w hx h
  · exact own_2 x cx w hx h
  · exact own_3 x cx w hx h
  · exact own_4 x cx w hx h
  · exact own_5 x cx w hx h
  · exact own_6 x cx w hx h
  · exact own_7 x cx w hx h
  · exact own_8 x cx w hx h
  · exact own_9 x cx w hx h
  · exact own_10 x cx w hx h
end Go.Proofs.Ytgdibeegheddmaa
