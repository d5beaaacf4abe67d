/- The bytes that a statement is handed, opened; the frame of a claim. -/
import Derived.Test.YtgdibeegheddmaaF2IntWalk
import Derived.Test.YtgdibeegheddmaaRows
import Derived.ProofKit
import Derived.OpenShut
import Derived.ShutString
import Derived.ChangeOld
import Derived.Below
namespace Go.Proofs.Ytgdibeegheddmaa
open Go Go.RowKit Go.ChangeShapes
set_option linter.unusedVariables false
set_option linter.unusedSimpArgs false

theorem bv_ofInts : ∀ (zs : List Int), (∀ n ∈ zs, (Lit.int .u8 n).wf = true) → bv (zs.map fun z => UInt8.ofNat z.toNat) = zs.map (Value.int .u8)
  | [], _ => rfl
  | z :: zs, h => by
    have h0 : (Lit.int .u8 z).wf = true := h z List.mem_cons_self
    simp only [Lit.wf, IntKind.min, IntKind.max, Bool.and_eq_true, decide_eq_true_eq] at h0
    have ih := bv_ofInts zs (fun n hn => h n (List.mem_cons_of_mem _ hn))
    simp only [bv, List.map_cons, List.map_map] at ih ⊢
    rw [ih]
    congr 2
    have := h0.1
    have := h0.2
    simp only [UInt8.toNat_ofNat']
    simp [IntKind.signed, IntKind.bits] at *
    omega

theorem bytes_open {H : Type} {enc : TypeId × Value → H} {W : World} {a : Option Addr} {len cap : Nat} {d : DataW H} {p : List MemPlace}
    (h : DataW.Trod enc Try.prog W 0 (fun _ => true) true 22 (.slice a len cap) d p) (hfz : ∀ b off, MemPlace.cell b off ∈ p → W.frozen? ⟨b, off, none⟩ = false) :
    ∃ L : List UInt8, L.length = len ∧ len ≤ cap ∧ cap ≤ maxLen ∧ Rd W (· < W.heap.size) a L.length 1 (bv L) := by
  have lt : ∀ x ∈ p, x.block < W.heap.size := by obtain ⟨m, hm⟩ := h; exact DataW.trod_lt m _ _ _ hm
  obtain ⟨fuel, hf⟩ := h
  rcases open_ints Try.underlying22 Try.underlying5 (by kernel_rfl) hf with ⟨hcs, hx⟩ | ⟨x, l, c, zs, hcs, _, hl, hm, hz, hx, hcell, hwz⟩
  · simp [Value.cells] at hcs
    obtain ⟨rfl, rfl, rfl⟩ := hcs
    exact ⟨[], rfl, Nat.le_refl _, by simp [maxLen], rfl, fun h => absurd h (by simp)⟩
  · simp [Value.cells] at hcs
    obtain ⟨rfl, rfl, rfl⟩ := hcs
    simp only [if_true] at hz
    simp only [Prod.mk.injEq] at hx
    obtain ⟨_, rfl⟩ := hx
    have hbv := bv_ofInts (zs.take len) (fun n hn => hwz n (List.mem_of_mem_take hn))
    refine ⟨(zs.take len).map fun z => UInt8.ofNat z.toNat, by simp; omega, hl, hm, by simp [bv_length], fun hn => ⟨x, rfl, ?_⟩⟩
    rw [hbv]
    have hpos : 0 < zs.length := by simp at hn; omega
    have h0 := hcell 0 hpos
    obtain ⟨b, off, spot⟩ := x
    have hspot : spot = none := by simpa [Addr.add] using World.cell?_spot h0
    subst hspot
    refine ⟨lt (.cell b (off + 0)) (MemPlace.mem_row.2 ⟨0, hpos, rfl⟩), fun j u hj => ?_⟩
    have hjl : j < (zs.take len).length := by
      have := (List.getElem?_eq_some_iff.1 hj).1
      simpa using this
    have hjz : j < zs.length := by simp at hjl; omega
    refine ⟨?_, ?_⟩
    · rw [hcell j hjz]
      simp only [List.getElem?_map, List.getElem?_eq_getElem hjl, Option.map_some, Option.some.injEq] at hj
      rw [← hj]
      simp [List.getD_eq_getElem?_getD, hjz]
    · rw [Go.WideShapes.add_plain]
      exact hfz b (off + j) (MemPlace.mem_row.2 ⟨j, hjz, rfl⟩)

theorem integers_long (n m : Int) (A : Option Addr) (len c : Nat) (w : World) (hlen : 100 < len) :
    Calls Try.prog 3 #[.int .i64 n, .int .i64 m, .slice A len c] w fun e w' => e = .returned (.bool true) ∧ Below w.heap.size w w' := by
  have hd : decide ((100 : Int) < (len : Int)) = true := decide_eq_true (by omega)
  go_enter Try.func3, Try.ntmps3
  go_wp2_with fail
  refine (awake_c w).mono ?_
  rintro e w1 ⟨rfl, hb1⟩
  go_wp2_with fail
  go_ret
  exact ⟨rfl, hb1⟩
theorem own : ownKnob Try.prog.godebug = none := by kernel_rfl
theorem laidOut : laidOutB Try.prog = true := by kernel_rfl
end Go.Proofs.Ytgdibeegheddmaa
