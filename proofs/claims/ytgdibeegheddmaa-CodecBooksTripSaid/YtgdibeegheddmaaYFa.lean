/- The walk of CodecIntegers: Int and Next stepped through. (joined: F2IntWalk, F3Open) -/
import Derived.Test.YtgdibeegheddmaaYEc
import Derived.Deep.DrawnRows
import Derived.Deep.RegionLaw
import Derived.Deep.RegionHeld3
import Derived.Test.YtgdibeegheddmaaRows
import Derived.ProofKit
import Derived.OpenShut
import Derived.ShutString
import Derived.ChangeOld
import Derived.Below
namespace Go.Proofs.Ytgdibeegheddmaa
open Go Go.RowKit
set_option linter.unusedVariables false
set_option linter.unusedSimpArgs false
attribute [local go_sem ↓] Go.wp_at_zero Go.wp_at_succ

theorem Bytes.str {w : World} {A : Option Addr} {n c : Nat} {L : List UInt8} (h : Bytes w (.slice A n c) L) : (convert 22 9 (.slice A n c)).run Try.prog w = .ok (.string (bstr L)) w := by
  obtain ⟨rfl, hr⟩ := h.rd (Q := fun _ => True) (fun _ _ => trivial)
  exact run_str hr
theorem Bytes.keep {w w' : World} {v : Value} {L : List UInt8} (h : Bytes w v L) (hb : Below w.heap.size w w') : Bytes w' v L := h.fr (Fr.ofBelow hb) (fun k hk => h.lt hk)
theorem Rd.keep {w w' : World} {A : Option Addr} {n size : Nat} {vs : List Value} (h : Rd w (· < w.heap.size) A n size vs) (hb : Below w.heap.size w w') : Rd w' (· < w'.heap.size) A n size vs :=
  (h.fr (Fr.ofBelow hb)).mono (fun k hk => by have := hb.size; omega)
theorem bstr_list (L : List UInt8) : (bstr L).toList = L := ByteArray.toList_mk L
theorem Rd.drew_ {w : World} {Q : Nat → Prop} {A : Option Addr} {n size : Nat} {vs : List Value} (h : Rd w Q A n size vs) : Rd w.drew Q A n size vs := h
theorem wpAnyH_mono {P : Program} {md : Region.Mode} {ops : Array Oper} {Q : Exit → Act → World → Prop} {S S2 : World → Prop} (hS : ∀ w, S2 w → S w) : ∀ (fuel : Nat) (listed : Array Bool) (a : Act) (w : World), wpAnyH P md ops Q S2 fuel listed a w → wpAnyH P md ops Q S fuel listed a w
  | 0, _, _, _, h => h
  | fuel + 1, _, _, _, h => ⟨h.1, fun i hi => wpOp_mono (fun a' w' h' => ⟨hS _ h'.1, wpAnyH_mono hS fuel _ a' w' h'.2⟩) (h.2 i hi)⟩
theorem wpAnyH_more {P : Program} {md : Region.Mode} {ops : Array Oper} {Q : Exit → Act → World → Prop} {S S2 : World → Prop} {fuel : Nat} {listed : Array Bool} {a : Act} {w : World} (hS : ∀ w, S2 w → S w) (h2 : S2 w)
    (h : S2 w → wpAnyH P md ops Q S2 fuel listed a w) : wpAnyH P md ops Q S fuel listed a w := wpAnyH_mono hS _ _ _ _ (h h2)
theorem wpAnyH_takeD {P : Program} {md : Region.Mode} {ops : Array Oper} {Q : Exit → Act → World → Prop} {S : World → Prop} {i d : Nat} {oi : Oper} {v : Value} {fuel : Nat} {listed : Array Bool} {a : Act} {w : World} (hi : ops[i]? = some oi) (hd : oi.dst = some d)
    (hs : Region.noSelect ops = true) (hf : Region.free md ops listed i = true) (hr : (Region.ready md ops listed).contains i = true)
    (hQ : ∀ c a w, Q (.panic c) (a.put oi.dst v) w → Q (.panic c) a w) (hy : YieldsIf P ops S oi v a) (hS : S w)
    (h : wpAnyH P md ops Q S fuel (listed.setIfInBounds i true) (a.put (some d) v) w) : wpAnyH P md ops Q S (fuel + 1) listed a w :=
  wpAnyH_take hi hs hf hr hQ hy hS (by rw [hd]; exact h)
theorem next_n (A : Option Addr) (len c : Nat) (L : List UInt8) (w : World) (hn : L.length = len) (h : Rd w (· < w.heap.size) A L.length 1 (bv L)) (hlc : L.length ≤ c) (hl : L.length ≤ Lim) :
    Calls Try.prog 13 #[.slice A len c] w (NPost w (nextR L)) := by subst hn; exact next_c A c L w h hlc hl

set_option maxHeartbeats 1000000 in
set_option maxRecDepth 100000 in
theorem integers_walk (n m : Int) (A : Option Addr) (c : Nat) (M : List UInt8) (w : World) (hn : intBd n) (hm : intBd m) (h : Rd w (· < w.heap.size) A M.length 1 (bv M)) (hmc : M.length ≤ c) (hsmall : M.length ≤ 100) :
    Calls Try.prog 3 #[.int .i64 n, .int .i64 m, .slice A M.length c] w fun e w' => e = .returned (.bool true) ∧ Below w.heap.size w w' := by
  have HMono := Lib.hid (@enc_mono n m)
  go_enter Try.func3, Try.ntmps3
  go_wp2_with fail
  refine (awake_c w).mono ?_
  rintro e w1 ⟨rfl, hb1⟩
  have h1 := h.fr (Fr.ofBelow hb1)
  go_wp2_with fail
  refine (int_c n w1 hn.1 hn.2).mono ?_
  rintro e w2 ⟨v2, rfl, hn2⟩
  go_wp2_with fail
  refine (int_c m w2 hm.1 hm.2).mono ?_
  rintro e w3 ⟨v3, rfl, hn3⟩
  obtain ⟨A2, c2, rfl, _, _⟩ := hn2.1.form
  obtain ⟨A3, c3, rfl, _, _⟩ := hn3.1.form
  have fB : Fr (fun k => k < w2.heap.size) w2 w3 := Fr.ofBelow hn3.2.2
  have b2 : Bytes w3 (.slice A2 (enc n).length c2) (enc n) := hn2.1.fr fB (fun k hk => hn2.1.lt hk)
  have hM3 := (h1.fr (Fr.ofBelow (hn2.2.2.mono hb1.size))).fr (Fr.ofBelow (hn3.2.2.mono (Nat.le_trans hb1.size hn2.2.2.size)))
  have hbb : Below w.heap.size w w3 := hb1.trans ((hn2.2.2.mono hb1.size).trans (hn3.2.2.mono (Nat.le_trans hb1.size hn2.2.2.size)))
  have hl1 := enc_len n
  have hl2 := enc_len m
  have r2 := (b2.rd (Q := fun k => k < w3.heap.size) (fun k hk => b2.lt hk)).2
  have hcell0 : Fr (fun k => k < w3.heap.size) w3 (w3.alloc (.cells #[] 5)) := (Fr.refl _ w3).alloc (fun _ h => h) _
  go_wp2_with (first | (at_builtin; refine wpList_appB _ rfl (.tmp 22) (.tmp 23) rfl _ [] rfl (Bytes.new w3) (· < w3.heap.size) A2 c2 (enc n) rfl (r2.fr hcell0) (by unfold Lim; simp only [List.length_nil]; omega) ?_; intro v4 w4 hby4 hg4 hat4; have f4 : Fr (fun k => k < w3.heap.size) w3 w4 := Fr.grown hcell0 hg4 (fun _ h => h) (fun k hk => by have hk2 : some w3.heap.size = some k := hk; injection hk2 with hk2; omega); have hM4 := (hM3.mono (Q' := fun k => k < w3.heap.size) (fun k hk => by have := hbb.size; omega)).fr f4; obtain ⟨A4, n4, c4, rfl⟩ := hby4.shape) | (at_builtin; go_loud (refine wpList_appB _ rfl (.tmp 24) (.tmp 25) rfl _ ([] ++ enc n) rfl hby4 (· < w3.heap.size) A c M rfl hM4 (by unfold Lim; simp only [List.nil_append]; omega) ?_); intro v5 w5 hby5 hg5 hat5; rw [List.nil_append] at hby5; obtain ⟨A5, c5, rfl, _, _⟩ := hby5.form))
  have hz34 := f4.size
  have hrM := nextR_enc n M hn
  have B4 : ∀ k, w3.heap.size ≤ k → ∀ j, (Value.slice A4 n4 c4).ownBlock = some j → w3.heap.size ≤ j := fun _ _ j hj => by
    rcases hat4 with e | e
    · rw [e] at hj; have hk2 : some w3.heap.size = some j := hj; injection hk2 with hk2; omega
    · rw [e] at hj; injection hj with hj; simp at hj; omega
  have f5 : Fr (fun k => k < w3.heap.size) w4 w5 := Fr.grown (Fr.refl _ w4) hg5 (fun k hk => by omega) (fun k hk h => by have := B4 _ (Nat.le_refl _) k hk; omega)
  have hz45 := f5.size
  refine (next_n A5 _ c5 (enc n ++ M) w5 (by simp) (hby5.rd (Q := fun k => k < w5.heap.size) (fun k hk => hby5.lt hk)).2 (by assumption) (by unfold Lim; rw [List.length_append]; omega)).mono ?_
  rw [hrM]
  rintro e w6 ⟨v6, rfl, hn6⟩
  obtain ⟨A6, c6, rfl, _, _⟩ := hn6.1.form
  have f36 : Fr (fun k => k < w3.heap.size) w3 w6 := f4.trans (f5.trans ((Fr.ofBelow hn6.2.2).mono (fun k hk => by omega)))
  have x2 := b2.fr f36 (fun k hk => b2.lt hk)
  have x3 := hn3.1.fr f36 (fun k hk => hn3.1.lt hk)
  have xM := (hM3.mono (Q' := fun k => k < w3.heap.size) (fun k hk => by have := hbb.size; omega)).fr f36
  have hz36 := f36.size
  have F6 : Below w.heap.size w w6 := hbb.trans (f36.below.mono hbb.size)
  have s2 := (Bytes.drew x2).str
  have s3 := (Bytes.drew x3).str
  have s6 := (Bytes.drew hn6.1).str
  have sM := run_str (c := c) (Rd.drew_ xM)
  clear hrM
  have X2 := Lib.hid x2
  have X3 := Lib.hid x3
  have XM := Lib.hid (xM.mono (Q' := fun k => k < w6.heap.size) (fun k hk => by omega))
  have X6 := Lib.hid hn6
  have HH := Lib.hid h
  clear x2 x3 xM hn6 h h1 hM3 hM4 hby4 hby5 hg4 hg5 hat4 hat5 f4 f5 f36 hcell0 fB b2 r2 hn2 hn3 B4 hb1 hbb
  have g10 : decide ((10 : Int) < ((enc n).length : Int)) = false := by simp; omega
  have g10' : decide (10 < (enc n).length) = false := by simp; omega
  have sbb : ((bstr (enc n)).toList == (bstr (enc n)).toList) = true := by simp
  have sMM : ((bstr M).toList == (bstr M).toList) = true := by simp
  clear sbb sMM g10'
  obtain ⟨bq, hnb, hsb⟩ : ∃ bq : Bool, (n == m) = bq ∧ ((bstr (enc n)).toList == (bstr (enc m)).toList) = bq := by
    refine ⟨_, rfl, ?_⟩
    rw [bstr_list, bstr_list, Bool.eq_iff_iff, beq_iff_eq, beq_iff_eq]
    exact ⟨fun he => enc_inj hn hm he, fun he => by rw [he]⟩
  go_wp2_with fail
  refine wp_region_held_drew (S := fun w' => (convert 22 9 (.slice A2 (enc n).length c2)).run Try.prog w' = .ok (.string (bstr (enc n))) w') (by kernel_rfl) s2 (fun hHeld => ?_)
  refine wpAnyH_takeD (i := 0) (d := 31) (v := ?_) rfl rfl (by kernel_rfl) (by kernel_rfl) (by kernel_rfl) (fun _ _ _ h => h) (Or.inl ⟨by rfl, ?_⟩) (by assumption) ?_
  rotate_left
  · intro w hSw; (try dsimp only at hSw); go_simp; (try with_reducible rfl)
  simp only [Act.put, List.setIfInBounds_toArray, List.set_cons_zero, List.set_cons_succ]
  refine wpAnyH_takeD (i := 2) (d := 33) (v := ?_) rfl rfl (by kernel_rfl) (by kernel_rfl) (by kernel_rfl) (fun _ _ _ h => h) (Or.inl ⟨by rfl, ?_⟩) (by assumption) ?_
  rotate_left
  · intro w hSw; (try dsimp only at hSw); go_simp; (try with_reducible rfl)
  simp only [Act.put, List.setIfInBounds_toArray, List.set_cons_zero, List.set_cons_succ]
  refine wpAnyH_takeD (i := 1) (d := 32) (v := ?_) rfl rfl (by kernel_rfl) (by kernel_rfl) (by kernel_rfl) (fun _ _ _ h => h) (Or.inl ⟨by rfl, ?_⟩) (by assumption) ?_
  rotate_left
  · intro w hSw; (try dsimp only at hSw); go_simp; (try with_reducible rfl)
  simp only [Act.put, List.setIfInBounds_toArray, List.set_cons_zero, List.set_cons_succ]
  refine wpAnyH_ready (rs := [3]) (by kernel_rfl) (by simp) ?_
  refine AllReadyH.cons (o := _) rfl (fun K hK => ?_) AllReadyH.nil
  go_simp
  go_at_call 14
  refine (refInt_c n _ hn.1 hn.2).mono ?_
  rintro e w7 ⟨v7, rfl, hn7⟩
  obtain ⟨A7, c7, rfl, _, _⟩ := hn7.1.form
  have y7 := hn7.1.str
  have y2 := (Bytes.keep (Bytes.drew X2.out) hn7.2.2).str
  have y3 := (Bytes.keep (Bytes.drew X3.out) hn7.2.2).str
  have y6 := (Bytes.keep (Bytes.drew X6.out.1) hn7.2.2).str
  have yM := run_str (c := c) (Rd.keep (w := w6.drew) XM.out hn7.2.2)
  refine hK.out _ _ y2 (fun _ => ?_)
  refine wpAnyH_more (S2 := fun w' => (convert 22 9 (.slice A2 (enc n).length c2)).run Try.prog w' = .ok (.string (bstr (enc n))) w' ∧ (convert 22 9 (.slice A7 (enc n).length c7)).run Try.prog w' = .ok (.string (bstr (enc n))) w' ∧ (convert 22 9 (.slice A3 (enc m).length c3)).run Try.prog w' = .ok (.string (bstr (enc m))) w' ∧ (convert 22 9 (.slice A6 M.length c6)).run Try.prog w' = .ok (.string (bstr M)) w' ∧ (convert 22 9 (.slice A M.length c)).run Try.prog w' = .ok (.string (bstr M)) w') (fun _ h => h.1) ⟨y2, y7, y3, y6, yM⟩ (fun hS2 => ?_)
  clear s2 s3 s6 sM y2 y7 y3 y6 yM hHeld
  refine wpAnyH_takeD (i := 4) (d := 35) (v := ?_) rfl rfl (by kernel_rfl) (by kernel_rfl) (by kernel_rfl) (fun _ _ _ h => h) (Or.inl ⟨by rfl, ?_⟩) (by assumption) ?_
  rotate_left
  · intro w hSw; (try dsimp only at hSw); go_simp; (try with_reducible rfl)
  simp only [Act.put, List.setIfInBounds_toArray, List.set_cons_zero, List.set_cons_succ]
  refine wpAnyH_takeD (i := 5) (d := 36) (v := ?_) rfl rfl (by kernel_rfl) (by kernel_rfl) (by kernel_rfl) (fun _ _ _ h => h) (Or.inl ⟨by rfl, ?_⟩) (by assumption) ?_
  rotate_left
  · intro w hSw; (try dsimp only at hSw); go_simp; (try with_reducible rfl)
  simp only [Act.put, List.setIfInBounds_toArray, List.set_cons_zero, List.set_cons_succ]
  refine wpAnyH_takeD (i := 6) (d := 37) (v := ?_) rfl rfl (by kernel_rfl) (by kernel_rfl) (by kernel_rfl) (fun _ _ _ h => h) (Or.inl ⟨by rfl, ?_⟩) (by assumption) ?_
  rotate_left
  · intro w hSw; (try dsimp only at hSw); go_simp; (try with_reducible rfl)
  simp only [Act.put, List.setIfInBounds_toArray, List.set_cons_zero, List.set_cons_succ]
  refine wpAnyH_takeD (i := 7) (d := 38) (v := ?_) rfl rfl (by kernel_rfl) (by kernel_rfl) (by kernel_rfl) (fun _ _ _ h => h) (Or.inl ⟨by rfl, ?_⟩) (by assumption) ?_
  rotate_left
  · intro w hSw; (try dsimp only at hSw); go_simp; (try with_reducible rfl)
  simp only [Act.put, List.setIfInBounds_toArray, List.set_cons_zero, List.set_cons_succ]
  refine wpAnyH_takeD (i := 8) (d := 39) (v := ?_) rfl rfl (by kernel_rfl) (by kernel_rfl) (by kernel_rfl) (fun _ _ _ h => h) (Or.inl ⟨by rfl, ?_⟩) (by assumption) ?_
  rotate_left
  · intro w hSw; (try dsimp only at hSw); go_simp; (try with_reducible rfl)
  simp only [Act.put, List.setIfInBounds_toArray, List.set_cons_zero, List.set_cons_succ]
  refine wpAnyH_takeD (i := 9) (d := 40) (v := ?_) rfl rfl (by kernel_rfl) (by kernel_rfl) (by kernel_rfl) (fun _ _ _ h => h) (Or.inl ⟨by rfl, ?_⟩) (by assumption) ?_
  rotate_left
  · intro w hSw; (try dsimp only at hSw); go_simp; (try with_reducible rfl)
  simp only [Act.put, List.setIfInBounds_toArray, List.set_cons_zero, List.set_cons_succ]
  refine wpAnyH_takeD (i := 10) (d := 41) (v := ?_) rfl rfl (by kernel_rfl) (by kernel_rfl) (by kernel_rfl) (fun _ _ _ h => h) (Or.inl ⟨by rfl, ?_⟩) (by assumption) ?_
  rotate_left
  · intro w hSw; (try dsimp only at hSw); go_simp; (try with_reducible rfl)
  simp only [Act.put, List.setIfInBounds_toArray, List.set_cons_zero, List.set_cons_succ]
  refine wpAnyH_takeD (i := 11) (d := 42) (v := ?_) rfl rfl (by kernel_rfl) (by kernel_rfl) (by kernel_rfl) (fun _ _ _ h => h) (Or.inl ⟨by rfl, ?_⟩) (by assumption) ?_
  rotate_left
  · intro w hSw; (try dsimp only at hSw); go_simp; (try with_reducible rfl)
  simp only [Act.put, List.setIfInBounds_toArray, List.set_cons_zero, List.set_cons_succ]
  refine wpAnyH_takeD (i := 12) (d := 43) (v := ?_) rfl rfl (by kernel_rfl) (by kernel_rfl) (by kernel_rfl) (fun _ _ _ h => h) (Or.inl ⟨by rfl, ?_⟩) (by assumption) ?_
  rotate_left
  · intro w hSw; (try dsimp only at hSw); go_simp; (try with_reducible rfl)
  simp only [Act.put, List.setIfInBounds_toArray, List.set_cons_zero, List.set_cons_succ]
  refine wpAnyH_takeD (i := 13) (d := 44) (v := ?_) rfl rfl (by kernel_rfl) (by kernel_rfl) (by kernel_rfl) (fun _ _ _ h => h) (Or.inl ⟨by rfl, ?_⟩) (by assumption) ?_
  rotate_left
  · intro w hSw; (try dsimp only at hSw); go_simp; (try with_reducible rfl)
  simp only [Act.put, List.setIfInBounds_toArray, List.set_cons_zero, List.set_cons_succ]
  refine wpAnyH_takeD (i := 14) (d := 45) (v := ?_) rfl rfl (by kernel_rfl) (by kernel_rfl) (by kernel_rfl) (fun _ _ _ h => h) (Or.inl ⟨by rfl, ?_⟩) (by assumption) ?_
  rotate_left
  · intro w hSw; (try dsimp only at hSw); go_simp; (try with_reducible rfl)
  simp only [Act.put, List.setIfInBounds_toArray, List.set_cons_zero, List.set_cons_succ]
  refine wpAnyH_takeD (i := 15) (d := 46) (v := ?_) rfl rfl (by kernel_rfl) (by kernel_rfl) (by kernel_rfl) (fun _ _ _ h => h) (Or.inl ⟨by rfl, ?_⟩) (by assumption) ?_
  rotate_left
  · intro w hSw; (try dsimp only at hSw); go_simp; (try with_reducible rfl)
  simp only [Act.put, List.setIfInBounds_toArray, List.set_cons_zero, List.set_cons_succ]
  refine wpAnyH_takeD (i := 16) (d := 47) (v := ?_) rfl rfl (by kernel_rfl) (by kernel_rfl) (by kernel_rfl) (fun _ _ _ h => h) (Or.inl ⟨by rfl, ?_⟩) (by assumption) ?_
  rotate_left
  · intro w hSw; (try dsimp only at hSw); go_simp; (try with_reducible rfl)
  simp only [Act.put, List.setIfInBounds_toArray, List.set_cons_zero, List.set_cons_succ]
  refine wpAnyH_takeD (i := 17) (d := 48) (v := ?_) rfl rfl (by kernel_rfl) (by kernel_rfl) (by kernel_rfl) (fun _ _ _ h => h) (Or.inl ⟨by rfl, ?_⟩) (by assumption) ?_
  rotate_left
  · intro w hSw; (try dsimp only at hSw); go_simp; (try with_reducible rfl)
  simp only [Act.put, List.setIfInBounds_toArray, List.set_cons_zero, List.set_cons_succ]
  refine wpAnyH_takeD (i := 18) (d := 49) (v := ?_) rfl rfl (by kernel_rfl) (by kernel_rfl) (by kernel_rfl) (fun _ _ _ h => h) (Or.inl ⟨by rfl, ?_⟩) (by assumption) ?_
  rotate_left
  · intro w hSw; (try dsimp only at hSw); go_simp; (try with_reducible rfl)
  simp only [Act.put, List.setIfInBounds_toArray, List.set_cons_zero, List.set_cons_succ]
  refine wpAnyH_takeD (i := 19) (d := 50) (v := ?_) rfl rfl (by kernel_rfl) (by kernel_rfl) (by kernel_rfl) (fun _ _ _ h => h) (Or.inl ⟨by rfl, ?_⟩) (by assumption) ?_
  rotate_left
  · intro w hSw; (try dsimp only at hSw); go_simp; (try with_reducible rfl)
  simp only [Act.put, List.setIfInBounds_toArray, List.set_cons_zero, List.set_cons_succ]
  refine wpAnyH_takeD (i := 20) (d := 51) (v := ?_) rfl rfl (by kernel_rfl) (by kernel_rfl) (by kernel_rfl) (fun _ _ _ h => h) (Or.inl ⟨by rfl, ?_⟩) (by assumption) ?_
  rotate_left
  · intro w hSw; (try dsimp only at hSw); go_simp; (try with_reducible rfl)
  simp only [Act.put, List.setIfInBounds_toArray, List.set_cons_zero, List.set_cons_succ]
  refine wpAnyH_takeD (i := 21) (d := 52) (v := ?_) rfl rfl (by kernel_rfl) (by kernel_rfl) (by kernel_rfl) (fun _ _ _ h => h) (Or.inl ⟨by rfl, ?_⟩) (by assumption) ?_
  rotate_left
  · intro w hSw; (try dsimp only at hSw); go_simp; (try with_reducible rfl)
  simp only [Act.put, List.setIfInBounds_toArray, List.set_cons_zero, List.set_cons_succ]
  refine wpAnyH_takeD (i := 22) (d := 53) (v := ?_) rfl rfl (by kernel_rfl) (by kernel_rfl) (by kernel_rfl) (fun _ _ _ h => h) (Or.inl ⟨by rfl, ?_⟩) (by assumption) ?_
  rotate_left
  · intro w hSw; (try dsimp only at hSw); go_simp; (try with_reducible rfl)
  simp only [Act.put, List.setIfInBounds_toArray, List.set_cons_zero, List.set_cons_succ]
  refine wpAnyH_takeD (i := 23) (d := 54) (v := ?_) rfl rfl (by kernel_rfl) (by kernel_rfl) (by kernel_rfl) (fun _ _ _ h => h) (Or.inl ⟨by rfl, ?_⟩) (by assumption) ?_
  rotate_left
  · intro w hSw; (try dsimp only at hSw); go_simp; (try with_reducible rfl)
  simp only [Act.put, List.setIfInBounds_toArray, List.set_cons_zero, List.set_cons_succ]
  refine wpAnyH_takeD (i := 24) (d := 55) (v := ?_) rfl rfl (by kernel_rfl) (by kernel_rfl) (by kernel_rfl) (fun _ _ _ h => h) (Or.inl ⟨by rfl, ?_⟩) (by assumption) ?_
  rotate_left
  · intro w hSw; (try dsimp only at hSw); go_simp; (try with_reducible rfl)
  simp only [Act.put, List.setIfInBounds_toArray, List.set_cons_zero, List.set_cons_succ]
  refine wpAnyH_takeD (i := 25) (d := 56) (v := ?_) rfl rfl (by kernel_rfl) (by kernel_rfl) (by kernel_rfl) (fun _ _ _ h => h) (Or.inl ⟨by rfl, ?_⟩) (by assumption) ?_
  rotate_left
  · intro w hSw; (try dsimp only at hSw); go_simp; (try with_reducible rfl)
  simp only [Act.put, List.setIfInBounds_toArray, List.set_cons_zero, List.set_cons_succ]
  refine wpAnyH_takeD (i := 26) (d := 57) (v := ?_) rfl rfl (by kernel_rfl) (by kernel_rfl) (by kernel_rfl) (fun _ _ _ h => h) (Or.inl ⟨by rfl, ?_⟩) (by assumption) ?_
  rotate_left
  · intro w hSw; (try dsimp only at hSw); go_simp; (try with_reducible rfl)
  simp only [Act.put, List.setIfInBounds_toArray, List.set_cons_zero, List.set_cons_succ]
  refine wpAnyH_takeD (i := 27) (d := 58) (v := ?_) rfl rfl (by kernel_rfl) (by kernel_rfl) (by kernel_rfl) (fun _ _ _ h => h) (Or.inl ⟨by rfl, ?_⟩) (by assumption) ?_
  rotate_left
  · intro w hSw; (try dsimp only at hSw); go_simp; (try with_reducible rfl)
  simp only [Act.put, List.setIfInBounds_toArray, List.set_cons_zero, List.set_cons_succ]
  refine wpAnyH_takeD (i := 28) (d := 59) (v := ?_) rfl rfl (by kernel_rfl) (by kernel_rfl) (by kernel_rfl) (fun _ _ _ h => h) (Or.inl ⟨by rfl, ?_⟩) (by assumption) ?_
  rotate_left
  · intro w hSw; (try dsimp only at hSw); go_simp; (try with_reducible rfl)
  simp only [Act.put, List.setIfInBounds_toArray, List.set_cons_zero, List.set_cons_succ]
  refine wpAnyH_takeD (i := 29) (d := 60) (v := ?_) rfl rfl (by kernel_rfl) (by kernel_rfl) (by kernel_rfl) (fun _ _ _ h => h) (Or.inl ⟨by rfl, ?_⟩) (by assumption) ?_
  rotate_left
  · intro w hSw; (try dsimp only at hSw); go_simp; (try with_reducible rfl)
  simp only [Act.put, List.setIfInBounds_toArray, List.set_cons_zero, List.set_cons_succ]
  refine wpAnyH_takeD (i := 30) (d := 61) (v := ?_) rfl rfl (by kernel_rfl) (by kernel_rfl) (by kernel_rfl) (fun _ _ _ h => h) (Or.inl ⟨by rfl, ?_⟩) (by assumption) ?_
  rotate_left
  · intro w hSw; (try dsimp only at hSw); go_simp; (try with_reducible rfl)
  simp only [Act.put, List.setIfInBounds_toArray, List.set_cons_zero, List.set_cons_succ]
  refine wpAnyH_takeD (i := 31) (d := 62) (v := ?_) rfl rfl (by kernel_rfl) (by kernel_rfl) (by kernel_rfl) (fun _ _ _ h => h) (Or.inl ⟨by rfl, ?_⟩) (by assumption) ?_
  rotate_left
  · intro w hSw; (try dsimp only at hSw); go_simp; (try with_reducible rfl)
  simp only [Act.put, List.setIfInBounds_toArray, List.set_cons_zero, List.set_cons_succ]
  refine wpAnyH_takeD (i := 32) (d := 63) (v := ?_) rfl rfl (by kernel_rfl) (by kernel_rfl) (by kernel_rfl) (fun _ _ _ h => h) (Or.inl ⟨by rfl, ?_⟩) (by assumption) ?_
  rotate_left
  · intro w hSw; (try dsimp only at hSw); go_simp; (try with_reducible rfl)
  simp only [Act.put, List.setIfInBounds_toArray, List.set_cons_zero, List.set_cons_succ]
  refine wpAnyH_takeD (i := 33) (d := 64) (v := ?_) rfl rfl (by kernel_rfl) (by kernel_rfl) (by kernel_rfl) (fun _ _ _ h => h) (Or.inl ⟨by rfl, ?_⟩) (by assumption) ?_
  rotate_left
  · intro w hSw; (try dsimp only at hSw); go_simp; (try with_reducible rfl)
  simp only [Act.put, List.setIfInBounds_toArray, List.set_cons_zero, List.set_cons_succ]
  refine wpAnyH_takeD (i := 34) (d := 65) (v := ?_) rfl rfl (by kernel_rfl) (by kernel_rfl) (by kernel_rfl) (fun _ _ _ h => h) (Or.inl ⟨by rfl, ?_⟩) (by assumption) ?_
  rotate_left
  · intro w hSw; (try dsimp only at hSw); go_simp; (try with_reducible rfl)
  simp only [Act.put, List.setIfInBounds_toArray, List.set_cons_zero, List.set_cons_succ]
  refine wpAnyH_takeD (i := 35) (d := 66) (v := ?_) rfl rfl (by kernel_rfl) (by kernel_rfl) (by kernel_rfl) (fun _ _ _ h => h) (Or.inl ⟨by rfl, ?_⟩) (by assumption) ?_
  rotate_left
  · intro w hSw; (try dsimp only at hSw); go_simp; (try with_reducible rfl)
  simp only [Act.put, List.setIfInBounds_toArray, List.set_cons_zero, List.set_cons_succ]
  refine wpAnyH_takeD (i := 36) (d := 67) (v := ?_) rfl rfl (by kernel_rfl) (by kernel_rfl) (by kernel_rfl) (fun _ _ _ h => h) (Or.inl ⟨by rfl, ?_⟩) (by assumption) ?_
  rotate_left
  · intro w hSw; (try dsimp only at hSw); go_simp; (try with_reducible rfl)
  simp only [Act.put, List.setIfInBounds_toArray, List.set_cons_zero, List.set_cons_succ]
  refine wpAnyH_takeD (i := 37) (d := 68) (v := ?_) rfl rfl (by kernel_rfl) (by kernel_rfl) (by kernel_rfl) (fun _ _ _ h => h) (Or.inl ⟨by rfl, ?_⟩) (by assumption) ?_
  rotate_left
  · intro w hSw; (try dsimp only at hSw); go_simp; (try with_reducible rfl)
  simp only [Act.put, List.setIfInBounds_toArray, List.set_cons_zero, List.set_cons_succ]
  refine wpAnyH_done (by kernel_rfl) ?_ _
  have F7 : Below w.heap.size w w7 := F6.trans ((show Below w6.heap.size w6 w7 from ⟨hn7.2.2.os, hn7.2.2.tape, hn7.2.2.output, hn7.2.2.size, hn7.2.2.block⟩).mono F6.size)
  have hM := HMono.out
  clear hS2 hnb hsb g10
  by_cases h0 : 0 ≤ n
  · have hc1 : ¬ n < 0 := by omega
    by_cases hnm : n ≤ m
    · have hln : (enc n).length ≤ (enc m).length := hM (.inl ⟨h0, hnm⟩)
      clear hM
      go_wp2_with fail
      go_ret
      exact ⟨rfl, F7⟩
    · clear hM
      go_wp2_with fail
      go_ret
      exact ⟨rfl, F7⟩
  · have hc1 : n < 0 := by omega
    by_cases hnm : m ≤ n
    · have hln : (enc n).length ≤ (enc m).length := hM (.inr ⟨hc1, hnm⟩)
      clear hM
      go_wp2_with fail
      go_ret
      exact ⟨rfl, F7⟩
    · clear hM
      go_wp2_with fail
      go_ret
      exact ⟨rfl, F7⟩
end Go.Proofs.Ytgdibeegheddmaa

namespace Go.Proofs.Ytgdibeegheddmaa
open Go Go.RowKit Go.ChangeShapes
set_option linter.unusedVariables false
set_option linter.unusedSimpArgs false

theorem bv_ofInts : ∀ (zs : List Int), (∀ n ∈ zs, (Lit.int .u8 n).wf = true) → bv (zs.map fun z => UInt8.ofNat z.toNat) = zs.map (Value.int .u8)
  | [], _ => rfl
  | z :: zs, h => by
    have h0 : (Lit.int .u8 z).wf = true := h z List.mem_cons_self
    simp only [Lit.wf, IntKind.min, IntKind.max, Bool.and_eq_true, decide_eq_true_eq] at h0
    have ih := bv_ofInts zs (fun n hn => h n (List.mem_cons_of_mem _ hn))
    simp only [bv, List.map_cons, List.map_map] at ih ⊢
    rw [ih]
    congr 2
    have := h0.1
    have := h0.2
    simp only [UInt8.toNat_ofNat']
    simp [IntKind.signed, IntKind.bits] at *
    omega

theorem bytes_open {H : Type} {enc : TypeId × Value → H} {W : World} {a : Option Addr} {len cap : Nat} {d : DataW H} {p : List MemPlace}
    (h : DataW.Trod enc Try.prog W 0 (fun _ => true) true 22 (.slice a len cap) d p) (hfz : ∀ b off, MemPlace.cell b off ∈ p → W.frozen? ⟨b, off, none⟩ = false) :
    ∃ L : List UInt8, L.length = len ∧ len ≤ cap ∧ cap ≤ maxLen ∧ Rd W (· < W.heap.size) a L.length 1 (bv L) := by
  have lt : ∀ x ∈ p, x.block < W.heap.size := by obtain ⟨m, hm⟩ := h; exact DataW.trod_lt m _ _ _ hm
  obtain ⟨fuel, hf⟩ := h
  rcases open_ints Try.underlying22 Try.underlying5 (by kernel_rfl) hf with ⟨hcs, hx⟩ | ⟨x, l, c, zs, hcs, _, hl, hm, hz, hx, hcell, hwz⟩
  · simp [Value.cells] at hcs
    obtain ⟨rfl, rfl, rfl⟩ := hcs
    exact ⟨[], rfl, Nat.le_refl _, by simp [maxLen], rfl, fun h => absurd h (by simp)⟩
  · simp [Value.cells] at hcs
    obtain ⟨rfl, rfl, rfl⟩ := hcs
    simp only [if_true] at hz
    simp only [Prod.mk.injEq] at hx
    obtain ⟨_, rfl⟩ := hx
    have hbv := bv_ofInts (zs.take len) (fun n hn => hwz n (List.mem_of_mem_take hn))
    refine ⟨(zs.take len).map fun z => UInt8.ofNat z.toNat, by simp; omega, hl, hm, by simp [bv_length], fun hn => ⟨x, rfl, ?_⟩⟩
    rw [hbv]
    have hpos : 0 < zs.length := by simp at hn; omega
    have h0 := hcell 0 hpos
    obtain ⟨b, off, spot⟩ := x
    have hspot : spot = none := by simpa [Addr.add] using World.cell?_spot h0
    subst hspot
    refine ⟨lt (.cell b (off + 0)) (MemPlace.mem_row.2 ⟨0, hpos, rfl⟩), fun j u hj => ?_⟩
    have hjl : j < (zs.take len).length := by
      have := (List.getElem?_eq_some_iff.1 hj).1
      simpa using this
    have hjz : j < zs.length := by simp at hjl; omega
    refine ⟨?_, ?_⟩
    · rw [hcell j hjz]
      simp only [List.getElem?_map, List.getElem?_eq_getElem hjl, Option.map_some, Option.some.injEq] at hj
      rw [← hj]
      simp [List.getD_eq_getElem?_getD, hjz]
    · rw [Go.WideShapes.add_plain]
      exact hfz b (off + j) (MemPlace.mem_row.2 ⟨j, hjz, rfl⟩)

theorem integers_long (n m : Int) (A : Option Addr) (len c : Nat) (w : World) (hlen : 100 < len) :
    Calls Try.prog 3 #[.int .i64 n, .int .i64 m, .slice A len c] w fun e w' => e = .returned (.bool true) ∧ Below w.heap.size w w' := by
  have hd : decide ((100 : Int) < (len : Int)) = true := decide_eq_true (by omega)
  go_enter Try.func3, Try.ntmps3
  go_wp2_with fail
  refine (awake_c w).mono ?_
  rintro e w1 ⟨rfl, hb1⟩
  go_wp2_with fail
  go_ret
  exact ⟨rfl, hb1⟩
theorem own : ownKnob Try.prog.godebug = none := by kernel_rfl
theorem laidOut : laidOutB Try.prog = true := by kernel_rfl
end Go.Proofs.Ytgdibeegheddmaa
