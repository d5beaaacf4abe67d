/- Charts: the way up, in the program. Written by gen_b10.py. -/
import Derived.Test.YtnigokmjehemaaaProg
import Derived.Test.YtnigokmjehemaaaB9Charts
namespace Go.Proofs.Ytnigokmjehemaaa
open Go Go.RowKit
set_option linter.unusedVariables false
set_option linter.unusedSimpArgs false
set_option maxRecDepth 4000
attribute [local go_sem ↓] Go.wp_at_zero Go.wp_at_succ
def iv (l : List Int) : List Value := l.map (Value.int .i64)
theorem grown_of_below {w w' : World} (h : Below w.heap.size w w') : w.grownBy w' none := ⟨h.os, h.tape, h.output, h.size, fun k hk _ => h.block k hk⟩
theorem info_int : (Try.prog.info? 3).map (fun i => (i.zero, i.size, i.bytes)) = some (some (.int .i64 0), 1, 8) := by kernel_rfl
theorem findV_none {l : List XAccount} {c : Int} (h : findA l c = none) : findV l c = .tuple #[.agg (accL {}).toArray, .bool false] := by unfold findV; rw [h]; rfl
theorem findV_some {l : List XAccount} {c : Int} {a : XAccount} (h : findA l c = some a) : findV l c = .tuple #[.agg (accL a).toArray, .bool true] := by unfold findV; rw [h]; rfl
theorem upP_none {l : List XAccount} {c : Int} {f : Nat} {acc : List Int} (h : findA l c = none) : upP l (f + 1) acc c = (acc, c) := by unfold upP; rw [h]
theorem upP_seen {l : List XAccount} {c : Int} {f : Nat} {acc : List Int} {a : XAccount} (h : findA l c = some a) (hs : acc.contains c = true) : upP l (f + 1) acc c = (acc, c) := by unfold upP; rw [h]; simp only; rw [if_pos hs]
theorem upP_on {l : List XAccount} {c : Int} {f : Nat} {acc : List Int} {a : XAccount} (h : findA l c = some a) (hs : acc.contains c = false) : upP l (f + 1) acc c = upP l f (acc ++ [c]) a.parent := by
  conv => lhs; unfold upP
  rw [h]; simp only; rw [if_neg (by rw [hs]; decide)]
def lenOf : Value → Nat
  | .slice _ n _ => n
  | _ => 0
theorem own_len {w : World} {base : Nat} {e : TypeId} {size n : Nat} {v : Value} {xs : List Value} (h : w.ownsRow base e size v n xs) : lenOf v = n := by
  rcases h.2 with ⟨rfl, rfl⟩ | ⟨g, cap, cur, rfl, _⟩
  · rfl
  · rfl
/-- All accounts of a list are of the size of an int. -/
theorem ListC.accB {w : World} {Q : Nat → Prop} {cs : List Value} {l : List XAccount} (h : ListC AccountC 4 w Q cs l) : ∀ a ∈ l, accB a := by
  intro a ha
  obtain ⟨i, hi, rfl⟩ := List.getElem_of_mem ha
  obtain ⟨A, c, rfl, _, _⟩ := h.form
  obtain ⟨b, o, es, _, _, h1, _⟩ := h.get i hi
  exact (AccountC.lit h1).2
theorem chart_keep {w w' : World} {cs : List Value} {l : List XAccount} (h : ListC AccountC 4 w (· < w.heap.size) cs l) (hb : Below w.heap.size w w') : ListC AccountC 4 w' (· < w'.heap.size) cs l :=
  (h.fr (fun h => AccountC.fr h (Fr.ofBelow hb)) (Fr.ofBelow hb)).mono (fun h => AccountC.mono h (fun k hk => by have := hb.size; omega)) (fun k hk => by have := hb.size; omega)
theorem keep3 {w8 w9 : World} {o x : Obj} {g : Nat} {row : Option Nat} (h : w8.heap[g]? = some x) (hg9 : (w8.alloc o).grownBy w9 row) (hne : some g ≠ row) : w9.heap[g]? = some x :=
  (hg9.block g (by simp; have := blk_lt h; omega) hne).trans (alloc_keep h o)
theorem own_base {w : World} {base base' : Nat} {e : TypeId} {size n : Nat} {v : Value} {xs : List Value} (h : w.ownsRow base e size v n xs) (hb : base' ≤ base) : w.ownsRow base' e size v n xs := by
  refine ⟨h.1, ?_⟩
  rcases h.2 with h | ⟨g, cap, cur, h1, h2, h3⟩
  · exact .inl h
  · exact .inr ⟨g, cap, cur, h1, Nat.le_trans hb h2, h3⟩
theorem own_below {w w' : World} {base : Nat} {e : TypeId} {size n : Nat} {v : Value} {xs : List Value} (h : w.ownsRow base e size v n xs) (hb : Below w.heap.size w w') : w'.ownsRow base e size v n xs :=
  h.kept (grown_of_below hb) (by cases v.ownBlock <;> simp)
theorem own_ne {w : World} {base k : Nat} {e : TypeId} {size n : Nat} {v : Value} {xs : List Value} (h : w.ownsRow base e size v n xs) (hk : k < base) : v.ownBlock = none ∨ v.ownBlock ≠ some k := by
  cases hv : v.ownBlock with
  | none => exact .inl rfl
  | some g =>
    refine .inr (fun e => ?_)
    have h1 := (h.lt g hv).1
    injection e with e
    omega
theorem below_grown {B : Nat} {w w1 w2 : World} {row : Option Nat} (h : Below B w w1) (hg : w1.grownBy w2 row) (hr : ∀ k, row = some k → B ≤ k) (hB : B ≤ w.heap.size) : Below B w w2 :=
  ((Fr.ofBelow h).grown hg (fun k hk => by omega) (fun k hk hlt => by have := hr k hk; omega)).below
set_option maxHeartbeats 1000000 in
theorem climb_c (l : List XAccount) (A : Option Addr) (c : Nat) (code : Int) (w : World) (hl : ListC AccountC 4 w (· < w.heap.size) [.slice A l.length c] l) (hc : intBd code) (hn : l.length ≤ 1000) :
    Calls Try.prog 208 #[.slice A l.length c, .int .i64 code] w (fun e w' => ∃ v, e = .returned v ∧ w'.ownsRow w.heap.size 3 1 v (upP l (l.length + 1) [] code).1.length (iv (upP l (l.length + 1) [] code).1) ∧ Below w.heap.size w w') := by
  have hmm := @run_makeMap Try.prog
  obtain ⟨i0, hi0, hz0, hz1, hz2⟩ := info_parts info_int
  obtain ⟨R, hR⟩ : ∃ R, upP l (l.length + 1) [] code = R := ⟨_, rfl⟩
  rw [hR]
  have HR := Lib.hid hR
  clear hR
  obtain ⟨n, hnl⟩ : ∃ n, l.length = n := ⟨_, rfl⟩
  rw [hnl] at hn
  have HL := Lib.hid hl
  have HN := Lib.hid hnl
  have HC := Lib.hid hc
  rw [hnl]
  clear hl hnl hc
  go_enter Try.func208, Try.ntmps208
  go_wp2_with fail
  go_step3
  go_wp2_with fail
  go_step3
  have hs0 := SetK.made Try.prog 3 4 iKey w
  have HB := below1 w (.map #[] 0)
  have HS : w.heap.size < (w.alloc (.map #[] 0)).heap.size := by simp
  generalize hW : w.alloc (Obj.map #[] 0) = W at *
  clear hW
  go_wp2_with fail
  go_loopw [5, 1] (fun o i wr => ∃ (acc : List Int) (c' : Int) (f : Nat), wr.ownsRow W.heap.size 3 1 o acc.length (iv acc) ∧ i = .int .i64 c' ∧ intBd c' ∧ SetI wr w.heap.size acc.length (fun x => acc.contains x) ∧ Below w.heap.size w wr ∧ W.heap.size ≤ wr.heap.size ∧ known l acc ∧ acc.length + f = l.length + 1 ∧ upP l f acc c' = R) (fun o _ _ => n + 1 - lenOf o)
  case atStart => exact ⟨[], code, l.length + 1, World.ownsRow_nil _ _ _ _, rfl, HC.out, hs0.eqv (fun _ => rfl), HB, Nat.le_refl _, known_nil l, by simp, HR.out⟩
  case round =>
    obtain ⟨acc, c', f, hown, rfl, hc', hset, hb, hsz, hk, hf, hup⟩ := hrel
    have hal := known_le hk
    obtain ⟨f, rfl⟩ : ∃ g, f = g + 1 := ⟨f - 1, by omega⟩
    have HK := Lib.hid hk
    have HF := Lib.hid hf
    have HUP := Lib.hid hup
    have HC' := Lib.hid hc'
    have HO := Lib.hid hown
    have HAL := Lib.hid (show acc.length ≤ 1000 by have := HN.out; omega)
    have HLW := Lib.hid (chart_keep HL.out hb)
    clear hk hf hup hal
    obtain ⟨hc1, hc2⟩ := hc'
    go_wp2_with fail
    have hcall := find_c l A c c' wr HLW.out HC'.out (by rw [HN.out]; exact hn)
    rw [HN.out] at hcall
    refine hcall.mono ?_
    clear hcall
    rintro e w2 ⟨rfl, hb2⟩
    have hbw2 := hb.trans (hb2.mono hb.size)
    cases ha : findA l c' with
    | none =>
      have e0 : findV l c' = .tuple #[.agg (accL {}).toArray, .bool false] := findV_none ha
      rw [e0]
      clear e0
      have HA := Lib.hid ha
      clear ha
      go_wp2_with fail
      try rw [Exit.noGoto_ret]
      go_ret
      have e1 : R = (acc, c') := by rw [← HUP.out, upP_none HA.out]
      rw [e1]
      exact ⟨_, rfl, own_base ((own_below HO.out hb2).alloc _) (Nat.le_of_lt HS), hbw2.alloc hbw2.size _⟩
    | some a =>
      have e0 : findV l c' = .tuple #[.agg (accL a).toArray, .bool true] := findV_some ha
      rw [e0]
      clear e0
      have HA := Lib.hid ha
      have hab := HL.out.accB a (findA_mem ha).1
      have hset2 := hset.below hb2
      clear ha
      obtain ⟨c1, c2, c3, c4⟩ := a
      have hab4 := Lib.hid hab.2.2.2
      clear hab
      obtain ⟨F, hF⟩ : ∃ F : Int → Bool, (fun x => acc.contains x) = F := ⟨_, rfl⟩
      rw [hF] at hset2
      have HF2 := Lib.hid hF
      clear hF
      go_upto_region 4 with fail
      have H7 := heap_alloc_new w2 (.cells #[.int .i64 c1, .int .i64 c2, .int .i64 c3, .int .i64 c4] 157)
      have HB7 := below1 w2 (.cells #[.int .i64 c1, .int .i64 c2, .int .i64 c3, .int .i64 c4] 157)
      generalize hW7 : w2.alloc (Obj.cells #[.int .i64 c1, .int .i64 c2, .int .i64 c3, .int .i64 c4] 157) = W7 at *
      clear hW7
      have hset7 := hset2.below HB7
      have hb7 := hbw2.trans (HB7.mono hbw2.size)
      cases hcont : F c' with
      | true =>
        go_wp2_with (at_lookup; refine wpList_look_set rfl _ _ 204 rfl 3 4 int_keyed3 imap_uty bool_uty (bool_zero _) w.heap.size acc.length F rfl hset7 _ c' rfl (iKey_of HC'.out) ?_)
        try rw [Exit.noGoto_ret]
        go_ret
        have e1 : R = (acc, c') := by rw [← HUP.out, upP_seen HA.out ((congrFun HF2.out c').trans hcont)]
        rw [e1]
        exact ⟨_, rfl, own_base (own_below (own_below HO.out hb2) HB7) (Nat.le_of_lt HS), hb7⟩
      | false =>
        have hown7 := own_below (own_below HO.out hb2) HB7
        have G7 := Lib.hid H7
        have hs2 := hb2.size
        have hs7 := HB7.size
        clear H7
        go_wp2_with (first | (at_lookup; refine wpList_look_set rfl _ _ 204 rfl 3 4 int_keyed3 imap_uty bool_uty (bool_zero _) w.heap.size acc.length F rfl hset7 _ c' rfl (iKey_of HC'.out) ?_) | (at_mapUpdate; refine wpList_store_set rfl _ _ _ 204 rfl 3 4 int_keyed3 imap_uty bool_uty w.heap.size acc.length F rfl hset7 (by have := HAL.out; simp only [maxLen]; omega) iKey_inj iKey_lit _ c' rfl true rfl (iKey_of HC'.out) ?_; intro w8 hset8 hg8; replace hset8 := Lib.hid hset8; have hown8 := Lib.hid (hown7.kept hg8 ((own_ne hown7 HS))); have hsz8 := hg8.size) | (at_builtin; go_loud (refine wpList_append_own _ rfl (.tmp 25) (.tmp 27) _ rfl W.heap.size 3 i0 _ 1 8 Try.underlying186 hi0 hz0 hz1 hz2 rfl (by have := HAL.out; omega) _ acc.length (iv acc) rfl (hown8.out.alloc _) ⟨w8.heap.size, 0, none⟩ 1 1 [.int .i64 c'] rfl rfl (cell_one_new _ _ _) (by simp [Value.oneCell']) (by have := HAL.out; simp only [maxLen]; omega) (by have := HAL.out; omega) (by have := HAL.out; simp; omega) ?_); intro v9 w9 hown9 hg9 _; have d3 := blk_cell (keep3 ((hg8.block _ (by have := blk_lt G7.out; omega) (fun e => by injection e with e; omega)).trans G7.out) hg9 (fun e => by have := (HO.out.lt _ e.symm).2; omega)) 3))
        go_roundw
        case rel =>
          refine ⟨acc ++ [c'], c4, f, ?_, rfl, hab4.out, ?_, ?_, ?_, known_snoc HK.out ((congrFun HF2.out c').trans hcont) HA.out, ?_, ?_⟩
          · have e1 : iv (acc ++ [c']) = iv acc ++ [.int .i64 c'] := by simp [iv]
            rw [e1, List.length_append]
            exact hown9
          · rw [List.length_append]
            refine ((hset8.out.kept (World.grownBy_alloc _ _ none) (by simp)).kept hg9 (fun e => by have := (HO.out.lt _ e.symm).1; omega)).eqv (fun d => ?_)
            rw [← HF2.out]
            by_cases hd : d = c'
            · subst hd; simp
            · simp [hd]
          · exact below_grown ((below_grown hb7 hg8 (fun k hk => by injection hk with hk; omega) (Nat.le_refl _)).alloc (by omega) _) hg9 (fun k hk => by have := (HO.out.lt _ hk).1; omega) (Nat.le_refl _)
          · have := hg9.size
            simp at this
            omega
          · have := HF.out; simp only [List.length_append, List.length_cons, List.length_nil]; omega
          · rw [← HUP.out]
            exact (upP_on HA.out ((congrFun HF2.out c').trans hcont)).symm
        case measure =>
          rw [own_len hown9, own_len HO.out]
          have := HAL.out
          have := HF.out
          have := HN.out
          omega
end Go.Proofs.Ytnigokmjehemaaa
