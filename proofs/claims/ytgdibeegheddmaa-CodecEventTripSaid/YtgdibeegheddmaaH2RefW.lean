/- The reference writer: ints, text, join. -/
import Derived.Test.YtgdibeegheddmaaH1Region
namespace Go.Proofs.Ytgdibeegheddmaa
open Go Go.RowKit
set_option linter.unusedVariables false
set_option linter.unusedSimpArgs false
/-- A new row holds L. -/
def NewP (w : World) (L : List UInt8) (e : Ending) (w' : World) : Prop := ∃ v, e = .returned v ∧ NewBytes w w' v L
def iv (ns : List Int) : List Value := ns.map (Value.int .i64)
theorem flat_len (ns : List Int) : (ns.flatMap enc).length ≤ 10 * ns.length := by
  induction ns with
  | nil => simp
  | cons n ns ih =>
    have := enc_len n
    simp only [List.flatMap_cons, List.length_append, List.length_cons]
    omega
/-- A row of one's own, made longer by bytes that lie elsewhere or are new. -/
theorem NewBytes.app {w w1 w2 : World} {v v' : Value} {L L' : List UInt8} (h : NewBytes w w1 v L) (hb : Bytes w2 v' L') (hg : w1.grownBy w2 v.ownBlock) (hat : v'.ownBlock = v.ownBlock ∨ v'.ownBlock = some w1.heap.size) : NewBytes w w2 v' L' := by
  refine ⟨hb, fun k hk => ?_, h.2.2.grown hg h.2.2.size h.2.1⟩
  rcases hat with e | e
  · exact h.2.1 k (e ▸ hk)
  · rw [e] at hk
    injection hk with hk
    have := h.2.2.size
    omega
/-- A row stays where what is there is kept. -/
theorem NewBytes.keep {w w1 w2 : World} {v : Value} {L : List UInt8} (h : NewBytes w w1 v L) (hb : Below w1.heap.size w1 w2) : NewBytes w w2 v L :=
  ⟨h.1.keep hb, h.2.1, h.2.2.trans (hb.mono h.2.2.size)⟩

set_option maxRecDepth 100000 in
theorem ints_c (A : Option Addr) (c : Nat) (ns : List Int) (w : World) (h : Rd w (· < w.heap.size) A ns.length 1 (iv ns)) (hb : ∀ n ∈ ns, intBd n) (hl : ns.length ≤ 1000000000) :
    Calls Try.prog 41 #[.slice A ns.length c] w (NewP w (ns.flatMap enc)) := by
  have HB := Lib.hid hb
  clear hb
  go_enter Try.func41, Try.ntmps41
  go_wp2_with fail
  go_loopw [3, 4] (fun o i wr => ∃ k : Nat, k ≤ ns.length ∧ i = .int .i64 (k : Int) ∧ NewBytes w wr o ((ns.take k).flatMap enc)) (fun _ i _ => ns.length - (intOf i).toNat)
  case atStart => exact ⟨0, by omega, rfl, by simpa using NewBytes.nil w⟩
  case round =>
    obtain ⟨k, hk, rfl, hn⟩ := hrel
    by_cases hlt : k < ns.length
    · have hA : (k : Int) < (ns.length : Int) := by omega
      have h0 : (0 : Int) ≤ (k : Int) := by omega
      obtain ⟨a, u, rfl, hq, hu, hca⟩ := (h.keep hn.2.2).at_ hlt
      have e1 : u = .int .i64 ns[k] := by
        rw [iv, List.getElem?_map, List.getElem?_eq_getElem hlt] at hu; simpa using hu.symm
      subst e1
      clear hu
      have hbk : intBd ns[k] := HB.out _ (List.getElem_mem _)
      have ht : (ns.take (k + 1)).flatMap enc = (ns.take k).flatMap enc ++ enc ns[k] := by
        rw [List.take_succ_eq_append_getElem hlt, List.flatMap_append, List.flatMap_singleton]
      have HT := Lib.hid ht
      clear ht
      have hl1 := flat_len (ns.take k)
      have hl2 := enc_len ns[k]
      rw [List.length_take] at hl1
      generalize ns[k] = n at *
      generalize (ns.take k).flatMap enc = L at *
      go_wp2_with fail
      refine (refInt_c n _ hbk.1 hbk.2).mono ?_
      rintro e w1 ⟨v1, rfl, hn1⟩
      have hn' := hn.keep hn1.2.2
      obtain ⟨A1, c1, rfl, _, _⟩ := hn1.1.form
      go_wp2_with (at_builtin; go_loud (refine wpList_appB _ rfl (.tmp 11) (.tmp 16) rfl _ L rfl hn'.1 (· < w1.heap.size) A1 c1 (enc n) rfl (hn1.1.rd (fun k hk => hn1.1.lt hk)).2 (by unfold Lim; omega) ?_); intro v2 w2 hby2 hg2 hat2)
      go_roundw
      case rel =>
        refine ⟨k + 1, by omega, by go_num, ?_⟩
        rw [HT.out]
        exact hn'.app hby2 hg2 hat2
      case measure => simp [intOf]; omega
    · have hA : ¬ (k : Int) < (ns.length : Int) := by omega
      have hkk : k = ns.length := by omega
      subst hkk
      rw [List.take_length] at hn
      go_wp2_with fail
      go_ret
      exact ⟨_, rfl, hn⟩

set_option maxRecDepth 100000 in
theorem text_c (s : ByteArray) (w : World) (hs : s.size ≤ 100000000000) : Calls Try.prog 40 #[.string s] w (NewP w (encS s)) := by
  have hsl := sb_length s
  go_enter Try.func40, Try.ntmps40
  go_wp2_with fail
  refine (refInt_c (s.size : Int) _ (by omega) (by omega)).mono ?_
  rintro e w1 ⟨v1, rfl, hn1⟩
  have hl2 := enc_len (s.size : Int)
  go_wp2_with (at_builtin; go_loud (refine wpList_appS _ rfl (.tmp 5) (.tmp 6) rfl _ _ rfl hn1.1 s rfl (by unfold Lim; omega) ?_); intro v2 w2 hby2 hg2 hat2)
  go_ret
  exact ⟨_, rfl, hn1.app hby2 hg2 hat2⟩

set_option maxRecDepth 100000 in
theorem join_c (A : Option Addr) (c : Nat) (vs : List Value) (Ls : List (List UInt8)) (w : World) (h : Rd w (· < w.heap.size) A Ls.length 1 vs)
    (hp : ∀ i (hi : i < Ls.length), ∃ A c, vs[i]? = some (.slice A Ls[i].length c) ∧ Rd w (· < w.heap.size) A Ls[i].length 1 (bv Ls[i])) (hl : Ls.flatten.length ≤ 100000000000) (hl2 : Ls.length ≤ 1000000000) :
    Calls Try.prog 64 #[.slice A Ls.length c] w (NewP w Ls.flatten) := by
  have HP := Lib.hid hp
  have HL := Lib.hid hl
  clear hp hl
  go_enter Try.func64, Try.ntmps64
  go_wp2_with fail
  go_loopw [3, 4] (fun o i wr => ∃ k : Nat, k ≤ Ls.length ∧ i = .int .i64 (k : Int) ∧ NewBytes w wr o (Ls.take k).flatten) (fun _ i _ => Ls.length - (intOf i).toNat)
  case atStart => exact ⟨0, by omega, rfl, by simpa using NewBytes.nil w⟩
  case round =>
    obtain ⟨k, hk, rfl, hn⟩ := hrel
    by_cases hlt : k < Ls.length
    · have hA : (k : Int) < (Ls.length : Int) := by omega
      have h0 : (0 : Int) ≤ (k : Int) := by omega
      obtain ⟨a, u, rfl, hq, hu, hca⟩ := (h.keep hn.2.2).at_ hlt
      obtain ⟨A1, c1, hu1, hr1⟩ := HP.out k hlt
      have e1 : u = .slice A1 Ls[k].length c1 := by
        rw [hu1] at hu; simpa using hu.symm
      subst e1
      clear hu hu1
      have hr2 := hr1.keep hn.2.2
      have ht : (Ls.take (k + 1)).flatten = (Ls.take k).flatten ++ Ls[k] := by
        rw [List.take_succ_eq_append_getElem hlt, List.flatten_append, List.flatten_singleton]
      have hll : (Ls.take k).flatten.length + Ls[k].length ≤ 100000000000 := by
        have h1 := HL.out
        have h2 : Ls.flatten = (Ls.take (k + 1)).flatten ++ (Ls.drop (k + 1)).flatten := by rw [← List.flatten_append, List.take_append_drop]
        rw [h2, ht, List.length_append, List.length_append] at h1
        omega
      have HT := Lib.hid ht
      clear ht hr1
      generalize Ls[k] = M at *
      generalize (Ls.take k).flatten = L at *
      go_wp2_with (at_builtin; go_loud (refine wpList_appB _ rfl (.tmp 11) (.tmp 15) rfl _ L rfl hn.1 (· < wr.heap.size) A1 c1 M rfl hr2 (by unfold Lim; omega) ?_); intro v2 w2 hby2 hg2 hat2)
      go_roundw
      case rel =>
        refine ⟨k + 1, by omega, by go_num, ?_⟩
        rw [HT.out]
        exact hn.app hby2 hg2 hat2
      case measure => simp [intOf]; omega
    · have hA : ¬ (k : Int) < (Ls.length : Int) := by omega
      have hkk : k = Ls.length := by omega
      subst hkk
      rw [List.take_length] at hn
      go_wp2_with fail
      go_ret
      exact ⟨_, rfl, hn⟩
end Go.Proofs.Ytgdibeegheddmaa
