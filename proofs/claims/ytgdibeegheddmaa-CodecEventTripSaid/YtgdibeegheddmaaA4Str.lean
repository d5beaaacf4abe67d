/- append of a string's bytes onto owned bytes. -/
import Derived.Lib.AppendStr
import Derived.Test.YtgdibeegheddmaaA3App
namespace Go.Proofs.Ytgdibeegheddmaa
open Go Go.RowKit Go.Lib

section
variable {P : Program} (w : World)
theorem run_appS (base : Nat) (t u ty e : TypeId) (i : TypeInfo) (ht : P.underlying t = some (.slice e)) (hu : P.underlying u = some .string) (hi : P.info? e = some i) (hz : i.zero = some (.int .u8 0))
    (hsize : i.size = 1) (hby : i.bytes = 1)
    (v : Value) (n : Nat) (xs : List Value) (hown : w.ownsRow base e 1 v n xs) (s : ByteArray)
    (h63 : n + s.size ≤ maxLen) (hbytes : n + s.size ≤ 140737488355328) (hbase : base ≤ w.heap.size) :
    ∃ v' w', (Builtin.append_ #[t, u] ty #[v, .string s]).run P w = .ok v' w' ∧ w'.ownsRow base e 1 v' (n + s.size) (xs ++ strCells s) ∧ w.grownBy w' v.ownBlock ∧
      (v'.ownBlock = v.ownBlock ∨ v'.ownBlock = some w.heap.size) := by
  have hsmall : n + s.size ≤ 9223372036854775807 := by simp only [maxLen] at h63; omega
  have hxl : xs.length = n := by simpa using hown.1
  have hlen : (xs ++ strCells s).length = (n + s.size) * 1 := by rw [List.length_append, hxl, strCells_length, Nat.mul_one]
  have grown : ∀ (old : Nat), old < n + s.size → ∀ (row : Option Nat),
      (w.drew.alloc (.cells (xs.toArray ++ (strCells s).toArray ++ Builtin.zeroCells (Value.int .u8 0).cells (grownCap w (n + s.size) old e - (n + s.size))) e)).ownsRow base e 1
        (.slice (some ⟨w.heap.size, 0, none⟩) (n + s.size) (grownCap w (n + s.size) old e)) (n + s.size) (xs ++ strCells s) ∧
      w.grownBy (w.drew.alloc (.cells (xs.toArray ++ (strCells s).toArray ++ Builtin.zeroCells (Value.int .u8 0).cells (grownCap w (n + s.size) old e - (n + s.size))) e)) row := by
    intro old ho row
    have hge := grownCap_ge w (n + s.size) old e
    have hcm : grownCap w (n + s.size) old e ≤ maxLen := grownCap_le_maxLen w (n + s.size) old e h63
    refine ⟨⟨hlen, .inr ⟨w.heap.size, _, _, rfl, hbase, heap_alloc_new w.drew _, hge, hcm, ?_, ?_⟩⟩, ⟨rfl, rfl, rfl, by simp, fun k hk _ => Below.heap_alloc w.drew _ k hk⟩⟩
    · have hz1 : (Value.int IntKind.u8 0).cells.size = 1 := rfl
      simp only [Array.size_append, List.size_toArray, size_zeroCells, hz1, hxl, strCells_length]
      omega
    · simp only [Array.toList_append, List.append_assoc]
      rw [← List.append_assoc, ← hlen]
      exact List.take_left
  rcases hown.2 with ⟨rfl, rfl⟩ | ⟨g, cap, cur, rfl, hbg, hg, hnc, hcm, hcs, htake⟩
  · have hx : xs = [] := List.eq_nil_of_length_eq_zero hxl
    subst hx
    by_cases hm : s.size = 0
    · have hn : strCells s = [] := List.eq_nil_of_length_eq_zero (by rw [strCells_length]; exact hm)
      refine ⟨.slice none 0 0, w, ?_, by rw [hm, hn]; exact World.ownsRow_nil w base e 1, ⟨rfl, rfl, rfl, Nat.le_refl _, fun _ _ _ => rfl⟩, .inl rfl⟩
      have hf := run_firstCells_string (P := P) w 1 s
      rw [hm] at hf
      simp [Builtin.append_, run_underlying ht, run_underlying hu, sizeOf, typeInfo, hi, hsize, Builtin.lenOf, hm, hf]
    · have hr := run_append_nil_string (P := P) w t u ty e i (.int .u8 0) ht hu hi hz s (by omega) (by omega) (by rw [hby]; omega)
      have hgr := grown 0 (by omega) (Value.ownBlock (.slice none 0 0))
      simp only [Nat.zero_add, List.nil_append, Array.empty_append] at hgr ⊢
      have e1 : (s.data.map fun b => Value.int .u8 b.toNat) = (strCells s).toArray := by
        apply Array.ext'
        simp [strCells]
      rw [e1] at hr
      exact ⟨_, _, hr, hgr.1, hgr.2, .inr rfl⟩
  · by_cases hroom : n + s.size ≤ cap
    · have hcs' : cur.size = cap := by simpa using hcs
      have hr := run_append_room_string (P := P) w t u ty e i ht hu hi hsize g n cap cur hg s hroom (by omega)
      refine ⟨_, _, hr, ⟨hlen, .inr ⟨g, cap, _, rfl, hbg, setRow_heap w g cur _ e _ hg, hroom, hcm, ?_, ?_⟩⟩, ⟨rfl, rfl, rfl, by simp, fun k _ hk => setRow_other w g k _ (fun e => hk (by simp [Value.ownBlock, e]))⟩, .inl rfl⟩
      · simp only [List.size_toArray, List.length_append, List.length_take, List.length_drop, Array.length_toList, strCells_length]
        omega
      · have ht' : cur.toList.take n = xs := by simpa using htake
        rw [ht', ← hlen]
        exact List.take_left
    · have holds : ∀ j u, xs[j]? = some u → w.cell? ((⟨g, 0, none⟩ : Addr).add j) = some u := hown.cells (g := g) rfl
      have hr := run_append_grow_string (P := P) w t u ty e i (.int .u8 0) ht hu hi hz ⟨g, 0, none⟩ n cap xs (by rw [hsize]; simpa using hxl) holds s (by omega) (by omega) (by rw [hby]; exact growslice_fits (by omega) (by omega))
      have hgr := grown cap (by omega) (Value.ownBlock (.slice (some ⟨g, 0, none⟩) n cap))
      exact ⟨_, _, hr, hgr.1, hgr.2, .inr rfl⟩

end

def sb (s : ByteArray) : List UInt8 := s.data.toList
theorem sb_length (s : ByteArray) : (sb s).length = s.size := by simp [sb]
theorem bv_sb (s : ByteArray) : bv (sb s) = strCells s := rfl

theorem step_appS (w : World) {ops : Array Oper} {o : Oper} {a : Act} {K : Act → World → Prop} {Q' : Exit → Act → World → Prop} {E : Prop} (hgd : o.guard = none) (sl x : Operand)
    (ho : o.op = .call { callee := .builtin .append, args := #[sl, x], argTypes := #[22, 9] })
    (v : Value) (L : List UInt8) (hs : a.eval sl = v) (hown : Bytes w v L) (s : ByteArray) (hx : a.eval x = .string s) (hl : L.length + (sb s).length ≤ Lim)
    (h : ∀ v' w', Bytes w' v' (L ++ sb s) → w.grownBy w' v.ownBlock → (v'.ownBlock = v.ownBlock ∨ v'.ownBlock = some w.heap.size) → K (a.put o.dst v') w') :
    if Region.wanted o (yielded ops a.tmps) = true then Oper.wp Try.prog o a w K Q' else E := by
  obtain ⟨i0, hi0, hz0, hz1, hz2⟩ := info_parts info5
  unfold Lim at hl
  rw [sb_length] at hl
  have hw : Region.wanted o (yielded ops a.tmps) = true := by simp [Region.wanted, hgd]
  rw [if_pos hw]
  obtain ⟨v', w', hr, h2, h3, h4⟩ := run_appS (P := Try.prog) w 0 22 9 o.type 5 i0 Try.underlying22 Try.underlying9 hi0 hz0 hz1 hz2 v L.length (bv L) hown s (by simp only [maxLen]; omega) (by omega) (Nat.zero_le _)
  unfold Oper.wp execOp
  simp only [ho, resolve, invoke, builtin, Sem.run_bind, Sem.run_pure, Result.andThen_ok, List.map_toArray, List.map_cons, List.map_nil, hs, hx, hr]
  refine h v' w' ?_ h3 h4
  unfold Bytes
  rw [bv_append, List.length_append, sb_length, bv_sb]
  exact h2

theorem wpList_appS (w : World) {ops : Array Oper} {rest : List Oper} {o : Oper} {a : Act} {Q' : Exit → Act → World → Prop} (hgd : o.guard = none) (sl x : Operand)
    (ho : o.op = .call { callee := .builtin .append, args := #[sl, x], argTypes := #[22, 9] })
    (v : Value) (L : List UInt8) (hs : a.eval sl = v) (hown : Bytes w v L) (s : ByteArray) (hx : a.eval x = .string s) (hl : L.length + (sb s).length ≤ Lim)
    (h : ∀ v' w', Bytes w' v' (L ++ sb s) → w.grownBy w' v.ownBlock → (v'.ownBlock = v.ownBlock ∨ v'.ownBlock = some w.heap.size) → wpList Try.prog ops Q' rest (a.put o.dst v') w') : wpList Try.prog ops Q' (o :: rest) a w := by
  refine wpList_plain hgd fun K hK => ?_
  have := step_appS w (ops := ops) (K := K) (Q' := Q') (E := True) hgd sl x ho v L hs hown s hx hl fun v' w' h1 h2 h3 => hK _ _ (h v' w' h1 h2 h3)
  simpa [Region.wanted, hgd] using this
end Go.Proofs.Ytgdibeegheddmaa
