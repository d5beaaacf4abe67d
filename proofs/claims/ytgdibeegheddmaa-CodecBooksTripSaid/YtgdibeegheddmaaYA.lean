/- Plain facts on the encoding of integers; no program in sight. (joined: A1Plain, A2Words, A3App, B1Int, B2Stream, B3NumW, A4Str, B4TextW, B5FlagW) -/
import Derived.WalkKit
import Derived.Lib.Zigzag
import Derived.Lib.VarintBits
import Derived.Laws.OwnMore
import Derived.Deep.AppendLies
import Derived.Deep.Draws
import Derived.Maps.AppendAt
import Derived.Test.YtgdibeegheddmaaProg
import Derived.KernelRfl
import Derived.WalkLawsBesides
import Derived.WalkSpells
import Derived.Lib.Hide
import Derived.Deep.DrawnRows
import Derived.Deep.RegionLaw
import Derived.Lib.AppendStr
namespace Go.Proofs.Ytgdibeegheddmaa
open Go Go.RowKit

def encU : Nat → Nat → List UInt8
  | 0, m => [m.toUInt8]
  | f + 1, m => if m < 128 then [m.toUInt8] else (m % 128 + 128).toUInt8 :: encU f (m / 128)
def enc (n : Int) : List UInt8 := encU 9 (Lib.zigzag n)
def bv (l : List UInt8) : List Value := l.map fun c => .int .u8 (c.toNat : Int)

theorem bv_length (l : List UInt8) : (bv l).length = l.length := by simp [bv]
theorem bv_append (a b : List UInt8) : bv (a ++ b) = bv a ++ bv b := by simp [bv]
theorem bv_get (l : List UInt8) (i : Nat) : (bv l)[i]? = l[i]?.map fun c => .int .u8 (c.toNat : Int) := by simp [bv]
theorem bv_one (l : List UInt8) : ∀ u ∈ bv l, u.oneCell' = true := by
  intro u hu
  simp only [bv, List.mem_map] at hu
  obtain ⟨c, _, rfl⟩ := hu
  rfl

theorem zig_bits (n : Int) (h1 : -9223372036854775808 ≤ n) (h2 : n ≤ 9223372036854775807) :
    bits .xor .u64 (IntKind.u64.wrap (IntKind.u64.wrap n * 2)) (IntKind.u64.wrap (n / 9223372036854775808)) = (Lib.zigzag n : Int) := by
  by_cases h : 0 ≤ n
  · have e1 : n / 9223372036854775808 = 0 := by omega
    have e2 : IntKind.u64.wrap (IntKind.u64.wrap n * 2) = ((2 * n).toNat : Int) := by rw [IntKind.wrap_u64, IntKind.wrap_u64]; omega
    have e3 : IntKind.u64.wrap 0 = ((0 : Nat) : Int) := by decide
    rw [e1, e2, e3, bits_xor_u64_nat _ _ (by omega) (by omega), Nat.xor_zero]
    unfold Lib.zigzag
    rw [if_pos h]
  · have e1 : n / 9223372036854775808 = -1 := by omega
    have e2 : IntKind.u64.wrap (IntKind.u64.wrap n * 2) = (((2 * n + 18446744073709551616).toNat : Nat) : Int) := by
      rw [IntKind.wrap_u64, IntKind.wrap_u64]; omega
    have e3 : IntKind.u64.wrap (-1) = ((2 ^ 64 - 1 : Nat) : Int) := by decide
    rw [e1, e2, e3, bits_xor_u64_nat _ _ (by omega) (by decide), Nat.xor_comm, Lib.xor_ones64 _ (by omega)]
    unfold Lib.zigzag
    rw [if_neg h]
    omega

theorem toNat_toUInt8 (m : Nat) (h : m < 256) : (m.toUInt8).toNat = m := by
  simp [Nat.toUInt8]; omega

theorem or_bits (c : Nat) : bits .or .u8 ((c : Int) % 256) 128 = (((c % 128 + 128).toUInt8).toNat : Int) := by
  rw [toNat_toUInt8 _ (by omega), Lib.u8_or128_any _ (by omega) (by omega)]
  omega

theorem u8_bits (c : Nat) (h : c < 128) : (c : Int) % 256 = ((c.toUInt8).toNat : Int) := by
  rw [toNat_toUInt8 _ (by omega)]; omega

theorem encU_small (f c : Nat) (h : c < 128) : encU f c = [c.toUInt8] := by
  cases f <;> simp [encU, h]
theorem encU_big (f c : Nat) (h : ¬ c < 128) : encU (f + 1) c = (c % 128 + 128).toUInt8 :: encU f (c / 128) := by
  simp [encU, h]
theorem cut_succ (f c : Nat) (h : c < 2 * 128 ^ (f + 1)) : c / 128 < 2 * 128 ^ f := by
  rw [Nat.pow_succ] at h; omega
theorem cut_pos (f c : Nat) (h : c < 2 * 128 ^ f) (hc : ¬ c < 128) : ∃ g, f = g + 1 := by
  cases f with
  | zero => omega
  | succ g => exact ⟨g, rfl⟩
end Go.Proofs.Ytgdibeegheddmaa

namespace Go.Proofs.Ytgdibeegheddmaa
open Go Go.RowKit

/-- The blocks of which Q holds are as they were; the streams too; no block has gone. -/
structure Fr (Q : Nat → Prop) (w w' : World) : Prop where
  os : w'.os = w.os
  tape : w'.tape = w.tape
  output : w'.output = w.output
  size : w.heap.size ≤ w'.heap.size
  block : ∀ k, Q k → w'.heap[k]? = w.heap[k]?

section
variable {Q Q' : Nat → Prop} {w w' a b c : World}
theorem Fr.refl (Q : Nat → Prop) (w : World) : Fr Q w w := ⟨rfl, rfl, rfl, Nat.le_refl _, fun _ _ => rfl⟩
theorem Fr.trans (h : Fr Q a b) (k : Fr Q b c) : Fr Q a c :=
  ⟨k.os.trans h.os, k.tape.trans h.tape, k.output.trans h.output, Nat.le_trans h.size k.size, fun i hi => (k.block i hi).trans (h.block i hi)⟩
theorem Fr.mono (h : Fr Q w w') (hq : ∀ k, Q' k → Q k) : Fr Q' w w' := ⟨h.os, h.tape, h.output, h.size, fun k hk => h.block k (hq k hk)⟩
theorem Fr.drew (h : Fr Q a w) : Fr Q a w.drew := ⟨h.os, h.tape, h.output, h.size, h.block⟩
theorem Fr.drewN (h : Fr Q a w) (n : Nat) : Fr Q a (w.drewN n) := ⟨h.os, h.tape, h.output, h.size, h.block⟩
theorem Fr.alloc (h : Fr Q a w) (hq : ∀ k, Q k → k < a.heap.size) (o : Obj) : Fr Q a (w.alloc o) :=
  ⟨h.os, h.tape, h.output, Nat.le_trans h.size (by simp), fun k hk => (Below.heap_alloc w o k (Nat.lt_of_lt_of_le (hq k hk) h.size)).trans (h.block k hk)⟩
theorem Fr.setCell (h : Fr Q a w) {p : Addr} (hp : ¬ Q p.block) (u : Value) : Fr Q a (w.setCell p u) :=
  ⟨h.os, h.tape, h.output, by simpa [World.setCell] using h.size, fun k hk => (Below.heap_setCell w p u k (by rintro rfl; exact hp hk)).trans (h.block k hk)⟩
theorem Fr.grown {row : Option Nat} (h : Fr Q a w) (hg : w.grownBy w' row) (hq : ∀ k, Q k → k < a.heap.size) (hr : ∀ k, row = some k → ¬ Q k) : Fr Q a w' :=
  ⟨hg.os.trans h.os, hg.tape.trans h.tape, hg.output.trans h.output, Nat.le_trans h.size hg.size,
   fun k hk => (hg.block k (Nat.lt_of_lt_of_le (hq k hk) h.size) (fun e => hr k e.symm hk)).trans (h.block k hk)⟩
theorem Fr.below {B : Nat} (h : Fr (· < B) w w') : Below B w w' := ⟨h.os, h.tape, h.output, h.size, h.block⟩
theorem Fr.ofBelow {B : Nat} (h : Below B w w') : Fr (· < B) w w' := ⟨h.os, h.tape, h.output, h.size, h.block⟩
theorem Fr.cell (h : Fr Q w w') {p : Addr} (hp : Q p.block) : w'.cell? p = w.cell? p := World.cell?_of_block (w := w) (h.block _ hp)
theorem Fr.frozen (h : Fr Q w w') {p : Addr} (hp : Q p.block) : w'.frozen? p = w.frozen? p := World.frozen?_of_block (w := w) (h.block _ hp)
theorem Fr.cells (h : Fr Q w w') {b : Nat} (hp : Q b) : ∀ o, w'.cell? ⟨b, o, none⟩ = w.cell? ⟨b, o, none⟩ := fun o => h.cell (p := ⟨b, o, none⟩) hp
theorem Fr.frozens (h : Fr Q w w') {b : Nat} (hp : Q b) : ∀ o, w'.frozen? ⟨b, o, none⟩ = w.frozen? ⟨b, o, none⟩ := fun o => h.frozen (p := ⟨b, o, none⟩) hp
end

/-- From address a on lie the cells vs, in a block of which Q holds; they may be written. -/
def At (w : World) (Q : Nat → Prop) (a : Addr) (vs : List Value) : Prop := Q a.block ∧ ∀ j u, vs[j]? = some u → w.cell? (a.add j) = some u ∧ w.frozen? (a.add j) = false
/-- A slice of length n reads as the cells vs. -/
def Rd (w : World) (Q : Nat → Prop) (A : Option Addr) (n size : Nat) (vs : List Value) : Prop :=
  vs.length = n * size ∧ (0 < n → ∃ a, A = some a ∧ At w Q a vs)

theorem own_unfrozen {w : World} {base : Nat} {e : TypeId} {size n : Nat} {v : Value} {xs : List Value} (h : w.ownsRow base e size v n xs) {g : Nat} (hg : v.ownBlock = some g) (j : Nat) : w.frozen? ((⟨g, 0, none⟩ : Addr).add j) = false := by
  rcases h.2 with ⟨rfl, _⟩ | ⟨g', cap, cur, rfl, _, hgg, _⟩
  · simp [Value.ownBlock] at hg
  · simp [Value.ownBlock] at hg
    subst hg
    have hb : ((⟨g', 0, none⟩ : Addr).add j).block = g' := by unfold Addr.add; split <;> rfl
    simp [World.frozen?, hb, hgg]

theorem block_add (a : Addr) (n : Nat) : (a.add n).block = a.block := by unfold Addr.add; split <;> rfl
theorem add_add' (a : Addr) (i j : Nat) : (a.add i).add j = a.add (i + j) := by
  unfold Addr.add
  by_cases hi : i = 0 <;> by_cases hj : j = 0 <;> simp [hi, hj, Nat.add_assoc]

section
variable {Q Q' : Nat → Prop} {w w' : World} {a : Addr} {A : Option Addr} {vs : List Value} {n size : Nat}
theorem At.fr (h : At w Q a vs) (hf : Fr Q w w') : At w' Q a vs := ⟨h.1, fun j u hu => ⟨(hf.cell (by rw [block_add]; exact h.1)).trans (h.2 j u hu).1, (hf.frozen (by rw [block_add]; exact h.1)).trans (h.2 j u hu).2⟩⟩
theorem At.mono (h : At w Q a vs) (hq : ∀ k, Q k → Q' k) : At w Q' a vs := ⟨hq _ h.1, h.2⟩
theorem Rd.fr (h : Rd w Q A n size vs) (hf : Fr Q w w') : Rd w' Q A n size vs := ⟨h.1, fun hn => let ⟨a, e, ha⟩ := h.2 hn; ⟨a, e, ha.fr hf⟩⟩
theorem Rd.mono (h : Rd w Q A n size vs) (hq : ∀ k, Q k → Q' k) : Rd w Q' A n size vs := ⟨h.1, fun hn => let ⟨a, e, ha⟩ := h.2 hn; ⟨a, e, ha.mono hq⟩⟩
theorem Rd.nil (w : World) (Q : Nat → Prop) (size : Nat) : Rd w Q none 0 size [] := ⟨by simp, fun h => absurd h (by omega)⟩
theorem Rd.at_ {k : Nat} (h : Rd w Q A n 1 vs) (hk : k < n) : ∃ a u, A = some a ∧ Q a.block ∧ vs[k]? = some u ∧ w.cell? (a.add k) = some u := by
  obtain ⟨a, e, hq, hc⟩ := h.2 (by omega)
  have hl : k < vs.length := by have := h.1; omega
  exact ⟨a, vs[k], e, hq, List.getElem?_eq_getElem hl, (hc k _ (List.getElem?_eq_getElem hl)).1⟩
theorem At.drop (h : At w Q a vs) (k : Nat) : At w Q (a.add k) (vs.drop k) :=
  ⟨by rw [block_add]; exact h.1, fun j u hu => by rw [add_add']; exact h.2 _ u (by rw [← hu, List.getElem?_drop])⟩
theorem At.take (h : At w Q a vs) (k : Nat) : At w Q a (vs.take k) :=
  ⟨h.1, fun j u hu => h.2 j u (by rw [List.getElem?_take] at hu; split at hu; exact hu; cases hu)⟩
theorem Rd.cut {k cap : Nat} (h : Rd w Q A n size vs) (hk : k ≤ n) (hc : n ≤ cap) :
    Rd w Q (if cap = k then A else A.map (·.add (k * size))) (n - k) size (vs.drop (k * size)) := by
  refine ⟨by rw [List.length_drop, h.1, Nat.sub_mul], fun hn => ?_⟩
  obtain ⟨a, rfl, ha⟩ := h.2 (by omega)
  rw [if_neg (by omega)]
  exact ⟨a.add (k * size), rfl, ha.drop _⟩
theorem Rd.head {k : Nat} (h : Rd w Q A n size vs) (hk : k ≤ n) : Rd w Q A k size (vs.take (k * size)) := by
  refine ⟨by rw [List.length_take, h.1, Nat.min_eq_left (Nat.mul_le_mul_right _ hk)], fun hn => ?_⟩
  obtain ⟨a, rfl, ha⟩ := h.2 (by omega)
  exact ⟨a, rfl, ha.take _⟩
theorem Rd.own {base : Nat} {e : TypeId} {c : Nat} (h : w.ownsRow base e size (.slice A n c) n vs) (hq : ∀ k, Value.ownBlock (.slice A n c) = some k → Q k) : Rd w Q A n size vs := by
  refine ⟨h.1, fun hn => ?_⟩
  obtain ⟨g, cap, hv, _, hlt⟩ := h.form hn
  have hA : A = some ⟨g, 0, none⟩ := by injection hv
  subst hA
  exact ⟨_, rfl, hq g rfl, fun j u hu => ⟨h.cells (g := g) rfl j u hu, own_unfrozen h (g := g) rfl j⟩⟩
end

/-- The slice value v owns a row of the bytes L. -/
def Bytes (w : World) (v : Value) (L : List UInt8) : Prop := w.ownsRow 0 5 1 v L.length (bv L)
theorem Bytes.nil (w : World) : Bytes w (.slice none 0 0) [] := World.ownsRow_nil w 0 5 1
theorem Bytes.form {w : World} {v : Value} {L : List UInt8} (h : Bytes w v L) : ∃ A c, v = .slice A L.length c ∧ L.length ≤ c ∧ c ≤ maxLen := by
  rcases h.2 with ⟨rfl, h0⟩ | ⟨g, cap, cur, rfl, _, _, h1, h2, _⟩
  · exact ⟨none, 0, by rw [h0], by omega, by simp [maxLen]⟩
  · exact ⟨_, _, rfl, h1, h2⟩
theorem Bytes.lt {w : World} {v : Value} {L : List UInt8} (h : Bytes w v L) {k : Nat} (hk : v.ownBlock = some k) : k < w.heap.size := (World.ownsRow.lt h k hk).2
theorem Bytes.fr {Q : Nat → Prop} {w w' : World} {v : Value} {L : List UInt8} (h : Bytes w v L) (hf : Fr Q w w') (hq : ∀ k, v.ownBlock = some k → Q k) : Bytes w' v L := by
  refine ⟨h.1, ?_⟩
  rcases h.2 with hn | ⟨g, cap, cur, rfl, hb, hgg, rest⟩
  · exact .inl hn
  · exact .inr ⟨g, cap, cur, rfl, hb, (hf.block g (hq g rfl)).trans hgg, rest⟩
theorem Bytes.rd {Q : Nat → Prop} {w : World} {A : Option Addr} {n c : Nat} {L : List UInt8} (h : Bytes w (.slice A n c) L) (hq : ∀ k, Value.ownBlock (.slice A n c) = some k → Q k) : n = L.length ∧ Rd w Q A n 1 (bv L) := by
  have hn : n = L.length := by
    rcases h.2 with ⟨h1, h0⟩ | ⟨g, cap, cur, h1, _⟩
    · injection h1 with _ h2 _; omega
    · injection h1 with _ h2 _
  subst hn
  exact ⟨rfl, Rd.own h hq⟩
theorem Bytes.drew {w : World} {v : Value} {L : List UInt8} (h : Bytes w v L) : Bytes w.drew v L := h
end Go.Proofs.Ytgdibeegheddmaa

namespace Go.Proofs.Ytgdibeegheddmaa
open Go Go.RowKit

section
variable {P : Program} (w : World)

theorem run_app_none (base : Nat) (t ty e : TypeId) (i : TypeInfo) (size : Nat) (ht : P.underlying t = some (.slice e)) (hi : P.info? e = some i)
    (v : Value) (n : Nat) (xs : List Value) (hown : w.ownsRow base e size v n xs) (c : Nat) : (Builtin.append_ #[t, t] ty #[v, .slice none 0 c]).run P w = .ok v w := by
  rcases hown.2 with ⟨rfl, rfl⟩ | ⟨g, cap, cur, rfl, _, _, hnc, _⟩
  · simp [Builtin.append_, run_underlying ht, sizeOf, typeInfo, hi, Builtin.lenOf, Builtin.firstCells]
  · simp [Builtin.append_, run_underlying ht, sizeOf, typeInfo, hi, Builtin.lenOf, Builtin.firstCells, hnc, storeCells]

theorem run_app (base : Nat) (t ty e : TypeId) (i : TypeInfo) (z : Value) (size bytes : Nat) (ht : P.underlying t = some (.slice e)) (hi : P.info? e = some i) (hz : i.zero = some z)
    (hsize : i.size = size) (hby : i.bytes = bytes) (hzs : z.cells.size = size) (hsz : 0 < size)
    (v : Value) (n : Nat) (xs : List Value) (hown : w.ownsRow base e size v n xs)
    (Q : Nat → Prop) (A : Option Addr) (m c : Nat) (news : List Value) (hr : Rd w Q A m size news) (h1 : ∀ u ∈ news, u.oneCell' = true)
    (h63 : n + m ≤ maxLen) (hbytes : (n + m) * bytes ≤ 140737488355328) (hbase : base ≤ w.heap.size) :
    ∃ v' w', (Builtin.append_ #[t, t] ty #[v, .slice A m c]).run P w = .ok v' w' ∧ w'.ownsRow base e size v' (n + m) (xs ++ news) ∧ w.grownBy w' v.ownBlock ∧
      (v'.ownBlock = v.ownBlock ∨ v'.ownBlock = some w.heap.size) := by
  rcases A with _ | ad
  · have hm : m = 0 := by
      rcases Nat.eq_zero_or_pos m with h0 | h0
      · exact h0
      · obtain ⟨ad, h, _⟩ := hr.2 h0
        cases h
    subst hm
    have hn : news = [] := List.eq_nil_of_length_eq_zero (by simpa using hr.1)
    subst hn
    exact ⟨v, w, run_app_none w base t ty e i size ht hi v n xs hown c, by simpa using hown, World.grownBy.refl w _, .inl rfl⟩
  · have hcells : ∀ j u, news[j]? = some u → w.cell? (ad.add j) = some u := by
      intro j u hu
      rcases Nat.eq_zero_or_pos m with h0 | h0
      · subst h0
        have hn : news = [] := List.eq_nil_of_length_eq_zero (by simpa using hr.1)
        subst hn
        simp at hu
      · obtain ⟨ad', h, hc⟩ := hr.2 h0
        injection h with h
        subst h
        exact (hc.2 j u hu).1
    obtain ⟨v', w', hrun, h2, h3, _, h5⟩ := run_append_own_at (P := P) w base t ty e i z size bytes ht hi hz hsize hby hzs hsz v n xs hown ad m c news hr.1 hcells h1 h63 hbytes hbase
    exact ⟨v', w', hrun, h2, h3, h5⟩

theorem wp_app {o : Oper} {a : Act} {K : Act → World → Prop} {Q' : Exit → Act → World → Prop} (s x : Operand) (t : TypeId)
    (ho : o.op = .call { callee := .builtin .append, args := #[s, x], argTypes := #[t, t] })
    (base : Nat) (e : TypeId) (i : TypeInfo) (z : Value) (size bytes : Nat) (ht : P.underlying t = some (.slice e)) (hi : P.info? e = some i) (hz : i.zero = some z)
    (hsize : i.size = size) (hby : i.bytes = bytes) (hzs : z.cells.size = size) (hsz : 0 < size)
    (v : Value) (n : Nat) (xs : List Value) (hs : a.eval s = v) (hown : w.ownsRow base e size v n xs)
    (Q : Nat → Prop) (A : Option Addr) (m c : Nat) (news : List Value) (hx : a.eval x = .slice A m c) (hr : Rd w Q A m size news) (h1 : ∀ u ∈ news, u.oneCell' = true)
    (h63 : n + m ≤ maxLen) (hbytes : (n + m) * bytes ≤ 140737488355328) (hbase : base ≤ w.heap.size)
    (h : ∀ v' w', w'.ownsRow base e size v' (n + m) (xs ++ news) → w.grownBy w' v.ownBlock → (v'.ownBlock = v.ownBlock ∨ v'.ownBlock = some w.heap.size) → K (a.put o.dst v') w') : o.wp P a w K Q' := by
  obtain ⟨v', w', hrun, h2, h3, h4⟩ := run_app (P := P) w base t o.type e i z size bytes ht hi hz hsize hby hzs hsz v n xs hown Q A m c news hr h1 h63 hbytes hbase
  unfold Oper.wp execOp
  simp only [ho, resolve, invoke, builtin, Sem.run_bind, Sem.run_pure, Result.andThen_ok, List.map_toArray, List.map_cons, List.map_nil, hs, hx, hrun]
  exact h v' w' h2 h3 h4

theorem wpList_app {ops : Array Oper} {rest : List Oper} {o : Oper} {a : Act} {Q' : Exit → Act → World → Prop} (hgd : o.guard = none) (s x : Operand) (t : TypeId)
    (ho : o.op = .call { callee := .builtin .append, args := #[s, x], argTypes := #[t, t] })
    (base : Nat) (e : TypeId) (i : TypeInfo) (z : Value) (size bytes : Nat) (ht : P.underlying t = some (.slice e)) (hi : P.info? e = some i) (hz : i.zero = some z)
    (hsize : i.size = size) (hby : i.bytes = bytes) (hzs : z.cells.size = size) (hsz : 0 < size)
    (v : Value) (n : Nat) (xs : List Value) (hs : a.eval s = v) (hown : w.ownsRow base e size v n xs)
    (Q : Nat → Prop) (A : Option Addr) (m c : Nat) (news : List Value) (hx : a.eval x = .slice A m c) (hr : Rd w Q A m size news) (h1 : ∀ u ∈ news, u.oneCell' = true)
    (h63 : n + m ≤ maxLen) (hbytes : (n + m) * bytes ≤ 140737488355328) (hbase : base ≤ w.heap.size)
    (h : ∀ v' w', w'.ownsRow base e size v' (n + m) (xs ++ news) → w.grownBy w' v.ownBlock → (v'.ownBlock = v.ownBlock ∨ v'.ownBlock = some w.heap.size) → wpList P ops Q' rest (a.put o.dst v') w') : wpList P ops Q' (o :: rest) a w :=
  wpList_plain hgd fun _ hK => wp_app w s x t ho base e i z size bytes ht hi hz hsize hby hzs hsz v n xs hs hown Q A m c news hx hr h1 h63 hbytes hbase fun v' w' h2 h3 h4 => hK _ _ (h v' w' h2 h3 h4)

theorem step_app {ops : Array Oper} {o : Oper} {a : Act} {K : Act → World → Prop} {Q' : Exit → Act → World → Prop} {E : Prop} (hgd : o.guard = none) (s x : Operand) (t : TypeId)
    (ho : o.op = .call { callee := .builtin .append, args := #[s, x], argTypes := #[t, t] })
    (base : Nat) (e : TypeId) (i : TypeInfo) (z : Value) (size bytes : Nat) (ht : P.underlying t = some (.slice e)) (hi : P.info? e = some i) (hz : i.zero = some z)
    (hsize : i.size = size) (hby : i.bytes = bytes) (hzs : z.cells.size = size) (hsz : 0 < size)
    (v : Value) (n : Nat) (xs : List Value) (hs : a.eval s = v) (hown : w.ownsRow base e size v n xs)
    (Q : Nat → Prop) (A : Option Addr) (m c : Nat) (news : List Value) (hx : a.eval x = .slice A m c) (hr : Rd w Q A m size news) (h1 : ∀ u ∈ news, u.oneCell' = true)
    (h63 : n + m ≤ maxLen) (hbytes : (n + m) * bytes ≤ 140737488355328) (hbase : base ≤ w.heap.size)
    (h : ∀ v' w', w'.ownsRow base e size v' (n + m) (xs ++ news) → w.grownBy w' v.ownBlock → (v'.ownBlock = v.ownBlock ∨ v'.ownBlock = some w.heap.size) → K (a.put o.dst v') w') :
    if Region.wanted o (yielded ops a.tmps) = true then Oper.wp P o a w K Q' else E := by
  have hw : Region.wanted o (yielded ops a.tmps) = true := by simp [Region.wanted, hgd]
  rw [if_pos hw]
  exact wp_app w s x t ho base e i z size bytes ht hi hz hsize hby hzs hsz v n xs hs hown Q A m c news hx hr h1 h63 hbytes hbase h
end

theorem info5 : (Try.prog.info? 5).map (fun i => (i.zero, i.size, i.bytes)) = some (some (.int .u8 0), 1, 1) := by kernel_rfl

/-- Far more bytes than any encoding here has. -/
def Lim : Nat := 1000000000000

/-- append of bytes, at a list of operations. -/
theorem wpList_appB (w : World) {ops : Array Oper} {rest : List Oper} {o : Oper} {a : Act} {Q' : Exit → Act → World → Prop} (hgd : o.guard = none) (s x : Operand)
    (ho : o.op = .call { callee := .builtin .append, args := #[s, x], argTypes := #[22, 22] })
    (v : Value) (L : List UInt8) (hs : a.eval s = v) (hown : Bytes w v L)
    (Q : Nat → Prop) (A : Option Addr) (c : Nat) (M : List UInt8) (hx : a.eval x = .slice A M.length c) (hr : Rd w Q A M.length 1 (bv M)) (hl : L.length + M.length ≤ Lim)
    (h : ∀ v' w', Bytes w' v' (L ++ M) → w.grownBy w' v.ownBlock → (v'.ownBlock = v.ownBlock ∨ v'.ownBlock = some w.heap.size) → wpList Try.prog ops Q' rest (a.put o.dst v') w') : wpList Try.prog ops Q' (o :: rest) a w := by
  obtain ⟨i0, hi0, hz0, hz1, hz2⟩ := info_parts info5
  unfold Lim at hl
  refine wpList_app w hgd s x 22 ho 0 5 i0 _ 1 1 Try.underlying22 hi0 hz0 hz1 hz2 rfl (by omega) v L.length (bv L) hs hown Q A M.length c (bv M) hx hr (bv_one M) (by simp only [maxLen]; omega) (by omega) (Nat.zero_le _) ?_
  intro v' w' h1 h2 h3
  refine h v' w' ?_ h2 h3
  unfold Bytes
  rw [bv_append, List.length_append]
  exact h1

/-- append of bytes, at a step of a region that draws its order. -/
theorem step_appB (w : World) {ops : Array Oper} {o : Oper} {a : Act} {K : Act → World → Prop} {Q' : Exit → Act → World → Prop} {E : Prop} (hgd : o.guard = none) (s x : Operand)
    (ho : o.op = .call { callee := .builtin .append, args := #[s, x], argTypes := #[22, 22] })
    (v : Value) (L : List UInt8) (hs : a.eval s = v) (hown : Bytes w v L)
    (Q : Nat → Prop) (A : Option Addr) (c : Nat) (M : List UInt8) (hx : a.eval x = .slice A M.length c) (hr : Rd w Q A M.length 1 (bv M)) (hl : L.length + M.length ≤ Lim)
    (h : ∀ v' w', Bytes w' v' (L ++ M) → w.grownBy w' v.ownBlock → (v'.ownBlock = v.ownBlock ∨ v'.ownBlock = some w.heap.size) → K (a.put o.dst v') w') :
    if Region.wanted o (yielded ops a.tmps) = true then Oper.wp Try.prog o a w K Q' else E := by
  obtain ⟨i0, hi0, hz0, hz1, hz2⟩ := info_parts info5
  unfold Lim at hl
  refine step_app w hgd s x 22 ho 0 5 i0 _ 1 1 Try.underlying22 hi0 hz0 hz1 hz2 rfl (by omega) v L.length (bv L) hs hown Q A M.length c (bv M) hx hr (bv_one M) (by simp only [maxLen]; omega) (by omega) (Nat.zero_le _) ?_
  intro v' w' h1 h2 h3
  refine h v' w' ?_ h2 h3
  unfold Bytes
  rw [bv_append, List.length_append]
  exact h1
end Go.Proofs.Ytgdibeegheddmaa

namespace Go.Proofs.Ytgdibeegheddmaa
open Go Go.RowKit

theorem own_base {w : World} {b b' : Nat} {e : TypeId} {size n : Nat} {v : Value} {xs : List Value} (h : w.ownsRow b e size v n xs) (hb : b' ≤ b) : w.ownsRow b' e size v n xs := by
  refine ⟨h.1, ?_⟩
  rcases h.2 with h0 | ⟨g, cap, cur, h1, h2, r⟩
  · exact .inl h0
  · exact .inr ⟨g, cap, cur, h1, Nat.le_trans hb h2, r⟩

/-- What a call hands back in a new row of bytes. -/
def NewBytes (w w' : World) (v : Value) (L : List UInt8) : Prop := Bytes w' v L ∧ (∀ k, v.ownBlock = some k → w.heap.size ≤ k) ∧ Below w.heap.size w w'
theorem NewBytes.of {w w' : World} {v : Value} {L : List UInt8} (h : w'.ownsRow w.heap.size 5 1 v L.length (bv L)) (hb : Below w.heap.size w w') : NewBytes w w' v L :=
  ⟨own_base h (Nat.zero_le _), fun k hk => (h.lt k hk).1, hb⟩

set_option maxHeartbeats 400000 in
set_option maxRecDepth 100000 in
theorem int_any (n : Int) (w : World) (h1 : -9223372036854775808 ≤ n) (h2 : n ≤ 9223372036854775807) :
    Calls Try.prog 12 #[.int .i64 n] w fun e w' => ∃ v, e = .returned v ∧ w'.ownsRow w.heap.size 5 1 v (enc n).length (bv (enc n)) ∧ Below w.heap.size w w' := by
  obtain ⟨i0, hi0, hz0, hz1, hz2⟩ := info_parts info5
  have hzig := zig_bits n h1 h2
  have hlt := Lib.zigzag_lt h1 h2
  have HLT := Lib.hid hlt
  clear hlt
  go_enter Try.func12, Try.ntmps12
  go_wp2_with fail
  have HZ := Lib.hid hzig
  clear hzig
  generalize hz : Lib.zigzag n = z at *
  have Hz := Lib.hid hz
  clear hz
  go_loopw [3, 4] (fun m v wr => ∃ (c f : Nat) (l : List UInt8), m = .int .u64 (c : Int) ∧ c < 2 * 128 ^ f ∧ wr.ownsRow w.heap.size 5 1 v l.length (bv l) ∧ encU 9 z = l ++ encU f c ∧ Below w.heap.size w wr ∧ l.length + f = 9) (fun m _ _ => (intOf m).toNat)
  case atStart => exact ⟨z, 9, [], rfl, by simpa using HLT.out, World.ownsRow_nil _ _ _ _, rfl, Below.refl _ _, rfl⟩
  case round =>
    obtain ⟨c, f, l, rfl, hc, hown, henc, hb, hlf⟩ := hrel
    have hll : l.length ≤ 9 := by omega
    have hbs := hb.size
    have HE := Lib.hid henc
    have HL := Lib.hid hlf
    have HC := Lib.hid hc
    clear henc hlf hc h1 h2
    by_cases hlt : c < 128
    · go_wp2_with (at_builtin; refine wpList_append_own _ rfl (.tmp 22) (.tmp 25) _ rfl w.heap.size 5 i0 _ 1 1 Try.underlying22 hi0 hz0 hz1 hz2 rfl (by omega) _ l.length (bv l) rfl (hown.alloc _) ⟨wr.heap.size, 0, none⟩ 1 1 [.int .u8 (c : Int)] rfl rfl (cell_one_new _ _ _) (by simp [Value.oneCell']) (by simp only [maxLen]; omega) (by omega) (by simp; omega) ?_; intro v1 w1 hown1 hg1 _)
      go_ret
      have e1 : enc n = l ++ [c.toUInt8] := by
        rw [enc, Hz.out, HE.out, encU_small f c hlt]
      refine ⟨v1, rfl, ?_, (hb.alloc hbs _).grown hg1 (by simp; omega) fun k hk => (hown.lt k hk).1⟩
      have e2 : bv [c.toUInt8] = [.int .u8 (c : Int)] := by
        rw [bv, List.map_cons, List.map_nil, ← u8_bits c hlt]
        congr 2; omega
      rw [e1, bv_append, List.length_append, e2]
      exact hown1
    · have hor := or_bits c
      go_wp2_with (at_builtin; refine wpList_append_own _ rfl (.tmp 14) (.tmp 18) _ rfl w.heap.size 5 i0 _ 1 1 Try.underlying22 hi0 hz0 hz1 hz2 rfl (by omega) _ l.length (bv l) rfl (hown.alloc _) ⟨wr.heap.size, 0, none⟩ 1 1 [.int .u8 ((c % 128 + 128).toUInt8.toNat : Int)] rfl rfl (cell_one_new _ _ _) (by simp [Value.oneCell']) (by simp only [maxLen]; omega) (by omega) (by simp; omega) ?_; intro v1 w1 hown1 hg1 _)
      go_roundw
      case rel =>
        obtain ⟨g, rfl⟩ := cut_pos f c HC.out hlt
        refine ⟨c / 128, g, l ++ [(c % 128 + 128).toUInt8], by go_num, cut_succ g c HC.out, ?_, ?_, (hb.alloc hbs _).grown hg1 (by simp; omega) fun k hk => (hown.lt k hk).1, ?_⟩
        · rw [bv_append, List.length_append]; exact hown1
        · rw [HE.out, encU_big g c hlt, List.append_assoc]; rfl
        · have := HL.out; simp; omega
      case measure => simp [intOf]; omega

theorem int_c (n : Int) (w : World) (h1 : -9223372036854775808 ≤ n) (h2 : n ≤ 9223372036854775807) :
    Calls Try.prog 12 #[.int .i64 n] w fun e w' => ∃ v, e = .returned v ∧ NewBytes w w' v (enc n) :=
  (int_any n w h1 h2).mono fun _ _ ⟨v, he, ho, hb⟩ => ⟨v, he, NewBytes.of ho hb⟩
end Go.Proofs.Ytgdibeegheddmaa

namespace Go.Proofs.Ytgdibeegheddmaa
open Go Go.RowKit

/-- A stream in block g: its bytes, whether it reads, whether it is bad. -/
def SS (w : World) (g : Nat) (v : Value) (L : List UInt8) (rd bad : Bool) : Prop :=
  w.heap[g]? = some (.cells #[v, .bool rd, .bool bad] 81 (0, 0)) ∧ Bytes w v L
/-- Other blocks than the stream's own. -/
def Oth (w : World) (g : Nat) (v : Value) (k : Nat) : Prop := k < w.heap.size ∧ k ≠ g ∧ v.ownBlock ≠ some k
structure Step (g : Nat) (w : World) (v : Value) (w' : World) (v' : Value) : Prop where
  fr : Fr (Oth w g v) w w'
  own : ∀ k, v'.ownBlock = some k → v.ownBlock = some k ∨ w.heap.size ≤ k
def intBd (n : Int) : Prop := -9223372036854775808 ≤ n ∧ n ≤ 9223372036854775807

theorem blk_cell {w : World} {g : Nat} {t : TypeId} {cs : Array Value} (h : w.heap[g]? = some (.cells cs t (0, 0))) (i : Nat) : w.cell? ⟨g, i, none⟩ = cs[i]? := cell_of_row w g i cs t (0, 0) h
theorem blk_frozen {w : World} {g : Nat} {t : TypeId} {cs : Array Value} (h : w.heap[g]? = some (.cells cs t (0, 0))) (i : Nat) : w.frozen? ⟨g, i, none⟩ = false := by
  simp [World.frozen?, h]
theorem blk_lt {w : World} {g : Nat} {o : Obj} (h : w.heap[g]? = some o) : g < w.heap.size := by
  rcases Nat.lt_or_ge g w.heap.size with hlt | hge
  · exact hlt
  · rw [Array.getElem?_eq_none hge] at h; cases h
theorem own_ne {w : World} {g : Nat} {t : TypeId} {cs : Array Value} {fr : Nat × Nat} {base : Nat} {e : TypeId} {size n : Nat} {v : Value} {xs : List Value} (h : w.ownsRow base e size v n xs) (hg : w.heap[g]? = some (.cells cs t fr)) (hne : e ≠ t) : v.ownBlock ≠ some g := by
  rcases h.2 with ⟨rfl, _⟩ | ⟨g', cap, cur, rfl, _, hh, _⟩
  · simp [Value.ownBlock]
  · intro he
    have : g' = g := by simpa [Value.ownBlock] using he
    subst this
    rw [hh] at hg
    injection hg with hg
    injection hg with _ ht
    exact hne ht
theorem SS.ne {w : World} {g : Nat} {v : Value} {L : List UInt8} {rd bad : Bool} (h : SS w g v L rd bad) : v.ownBlock ≠ some g := own_ne h.2 h.1 (by decide)

theorem Step.oth {g : Nat} {w w' : World} {v v' : Value} (h : Step g w v w' v') {k : Nat} (hk : Oth w g v k) : Oth w' g v' k :=
  ⟨Nat.lt_of_lt_of_le hk.1 h.fr.size, hk.2.1, fun e => by
    rcases h.own k e with h1 | h1
    · exact hk.2.2 h1
    · have := hk.1; omega⟩
theorem Step.trans {g : Nat} {a b c : World} {va vb vc : Value} (h : Step g a va b vb) (k : Step g b vb c vc) : Step g a va c vc :=
  ⟨h.fr.trans (k.fr.mono fun _ hk => h.oth hk), fun i hi => by
    rcases k.own i hi with h1 | h1
    · exact h.own i h1
    · exact .inr (Nat.le_trans h.fr.size h1)⟩
theorem Step.refl (g : Nat) (w : World) (v : Value) : Step g w v w v := ⟨Fr.refl _ _, fun _ h => .inl h⟩

theorem Bytes.shape {w : World} {v : Value} {L : List UInt8} (h : Bytes w v L) : ∃ A n c, v = .slice A n c := by
  obtain ⟨A, c, rfl, _⟩ := h.form
  exact ⟨A, _, c, rfl⟩
/-- A store into a block of another kind. -/
theorem Bytes.set81 {w : World} {v : Value} {L : List UInt8} (h : Bytes w v L) {g : Nat} {t : TypeId} {cs : Array Value} {fr : Nat × Nat} (hg : w.heap[g]? = some (.cells cs t fr)) (ht : 5 ≠ t) (i : Nat) (u : Value) : Bytes (w.setCell ⟨g, i, none⟩ u) v L := by
  have hne := own_ne h hg ht
  refine h.fr (Q := fun k => k ≠ g) (Fr.setCell (Fr.refl _ _) (fun h => h rfl) u) fun k hk e => hne (by rw [hk, e])

theorem flat_take_le {α : Type} (f : α → List UInt8) (l : List α) (k : Nat) : ((l.take k).flatMap f).length ≤ (l.flatMap f).length := by
  conv => rhs; rw [← List.take_append_drop k l, List.flatMap_append, List.length_append]
  omega

theorem Fr.ofDrew {Q : Nat → Prop} {w w' : World} (h : Fr Q w.drew w') : Fr Q w w' := ⟨h.os, h.tape, h.output, h.size, h.block⟩

end Go.Proofs.Ytgdibeegheddmaa

namespace Go.Proofs.Ytgdibeegheddmaa
open Go Go.RowKit
attribute [local go_sem ↓] Go.wp_at_zero Go.wp_at_succ

set_option maxHeartbeats 400000 in
theorem num_w (g : Nat) (v : Value) (L : List UInt8) (bad : Bool) (ps : List (Addr × Int)) (A : Option Addr) (c : Nat) (w : World) (Q : Nat → Prop)
    (hs : SS w g v L false bad) (hq : ∀ k, Q k → Oth w g v k)
    (hr : Rd w Q A ps.length 1 (ps.map fun p => .pointer (some p.1)))
    (hp : ∀ p ∈ ps, Q p.1.block ∧ w.cell? p.1 = some (.int .i64 p.2) ∧ intBd p.2)
    (hL : L.length + (ps.flatMap fun p => enc p.2).length ≤ Lim) (hm : ps.length ≤ 1000) :
    Calls Try.prog 33 #[.pointer (some ⟨g, 0, none⟩), .slice A ps.length c] w fun e w' => e = .returned (.tuple #[]) ∧
      ∃ v', SS w' g v' (L ++ ps.flatMap fun p => enc p.2) false bad ∧ Step g w v w' v' := by
  have HL := Lib.hid hL
  clear hL
  go_enter Try.func33, Try.ntmps33
  go_wp2_with fail
  go_loopw [11] (fun i wr => ∃ (k : Nat) (vk : Value), k ≤ ps.length ∧ i = .int .i64 (k : Int) ∧ SS wr g vk (L ++ (ps.take k).flatMap fun p => enc p.2) false bad ∧ Step g w v wr vk) (fun i _ => ps.length - (intOf i).toNat)
  case atStart => exact ⟨0, v, Nat.zero_le _, rfl, by simpa using hs, ⟨Fr.refl _ _, fun k hk => .inl hk⟩⟩
  case round =>
    obtain ⟨k, vk, hk, rfl, hsk, hst⟩ := hrel
    by_cases hlt : k < ps.length
    · have hrk := hr.fr (hst.fr.mono hq)
      obtain ⟨ad, u, rfl, hqa, hu, hcell⟩ := hrk.at_ hlt
      have hpk := hp ps[k] (List.getElem_mem hlt)
      obtain ⟨hqp, hcp, hbd⟩ := hpk
      have hcp' : wr.cell? ps[k].1 = some (.int .i64 ps[k].2) := (hst.fr.cell (hq _ hqp)).trans hcp
      have hu' : u = .pointer (some ps[k].1) := by simpa [List.getElem?_eq_getElem hlt] using hu.symm
      subst hu'
      have htk : (ps.take (k + 1)).flatMap (fun p => enc p.2) = ((ps.take k).flatMap fun p => enc p.2) ++ enc ps[k].2 := by
        rw [List.take_succ_eq_append_getElem hlt, List.flatMap_append]; simp only [List.flatMap_cons, List.flatMap_nil, List.append_nil]
      have hmem := List.getElem_mem hlt
      generalize ps[k] = pk at *
      obtain ⟨p, n⟩ := pk
      dsimp only at *
      have HT := Lib.hid htk
      have HU := Lib.hid hcp
      clear htk hcp
      have hltI : (k : Int) < (ps.length : Int) := by omega
      have hb0 : wr.cell? ⟨g, 0, none⟩ = some vk := by simp [World.cell?, hsk.1]
      have hb1 : wr.cell? ⟨g, 1, none⟩ = some (.bool false) := by simp [World.cell?, hsk.1]
      clear hu hrk hr
      go_wp2_with fail
      have hop := hst.oth (hq _ hqp)
      have hgs : g < wr.heap.size := by
        rcases Nat.lt_or_ge g wr.heap.size with h | h
        · exact h
        · have := hsk.1; rw [Array.getElem?_eq_none h] at this; cases this
      have hps : p.block < wr.heap.size := World.block_lt_of_cell? _ _ hcp'
      generalize hM : (ps.take k).flatMap (fun p => enc p.2) = M at *
      have hlen : (L ++ M).length + (enc n).length ≤ Lim := by
        have h1 := HL.out
        have h2 := flat_take_le (fun p : Addr × Int => enc p.2) ps (k + 1)
        rw [HT.out, List.length_append] at h2
        rw [List.length_append]
        omega
      have hpg : p ≠ ⟨g, 0, none⟩ := fun e => hop.2.1 (by rw [e])
      have hcw : ∀ (d : World), d.cell? p = wr.cell? p → d.cell? p = some (.int .i64 n) := fun d h => h.trans hcp'
      go_region_law (first | ((refine step_appB _ (by rfl) _ _ (by rfl) vk (L ++ M) (by rfl) (by exact hby1) (fun _ => True) A1 c1 (enc n) (by rfl) (by exact hrd1) hlen ?_; intro v2 w2 hby2 hg2 hat2; obtain ⟨A2, n2, c2, rfl⟩ := hby2.shape; have hG2 := (hg2.block g (blk_lt hG1) (Ne.symm hsk.ne)).trans hG1; have hc2 := blk_cell hG2 0; have hf2 := blk_frozen hG2 0)) | (go_simp; go_at_call 12; refine (int_c n _ hbd.1 hbd.2).mono ?_; rintro e w1 ⟨v1, rfl, hnb⟩; obtain ⟨A1, c1, rfl, _, _⟩ := hnb.1.form; have hrd1 := (hnb.1.rd (Q := fun _ => True) (fun _ _ => trivial)).2; have hby1 : Bytes w1 vk (L ++ M) := (Bytes.drew hsk.2).fr (Fr.ofBelow hnb.2.2) (fun k hk => hsk.2.lt hk); have hG1 := (hnb.2.2.block g hgs).trans hsk.1; have hc1 := blk_cell hG1 0))
      all_goals
        go_wp2_with fail
        go_roundw
        case rel =>
          have hfr : Fr (Oth wr g vk) wr (w2.setCell ⟨g, 0, none⟩ (.slice A2 n2 c2)) := by
            refine Fr.setCell (Fr.grown (show Fr (Oth wr g vk) wr w1 from Fr.ofDrew ((Fr.ofBelow hnb.2.2).mono fun _ (h : Oth wr g vk _) => h.1)) hg2 (fun _ (h : Oth wr g vk _) => h.1) fun i hi (h : Oth wr g vk i) => h.2.2 hi) (fun (h : Oth wr g vk g) => h.2.1 rfl) _
          refine ⟨k + 1, .slice A2 n2 c2, by omega, by go_num, ?_, hst.trans ⟨hfr, fun i hi => ?_⟩⟩
          · rw [HT.out, ← List.append_assoc]
            refine ⟨?_, ?_⟩
            · simp [World.setCell, Array.getElem?_modify, hG2]
            · exact hby2.set81 hG2 (by decide) 0 _
          · rcases hat2 with e | e
            · exact .inl (by rw [← e]; exact hi)
            · rw [e] at hi
              injection hi with hi
              exact .inr (by rw [← hi]; exact hnb.2.2.size)
        case measure => simp [intOf]; omega
    · have hk' : k = ps.length := by omega
      subst hk'
      rw [List.take_length] at hsk
      clear hlt
      go_wp2_with fail
      go_end0
      exact ⟨rfl, vk, hsk, hst⟩
end Go.Proofs.Ytgdibeegheddmaa

namespace Go.Proofs.Ytgdibeegheddmaa
open Go Go.RowKit Go.Lib

section
variable {P : Program} (w : World)
theorem run_appS (base : Nat) (t u ty e : TypeId) (i : TypeInfo) (ht : P.underlying t = some (.slice e)) (hu : P.underlying u = some .string) (hi : P.info? e = some i) (hz : i.zero = some (.int .u8 0))
    (hsize : i.size = 1) (hby : i.bytes = 1)
    (v : Value) (n : Nat) (xs : List Value) (hown : w.ownsRow base e 1 v n xs) (s : ByteArray)
    (h63 : n + s.size ≤ maxLen) (hbytes : n + s.size ≤ 140737488355328) (hbase : base ≤ w.heap.size) :
    ∃ v' w', (Builtin.append_ #[t, u] ty #[v, .string s]).run P w = .ok v' w' ∧ w'.ownsRow base e 1 v' (n + s.size) (xs ++ strCells s) ∧ w.grownBy w' v.ownBlock ∧
      (v'.ownBlock = v.ownBlock ∨ v'.ownBlock = some w.heap.size) := by
  have hsmall : n + s.size ≤ 9223372036854775807 := by simp only [maxLen] at h63; omega
  have hxl : xs.length = n := by simpa using hown.1
  have hlen : (xs ++ strCells s).length = (n + s.size) * 1 := by rw [List.length_append, hxl, strCells_length, Nat.mul_one]
  have grown : ∀ (old : Nat), old < n + s.size → ∀ (row : Option Nat),
      (w.drew.alloc (.cells (xs.toArray ++ (strCells s).toArray ++ Builtin.zeroCells (Value.int .u8 0).cells (grownCap w (n + s.size) old e - (n + s.size))) e)).ownsRow base e 1
        (.slice (some ⟨w.heap.size, 0, none⟩) (n + s.size) (grownCap w (n + s.size) old e)) (n + s.size) (xs ++ strCells s) ∧
      w.grownBy (w.drew.alloc (.cells (xs.toArray ++ (strCells s).toArray ++ Builtin.zeroCells (Value.int .u8 0).cells (grownCap w (n + s.size) old e - (n + s.size))) e)) row := by
    intro old ho row
    have hge := grownCap_ge w (n + s.size) old e
    have hcm : grownCap w (n + s.size) old e ≤ maxLen := grownCap_le_maxLen w (n + s.size) old e h63
    refine ⟨⟨hlen, .inr ⟨w.heap.size, _, _, rfl, hbase, heap_alloc_new w.drew _, hge, hcm, ?_, ?_⟩⟩, ⟨rfl, rfl, rfl, by simp, fun k hk _ => Below.heap_alloc w.drew _ k hk⟩⟩
    · have hz1 : (Value.int IntKind.u8 0).cells.size = 1 := rfl
      simp only [Array.size_append, List.size_toArray, size_zeroCells, hz1, hxl, strCells_length]
      omega
    · simp only [Array.toList_append, List.append_assoc]
      rw [← List.append_assoc, ← hlen]
      exact List.take_left
  rcases hown.2 with ⟨rfl, rfl⟩ | ⟨g, cap, cur, rfl, hbg, hg, hnc, hcm, hcs, htake⟩
  · have hx : xs = [] := List.eq_nil_of_length_eq_zero hxl
    subst hx
    by_cases hm : s.size = 0
    · have hn : strCells s = [] := List.eq_nil_of_length_eq_zero (by rw [strCells_length]; exact hm)
      refine ⟨.slice none 0 0, w, ?_, by rw [hm, hn]; exact World.ownsRow_nil w base e 1, ⟨rfl, rfl, rfl, Nat.le_refl _, fun _ _ _ => rfl⟩, .inl rfl⟩
      have hf := run_firstCells_string (P := P) w 1 s
      rw [hm] at hf
      simp [Builtin.append_, run_underlying ht, run_underlying hu, sizeOf, typeInfo, hi, hsize, Builtin.lenOf, hm, hf]
    · have hr := run_append_nil_string (P := P) w t u ty e i (.int .u8 0) ht hu hi hz s (by omega) (by omega) (by rw [hby]; omega)
      have hgr := grown 0 (by omega) (Value.ownBlock (.slice none 0 0))
      simp only [Nat.zero_add, List.nil_append, Array.empty_append] at hgr ⊢
      have e1 : (s.data.map fun b => Value.int .u8 b.toNat) = (strCells s).toArray := by
        apply Array.ext'
        simp [strCells]
      rw [e1] at hr
      exact ⟨_, _, hr, hgr.1, hgr.2, .inr rfl⟩
  · by_cases hroom : n + s.size ≤ cap
    · have hcs' : cur.size = cap := by simpa using hcs
      have hr := run_append_room_string (P := P) w t u ty e i ht hu hi hsize g n cap cur hg s hroom (by omega)
      refine ⟨_, _, hr, ⟨hlen, .inr ⟨g, cap, _, rfl, hbg, setRow_heap w g cur _ e _ hg, hroom, hcm, ?_, ?_⟩⟩, ⟨rfl, rfl, rfl, by simp, fun k _ hk => setRow_other w g k _ (fun e => hk (by simp [Value.ownBlock, e]))⟩, .inl rfl⟩
      · simp only [List.size_toArray, List.length_append, List.length_take, List.length_drop, Array.length_toList, strCells_length]
        omega
      · have ht' : cur.toList.take n = xs := by simpa using htake
        rw [ht', ← hlen]
        exact List.take_left
    · have holds : ∀ j u, xs[j]? = some u → w.cell? ((⟨g, 0, none⟩ : Addr).add j) = some u := hown.cells (g := g) rfl
      have hr := run_append_grow_string (P := P) w t u ty e i (.int .u8 0) ht hu hi hz ⟨g, 0, none⟩ n cap xs (by rw [hsize]; simpa using hxl) holds s (by omega) (by omega) (by rw [hby]; exact growslice_fits (by omega) (by omega))
      have hgr := grown cap (by omega) (Value.ownBlock (.slice (some ⟨g, 0, none⟩) n cap))
      exact ⟨_, _, hr, hgr.1, hgr.2, .inr rfl⟩

end

def sb (s : ByteArray) : List UInt8 := s.data.toList
theorem sb_length (s : ByteArray) : (sb s).length = s.size := by simp [sb]
theorem bv_sb (s : ByteArray) : bv (sb s) = strCells s := rfl

theorem step_appS (w : World) {ops : Array Oper} {o : Oper} {a : Act} {K : Act → World → Prop} {Q' : Exit → Act → World → Prop} {E : Prop} (hgd : o.guard = none) (sl x : Operand)
    (ho : o.op = .call { callee := .builtin .append, args := #[sl, x], argTypes := #[22, 9] })
    (v : Value) (L : List UInt8) (hs : a.eval sl = v) (hown : Bytes w v L) (s : ByteArray) (hx : a.eval x = .string s) (hl : L.length + (sb s).length ≤ Lim)
    (h : ∀ v' w', Bytes w' v' (L ++ sb s) → w.grownBy w' v.ownBlock → (v'.ownBlock = v.ownBlock ∨ v'.ownBlock = some w.heap.size) → K (a.put o.dst v') w') :
    if Region.wanted o (yielded ops a.tmps) = true then Oper.wp Try.prog o a w K Q' else E := by
  obtain ⟨i0, hi0, hz0, hz1, hz2⟩ := info_parts info5
  unfold Lim at hl
  rw [sb_length] at hl
  have hw : Region.wanted o (yielded ops a.tmps) = true := by simp [Region.wanted, hgd]
  rw [if_pos hw]
  obtain ⟨v', w', hr, h2, h3, h4⟩ := run_appS (P := Try.prog) w 0 22 9 o.type 5 i0 Try.underlying22 Try.underlying9 hi0 hz0 hz1 hz2 v L.length (bv L) hown s (by simp only [maxLen]; omega) (by omega) (Nat.zero_le _)
  unfold Oper.wp execOp
  simp only [ho, resolve, invoke, builtin, Sem.run_bind, Sem.run_pure, Result.andThen_ok, List.map_toArray, List.map_cons, List.map_nil, hs, hx, hr]
  refine h v' w' ?_ h3 h4
  unfold Bytes
  rw [bv_append, List.length_append, sb_length, bv_sb]
  exact h2

theorem wpList_appS (w : World) {ops : Array Oper} {rest : List Oper} {o : Oper} {a : Act} {Q' : Exit → Act → World → Prop} (hgd : o.guard = none) (sl x : Operand)
    (ho : o.op = .call { callee := .builtin .append, args := #[sl, x], argTypes := #[22, 9] })
    (v : Value) (L : List UInt8) (hs : a.eval sl = v) (hown : Bytes w v L) (s : ByteArray) (hx : a.eval x = .string s) (hl : L.length + (sb s).length ≤ Lim)
    (h : ∀ v' w', Bytes w' v' (L ++ sb s) → w.grownBy w' v.ownBlock → (v'.ownBlock = v.ownBlock ∨ v'.ownBlock = some w.heap.size) → wpList Try.prog ops Q' rest (a.put o.dst v') w') : wpList Try.prog ops Q' (o :: rest) a w := by
  refine wpList_plain hgd fun K hK => ?_
  have := step_appS w (ops := ops) (K := K) (Q' := Q') (E := True) hgd sl x ho v L hs hown s hx hl fun v' w' h1 h2 h3 => hK _ _ (h v' w' h1 h2 h3)
  simpa [Region.wanted, hgd] using this
end Go.Proofs.Ytgdibeegheddmaa

namespace Go.Proofs.Ytgdibeegheddmaa
open Go Go.RowKit
attribute [local go_sem ↓] Go.wp_at_zero Go.wp_at_succ

def encS (s : ByteArray) : List UInt8 := enc s.size ++ sb s

theorem SS.lt {w : World} {g : Nat} {v : Value} {L : List UInt8} {rd bad : Bool} (h : SS w g v L rd bad) : g < w.heap.size := blk_lt h.1
theorem SS.fr {Q : Nat → Prop} {w w' : World} {g : Nat} {v : Value} {L : List UInt8} {rd bad : Bool} (h : SS w g v L rd bad) (hf : Fr Q w w') (hg : Q g) (hv : ∀ k, v.ownBlock = some k → Q k) : SS w' g v L rd bad :=
  ⟨(hf.block g hg).trans h.1, h.2.fr hf hv⟩
theorem SS.alloc {w : World} {g : Nat} {v : Value} {L : List UInt8} {rd bad : Bool} (h : SS w g v L rd bad) (o : Obj) : SS (w.alloc o) g v L rd bad :=
  h.fr (Q := fun k => k < w.heap.size) (Fr.alloc (Fr.refl _ _) (fun _ hk => hk) o) h.lt fun _ hk => h.2.lt hk
theorem SS.drew {w : World} {g : Nat} {v : Value} {L : List UInt8} {rd bad : Bool} (h : SS w g v L rd bad) : SS w.drew g v L rd bad := h
/-- A step that only makes a new block. -/
theorem Step.alloc (g : Nat) (w : World) (v : Value) (o : Obj) : Step g w v (w.alloc o) v :=
  ⟨Fr.alloc (Fr.refl _ _) (fun _ hk => hk.1) o, fun _ h => .inl h⟩
/-- A store into a block that is not there yet. -/
theorem Step.set {g : Nat} {a w : World} {va v : Value} (h : Step g a va w v) {p : Addr} (hp : a.heap.size ≤ p.block ∨ p.block = g) (u : Value) : Step g a va (w.setCell p u) v :=
  ⟨Fr.setCell h.fr (fun hq => by rcases hp with hp | hp; have := hq.1; omega; exact hq.2.1 hp) u, h.own⟩

/-- The call of num with its pointers in a new row. -/
theorem num_wv (g : Nat) (v : Value) (L : List UInt8) (bad : Bool) (ps : List (Addr × Int)) {w : World} {H n : Nat} {row : Array Value}
    (hH : w.heap.size = H) (hn : ps.length = n) (hrow : (ps.map fun p => Value.pointer (some p.1)).toArray = row) (hs : SS w g v L false bad)
    (hp : ∀ p ∈ ps, Oth w g v p.1.block ∧ w.cell? p.1 = some (.int .i64 p.2) ∧ intBd p.2)
    (hL : L.length + (ps.flatMap fun p => enc p.2).length ≤ Lim) (hm : ps.length ≤ 1000) :
    Calls Try.prog 33 #[.pointer (some ⟨g, 0, none⟩), .slice (some ⟨H, 0, none⟩) n n] (w.alloc (.cells row 83)) fun e w' => e = .returned (.tuple #[]) ∧
      ∃ v', SS w' g v' (L ++ ps.flatMap fun p => enc p.2) false bad ∧ Step g w v w' v' := by
  subst hH hn hrow
  have hst := Step.alloc g w v (.cells (ps.map fun p => Value.pointer (some p.1)).toArray 83)
  refine (num_w g v L bad ps (some ⟨w.heap.size, 0, none⟩) ps.length _ (fun k => Oth w g v k ∨ k = w.heap.size) (hs.alloc _) ?_ ?_ ?_ hL hm).mono ?_
  · rintro k (hk | rfl)
    · exact hst.oth hk
    · exact ⟨by simp, by have := hs.lt; omega, fun e => by have := hs.2.lt e; omega⟩
  · refine ⟨by simp, fun _ => ⟨_, rfl, .inr rfl, fun j u hu => ?_⟩⟩
    have ha : (⟨w.heap.size, 0, none⟩ : Addr).add j = ⟨w.heap.size, j, none⟩ := by unfold Addr.add; split <;> simp_all
    rw [ha, blk_cell (heap_alloc_new w _) j, blk_frozen (heap_alloc_new w _) j]
    exact ⟨by simpa using hu, rfl⟩
  · intro p hpm
    obtain ⟨h1, h2, h3⟩ := hp p hpm
    exact ⟨.inl h1, (hst.fr.cell h1).trans h2, h3⟩
  · rintro e w' ⟨he, v', hs', hst'⟩
    exact ⟨he, v', hs', hst.trans hst'⟩

set_option maxHeartbeats 400000 in
theorem text_w (g : Nat) (v : Value) (L : List UInt8) (bad : Bool) (t : Addr) (s : ByteArray) (w : World)
    (hs : SS w g v L false bad) (hqt : Oth w g v t.block) (hc : w.cell? t = some (.string s))
    (hL : L.length + (encS s).length ≤ Lim) :
    Calls Try.prog 63 #[.pointer (some ⟨g, 0, none⟩), .pointer (some t)] w fun e w' => e = .returned (.tuple #[]) ∧
      ∃ v', SS w' g v' (L ++ encS s) false bad ∧ Step g w v w' v' := by
  have hL2 : L.length + ((enc s.size).length + (sb s).length) ≤ Lim := by simpa [encS] using hL
  have hsz : (s.size : Int) ≤ 1000000000000 := by have := sb_length s; unfold Lim at hL2; omega
  have HL := Lib.hid hL2
  clear hL hL2
  have hst0 := Step.alloc g w v (.cells #[.int .i64 (s.size : Int)] 3)
  go_enter Try.func63, Try.ntmps63
  go_wp2_with fail
  have hn1 := hs.lt
  refine (num_wv g v L bad [(⟨w.heap.size, 0, none⟩, (s.size : Int))] (by simp) (by rfl) (by rfl) (hs.alloc _) ?_ ?_ ?_).mono ?_
  · simp only [List.mem_singleton, forall_eq]
    exact ⟨⟨by simp, by omega, fun e => by have := hs.2.lt e; omega⟩, by simp [World.cell?_alloc_new], by unfold intBd; omega⟩
  · simp only [List.flatMap_cons, List.flatMap_nil, List.append_nil]; have := HL.out; omega
  · simp
  rintro e w1 ⟨rfl, v1, hs1, hst1⟩
  simp only [List.flatMap_cons, List.flatMap_nil, List.append_nil] at hs1
  have hst := hst0.trans hst1
  have hb0 := blk_cell hs1.1 0
  have hb1 := blk_cell hs1.1 1
  have hct : w1.cell? t = some (.string s) := (hst.fr.cell hqt).trans hc
  go_wp2_with fail
  have hgt : t ≠ ⟨g, 0, none⟩ := fun e => hqt.2.1 (by rw [e])
  have hqt1 := hst.oth hqt
  go_region_law (refine step_appS _ (by rfl) _ _ (by rfl) v1 (L ++ enc s.size) (by rfl) (by exact Bytes.drew hs1.2) s (by rfl) (by have := HL.out; rw [List.length_append]; omega) ?_; intro v2 w2 hby2 hg2 hat2; obtain ⟨A2, n2, c2, rfl⟩ := hby2.shape; have hG2 := (hg2.block g hs1.lt (Ne.symm hs1.ne)).trans hs1.1; have hc2 := blk_cell hG2 0; have hf2 := blk_frozen hG2 0)
  all_goals
    go_wp2_with fail
    refine bodyPost_ret (results_none rfl _ _ _) rfl ⟨rfl, .slice A2 n2 c2, ?_, hst.trans ⟨?_, fun i hi => ?_⟩⟩
    · rw [show L ++ encS s = L ++ enc s.size ++ sb s from by rw [encS, List.append_assoc]]
      exact ⟨by simp [World.setCell, Array.getElem?_modify, hG2], hby2.set81 hG2 (by decide) 0 _⟩
    · exact Fr.setCell (Fr.ofDrew (Fr.grown (Fr.refl _ _) hg2 (fun _ (h : Oth w1 g v1 _) => h.1) fun i hi (h : Oth w1 g v1 i) => h.2.2 hi)) (fun (h : Oth w1 g v1 g) => h.2.1 rfl) _
    · rcases hat2 with e | e
      · exact .inl (by rw [← e]; exact hi)
      · rw [e] at hi
        injection hi with hi
        exact .inr (by rw [← hi]; exact Nat.le_refl _)
end Go.Proofs.Ytgdibeegheddmaa

namespace Go.Proofs.Ytgdibeegheddmaa
open Go Go.RowKit
attribute [local go_sem ↓] Go.wp_at_zero Go.wp_at_succ

theorem set_same {w : World} {a : Addr} {u : Value} (h : w.cell? a = some u) : w.setCell a u = w := by
  have hs : a.spot = none := World.cell?_spot h
  have key : (w.setCell a u).heap = w.heap := by
    unfold World.setCell
    apply Array.ext
    · simp
    · intro i h1 h2
      simp only [Array.getElem_modify]
      split
      · rename_i hi
        subst hi
        have hb : w.heap[a.block]? = some w.heap[a.block] := Array.getElem?_eq_getElem h2
        unfold World.cell? at h
        rw [hb] at h
        cases hc : w.heap[a.block] with
        | cells c e f =>
          rw [hc] at h
          simp only [hs] at h
          simp only [hs]
          simp at h ⊢
          apply Array.ext
          · simp
          · intro j j1 j2
            by_cases hj : a.off = j
            · subst hj
              rw [Array.getElem?_eq_getElem j2] at h
              rw [Array.getElem_setIfInBounds_self]
              injection h with h
              exact h.symm
            · rw [Array.getElem_setIfInBounds_ne _ hj]
        | _ => simp
      · rfl
  have e : w.setCell a u = { w with heap := (w.setCell a u).heap } := rfl
  rw [e, key]


theorem oth_new {w : World} {g : Nat} {v : Value} {L : List UInt8} {rd bad : Bool} (hs : SS w g v L rd bad) (o : Obj) : Oth (w.alloc o) g v w.heap.size :=
  ⟨by simp, fun e => by have := hs.lt; omega, fun e => by have := hs.2.lt e; omega⟩

theorem num_wv1 (g : Nat) (v : Value) (L : List UInt8) (bad : Bool) (n : Int) {w W : World} {H : Nat} (a : Addr) (hH : W.heap.size = H) 
    (hst : Step g w v W v) (ha : Oth W g v a.block) (hc : W.cell? a = some (.int .i64 n)) (hbd : intBd n) (hL : L.length + (enc n).length ≤ Lim) (hsW : SS W g v L false bad) :
    Calls Try.prog 33 #[.pointer (some ⟨g, 0, none⟩), .slice (some ⟨H, 0, none⟩) 1 1] (W.alloc (.cells #[.pointer (some a)] 83)) fun e w' => e = .returned (.tuple #[]) ∧
      ∃ v', SS w' g v' (L ++ enc n) false bad ∧ Step g w v w' v' ∧ Step g W v w' v' := by
  refine (num_wv g v L bad [(a, n)] hH (by rfl) (by rfl) hsW ?_ ?_ ?_).mono ?_
  · simp only [List.mem_singleton, forall_eq]
    exact ⟨ha, hc, hbd⟩
  · simpa using hL
  · simp
  rintro e w' ⟨rfl, v', h1, h2⟩
  simp only [List.flatMap_cons, List.flatMap_nil, List.append_nil] at h1
  exact ⟨rfl, v', h1, hst.trans h2, h2⟩

set_option maxHeartbeats 400000 in
theorem flag_w (g : Nat) (v : Value) (L : List UInt8) (bad : Bool) (t : Addr) (b : Bool) (w : World)
    (hs : SS w g v L false bad) (hqt : Oth w g v t.block) (hc : w.cell? t = some (.bool b)) (hf : w.frozen? t = false)
    (hL : L.length + (enc (if b then 1 else 0)).length ≤ Lim) :
    Calls Try.prog 89 #[.pointer (some ⟨g, 0, none⟩), .pointer (some t)] w fun e w' => e = .returned (.tuple #[]) ∧
      ∃ v', SS w' g v' (L ++ enc (if b then 1 else 0)) false bad ∧ Step g w v w' v' := by
  have hgl := hs.lt
  have htl := hqt.1
  have HL := Lib.hid hL
  clear hL
  cases b
  · have hst0 := Step.alloc g w v (.cells #[.int .i64 0] 3)
    have hs0 := hs.alloc (.cells #[.int .i64 0] 3)
    have hc0 : (w.alloc (.cells #[.int .i64 0] 3)).cell? t = some (.bool false) := (hst0.fr.cell hqt).trans hc
    go_enter Try.func89, Try.ntmps89
    go_wp2_with fail
    refine (num_wv1 g v L bad 0 _ (by simp) hst0 (oth_new hs _) (by simp [World.cell?_alloc_new]) (by unfold intBd; omega) (by simpa using HL.out) hs0).mono ?_
    rintro e w1 ⟨rfl, v1, hs1, hst1, hstW⟩
    have hn : w1.cell? ⟨w.heap.size, 0, none⟩ = some (.int .i64 0) := (hstW.fr.cell (p := ⟨w.heap.size, 0, none⟩) (oth_new hs _)).trans (by simp [World.cell?_alloc_new])
    have hct : w1.cell? t = some (.bool false) := (hst1.fr.cell hqt).trans hc
    have hft : w1.frozen? t = false := (hst1.fr.frozen hqt).trans hf
    go_wp2_with fail
    go_end0
    refine ⟨rfl, v1, ?_, ?_⟩
    · rw [set_same hct]; exact hs1
    · rw [set_same hct]; exact hst1
  · have hst0 := Step.alloc g w v (.cells #[.int .i64 1] 3)
    have hs0 := hs.alloc (.cells #[.int .i64 1] 3)
    have hc0 : (w.alloc (.cells #[.int .i64 1] 3)).cell? t = some (.bool true) := (hst0.fr.cell hqt).trans hc
    go_enter Try.func89, Try.ntmps89
    go_wp2_with fail
    refine (num_wv1 g v L bad 1 _ (by simp) hst0 (oth_new hs _) (by simp [World.cell?_alloc_new]) (by unfold intBd; omega) (by simpa using HL.out) hs0).mono ?_
    rintro e w1 ⟨rfl, v1, hs1, hst1, hstW⟩
    have hn : w1.cell? ⟨w.heap.size, 0, none⟩ = some (.int .i64 1) := (hstW.fr.cell (p := ⟨w.heap.size, 0, none⟩) (oth_new hs _)).trans (by simp [World.cell?_alloc_new])
    have hct : w1.cell? t = some (.bool true) := (hst1.fr.cell hqt).trans hc
    have hft : w1.frozen? t = false := (hst1.fr.frozen hqt).trans hf
    go_wp2_with fail
    go_end0
    refine ⟨rfl, v1, ?_, ?_⟩
    · rw [set_same hct]; exact hs1
    · rw [set_same hct]; exact hst1
end Go.Proofs.Ytgdibeegheddmaa
