/- codec.ParseBooks. Written by gen_p1.py. (joined: P1ParseBooks, Q1CutLaws) -/
import Derived.Test.YtgdibeegheddmaaYL8Books
import Derived.Test.YtgdibeegheddmaaYHX
import Derived.Test.YtgdibeegheddmaaYK5Books
import Derived.Test.YtgdibeegheddmaaYIa
import Derived.Test.YtgdibeegheddmaaYK3RefBooks
namespace Go.Proofs.Ytgdibeegheddmaa
open Go Go.RowKit
set_option linter.unusedVariables false
set_option linter.unusedSimpArgs false
attribute [local go_sem ↓] Go.wp_at_zero Go.wp_at_succ
/-- What a parser hands back: the cells of what is parsed, or zero cells and an error. -/
def PPost {α : Type} (C : World → (Nat → Prop) → List Value → α → Prop) (z : α) (w : World) (r : Option α) (e : Ending) (w' : World) : Prop :=
  ∃ (cs : List Value) (x : α) (n : Int), e = .returned (.tuple #[.agg cs.toArray, .int .i64 n]) ∧ C w' (Nw w w') cs x ∧ Below w.heap.size w w' ∧ ((∃ y, r = some y ∧ n = 0 ∧ x = y) ∨ (r = none ∧ n = 4 ∧ x = z))
theorem results_cell_tmp {P : Program} {fn : Func} {p t : Tmp} {ty : TypeId} (h : fn.results = #[.cell p ty, .tmp t]) (tmps : Array Value) (w : World) (g : Nat) (T : TypeId) (cs : Array Value) (fr : Nat × Nat) (d : TypeDesc)
    (hp : tmps.getD p undef = .pointer (some ⟨g, 0, none⟩)) (hg : w.heap[g]? = some (.cells cs T fr))
    (hu : P.underlying ty = some d) (hd : (match d with | .struct _ | .array _ _ => true | _ => false) = true) (hi : (P.info? ty).map (·.size) = some cs.size) (v : Value) (hv : tmps.getD t undef = v) :
    (results fn tmps).run P w = .ok (.tuple #[.agg cs, v]) w := by
  subst hv
  have hp' : tmps[p]?.getD undef = .pointer (some ⟨g, 0, none⟩) := by simpa using hp
  simp [results, h, hp', asAddr, run_loadVar_row w g T ty cs fr d hg hu hd hi]
def parseBks (b : List UInt8) : Option XBooks := if 8388608 < b.length then none else match cBooks.dec b with
  | some (x, []) => some x
  | _ => none
theorem parseBks_some {b : List UInt8} {x : XBooks} (h : parseBks b = some x) : b = encBooks x ∧ b.length ≤ 8388608 ∧ cBooks.ok x := by
  unfold parseBks at h
  split at h
  · cases h
  · rename_i hl
    split at h
    · rename_i y hy
      injection h with h
      subst h
      obtain ⟨h1, h2⟩ := cBooks.bwd _ _ _ hy
      rw [List.append_nil] at h1
      exact ⟨h1, by omega, h2⟩
    · cases h
theorem parseBks_enc {x : XBooks} (hok : cBooks.ok x) (hl : (encBooks x).length ≤ 8388608) : parseBks (encBooks x) = some x := by
  unfold parseBks
  rw [if_neg (by omega)]
  have h := cBooks.fwd x [] hok
  rw [List.append_nil] at h
  have h' : cBooks.dec (encBooks x) = some (x, []) := h
  rw [h']
def zBk : List Value := [.string ⟨#[]⟩, .int .i64 0, .int .i64 0, .int .i64 0, .slice none 0 0, .int .i64 0, .int .i64 0, .int .i64 0, .int .i64 0, .int .i64 0, .int .i64 0, .int .i64 0, .int .i64 0, .int .i64 0, .int .i64 0, .int .i64 0, .int .i64 0, .int .i64 0, .int .i64 0, .int .i64 0, .slice none 0 0, .slice none 0 0, .slice none 0 0, .slice none 0 0, .slice none 0 0, .slice none 0 0, .string ⟨#[]⟩]
theorem zBkC (w : World) (Q : Nat → Prop) : BooksC w Q zBk {} := ⟨[.string ⟨#[]⟩, .int .i64 0, .int .i64 0, .int .i64 0, .slice none 0 0, .int .i64 0, .int .i64 0, .int .i64 0, .int .i64 0, .int .i64 0, .int .i64 0, .int .i64 0, .int .i64 0, .int .i64 0, .int .i64 0, .int .i64 0, .int .i64 0, .int .i64 0, .int .i64 0, .int .i64 0, .slice none 0 0], _, _, _, _, _, _, rfl, ⟨_, [.int .i64 0, .int .i64 0, .int .i64 0], _, [.int .i64 0, .int .i64 0, .int .i64 0, .int .i64 0, .int .i64 0, .int .i64 0, .int .i64 0, .int .i64 0, .int .i64 0, .int .i64 0, .int .i64 0, .int .i64 0, .int .i64 0, .int .i64 0, .int .i64 0], _, rfl, rfl, ⟨_, _, _, rfl, intC0 0 bd0, intC0 0 bd0, intC0 0 bd0⟩, listC0 _ _ _ _, ⟨_, _, _, _, _, _, _, _, _, _, _, _, _, _, _, rfl, intC0 0 bd0, intC0 0 bd0, intC0 0 bd0, intC0 0 bd0, intC0 0 bd0, intC0 0 bd0, intC0 0 bd0, intC0 0 bd0, intC0 0 bd0, intC0 0 bd0, intC0 0 bd0, intC0 0 bd0, intC0 0 bd0, intC0 0 bd0, intC0 0 bd0⟩, listC0 _ _ _ _⟩, listC0 _ _ _ _, listC0 _ _ _ _, listC0 _ _ _ _, listC0 _ _ _ _, listC0 _ _ _ _, rfl⟩
theorem ListC.one1 {α : Type} {El : World → (Nat → Prop) → List Value → α → Prop} {size : Nat} {w : World} {Q : Nat → Prop} {cs : List Value} {xs : List α} (h : ListC El size w Q cs xs) : cs.all (·.oneCell') = true := by
  obtain ⟨_, _, e, _⟩ := h
  rw [e]; rfl
theorem IntC.one1 {cs : List Value} {n : Int} (h : IntC cs n) : cs.all (·.oneCell') = true := by rw [h.1]; rfl
theorem StrC.one1 {cs : List Value} {s : ByteArray} (h : StrC cs s) : cs.all (·.oneCell') = true := by
  have e : cs = _ := h
  rw [e]; rfl
theorem CalC.one1 {w : World} {Q : Nat → Prop} {cs : List Value} {x : XCal} (h : CalC w Q cs x) : cs.all (·.oneCell') = true := by
  obtain ⟨_, _, _, e, h0, h1, h2⟩ := h
  rw [e]
  simp only [List.all_append, h0.one1, h1.one1, h2.one1, Bool.and_true]
theorem RolesC.one1 {w : World} {Q : Nat → Prop} {cs : List Value} {x : XRoles} (h : RolesC w Q cs x) : cs.all (·.oneCell') = true := by
  obtain ⟨_, _, _, _, _, _, _, _, _, _, _, _, _, _, _, e, h0, h1, h2, h3, h4, h5, h6, h7, h8, h9, h10, h11, h12, h13, h14⟩ := h
  rw [e]
  simp only [List.all_append, h0.one1, h1.one1, h2.one1, h3.one1, h4.one1, h5.one1, h6.one1, h7.one1, h8.one1, h9.one1, h10.one1, h11.one1, h12.one1, h13.one1, h14.one1, Bool.and_true]
theorem GroupC.one1 {w : World} {Q : Nat → Prop} {cs : List Value} {x : XGroup} (h : GroupC w Q cs x) : cs.all (·.oneCell') = true := by
  obtain ⟨_, _, _, _, _, e, h0, h1, h2, h3, h4⟩ := h
  rw [e]
  simp only [List.all_append, h0.one1, h1.one1, h2.one1, h3.one1, h4.one1, Bool.and_true]
theorem BooksC.one {w : World} {Q : Nat → Prop} {cs : List Value} {x : XBooks} (h : BooksC w Q cs x) : cs.toArray.all (·.oneCell') = true := by
  obtain ⟨_, _, _, _, _, _, _, e, h0, h1, h2, h3, h4, h5, h6⟩ := h
  rw [e]
  simp only [List.all_toArray, List.all_append, h0.one1, h1.one1, h2.one1, h3.one1, h4.one1, h5.one1, h6.one1, Bool.and_true]
theorem zszB : (Try.prog.info? 67).map (·.size) = some zBk.toArray.size := by rw [info67]; rfl
theorem zoneB : zBk.toArray.all (·.oneCell') = true := (zBkC (World.settled Try.prog default) (fun _ => True)).one
set_option maxHeartbeats 8000000 in
set_option maxRecDepth 100000 in
theorem parseBooks_c (A : Option Addr) (c : Nat) (L : List UInt8) (w : World) (h : Rd w (· < w.heap.size) A L.length 1 (bv L)) (hc : L.length ≤ c) (hl : L.length ≤ 100000000) :
    Calls Try.prog 30 #[.slice A L.length c] w (PPost BooksC {} w (parseBks L)) := by
  have HL := Lib.hid h
  obtain ⟨rr, hrr⟩ : ∃ rr, rr = parseBks L := ⟨_, rfl⟩
  rw [← hrr]
  have HRR := Lib.hid hrr
  clear h hrr
  go_enter Try.func30, Try.ntmps30
  go_upto_region 3 with fail
  have h3 := heap3 w (.cells #[.string ⟨#[]⟩, .int .i64 0, .int .i64 0, .int .i64 0, .slice none 0 0, .int .i64 0, .int .i64 0, .int .i64 0, .int .i64 0, .int .i64 0, .int .i64 0, .int .i64 0, .int .i64 0, .int .i64 0, .int .i64 0, .int .i64 0, .int .i64 0, .int .i64 0, .int .i64 0, .int .i64 0, .slice none 0 0, .slice none 0 0, .slice none 0 0, .slice none 0 0, .slice none 0 0, .slice none 0 0, .string ⟨#[]⟩] 67) (.cells #[.slice A L.length c, .bool true, .bool false] 81) (.cells #[.string ⟨#[]⟩, .int .i64 0, .int .i64 0, .int .i64 0, .slice none 0 0, .int .i64 0, .int .i64 0, .int .i64 0, .int .i64 0, .int .i64 0, .int .i64 0, .int .i64 0, .int .i64 0, .int .i64 0, .int .i64 0, .int .i64 0, .int .i64 0, .int .i64 0, .int .i64 0, .int .i64 0, .slice none 0 0, .slice none 0 0, .slice none 0 0, .slice none 0 0, .slice none 0 0, .slice none 0 0, .string ⟨#[]⟩] 67)
  generalize hW : ((w.alloc (.cells #[.string ⟨#[]⟩, .int .i64 0, .int .i64 0, .int .i64 0, .slice none 0 0, .int .i64 0, .int .i64 0, .int .i64 0, .int .i64 0, .int .i64 0, .int .i64 0, .int .i64 0, .int .i64 0, .int .i64 0, .int .i64 0, .int .i64 0, .int .i64 0, .int .i64 0, .int .i64 0, .int .i64 0, .slice none 0 0, .slice none 0 0, .slice none 0 0, .slice none 0 0, .slice none 0 0, .slice none 0 0, .string ⟨#[]⟩] 67)).alloc (.cells #[.slice A L.length c, .bool true, .bool false] 81)).alloc (.cells #[.string ⟨#[]⟩, .int .i64 0, .int .i64 0, .int .i64 0, .slice none 0 0, .int .i64 0, .int .i64 0, .int .i64 0, .int .i64 0, .int .i64 0, .int .i64 0, .int .i64 0, .int .i64 0, .int .i64 0, .int .i64 0, .int .i64 0, .int .i64 0, .int .i64 0, .int .i64 0, .int .i64 0, .slice none 0 0, .slice none 0 0, .slice none 0 0, .slice none 0 0, .slice none 0 0, .slice none 0 0, .string ⟨#[]⟩] 67) = W at *
  obtain ⟨H0, H1, H2, HS, HF⟩ := h3
  clear hW
  have hbW : Below w.heap.size w W := HF.below
  have hR0 : RS W (w.heap.size + 1) (some L) := ⟨A, c, L, false, H1, (HL.out.fr HF).mono (fun k hk => by omega), hc, by omega, rfl, rfl⟩
  have HT0 : W.heap[w.heap.size + 2]? = some (.cells ([] ++ zBk ++ []).toArray 67 (0, 0)) := H2
  have hW2 : w.heap.size + 3 = W.heap.size := by omega
  have HRES := Lib.hid H0
  have HRS0 := Lib.hid hR0
  have HTT0 := Lib.hid HT0
  have HWS := Lib.hid hW2
  have hWlt : w.heap.size + 2 < W.heap.size := by omega
  clear H0 H1 H2 HS HF hR0 HT0 hW2
  by_cases hbig : 8388608 < L.length
  · have hbigI : (8388608 : Int) < (L.length : Int) := by omega
    have hbigL : ¬ (L.length : Int) ≤ (8388608 : Int) := by omega
    have HN := Lib.hid (show rr = none by rw [HRR.out]; unfold parseBks; rw [if_pos hbig])
    clear hbig
    go_wp2_with (refine wpList_store_row rfl 67 (.tmp 2) (.tmp 31) rfl w.heap.size zBk.toArray rfl rfl 67 _ HRES.out zszB rfl zoneB ?_)
    have hfr := fr_setRow W w.heap.size zBk.toArray
    (try simp only [Exit.inBlock, Exit.then])
    refine bodyPost_ret (v := .tuple #[.agg zBk.toArray, .int .i64 4]) (results_cell_tmp rfl _ _ w.heap.size 67 _ (0, 0) _ rfl (heap_setRow HRES.out _) Try.underlying67 rfl zszB _ rfl) rfl ⟨zBk, {}, 4, rfl, zBkC _ _, (Fr.trans (Fr.ofBelow hbW) (hfr.mono (fun i hi => by omega))).below, .inr ⟨HN.out, rfl, rfl⟩⟩
  · have hbigI : ¬ (8388608 : Int) < (L.length : Int) := by omega
    have hbigL : (L.length : Int) ≤ (8388608 : Int) := by omega
    have HPE := Lib.hid (show rr = match cBooks.dec L with | some (x, []) => some x | _ => none by rw [HRR.out]; unfold parseBks; rw [if_neg hbig])
    clear hbig
    go_wp2_with fail
    refine (Books_r (w.heap.size + 1) (w.heap.size + 2) 0 [] [] 67 (some L) W HRS0.out (by omega) rfl HTT0.out).mono ?_
    rintro e V ⟨rfl, cs, x, hC, hv, hT, hR, hf⟩
    have HC := Lib.hid hC
    have HV := Lib.hid hv
    have HT : Hid (V.heap[w.heap.size + 2]? = some (.cells cs.toArray 67 (0, 0))) := Lib.hid (by rw [hT]; simp)
    have HRES := Lib.hid ((hf.block w.heap.size ⟨by omega, by omega, by omega⟩).trans HRES.out)
    have hbV : Below w.heap.size w V := hbW.trans ((hf.mono (fun i hi => ⟨by omega, by omega, by omega⟩)).below)
    have hVs : W.heap.size ≤ V.heap.size := hf.size
    clear hC hv hT hf HRS0 HTT0
    obtain ⟨A3, c3, L3, bad3, hG3, hrd3, hLc3, hLL3, hst3⟩ := hR.open
    have c2 := blk_cell hG3 2
    have c0 := blk_cell hG3 0
    clear hG3 hrd3 hR
    cases hs3 : cBooks.st (some L) with
    | none =>
      have hb := hst3.1 hs3
      subst hb
      have HN := Lib.hid (show rr = none by
        have h' : Option.map (·.2) (cBooks.dec L) = none := hs3
        rw [Option.map_eq_none_iff] at h'
        rw [HPE.out, h'])
      clear hs3 hst3
      go_wp2_with (refine wpList_store_row rfl 67 (.tmp 2) (.tmp 31) rfl w.heap.size zBk.toArray rfl rfl 67 _ HRES.out zszB rfl zoneB ?_)
      have hfr := fr_setRow V w.heap.size zBk.toArray
      (try simp only [Exit.inBlock, Exit.then])
      refine bodyPost_ret (v := .tuple #[.agg zBk.toArray, .int .i64 4]) (results_cell_tmp rfl _ _ w.heap.size 67 _ (0, 0) _ rfl (heap_setRow HRES.out _) Try.underlying67 rfl zszB _ rfl) rfl ⟨zBk, {}, 4, rfl, zBkC _ _, (Fr.trans (Fr.ofBelow hbV) (hfr.mono (fun i hi => by omega))).below, .inr ⟨HN.out, rfl, rfl⟩⟩
    | some r =>
      obtain ⟨hb, hr⟩ := hst3.2 r hs3
      subst hb hr
      have HDF := Lib.hid (show cBooks.dec L = some (x, r) by
        have h' : Option.map (·.2) (cBooks.dec L) = some r := hs3
        rw [Option.map_eq_some_iff] at h'
        obtain ⟨p, hp, rfl⟩ := h'
        have := HV.out p hp
        rw [hp, ← this])
      clear hs3 hst3
      by_cases hr0 : 0 < r.length
      · have hr0I : (0 : Int) < (r.length : Int) := by omega
        have HN := Lib.hid (show rr = none by
          rw [HPE.out, HDF.out]
          cases r with
          | nil => exact absurd hr0 (by simp)
          | cons a r => rfl)
        clear hr0
        go_wp2_with (refine wpList_store_row rfl 67 (.tmp 2) (.tmp 31) rfl w.heap.size zBk.toArray rfl rfl 67 _ HRES.out zszB rfl zoneB ?_)
        have hfr := fr_setRow V w.heap.size zBk.toArray
        (try simp only [Exit.inBlock, Exit.then])
        refine bodyPost_ret (v := .tuple #[.agg zBk.toArray, .int .i64 4]) (results_cell_tmp rfl _ _ w.heap.size 67 _ (0, 0) _ rfl (heap_setRow HRES.out _) Try.underlying67 rfl zszB _ rfl) rfl ⟨zBk, {}, 4, rfl, zBkC _ _, (Fr.trans (Fr.ofBelow hbV) (hfr.mono (fun i hi => by omega))).below, .inr ⟨HN.out, rfl, rfl⟩⟩
      · have hr0I : ¬ (0 : Int) < (r.length : Int) := by omega
        have HY := Lib.hid (show rr = some x by
          rw [HPE.out, HDF.out]
          cases r with
          | nil => rfl
          | cons a r => exact absurd (Nat.zero_lt_succ _) hr0)
        have HCS := Lib.hid (size67 HC.out.len)
        have HSZ := Lib.hid (show zBk.toArray.size = cs.toArray.size by rw [List.size_toArray, List.size_toArray, HC.out.len]; rfl)
        have HONE := Lib.hid HC.out.one
        clear hr0
        go_wp2_with (first | refine wpList_load_row rfl 67 (.tmp 5) rfl (w.heap.size + 2) rfl 67 cs.toArray (0, 0) _ HT.out Try.underlying67 rfl HCS.out ?_ | refine wpList_store_row rfl 67 (.tmp 2) (.tmp 32) rfl w.heap.size cs.toArray rfl rfl 67 _ HRES.out HCS.out HSZ.out HONE.out ?_)
        have hfr := fr_setRow V w.heap.size cs.toArray
        (try simp only [Exit.inBlock, Exit.then])
        refine bodyPost_ret (v := .tuple #[.agg cs.toArray, .int .i64 0]) (results_cell_tmp rfl _ _ w.heap.size 67 _ (0, 0) _ rfl (heap_setRow HRES.out _) Try.underlying67 rfl HCS.out _ rfl) rfl ⟨cs, x, 0, rfl, ?_, (Fr.trans (Fr.ofBelow hbV) (hfr.mono (fun i hi => by omega))).below, .inl ⟨x, HY.out, rfl, rfl⟩⟩
        exact BooksC.mono (BooksC.fr HC.out (hfr.mono (fun i hi => by have := hi.1; omega))) (fun i hi => ⟨by have := hi.1; omega, by have := hi.2; have := hfr.size; omega⟩)
end Go.Proofs.Ytgdibeegheddmaa

namespace Go.Proofs.Ytgdibeegheddmaa
open Go Go.RowKit
theorem AccountC.ok {w : World} {Q : Nat → Prop} {cs : List Value} {x : XAccount} (h : AccountC w Q cs x) : cAccount.ok x := by
  obtain ⟨_, _, _, _, _, ⟨_, b0⟩, ⟨_, b1⟩, ⟨_, b2⟩, ⟨_, b3⟩⟩ := h
  exact ⟨b0, b1, b2, b3⟩
theorem LinkC.ok {w : World} {Q : Nat → Prop} {cs : List Value} {x : XLink} (h : LinkC w Q cs x) : cLink.ok x := by
  obtain ⟨_, _, _, _, ⟨_, b0⟩, ⟨_, b1⟩, ⟨_, b2⟩⟩ := h
  exact ⟨b0, b1, b2⟩
theorem ListC.all' {α : Type} {El : World → (Nat → Prop) → List Value → α → Prop} {size : Nat} {w : World} {Q : Nat → Prop} {cs : List Value} {xs : List α} {c : Cod α} (h : ListC El size w Q cs xs) (hE : ∀ es x, x ∈ xs → El w Q es x → c.ok x) : (cList c).ok xs := by
  refine ⟨h.bd, fun x hx => ?_⟩
  obtain ⟨A, c, _, _, _, h3⟩ := h
  obtain ⟨b, o, _, _, hi⟩ := h3 (List.length_pos_of_mem hx)
  obtain ⟨i, hi2, rfl⟩ := List.mem_iff_getElem.1 hx
  obtain ⟨es, he, _⟩ := hi i _ (List.getElem?_eq_getElem hi2)
  exact hE es _ hx he
theorem EntityC.ok {w : World} {Q : Nat → Prop} {cs : List Value} {x : XEntity} (h : EntityC w Q cs x) (h1 : x.name.size ≤ 9223372036854775807) (h2 : x.currency.size ≤ 9223372036854775807) : cEntity.ok x := by
  obtain ⟨_, _, _, _, _, _, _, _, h3, h4, _⟩ := h
  exact ⟨intBd_nat h1, intBd_nat h2, h3.all fun _ _ h => AccountC.ok h, h4.all fun _ _ h => LinkC.ok h, trivial⟩
theorem GroupC.ok {w : World} {Q : Nat → Prop} {cs : List Value} {x : XGroup} (h : GroupC w Q cs x) (hf : FewGrp x) : cGroup.ok x := by
  obtain ⟨_, _, _, _, _, _, _, ⟨_, _, _, _, ⟨_, a0⟩, ⟨_, a1⟩, ⟨_, a2⟩⟩, h2, ⟨_, _, _, _, _, _, _, _, _, _, _, _, _, _, _, _, ⟨_, r0⟩, ⟨_, r1⟩, ⟨_, r2⟩, ⟨_, r3⟩, ⟨_, r4⟩, ⟨_, r5⟩, ⟨_, r6⟩, ⟨_, r7⟩, ⟨_, r8⟩, ⟨_, r9⟩, ⟨_, r10⟩, ⟨_, r11⟩, ⟨_, r12⟩, ⟨_, r13⟩, ⟨_, r14⟩⟩, h4⟩ := h
  have c := hf.cur
  exact ⟨intBd_nat (show x.currency.size ≤ _ by omega), ⟨a0, a1, a2⟩, h2.all fun _ _ h => AccountC.ok h, ⟨r0, r1, r2, r3, r4, r5, r6, r7, r8, r9, r10, r11, r12, r13, r14⟩, h4.all' fun _ y hy h => by
    have e := hf.each y hy
    have e1 := e.name
    have e2 := e.cur
    exact EntityC.ok h (by omega) (by omega)⟩
theorem BooksC.ok {w : World} {Q : Nat → Prop} {cs : List Value} {x : XBooks} (h : BooksC w Q cs x) (hf : FewBks x) : cBooks.ok x := by
  obtain ⟨_, _, _, _, _, _, _, _, h0, h1, h2, h3, h4, h5, _⟩ := h
  have c := hf.rules
  exact ⟨h0.ok hf.group, h1.all' fun _ y hy h => EntryC.ok h (by have := hf.eachE y hy; omega), h2.all' fun _ y hy h => RateC.ok h (by have := hf.eachR y hy; omega), h3.all fun _ _ h => HoldingC.ok h, h4.all fun _ _ h => MatchC.ok h, h5.all fun _ _ h => StockC.ok h, intBd_nat (show x.rules.size ≤ _ by omega)⟩
theorem zsizeB {w : World} {Q : Nat → Prop} {cs : List Value} {x : XBooks} (h : BooksC w Q cs x) : zBk.toArray.size = cs.toArray.size := by
  rw [List.size_toArray, List.size_toArray, h.len]; rfl
end Go.Proofs.Ytgdibeegheddmaa
