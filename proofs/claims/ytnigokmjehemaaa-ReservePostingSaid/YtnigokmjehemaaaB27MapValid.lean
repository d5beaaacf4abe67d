/- Links as keys of a map; mapping.Valid. Written by gen_b27.py. -/
import Derived.Test.YtnigokmjehemaaaProg
import Derived.Test.YtnigokmjehemaaaB23Chain
import Derived.Test.YtnigokmjehemaaaB26Link
import Derived.DeepKeys4
import Derived.Maps.Keyed
namespace Go.Proofs.Ytnigokmjehemaaa
open Go Go.RowKit
open Go.Maps (Keyed)
open Go.WideMaps (KeyLaw)
set_option linter.unusedVariables false
set_option linter.unusedSimpArgs false
set_option maxRecDepth 4000
attribute [local go_sem ↓] Go.wp_at_zero Go.wp_at_succ
theorem try_laidOut : laidOutB Try.prog = true := by kernel_rfl
theorem link_row : (182 : TypeId) < Try.prog.types.size := of_decide_eq_true (by kernel_rfl)
theorem link_wide : (match Try.prog.underlying 182 with | some (.array _ _) | some (.struct _) => true | _ => false) = true := by kernel_rfl
theorem link_law : KeyLaw Try.prog 182 := deep_law_laid try_laidOut (m := 2) (by omega) link_row (by kernel_rfl) link_wide
theorem link_keyed : Keyed Try.prog 182 := Keyed.of_law link_law
theorem int_cells : Try.prog.cellsOf 3 = 1 := by kernel_rfl
theorem link_cells : Try.prog.cellsOf 182 = 3 := by kernel_rfl
theorem keyLits_int {d : Nat} {n : Int} (h : intBd n) : Try.prog.keyLits (d + 1) 3 [.int .i64 n] = some [.int .i64 n] := by
  unfold Program.keyLits
  rw [int_uty]
  simp [WalkArith.wf_i64 h]
theorem link_keyLits {d : Nat} {a z b : Int} (ha : intBd a) (hz : intBd z) (hb : intBd b) : Try.prog.keyLits (d + 2) 182 [.int .i64 a, .int .i64 z, .int .i64 b] = some [.int .i64 a, .int .i64 z, .int .i64 b] := by
  unfold Program.keyLits
  rw [Try.underlying182]
  have h1 := keyLits_int (d := d) ha
  have h2 := keyLits_int (d := d) hz
  have h3 := keyLits_int (d := d) hb
  simp [link_cells, int_cells, h1, h2, h3]
theorem link_keyType : Try.prog.keyType 182 = true := by kernel_rfl
theorem link_isStruct : ∃ fs, Try.prog.underlying 182 = some (.struct fs) := ⟨_, Try.underlying182⟩
theorem link_formed {a b c : Value} : (Value.agg #[a, b, c]).formed Try.prog 182 = true := by
  obtain ⟨fs, hu⟩ := link_isStruct
  simp [Value.formed, hu, link_cells]
theorem types_size : ∃ d, Try.prog.types.size + 1 = d + 2 := ⟨Try.prog.types.size - 1, by have h : 182 < Try.prog.types.size := link_row; omega⟩
theorem link_keyOf {a z b : Int} (ha : intBd a) (hz : intBd z) (hb : intBd b) : keyOf Try.prog 182 (.agg #[.int .i64 a, .int .i64 z, .int .i64 b]) = some (.string (keyBytes [.int .i64 a, .int .i64 z, .int .i64 b])) := by
  obtain ⟨fs, hu⟩ := link_isStruct
  obtain ⟨d, hd⟩ := types_size
  unfold keyOf
  rw [hu]
  simp only [link_keyType, link_formed, Bool.and_self, if_true, hd, Value.cells]
  rw [link_keyLits ha hz hb]; rfl
abbrev LK := {p : Int × Int // intBd p.1 ∧ intBd p.2}
def lkKey (c : LK) : Lit := .string (keyBytes [.int .i64 c.1.1, .int .i64 0, .int .i64 c.1.2])
theorem lkKey_of (c : LK) : keyOf Try.prog 182 (.agg #[.int .i64 c.1.1, .int .i64 0, .int .i64 c.1.2]) = some (lkKey c) := link_keyOf c.2.1 bd0 c.2.2
theorem lkKey_inj (x y : LK) (h : lkKey x = lkKey y) : x = y := by
  have h1 := lkKey_of x
  have h2 := lkKey_of y
  rw [← h] at h2
  have h3 := link_keyed.inj h1 h2
  have h4 := congrArg Array.toList (Value.agg.inj h3)
  simp only [List.cons.injEq, Value.int.injEq, true_and, and_true] at h4
  exact Subtype.ext (Prod.ext h4.1 h4.2)
theorem lkKey_lit (x : LK) : WideAt.IsKeyLit (lkKey x) := trivial

theorem lmap_uty : Try.prog.underlying 234 = some (.map 182 4) := by kernel_rfl
abbrev SetL (w : World) (b n : Nat) (f : LK → Bool) : Prop := SetK Try.prog 182 4 lkKey w b n f
def seenL (ls : List XLink) (k : Nat) (c : LK) : Bool := (ls.take k).any fun x => x.from_ == c.1.1 && x.since == c.1.2
theorem seenL_succ {ls : List XLink} {k : Nat} {l : XLink} (hk : ls[k]? = some l) (h1 : intBd l.from_) (h3 : intBd l.since) {F : LK → Bool} (hF : seenL ls k = F) (d : LK) : (if d = (⟨(l.from_, l.since), h1, h3⟩ : LK) then true else F d) = seenL ls (k + 1) d := by
  obtain ⟨hl, rfl⟩ := List.getElem?_eq_some_iff.1 hk
  unfold seenL
  rw [take_any_succ hl, ← hF]
  by_cases h : d = (⟨(ls[k].from_, ls[k].since), h1, h3⟩ : LK)
  · rw [if_pos h, h]; simp
  · rw [if_neg h]
    have : (ls[k].from_ == d.1.1 && ls[k].since == d.1.2) = false := by
      rw [Bool.and_eq_false_iff]
      by_cases e1 : ls[k].from_ = d.1.1
      · right
        have e2 : ¬ ls[k].since = d.1.2 := fun e2 => h (Subtype.ext (Prod.ext e1.symm e2.symm))
        simpa using e2
      · left; simpa using e1
    rw [this, Bool.or_false]; rfl
def mapB (ec ch : List XAccount) (ls : List XLink) : Bool := chartB ch true && chartB ec false && decide (ls.length ≤ 400) && linksB ec ch ls
theorem mapB_row {ec ch : List XAccount} {ls : List XLink} {k : Nat} (hk : k < ls.length) (h : linkRow ec ch ls k = false) : mapB ec ch ls = false := by
  unfold mapB linksB
  rw [all_range_false hk h, Bool.and_false]
set_option maxHeartbeats 2000000 in
theorem mapValid_c (s cu : ByteArray) (Ac Al Ah : Option Addr) (n m nl cc cl hc : Nat) (jo : Bool) (ec ch : List XAccount) (ls : List XLink) (w : World) (hN : ec.length = n) (hM : ch.length = m) (hNL : ls.length = nl) (hec : ListC AccountC 4 w (· < w.heap.size) [.slice Ac ec.length cc] ec) (hls : ListC LinkC 3 w (· < w.heap.size) [.slice Al ls.length cl] ls) (hch : ListC AccountC 4 w (· < w.heap.size) [.slice Ah ch.length hc] ch) (hn : ec.length ≤ 1000) (hm : ch.length ≤ 1000) (hnl : ls.length ≤ 1000) :
    Calls Try.prog 167 #[.agg (entL s cu Ac n cc Al nl cl jo).toArray, .slice Ah m hc] w (Quiet w (.bool (mapB ec ch ls))) := by
  have hmm := @run_makeMap Try.prog
  obtain ⟨r, hr⟩ : ∃ r, mapB ec ch ls = r := ⟨_, rfl⟩
  rw [hr]
  have HR := Lib.hid hr
  have HV1 := Lib.hid (fun (w2 : World) (hb : Below w.heap.size w w2) => valid_n hM (chart_keep hch hb) hm true)
  have HV2 := Lib.hid (fun (w2 : World) (hb : Below w.heap.size w w2) => valid_n hN (chart_keep hec hb) hn false)
  have HLK := Lib.hid (fun (w2 : World) (hb : Below w.heap.size w w2) (l : XLink) (hl : linkBd l) => link_c s cu Ac Al Ah n m cc nl cl hc jo ec ch l w2 hN hM (chart_keep hec hb) (chart_keep hch hb) hl hn hm)
  have HLS := Lib.hid hls
  have HNL := Lib.hid hNL
  rw [hNL] at hnl
  clear hr hec hch hN hM hls hNL hn hm
  show Calls Try.prog 167 #[.agg #[.string s, .string cu, .slice Ac n cc, .slice Al nl cl, .bool jo], .slice Ah m hc] w (Quiet w (.bool r))
  go_enter Try.func167, Try.ntmps167
  go_upto_region 1 with fail
  have H := heap_alloc_new w (.cells #[.string s, .string cu, .slice Ac n cc, .slice Al nl cl, .bool jo] 113)
  have HB := below1 w (.cells #[.string s, .string cu, .slice Ac n cc, .slice Al nl cl, .bool jo] 113)
  have HS : w.heap.size < (w.alloc (.cells #[.string s, .string cu, .slice Ac n cc, .slice Al nl cl, .bool jo] 113)).heap.size := blk_lt H
  generalize hW : w.alloc (Obj.cells #[.string s, .string cu, .slice Ac n cc, .slice Al nl cl, .bool jo] 113) = W at *
  clear hW
  have HH := Lib.hid H
  clear H
  go_wp2_with fail
  refine (HV1.out W HB).mono ?_
  rintro e w2 ⟨rfl, hb2⟩
  have hb02 := HB.trans (hb2.mono HB.size)
  cases hc1 : chartB ch true with
  | false =>
    have hf := Lib.hid (show r = false by rw [← HR.out]; unfold mapB; rw [hc1]; rfl)
    go_wp2_with fail
    go_ret
    exact ⟨by rw [hf.out]; first | done | rfl, hb02⟩
  | true =>
  have HC1 := Lib.hid hc1
  have G2 := (hb2.block _ HS).trans HH.out
  have e2 := blk_cell G2 2
  have hs2 := hb2.size
  clear hc1
  go_wp2_with fail
  refine (HV2.out w2 hb02).mono ?_
  rintro e w3 ⟨rfl, hb3⟩
  have hb03 := hb02.trans (hb3.mono hb02.size)
  have hs3 := hb3.size
  have G3 := (hb3.block _ (by omega)).trans G2
  have e3 := blk_cell G3 3
  clear e2 G2
  cases hc2 : chartB ec false with
  | false =>
    have hf := Lib.hid (show r = false by rw [← HR.out]; unfold mapB; rw [hc2, Bool.and_false]; rfl)
    go_wp2_with fail
    go_ret
    exact ⟨by rw [hf.out]; first | done | rfl, hb03⟩
  | true =>
  have HC2 := Lib.hid hc2
  clear hc2
  by_cases hle : nl ≤ 400
  case neg =>
    have hleI : (400 : Int) < (nl : Int) := by omega
    have hf := Lib.hid (show r = false by rw [← HR.out]; unfold mapB; rw [HNL.out, decide_eq_false hle, Bool.and_false]; rfl)
    go_wp2_with fail
    go_ret
    exact ⟨by rw [hf.out]; first | done | rfl, hb03⟩
  case pos =>
  have hleI : ¬ (400 : Int) < (nl : Int) := by omega
  have HG3 := Lib.hid G3
  clear G3
  go_upto_region 4 with fail
  have hs0 := SetK.made Try.prog 182 4 lkKey w3
  have HB4 := below1 w3 (.map #[] 0)
  have HS4 : w3.heap.size + 1 = (w3.alloc (.map #[] 0)).heap.size := by simp
  have G4 := alloc_keep HG3.out (.map #[] 0)
  generalize hW4 : w3.alloc (Obj.map #[] 0) = W4 at *
  clear hW4 e3
  have e3 := blk_cell G4 3
  have HG4 := Lib.hid G4
  have hb04 := hb03.trans (HB4.mono hb03.size)
  clear G4
  go_wp2_with fail
  go_loopw [28] (fun i wr => ∃ k : Nat, k ≤ nl ∧ i = .int .i64 (k : Int) ∧ Fr (QX W4.heap.size w3.heap.size) W4 wr ∧ SetL wr w3.heap.size k (seenL ls k) ∧ ∀ j, j < k → linkRow ec ch ls j = true) (fun i _ => nl - (intOf i).toNat)
  case atStart => exact ⟨0, by omega, rfl, Fr.refl _ _, hs0.eqv (fun _ => rfl), fun j hj => by omega⟩
  case round =>
    obtain ⟨k, hk, rfl, hfr, hset, hall⟩ := hrel
    have HA := Lib.hid hall
    have HF := Lib.hid hfr
    have hsz := hfr.size
    clear hall hfr
    have hb0 : Below w.heap.size w wr := ((Fr.ofBelow hb04).trans (HF.out.mono (fun k (hk : k < w.heap.size) => ⟨by omega, by omega⟩))).below
    have hs0' := hb0.size
    by_cases hlt : k < nl
    case pos =>
      have hltI : (k : Int) < (nl : Int) := by omega
      have hkl : k < ls.length := by rw [HNL.out]; exact hlt
      obtain ⟨b, o, es1, hAe, hbw, hes, hat⟩ := ListC.get HLS.out k hkl
      subst hAe
      obtain ⟨hes1, hlb⟩ := LinkC.lit hes
      obtain ⟨l, hl⟩ : ∃ l, ls[k] = l := ⟨_, rfl⟩
      rw [hl] at hes1 hlb
      have HL := Lib.hid (show ls[k]? = some l by rw [List.getElem?_eq_getElem hkl, hl])
      obtain ⟨l1, l2, l3⟩ := l
      subst hes1
      have HLB := Lib.hid hlb
      have HB1 := Lib.hid hlb.1
      have HB3 := Lib.hid hlb.2.2
      have HAR := Lib.hid ((hat.fr (Fr.ofBelow hb0)).range)
      have E6 := (HF.out.block w.heap.size ⟨by omega, by omega⟩).trans HG4.out
      have HLINK := Lib.hid (HLK.out)
      obtain ⟨F, hF⟩ : ∃ F, seenL ls k = F := ⟨_, rfl⟩
      rw [hF] at hset
      have HF2 := Lib.hid hF
      clear hes hat hl hF hbw hlb
      go_upto_region 7 with (show wpList _ _ _ (Oper.mk (some 31) _ _ _ _ _ :: _) _ _; refine wpList_load_mid rfl 182 (.tmp 30) rfl b (o + k * 3) rfl [.int .i64 l1, .int .i64 l2, .int .i64 l3] _ HAR.out Try.underlying182 rfl info_link ?_)
      have H6 := heap_alloc_new wr (.cells #[.int .i64 l1, .int .i64 l2, .int .i64 l3] 182)
      have HB6 := below1 wr (.cells #[.int .i64 l1, .int .i64 l2, .int .i64 l3] 182)
      have HS6 : wr.heap.size < (wr.alloc (.cells #[.int .i64 l1, .int .i64 l2, .int .i64 l3] 182)).heap.size := blk_lt H6
      replace E6 := alloc_keep E6 (Obj.cells #[.int .i64 l1, .int .i64 l2, .int .i64 l3] 182)
      generalize hW6 : wr.alloc (Obj.cells #[.int .i64 l1, .int .i64 l2, .int .i64 l3] 182) = W6 at *
      clear hW6
      have f0 := blk_cell H6 0
      have f2 := blk_cell H6 2
      have hset6 := hset.below HB6
      have hs6 := HB6.size
      clear hset
      go_upto_region 8 with fail
      have H8 := heap_alloc_new W6 (.cells #[.int .i64 l1, .int .i64 0, .int .i64 l3] 182)
      have HB8 := below1 W6 (.cells #[.int .i64 l1, .int .i64 0, .int .i64 l3] 182)
      have HS8 : W6.heap.size < (W6.alloc (.cells #[.int .i64 l1, .int .i64 0, .int .i64 l3] 182)).heap.size := blk_lt H8
      replace E6 := alloc_keep E6 (Obj.cells #[.int .i64 l1, .int .i64 0, .int .i64 l3] 182)
      replace H6 := alloc_keep H6 (Obj.cells #[.int .i64 l1, .int .i64 0, .int .i64 l3] 182)
      generalize hW8 : W6.alloc (Obj.cells #[.int .i64 l1, .int .i64 0, .int .i64 l3] 182) = W8 at *
      clear hW8
      have hset8 := hset6.below HB8
      have hs8 := HB8.size
      have hb68 := HB6.trans (HB8.mono HB6.size)
      have hb08 := hb0.trans (hb68.mono hb0.size)
      have k0 := blk_cell H8 0
      have k1 := blk_cell H8 1
      have k2 := blk_cell H8 2
      have f0 := blk_cell H6 0
      have f1 := blk_cell H6 1
      have f2 := blk_cell H6 2
      have HE8 := Lib.hid E6
      have HH8 := Lib.hid H8
      clear H8 H6 E6 hset6
      obtain ⟨c0, hc0⟩ : ∃ c : LK, c = ⟨(l1, l3), HB1.out, HB3.out⟩ := ⟨_, rfl⟩
      have HKEY := Lib.hid (show keyOf Try.prog 182 (.agg #[.int .i64 l1, .int .i64 0, .int .i64 l3]) = some (lkKey c0) by rw [hc0]; exact link_keyOf HB1.out bd0 HB3.out)
      have HSN := Lib.hid (show F c0 = ((ls.take k).any fun x => x.from_ == l1 && x.since == l3) by rw [← HF2.out, hc0]; rfl)
      have HC0 := Lib.hid hc0
      clear hc0
      cases hcont : F c0 with
      | true =>
        have hf := Lib.hid (show r = false by rw [← HR.out]; exact mapB_row hkl (by rw [linkRow_at HL.out, show ((ls.take k).any fun x => x.from_ == l1 && x.since == l3) = true from HSN.out.symm.trans hcont]; simp))
        go_wp2_with (at_lookup; refine wpList_look_set rfl _ _ 234 rfl 182 4 link_keyed lmap_uty bool_uty (bool_zero _) w3.heap.size k F rfl hset8 (.agg #[.int .i64 l1, .int .i64 0, .int .i64 l3]) c0 rfl HKEY.out ?_)
        go_ret
        exact ⟨by rw [hf.out]; first | done | rfl, hb08⟩
      | false =>
        have hcall := HLINK.out W8 hb08 ⟨l1, l2, l3⟩ HLB.out
        obtain ⟨v, hv⟩ : ∃ v, linkB ec ch ⟨l1, l2, l3⟩ = v := ⟨_, rfl⟩
        rw [hv] at hcall
        have HROW := Lib.hid (show linkRow ec ch ls k = v by rw [linkRow_at HL.out, hv, show ((ls.take k).any fun x => x.from_ == l1 && x.since == l3) = false from HSN.out.symm.trans hcont]; simp)
        clear hv
        have HCALL := Lib.hid hcall
        clear hcall
        go_wp2_with (first | (at_lookup; refine wpList_look_set rfl _ _ 234 rfl 182 4 link_keyed lmap_uty bool_uty (bool_zero _) w3.heap.size k F rfl hset8 (.agg #[.int .i64 l1, .int .i64 0, .int .i64 l3]) c0 rfl HKEY.out ?_) | (show wpList _ _ _ (Oper.mk (some 41) _ _ _ _ _ :: _) _ _; refine wpList_load_row_g rfl 113 (.tmp 2) rfl w.heap.size rfl _ _ _ _ HE8.out Try.underlying113 rfl info_entity ?_))
        refine HCALL.out.mono ?_
        rintro e wA ⟨rfl, hbA⟩
        have hsetA := hset8.below hbA
        have hsA := hbA.size
        have hb0A := hb08.trans (hbA.mono hb08.size)
        cases v with
        | false =>
          have hf := Lib.hid (show r = false by rw [← HR.out]; exact mapB_row hkl HROW.out)
          go_wp2_with fail
          go_ret
          exact ⟨by rw [hf.out]; first | done | rfl, hb0A⟩
        | true =>
          have KA := (hbA.block _ HS8).trans HH8.out
          have k0 := blk_cell KA 0
          have k1 := blk_cell KA 1
          have k2 := blk_cell KA 2
          clear KA
          go_wp2_with (at_mapUpdate; refine wpList_store_set rfl _ _ _ 234 rfl 182 4 link_keyed lmap_uty bool_uty w3.heap.size k F rfl hsetA (by simp only [maxLen]; omega) lkKey_inj lkKey_lit (.agg #[.int .i64 l1, .int .i64 0, .int .i64 l3]) c0 rfl true rfl HKEY.out ?_; intro wB hsetB hgB; replace hsetB := Lib.hid hsetB)
          go_roundw
          case rel =>
            refine ⟨k + 1, by omega, by go_num, ?_, ?_, ?_⟩
            · exact (HF.out.trans ((Fr.ofBelow (hb68.trans (hbA.mono hb68.size))).mono (fun k hk => by have := hk.1; omega))).grown hgB (fun k hk => hk.1) (fun j hj => by injection hj with hj; exact fun h => h.2 hj.symm)
            · exact hsetB.out.eqv (fun d => by rw [HC0.out]; exact seenL_succ HL.out HB1.out HB3.out HF2.out d)
            · intro j hj
              rcases Nat.lt_or_ge j k with h | h
              · exact HA.out j h
              · have : j = k := by omega
                subst this
                exact HROW.out
          case measure => first | exact meas_v hlt | (simp only [intOf]; omega)
    case neg =>
      have hltI : ¬ (k : Int) < (nl : Int) := by omega
      have hf := Lib.hid (show r = true by
        rw [← HR.out]; unfold mapB linksB
        rw [HC1.out, HC2.out, HNL.out, decide_eq_true hle, all_range_true (fun j hj => HA.out j (by omega))]; rfl)
      go_wp2_with fail
      go_ret
      exact ⟨by rw [hf.out]; first | done | rfl, hb0⟩
end Go.Proofs.Ytnigokmjehemaaa
