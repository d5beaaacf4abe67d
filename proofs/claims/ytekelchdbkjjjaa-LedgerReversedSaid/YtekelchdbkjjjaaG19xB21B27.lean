/- slices.IndexFunc and ContainsFunc over a chart. Written by gen_b21.py. -/
import Derived.Test.YtekelchdbkjjjaaG19xB0B3
import Derived.Test.YtekelchdbkjjjaaG19xB4B12
import Derived.Test.YtekelchdbkjjjaaG19xB13B14
import Derived.Test.YtekelchdbkjjjaaG19xB15S0
import Derived.Test.YtekelchdbkjjjaaProg
import Derived.DeepKeys4
import Derived.Maps.Keyed
set_option linter.unusedVariables false
set_option linter.unusedSimpArgs false
set_option maxRecDepth 4000
attribute [local go_sem ↓] Go.wp_at_zero Go.wp_at_succ
namespace Go.Proofs.Ytekelchdbkjjjaa
open Go Go.RowKit
def idxI {α : Type} (p : α → Bool) (l : List α) : Int := match l.findIdx? p with
 | some k => (k : Int)
 | none => -1
theorem idx_some {α : Type} {p : α → Bool} {l : List α} {k : Nat} (hk : k < l.length) (h : p l[k] = true) (hb : ∀ j (hj : j < l.length), j < k → p l[j] = false) : idxI p l = (k : Int) := by
 unfold idxI
 have : l.findIdx? p = some k := by
  rw [List.findIdx?_eq_some_iff_getElem]
  exact ⟨hk, h, fun j hj => by simpa using hb j (by omega) hj⟩
 rw [this]
theorem idx_none {α : Type} {p : α → Bool} {l : List α} (hb : ∀ j (hj : j < l.length), p l[j] = false) : idxI p l = -1 := by
 unfold idxI
 have : l.findIdx? p = none := by
  rw [List.findIdx?_eq_none_iff]
  intro x hx
  obtain ⟨j, hj, rfl⟩ := List.getElem_of_mem hx
  exact hb j hj
 rw [this]
theorem idx_any {α : Type} (p : α → Bool) (l : List α) : decide (0 ≤ idxI p l) = l.any p := by
 unfold idxI
 cases h : l.findIdx? p with
 | none =>
  rw [List.findIdx?_eq_none_iff] at h
  have : l.any p = false := by
   rw [List.any_eq_false]
   intro x hx
   simpa using h x hx
  rw [this]; rfl
 | some k =>
  rw [List.findIdx?_eq_some_iff_getElem] at h
  obtain ⟨hk, hp, _⟩ := h
  have : l.any p = true := List.any_eq_true.2 ⟨l[k], List.getElem_mem hk, hp⟩
  rw [this]
  show decide ((0 : Int) ≤ (k : Int)) = true
  exact decide_eq_true (by omega)
set_option maxHeartbeats 1000000 in
theorem idxA_c (l : List XAccount) (A : Option Addr) (c : Nat) (w : World) (hl : ListC AccountC 4 w (· < w.heap.size) [.slice A l.length c] l) (hn : l.length ≤ 1000) : Calls Try.prog 77 #[.slice A l.length c, .func (.func 62) #[] #[]] w (Quiet w (.int .i64 (idxI (fun a => !basedB a) l))) := by
 obtain ⟨r, hr⟩ : ∃ r, idxI (fun a => !basedB a) l = r := ⟨_, rfl⟩
 rw [hr]
 have HR := Lib.hid hr
 clear hr
 obtain ⟨n, hnl⟩ : ∃ n, l.length = n := ⟨_, rfl⟩
 rw [hnl] at hn
 have HL := Lib.hid hl
 have HN := Lib.hid hnl
 rw [hnl]
 clear hl hnl
 go_enter Try.func77, Try.ntmps77
 go_wp2_with fail
 go_loopw [8] (fun i wr => ∃ k : Nat, k ≤ n ∧ i = .int .i64 (k : Int) ∧ Below w.heap.size w wr ∧ ∀ j (hj : j < l.length), j < k → basedB l[j] = true) (fun i _ => n - (intOf i).toNat)
 case atStart => exact ⟨0, by omega, rfl, Below.refl _ _, fun j hj h => by omega⟩
 case round =>
  obtain ⟨k, hk, rfl, hb, hall⟩ := hrel
  have HA := Lib.hid hall
  clear hall
  have hsz := hb.size
  by_cases hlt : k < n
  case pos =>
   have hltI : (k : Int) < (n : Int) := by omega
   have hkl : k < l.length := by rw [HN.out]; exact hlt
   obtain ⟨b, o, es, hAe, hbw, hes, hat⟩ := ListC.get HL.out k hkl
   subst hAe
   obtain ⟨hes1, hb1, hb2, hb3, hb4⟩ := AccountC.lit hes
   rw [hes1] at hat
   obtain ⟨ac, hac⟩ : ∃ ac, l[k] = ac := ⟨_, rfl⟩
   rw [hac] at hat
   have HAC := Lib.hid hac
   have HAR := Lib.hid ((hat.fr (Fr.ofBelow hb)).range)
   clear hes hes1 hat hac hb1 hb2 hb3 hb4
   go_wp2_with (show wpList _ _ _ (Oper.mk (some 15) _ _ _ _ _ :: _) _ _; refine wpList_load_mid rfl 72 (.tmp 14) rfl b (o + k * 4) rfl (accL ac) _ HAR.out Try.underlying72 rfl (info_accL _) ?_)
   refine (notBased_c ac wr).mono ?_
   rintro e w2 ⟨rfl, hb2⟩
   have hbb := hb.trans (hb2.mono hb.size)
   cases hp : basedB ac with
   | false =>
    have hf := Lib.hid (show r = (k : Int) by rw [← HR.out]; exact idx_some hkl (by rw [HAC.out, hp]; rfl) (fun j hj hjk => by rw [HA.out j hj hjk]; rfl))
    clear hp
    simp only [Bool.not_false]
    go_wp2_with fail
    go_ret
    exact ⟨by rw [hf.out]; first | done | rfl, hbb⟩
   | true =>
    have HP := Lib.hid hp
    clear hp
    simp only [Bool.not_true]
    go_wp2_with fail
    go_roundw
    case rel => exact ⟨k + 1, by omega, by go_num, hbb, fun j hj hjk => by
     rcases Nat.lt_or_ge j k with h | h
     · exact HA.out j hj h
     · have : j = k := by omega
       subst this
       rw [HAC.out]
       exact HP.out⟩
    case measure =>
     have e : wrap64 ((k : Int) + 1) = ((k + 1 : Nat) : Int) := by unfold wrap64; omega
     simp only [intOf, e]
     omega
  case neg =>
   have hltI : ¬ (k : Int) < (n : Int) := by omega
   have hf := Lib.hid (show r = -1 by rw [← HR.out]; exact idx_none (fun j hj => by rw [HA.out j hj (by have := HN.out; omega)]; rfl))
   go_wp2_with fail
   go_ret
   exact ⟨by rw [hf.out]; first | done | rfl, hb⟩
set_option maxHeartbeats 1000000 in
theorem anyA_c (l : List XAccount) (A : Option Addr) (c : Nat) (w : World) (hl : ListC AccountC 4 w (· < w.heap.size) [.slice A l.length c] l) (hn : l.length ≤ 1000) : Calls Try.prog 61 #[.slice A l.length c, .func (.func 62) #[] #[]] w (Quiet w (.bool (!l.all basedB))) := by
 have hcall := idxA_c l A c w hl hn
 obtain ⟨n, hnl⟩ : ∃ n, l.length = n := ⟨_, rfl⟩
 rw [hnl] at hcall ⊢
 have hh : decide (0 ≤ idxI (fun a => !basedB a) l) = !l.all basedB := by rw [idx_any, List.not_all_eq_any_not]
 obtain ⟨i, hi⟩ : ∃ i, idxI (fun a => !basedB a) l = i := ⟨_, rfl⟩
 rw [hi] at hcall hh
 rw [← hh]
 clear hh hi
 go_enter Try.func61, Try.ntmps61
 go_wp2_with fail
 refine hcall.mono ?_
 clear hcall
 rintro e w2 ⟨rfl, hb2⟩
 by_cases h : 0 ≤ i
 · have hf : decide (0 ≤ i) = true := decide_eq_true h
   have HF := Lib.hid hf
   clear hf
   go_wp2_with fail
   go_ret
   exact ⟨by rw [HF.out]; first | done | rfl, hb2⟩
 · have hf : decide (0 ≤ i) = false := decide_eq_false h
   have HF := Lib.hid hf
   clear hf
   go_wp2_with fail
   go_ret
   exact ⟨by rw [HF.out]; first | done | rfl, hb2⟩
abbrev grpL (cur : ByteArray) (y m p : Int) (Ac : Option Addr) (n cc : Nat) (r0 r1 r2 r3 r4 r5 r6 r7 r8 r9 r10 r11 r12 r13 r14 : Int) (Ae : Option Addr) (ne ce : Nat) : List Value := [.string cur, .int .i64 y, .int .i64 m, .int .i64 p, .slice Ac n cc, .int .i64 r0, .int .i64 r1, .int .i64 r2, .int .i64 r3, .int .i64 r4, .int .i64 r5, .int .i64 r6, .int .i64 r7, .int .i64 r8, .int .i64 r9, .int .i64 r10, .int .i64 r11, .int .i64 r12, .int .i64 r13, .int .i64 r14, .slice Ae ne ce]
abbrev linkL (l : XLink) : List Value := [.int .i64 l.from_, .int .i64 l.to_, .int .i64 l.since]
def linkBd (l : XLink) : Prop := intBd l.from_ ∧ intBd l.to_ ∧ intBd l.since
theorem LinkC.lit {w : World} {Q : Nat → Prop} {cs : List Value} {x : XLink} (h : LinkC w Q cs x) : cs = linkL x ∧ linkBd x := by
 obtain ⟨c0, c1, c2, rfl, ⟨rfl, h0⟩, ⟨rfl, h1⟩, ⟨rfl, h2⟩⟩ := h
 exact ⟨rfl, h0, h1, h2⟩
abbrev entL (s c : ByteArray) (Ac : Option Addr) (n cc : Nat) (Al : Option Addr) (nl cl : Nat) (j : Bool) : List Value := [.string s, .string c, .slice Ac n cc, .slice Al nl cl, .bool j]
theorem EntityC.lit {w : World} {Q : Nat → Prop} {cs : List Value} {x : XEntity} (h : EntityC w Q cs x) : ∃ Ac cc Al cl, cs = entL x.name x.currency Ac x.chart.length cc Al x.links.length cl x.joint ∧ ListC AccountC 4 w Q [.slice Ac x.chart.length cc] x.chart ∧ ListC LinkC 3 w Q [.slice Al x.links.length cl] x.links := by
 obtain ⟨c0, c1, c2, c3, c4, rfl, h0, h1, h2, h3, h4⟩ := h
 have e0 : c0 = _ := h0
 have e1 : c1 = _ := h1
 have e4 : c4 = _ := h4
 subst e0 e1 e4
 obtain ⟨A, c, e, _⟩ := h2.form
 subst e
 obtain ⟨A', c', e, _⟩ := h3.form
 subst e
 exact ⟨A, c, A', c', rfl, h2, h3⟩
def rolesBd (r : XRoles) : Prop := intBd r.investment ∧ intBd r.goodwill ∧ intBd r.associates ∧ intBd r.inventory ∧ intBd r.reserve ∧ intBd r.minority ∧ intBd r.retained ∧ intBd r.acquired ∧ intBd r.owners ∧ intBd r.disposal ∧ intBd r.associateProfit ∧ intBd r.dividends ∧ intBd r.minorityProfit ∧ intBd r.difference ∧ intBd r.margin
theorem RolesC.lit {w : World} {Q : Nat → Prop} {cs : List Value} {r : XRoles} (h : RolesC w Q cs r) : cs = [.int .i64 r.investment, .int .i64 r.goodwill, .int .i64 r.associates, .int .i64 r.inventory, .int .i64 r.reserve, .int .i64 r.minority, .int .i64 r.retained, .int .i64 r.acquired, .int .i64 r.owners, .int .i64 r.disposal, .int .i64 r.associateProfit, .int .i64 r.dividends, .int .i64 r.minorityProfit, .int .i64 r.difference, .int .i64 r.margin] ∧ rolesBd r := by
 obtain ⟨c0, c1, c2, c3, c4, c5, c6, c7, c8, c9, c10, c11, c12, c13, c14, rfl, ⟨rfl, h0⟩, ⟨rfl, h1⟩, ⟨rfl, h2⟩, ⟨rfl, h3⟩, ⟨rfl, h4⟩, ⟨rfl, h5⟩, ⟨rfl, h6⟩, ⟨rfl, h7⟩, ⟨rfl, h8⟩, ⟨rfl, h9⟩, ⟨rfl, h10⟩, ⟨rfl, h11⟩, ⟨rfl, h12⟩, ⟨rfl, h13⟩, ⟨rfl, h14⟩⟩ := h
 exact ⟨rfl, h0, h1, h2, h3, h4, h5, h6, h7, h8, h9, h10, h11, h12, h13, h14⟩
theorem CalC.lit {w : World} {Q : Nat → Prop} {cs : List Value} {x : XCal} (h : CalC w Q cs x) : cs = [.int .i64 x.year, .int .i64 x.month, .int .i64 x.periods] ∧ intBd x.year ∧ intBd x.month ∧ intBd x.periods := by
 obtain ⟨c0, c1, c2, rfl, ⟨rfl, h0⟩, ⟨rfl, h1⟩, ⟨rfl, h2⟩⟩ := h
 exact ⟨rfl, h0, h1, h2⟩
theorem GroupC.lit {w : World} {Q : Nat → Prop} {cs : List Value} {g : XGroup} (h : GroupC w Q cs g) : ∃ Ac cc Ae ce, cs = grpL g.currency g.calendar.year g.calendar.month g.calendar.periods Ac g.chart.length cc g.roles.investment g.roles.goodwill g.roles.associates g.roles.inventory g.roles.reserve g.roles.minority g.roles.retained g.roles.acquired g.roles.owners g.roles.disposal g.roles.associateProfit g.roles.dividends g.roles.minorityProfit g.roles.difference g.roles.margin Ae g.entities.length ce ∧ ListC AccountC 4 w Q [.slice Ac g.chart.length cc] g.chart ∧ ListC EntityC 5 w Q [.slice Ae g.entities.length ce] g.entities ∧ (intBd g.calendar.year ∧ intBd g.calendar.month ∧ intBd g.calendar.periods) ∧ rolesBd g.roles := by
 obtain ⟨c0, c1, c2, c3, c4, rfl, h0, h1, h2, h3, h4⟩ := h
 have e0 : c0 = _ := h0
 subst e0
 obtain ⟨rfl, b1⟩ := h1.lit
 obtain ⟨rfl, b3⟩ := h3.lit
 obtain ⟨A, c, e, _⟩ := h2.form
 subst e
 obtain ⟨A', c', e, _⟩ := h4.form
 subst e
 exact ⟨A, c, A', c', rfl, h2, h4, b1, b3⟩
theorem links_keep {w w' : World} {cs : List Value} {l : List XLink} (h : ListC LinkC 3 w (· < w.heap.size) cs l) (hb : Below w.heap.size w w') : ListC LinkC 3 w' (· < w'.heap.size) cs l :=
 (h.fr (fun h => LinkC.fr h (Fr.ofBelow hb)) (Fr.ofBelow hb)).mono (fun h => LinkC.mono h (fun k hk => by have := hb.size; omega)) (fun k hk => by have := hb.size; omega)
theorem info_roles : (Try.prog.info? 26).map (·.size) = some 15 := by kernel_rfl
theorem info_role : (Try.prog.info? 118).map (·.size) = some 5 := by kernel_rfl
theorem info_group : (Try.prog.info? 29).map (·.size) = some 21 := by kernel_rfl
theorem info_entity : (Try.prog.info? 65).map (·.size) = some 5 := by kernel_rfl
theorem info_link : (Try.prog.info? 81).map (·.size) = some 3 := by kernel_rfl
theorem meas_v {n k : Nat} (h : k < n) : n - (intOf (.int .i64 ((k : Int) + 1))).toNat < n - (intOf (.int .i64 (k : Int))).toNat := by
 show n - ((k : Int) + 1).toNat < n - ((k : Int)).toNat
 omega
def QX (B b k : Nat) : Prop := k < B ∧ k ≠ b
theorem acc_roles {ch : List XAccount} {r : XRoles} {L : List XRole} {k : Nat} (hL : rolesOf r = L) (hk : k < L.length) (h : roleRow ch L k = false) : accountsB ch r = false := by
 unfold accountsB rolesB
 rw [hL, all_range_false hk h, Bool.and_false]
theorem acc_all {ch : List XAccount} {r : XRoles} {L : List XRole} (hL : rolesOf r = L) (h1 : chartB ch true = true) (h2 : ch.all basedB = true) (h : ∀ k, k < L.length → roleRow ch L k = true) : accountsB ch r = true := by
 unfold accountsB rolesB
 rw [hL, all_range_true h, h1, h2]; rfl
section
variable {ch : List XAccount} {L : List XRole} {k : Nat} {q : XRole} {a : XAccount}
theorem row_none (hk : L[k]? = some q) (h : findA ch q.code = none) : roleRow ch L k = false := by unfold roleRow; rw [hk]; simp only; rw [h]
theorem row_some (hk : L[k]? = some q) (h : findA ch q.code = some a) : roleRow ch L k = (a.kind == q.kind && a.basis == q.basis && !((L.take k).any fun p => p.code == q.code)) := by unfold roleRow; rw [hk]; simp only; rw [h]
end
theorem take_seen {L : List XRole} {k : Nat} {q : XRole} (hk : L[k]? = some q) {F : Int → Bool} (hF : (fun d => (L.take k).any fun p => p.code == d) = F) (d : Int) : (if d = q.code then true else F d) = (L.take (k + 1)).any fun p => p.code == d := by
 obtain ⟨hl, rfl⟩ := List.getElem?_eq_some_iff.1 hk
 rw [take_any_succ hl, ← hF]
 by_cases h : d = L[k].code
 · rw [if_pos h, h]; simp
 · rw [if_neg h, show (L[k].code == d) = false from by simpa using fun e => h e.symm, Bool.or_false]
set_option maxHeartbeats 2000000 in
theorem accounts_c (g : XGroup) (cs : List Value) (w : World) (hg : GroupC w (· < w.heap.size) cs g) (hn : g.chart.length ≤ 1000) : Calls Try.prog 47 #[.agg cs.toArray] w (Quiet w (.bool (accountsB g.chart g.roles))) := by
 have hmm := @run_makeMap Try.prog
 obtain ⟨Ac, cc, Ae, ce, rfl, hch, hen, hcal, hro⟩ := hg.lit
 clear hg
 obtain ⟨cur, ⟨y, m, p⟩, ch, ⟨r0, r1, r2, r3, r4, r5, r6, r7, r8, r9, r10, r11, r12, r13, r14⟩, es⟩ := g
 simp only at hch hen hro hcal hn ⊢
 obtain ⟨r, hr⟩ : ∃ r, accountsB ch ⟨r0, r1, r2, r3, r4, r5, r6, r7, r8, r9, r10, r11, r12, r13, r14⟩ = r := ⟨_, rfl⟩
 rw [hr]
 have HR := Lib.hid hr
 clear hr
 obtain ⟨L, hL⟩ : ∃ L, rolesL r0 r1 r2 r3 r4 r5 r6 r7 r8 r9 r10 r11 r12 r13 r14 = L := ⟨_, rfl⟩
 have hLl : L.length = 15 := by rw [← hL]; rfl
 have HLQ := Lib.hid hL
 have HLL := Lib.hid hLl
 obtain ⟨n, hnl⟩ : ∃ n, ch.length = n := ⟨_, rfl⟩
 obtain ⟨ne, hne⟩ : ∃ ne, es.length = ne := ⟨_, rfl⟩
 have HL := Lib.hid hch
 have HN := Lib.hid hnl
 have HE := Lib.hid hen
 have HNE := Lib.hid hne
 rw [hnl, hne]
 rw [hnl] at hn
 clear hL hLl hch hen hnl hne hcal
 have hrb : ∀ q ∈ L, intBd q.code := by
  rw [← HLQ.out]
  obtain ⟨b0, b1, b2, b3, b4, b5, b6, b7, b8, b9, b10, b11, b12, b13, b14⟩ := hro
  intro q hq
  simp only [rolesL, List.mem_cons, List.not_mem_nil, or_false] at hq
  rcases hq with rfl | rfl | rfl | rfl | rfl | rfl | rfl | rfl | rfl | rfl | rfl | rfl | rfl | rfl | rfl <;> assumption
 have HRB := Lib.hid hrb
 clear hrb hro
 show Calls Try.prog 47 #[.agg #[.string cur, .int .i64 y, .int .i64 m, .int .i64 p, .slice Ac n cc, .int .i64 r0, .int .i64 r1, .int .i64 r2, .int .i64 r3, .int .i64 r4, .int .i64 r5, .int .i64 r6, .int .i64 r7, .int .i64 r8, .int .i64 r9, .int .i64 r10, .int .i64 r11, .int .i64 r12, .int .i64 r13, .int .i64 r14, .slice Ae ne ce]] w (Quiet w (.bool r))
 go_enter Try.func47, Try.ntmps47
 go_upto_region 1 with fail
 have H := heap_alloc_new w (.cells #[.string cur, .int .i64 y, .int .i64 m, .int .i64 p, .slice Ac n cc, .int .i64 r0, .int .i64 r1, .int .i64 r2, .int .i64 r3, .int .i64 r4, .int .i64 r5, .int .i64 r6, .int .i64 r7, .int .i64 r8, .int .i64 r9, .int .i64 r10, .int .i64 r11, .int .i64 r12, .int .i64 r13, .int .i64 r14, .slice Ae ne ce] 29)
 have HB := below1 w (.cells #[.string cur, .int .i64 y, .int .i64 m, .int .i64 p, .slice Ac n cc, .int .i64 r0, .int .i64 r1, .int .i64 r2, .int .i64 r3, .int .i64 r4, .int .i64 r5, .int .i64 r6, .int .i64 r7, .int .i64 r8, .int .i64 r9, .int .i64 r10, .int .i64 r11, .int .i64 r12, .int .i64 r13, .int .i64 r14, .slice Ae ne ce] 29)
 have HS := blk_lt H
 generalize hW : w.alloc (Obj.cells #[.string cur, .int .i64 y, .int .i64 m, .int .i64 p, .slice Ac n cc, .int .i64 r0, .int .i64 r1, .int .i64 r2, .int .i64 r3, .int .i64 r4, .int .i64 r5, .int .i64 r6, .int .i64 r7, .int .i64 r8, .int .i64 r9, .int .i64 r10, .int .i64 r11, .int .i64 r12, .int .i64 r13, .int .i64 r14, .slice Ae ne ce] 29) = W at *
 clear hW
 have d4 := blk_cell H 4
 have HAT := Lib.hid ((box_at (cs := [.string cur, .int .i64 y, .int .i64 m, .int .i64 p, .slice Ac n cc] ++ ([.int .i64 r0, .int .i64 r1, .int .i64 r2, .int .i64 r3, .int .i64 r4, .int .i64 r5, .int .i64 r6, .int .i64 r7, .int .i64 r8, .int .i64 r9, .int .i64 r10, .int .i64 r11, .int .i64 r12, .int .i64 r13, .int .i64 r14] ++ [.slice Ae ne ce])) H).split.2.split.1)
 have HH0 := Lib.hid H
 clear H
 go_wp2_with fail
 have hcall := chartValid_c ch Ac cc true W (chart_keep HL.out HB) (by rw [HN.out]; exact hn)
 rw [HN.out] at hcall
 refine hcall.mono ?_
 clear hcall
 rintro e w2 ⟨rfl, hb2⟩
 have hbb := HB.trans (hb2.mono HB.size)
 cases hc : chartB ch true with
 | false =>
  have hf := Lib.hid (show r = false by rw [← HR.out]; unfold accountsB; rw [hc]; rfl)
  clear hc
  go_wp2_with fail
  go_ret
  exact ⟨by rw [hf.out]; first | done | rfl, hbb⟩
 | true =>
  have HC := Lib.hid hc
  have G2 := (hb2.block _ HS).trans HH0.out
  have e4 := blk_cell G2 4
  clear hc d4
  go_wp2_with fail
  have hcall := anyA_c ch Ac cc w2 (chart_keep HL.out hbb) (by rw [HN.out]; exact hn)
  rw [HN.out] at hcall
  refine hcall.mono ?_
  clear hcall
  rintro e w3 ⟨rfl, hb3⟩
  have hbc := hbb.trans (hb3.mono hbb.size)
  have hs2 := hb2.size
  have hs3 := hb3.size
  have G3 := (hb3.block _ (by omega)).trans G2
  clear e4
  cases hd : ch.all basedB with
  | false =>
   have hf := Lib.hid (show r = false by rw [← HR.out]; unfold accountsB; rw [hd, Bool.and_false]; rfl)
   clear hd
   simp only [Bool.not_false]
   go_wp2_with fail
   go_ret
   exact ⟨by rw [hf.out]; first | done | rfl, hbc⟩
  | true =>
   have HD := Lib.hid hd
   clear hd
   simp only [Bool.not_true]
   go_upto_region 4 with fail
   have hs0 := SetK.made Try.prog 3 4 iKey w3
   have HB4 := below1 w3 (.map #[] 0)
   have HS4 : w3.heap.size + 1 = (w3.alloc (.map #[] 0)).heap.size := by simp
   have G4 := alloc_keep G3 (.map #[] 0)
   generalize hW4 : w3.alloc (Obj.map #[] 0) = W4 at *
   clear hW4
   have e5 : W4.rangeAt w.heap.size 5 [.int .i64 r0, .int .i64 r1, .int .i64 r2, .int .i64 r3, .int .i64 r4, .int .i64 r5, .int .i64 r6, .int .i64 r7, .int .i64 r8, .int .i64 r9, .int .i64 r10, .int .i64 r11, .int .i64 r12, .int .i64 r13, .int .i64 r14] := ((HAT.out.fr (Fr.ofBelow hb2)).fr ((Fr.ofBelow (hb3.trans (HB4.mono hs3))).mono (fun k (hk : k < W.heap.size) => by omega))).range
   have HRR := Lib.hid e5
   have HG4 := Lib.hid G4
   clear e5 G4 G3 G2
   go_wp2_with (show wpList _ _ _ (Oper.mk (some 19) _ _ _ _ _ :: _) _ _; refine wpList_load_mid rfl 26 (.tmp 18) rfl w.heap.size 5 rfl [.int .i64 r0, .int .i64 r1, .int .i64 r2, .int .i64 r3, .int .i64 r4, .int .i64 r5, .int .i64 r6, .int .i64 r7, .int .i64 r8, .int .i64 r9, .int .i64 r10, .int .i64 r11, .int .i64 r12, .int .i64 r13, .int .i64 r14] _ HRR.out Try.underlying26 rfl info_roles ?_)
   refine (roles_c r0 r1 r2 r3 r4 r5 r6 r7 r8 r9 r10 r11 r12 r13 r14 W4).mono ?_
   rintro e w5 ⟨v, rfl, ⟨A, c, rfl⟩, hrl, hb5⟩
   rw [HLQ.out] at hrl
   have HROL := Lib.hid (show ListC RoleC 5 w5 (fun k => W4.heap.size ≤ k ∧ k < w5.heap.size) [.slice A L.length c] L by rw [HLL.out]; exact hrl)
   have hs5 := hb5.size
   have hbd := hbc.trans ((HB4.mono hbc.size).trans (hb5.mono (by omega)))
   have hset5 := hs0.below hb5
   have HG5 := Lib.hid ((hb5.block _ (by omega)).trans HG4.out)
   clear hrl hs0
   go_wp2_with fail
   go_loopw [22] (fun i wr => ∃ k : Nat, k ≤ 15 ∧ i = .int .i64 (k : Int) ∧ Fr (QX w5.heap.size w3.heap.size) w5 wr ∧ SetI wr w3.heap.size k (fun d => (L.take k).any fun p => p.code == d) ∧ ∀ j, j < k → roleRow ch L j = true) (fun i _ => 15 - (intOf i).toNat)
   case atStart => exact ⟨0, by omega, rfl, Fr.refl _ _, hset5.eqv (fun _ => rfl), fun j hj => by omega⟩
   case round =>
    obtain ⟨k, hk, rfl, hfr, hset, hall⟩ := hrel
    have HA := Lib.hid hall
    have HF := Lib.hid hfr
    have hsz := hfr.size
    clear hall hfr
    have hb0 : Below w.heap.size w wr := ((Fr.ofBelow hbd).trans (HF.out.mono (fun k (hk : k < w.heap.size) => ⟨by omega, by omega⟩))).below
    by_cases hlt : k < 15
    case pos =>
     have hltI : (k : Int) < 15 := by omega
     have hkl : k < L.length := by rw [HLL.out]; exact hlt
     obtain ⟨b, o, es1, hAe, hbw, hes, hat⟩ := ListC.get HROL.out k hkl
     subst hAe
     obtain ⟨q, hq⟩ : ∃ q, L[k] = q := ⟨_, rfl⟩
     have hqb := HRB.out _ (List.getElem_mem hkl)
     rw [hq] at hes hqb
     have HQ := Lib.hid (show L[k]? = some q by rw [List.getElem?_eq_getElem hkl, hq])
     obtain ⟨qn, qc, qk, qb, qm⟩ := q
     have HQB := Lib.hid hqb
     obtain ⟨hqb1, hqb2⟩ := hqb
     have hes1 : es1 = [.string qn, .int .i64 qc, .int .i64 qk, .int .i64 qb, .bool qm] := hes
     subst hes1
     have HAR := Lib.hid ((hat.fr (HF.out.mono (fun k hk => ⟨hk.2, by omega⟩))).range)
     have G6 := (HF.out.block w.heap.size ⟨by omega, by omega⟩).trans HG5.out
     have HLW := Lib.hid (chart_keep HL.out hb0)
     obtain ⟨F, hF⟩ : ∃ F : Int → Bool, (fun d => (L.take k).any fun p => p.code == d) = F := ⟨_, rfl⟩
     rw [hF] at hset
     have HF2 := Lib.hid hF
     clear hes hat hq hF hbw
     go_upto_region 7 with (show wpList _ _ _ (Oper.mk (some 25) _ _ _ _ _ :: _) _ _; refine wpList_load_mid rfl 118 (.tmp 24) rfl b (o + k * 5) rfl [.string qn, .int .i64 qc, .int .i64 qk, .int .i64 qb, .bool qm] _ HAR.out Try.underlying118 rfl info_role ?_)
     have H6 := heap_alloc_new wr (.cells #[.string qn, .int .i64 qc, .int .i64 qk, .int .i64 qb, .bool qm] 118)
     have HB6 := below1 wr (.cells #[.string qn, .int .i64 qc, .int .i64 qk, .int .i64 qb, .bool qm] 118)
     have HS6 := blk_lt H6
     replace G6 := alloc_keep G6 (Obj.cells #[.string qn, .int .i64 qc, .int .i64 qk, .int .i64 qb, .bool qm] 118)
     generalize hW6 : wr.alloc (Obj.cells #[.string qn, .int .i64 qc, .int .i64 qk, .int .i64 qb, .bool qm] 118) = W6 at *
     clear hW6
     have f1 := blk_cell H6 1
     have d4 := blk_cell G6 4
     have hset6 := hset.below HB6
     have HH6 := Lib.hid H6
     have HG6 := Lib.hid G6
     have HLW6 := Lib.hid (chart_keep HLW.out HB6)
     clear H6 G6 hset
     go_wp2_with fail
     have hcall := find_c ch Ac cc qc W6 HLW6.out HQB.out (by rw [HN.out]; exact hn)
     rw [HN.out] at hcall
     refine hcall.mono ?_
     clear hcall
     rintro e w7 ⟨rfl, hb7⟩
     have hs6 := HB6.size
     have hs7 := hb7.size
     have hset7 := hset6.below hb7
     have hb67 := HB6.trans (hb7.mono HB6.size)
     have hb07 := hb0.trans (hb67.mono hb0.size)
     cases ha : findA ch qc with
     | none =>
      have e0 : findV ch qc = .tuple #[.agg (accL {}).toArray, .bool false] := findV_none ha
      rw [e0]
      have hf := Lib.hid (show r = false by rw [← HR.out]; exact acc_roles (L := L) HLQ.out hkl (row_none HQ.out ha))
      clear e0 ha
      go_wp2_with fail
      go_ret
      exact ⟨by rw [hf.out]; first | done | rfl, hb07.alloc hb07.size _⟩
     | some pa =>
      have e0 : findV ch qc = .tuple #[.agg (accL pa).toArray, .bool true] := findV_some ha
      rw [e0]
      have HROW := Lib.hid (row_some HQ.out ha)
      clear e0 ha
      obtain ⟨p1, p2, p3, p4⟩ := pa
      have G7 := (hb7.block _ (by omega)).trans HG6.out
      have K7 := (hb7.block _ HS6).trans HH6.out
      go_upto_region 8 with fail
      have H8 := heap_alloc_new w7 (.cells #[.int .i64 p1, .int .i64 p2, .int .i64 p3, .int .i64 p4] 72)
      have HB8 := below1 w7 (.cells #[.int .i64 p1, .int .i64 p2, .int .i64 p3, .int .i64 p4] 72)
      have HS8 := blk_lt H8
      replace G7 := alloc_keep G7 (Obj.cells #[.int .i64 p1, .int .i64 p2, .int .i64 p3, .int .i64 p4] 72)
      replace K7 := alloc_keep K7 (Obj.cells #[.int .i64 p1, .int .i64 p2, .int .i64 p3, .int .i64 p4] 72)
      generalize hW8 : w7.alloc (Obj.cells #[.int .i64 p1, .int .i64 p2, .int .i64 p3, .int .i64 p4] 72) = W8 at *
      clear hW8
      have g1 := blk_cell H8 1
      have g2 := blk_cell H8 2
      have f1 := blk_cell K7 1
      have f2 := blk_cell K7 2
      have f3 := blk_cell K7 3
      have hset8 := hset7.below HB8
      have hb08 := hb07.trans (HB8.mono hb07.size)
      have hb68 := hb67.trans (HB8.mono hb67.size)
      have hs8 := HB8.size
      clear H8 K7 G7 hset7
      cases hcont : F qc with
      | true =>
       have hf := Lib.hid (show r = false by rw [← HR.out]; exact acc_roles (L := L) HLQ.out hkl (by rw [HROW.out, show ((L.take k).any fun p => p.code == qc) = true from (congrFun HF2.out qc).trans hcont]; simp))
       go_wp2_with (at_lookup; refine wpList_look_set rfl _ _ 114 rfl 3 4 int_keyed3 imap_uty bool_uty (bool_zero _) w3.heap.size k F rfl hset8 _ qc rfl (iKey_of HQB.out) ?_)
       go_ret
       exact ⟨by rw [hf.out]; first | done | rfl, hb08⟩
      | false =>
      by_cases h1 : p2 = qk
      case neg =>
       have h1' : (p2 != qk) = true := by simpa using h1
       have hf := Lib.hid (show r = false by rw [← HR.out]; exact acc_roles (L := L) HLQ.out hkl (by rw [HROW.out, show (p2 == qk) = false from by simpa using h1]; rfl))
       go_wp2_with (at_lookup; refine wpList_look_set rfl _ _ 114 rfl 3 4 int_keyed3 imap_uty bool_uty (bool_zero _) w3.heap.size k F rfl hset8 _ qc rfl (iKey_of HQB.out) ?_)
       go_ret
       exact ⟨by rw [hf.out]; first | done | rfl, hb08⟩
      case pos =>
      have h1' : (p2 != qk) = false := by simpa using h1
      by_cases h2 : p3 = qb
      case neg =>
       have h2' : (p3 != qb) = true := by simpa using h2
       have hf := Lib.hid (show r = false by rw [← HR.out]; exact acc_roles (L := L) HLQ.out hkl (by rw [HROW.out, show (p3 == qb) = false from by simpa using h2, Bool.and_false]; rfl))
       go_wp2_with (at_lookup; refine wpList_look_set rfl _ _ 114 rfl 3 4 int_keyed3 imap_uty bool_uty (bool_zero _) w3.heap.size k F rfl hset8 _ qc rfl (iKey_of HQB.out) ?_)
       go_ret
       exact ⟨by rw [hf.out]; first | done | rfl, hb08⟩
      case pos =>
      have h2' : (p3 != qb) = false := by simpa using h2
      have HROW2 := Lib.hid (show roleRow ch L k = true by rw [HROW.out, show ((L.take k).any fun p => p.code == qc) = false from (congrFun HF2.out qc).trans hcont, h1, h2]; simp)
      go_wp2_with (first | (at_lookup; refine wpList_look_set rfl _ _ 114 rfl 3 4 int_keyed3 imap_uty bool_uty (bool_zero _) w3.heap.size k F rfl hset8 _ qc rfl (iKey_of HQB.out) ?_) | (at_mapUpdate; refine wpList_store_set rfl _ _ _ 114 rfl 3 4 int_keyed3 imap_uty bool_uty w3.heap.size k F rfl hset8 (by simp only [maxLen]; omega) iKey_inj iKey_lit _ qc rfl true rfl (iKey_of HQB.out) ?_; intro w9 hset9 hg9; replace hset9 := Lib.hid hset9))
      go_roundw
      case rel =>
       refine ⟨k + 1, by omega, by go_num, ?_, ?_, ?_⟩
       · exact (HF.out.trans ((Fr.ofBelow hb68).mono (fun k hk => by have := hk.1; omega))).grown hg9 (fun k hk => hk.1) (fun j hj => by injection hj with hj; exact fun h => h.2 hj.symm)
       · exact hset9.out.eqv (fun d => take_seen HQ.out HF2.out d)
       · intro j hj
         rcases Nat.lt_or_ge j k with h | h
         · exact HA.out j h
         · have : j = k := by omega
           subst this
           exact HROW2.out
      case measure =>
       exact meas_v hlt
    case neg =>
     have hltI : ¬ (k : Int) < 15 := by omega
     have hf := Lib.hid (show r = true by rw [← HR.out]; exact acc_all (L := L) HLQ.out HC.out HD.out (fun j hj => HA.out j (by have := HLL.out; omega)))
     go_wp2_with fail
     go_ret
     exact ⟨by rw [hf.out]; first | done | rfl, hb0⟩
def chainB (md : Region.Mode) (ops : Array Oper) (m : Nat) : Bool := (List.range (ops.size - m)).all (fun j => Region.ready md ops (headDone (m + j) ops.size) == [m + j]) && Region.ready md ops (headDone ops.size ops.size) == []
theorem headDone_set (m n : Nat) (h : m < n) : (headDone m n).setIfInBounds m true = headDone (m + 1) n := by
 apply Array.ext
 · simp [headDone]
 · intro i h1 h2
   simp only [headDone, List.size_toArray, List.length_map, List.length_range, Array.size_setIfInBounds] at h1 h2
   rw [Array.getElem_setIfInBounds (by simpa [headDone] using h1)]
   simp only [headDone, List.getElem_toArray, List.getElem_map, List.getElem_range]
   by_cases hi : m = i
   · subst hi; simp
   · rw [if_neg hi]
     have : (i < m) ↔ (i < m + 1) := by omega
     simp [this]
theorem wpAny_chain_aux {P : Program} {md : Region.Mode} {ops : Array Oper} {Q : Exit → Act → World → Prop} (f : Nat) : ∀ (d m : Nat) (a : Act) (w : World), m + d = ops.size → (∀ i, m ≤ i → i < ops.size → Region.ready md ops (headDone i ops.size) = [i]) → Region.ready md ops (headDone ops.size ops.size) = [] →
 wpList P ops Q (ops.toList.drop m) a w → wpAny P md ops Q (f + d) (headDone m ops.size) a w
 | 0, m, a, w, hm, hr, h0, h => by
  have hm' : m = ops.size := by omega
  subst hm'
  rw [List.drop_eq_nil_of_le (by simp)] at h
  exact wpAny_done h0 h _
 | d + 1, m, a, w, hm, hr, h0, h => by
  have hlt : m < ops.size := by omega
  refine wpAny_all (rs := [m]) (hr m (Nat.le_refl _) hlt) (by simp) (fun i hi => ?_)
  obtain rfl : i = m := by simpa using hi
  rw [headDone_set i ops.size hlt]
  have ho : ops[i]? = some ops[i] := Array.getElem?_eq_getElem hlt
  have hd : ops.toList.drop i = ops[i] :: ops.toList.drop (i + 1) := by
   rw [List.drop_eq_getElem_cons (by simpa using hlt)]; simp
  rw [hd] at h
  unfold wpOp
  rw [ho]
  simp only [wpList] at h
  have ih := fun a w => wpAny_chain_aux (P := P) (md := md) (ops := ops) (Q := Q) f d (i + 1) a w (by omega) (fun j hj => hr j (by omega)) h0
  show if Region.wanted ops[i] (yielded ops a.tmps) = true then _ else _
  split
  · rename_i hw
    rw [if_pos hw] at h
    rcases h with h | h
    · exact .inl (Oper.wp_mono ih h)
    · exact .inr h
  · rename_i hw
    rw [if_neg hw] at h
    exact ih _ _ h
theorem wpAny_chain {P : Program} {md : Region.Mode} {ops : Array Oper} {Q : Exit → Act → World → Prop} {f m : Nat} {a : Act} {w : World} (hc : chainB md ops m = true) (hm : m < ops.size) (h : wpList P ops Q (ops.toList.drop m) a w) : wpAny P md ops Q (f + (ops.size - m)) (headDone m ops.size) a w := by
 unfold chainB at hc
 simp only [Bool.and_eq_true, List.all_eq_true, beq_iff_eq, List.mem_range] at hc
 exact wpAny_chain_aux f _ m a w (by omega) (fun i h1 h2 => by have := hc.1 (i - m) (by omega); rwa [show m + (i - m) = i from by omega] at this) hc.2 h
theorem wp_region_inv3 {P : Program} {ops : Array Oper} {Q : Exit → Act → World → Prop} (m : Nat) (V : Nat → Value → World → Prop) (S : World → Prop) {id : Nat} {a : Act} {w : World}
 (hm : P.follows .mixedOrders = true) (ho : ordB' .any ops = true) (hd : dstB ops a.tmps.size = true) (hmn : m < ops.size) (hwait : waitsB .any ops m = true) (hbeh : behindB .any ops m = true) (hch : chainB .any ops m = true) (hS : S w.drew)
 (hstep : AllOps (OpStep P .any ops Q V S a) 0 (ops.toList.take m))
 (hmid : ∀ a' w', Inv .any ops V S a (headDone m ops.size) a' w' → wpList P ops Q (ops.toList.drop m) a' w') : (Code.region id ops true).wp P Q a w :=
 wp_region_inv2' m V S hm ho hd hmn hwait hbeh hS hstep (fun f a' w' hI => wpAny_chain hch hmn (hmid a' w' hI))
def waitsL (md : Region.Mode) (late : Nat → Bool) (ops : Array Oper) (m : Nat) : Bool :=
 (List.range m).all fun i => late i || ((List.range ops.size).drop (i + 1)).any fun j => decide (j ≤ m) && !(decide (j < m) && late j) && match ops[j]? with
  | some o => o.after.toList.any fun e => Region.binds md e && e.on == i
  | none => false
theorem waitsL_spec {md : Region.Mode} {late : Nat → Bool} {ops : Array Oper} {V : Nat → Value → World → Prop} {S : World → Prop} {a0 : Act} {listed : Array Bool} {a : Act} {w : World} {m : Nat} (hI : Inv md ops V S a0 listed a w)
 (h : waitsL md late ops m = true) {o : Oper} (ho : ops[m]? = some o) (hd : ∀ e ∈ o.after, Region.binds md e = true → Done listed e.on) : ∀ k i, i < m → late i = false → m - i ≤ k → Done listed i
 | 0, i, hi, _, hk => absurd hk (by omega)
 | k + 1, i, hi, hl, hk => by
  simp only [waitsL, List.all_eq_true, List.mem_range] at h
  have h1 := h i hi
  rw [hl, Bool.false_or] at h1
  simp only [List.any_eq_true, Bool.and_eq_true, decide_eq_true_eq] at h1
  obtain ⟨j, hj, ⟨hjm, hlate⟩, h2⟩ := h1
  have hij : i < j := by
   rw [List.mem_drop_iff_getElem] at hj
   obtain ⟨q, hq, hq2⟩ := hj
   simp at hq2
   omega
  cases hoj : ops[j]? with
  | none => rw [hoj] at h2; simp at h2
  | some oj =>
   rw [hoj] at h2
   simp only [List.any_eq_true, Bool.and_eq_true, beq_iff_eq] at h2
   obtain ⟨e, he, hb, rfl⟩ := h2
   by_cases hjm2 : j = m
   · subst hjm2
     rw [ho] at hoj
     cases hoj
     exact hd e (by simpa using he) hb
   · have hlj : late j = false := by
      have : decide (j < m) = true := decide_eq_true (by omega)
      simpa [this] using hlate
     have := waitsL_spec hI (by simpa only [waitsL, List.all_eq_true, List.mem_range] using h) ho hd k j (by omega) hlj (by omega)
     exact hI.closed j oj hoj this e (by simpa using he) hb
theorem wpAny_inv5 {P : Program} {md : Region.Mode} {ops : Array Oper} {Q : Exit → Act → World → Prop} {V : Nat → Value → World → Prop} {S : World → Prop} {a0 : Act} {m : Nat} (late : Nat → Bool)
 (hord : ∀ (i : Nat) (o : Oper), ops[i]? = some o → ∀ e ∈ o.after, Region.binds md e = true → e.on < i)
 (hdst : ∀ (i j : Nat) (oi oj : Oper) (d : Nat), ops[i]? = some oi → ops[j]? = some oj → oi.dst = some d → oj.dst = some d → i = j)
 (hlt : ∀ (i : Nat) (o : Oper) (d : Nat), ops[i]? = some o → o.dst = some d → d < a0.tmps.size)
 (hmn : m < ops.size) (hwait : waitsB md ops m = true) (hbeh : behindB md ops m = true)
 (hstep : ∀ i o, i < m → late i = true → ops[i]? = some o → ∀ listed a w, Inv md ops V S a0 listed a w → (∀ e ∈ o.after, Region.binds md e = true → Done listed e.on) → ¬ Done listed i →
  ∀ K : Act → World → Prop, (∀ v w', S w' → V i v w' → (∀ j u, V j u w → V j u w') → K (a.put o.dst v) w') → if Region.wanted o (yielded ops a.tmps) = true then o.wp P a w K Q else K (a.put o.dst undef) w)
 (hmid : ∀ f a w, Inv md ops V S a0 (headDone m ops.size) a w → wpAny P md ops Q (f + (ops.size - m)) (headDone m ops.size) a w) :
 ∀ fuel listed a w, Inv md ops V S a0 listed a w → (∀ i, m ≤ i → i < ops.size → ¬ Done listed i) → (∀ i, i < m → late i = false → Done listed i) → left ops.size listed ≤ fuel → wpAny P md ops Q fuel listed a w := by
 intro fuel
 induction fuel with
 | zero =>
  intro listed a w hI hno hE hf
  have hr : Region.ready md ops listed = [] := by
   rw [List.eq_nil_iff_forall_not_mem]
   intro i hi
   obtain ⟨h1, o, h2, _⟩ := mem_ready.1 hi
   have := left_set hI.lsize (Array.getElem?_eq_some_iff.1 h2).1 h1
   omega
  exact absurd (all_done' hI.lsize hord hr (m + 1) m (by omega) hmn) (hno m (by omega) hmn)
 | succ fuel ih =>
  intro listed a w hI hno hE hf
  by_cases hall : ∀ i, i < m → Done listed i
  · have hl := eq_headDone hI.lsize (fun i hi _ => hall i hi) hno
    subst hl
    have h1 := left_head m ops.size ops.size (Nat.le_refl _)
    unfold left at hf
    have h2 := hmid (fuel + 1 - (ops.size - m)) a w hI
    rwa [show fuel + 1 - (ops.size - m) + (ops.size - m) = fuel + 1 from by omega] at h2
  · refine ⟨fun hr => absurd (all_done' hI.lsize hord hr (m + 1) m (by omega) hmn) (hno m (by omega) hmn), fun i hi => ?_⟩
    obtain ⟨h1, o, h2, h3⟩ := mem_ready.1 hi
    have hsz : i < ops.size := (Array.getElem?_eq_some_iff.1 h2).1
    have him : i < m := by
     refine Nat.lt_of_not_le fun hle => ?_
     by_cases he : i = m
     · subst he
       exact hall fun j hj => waits_spec hI hwait h2 h3 (i - j) j hj (Nat.le_refl _)
     · simp only [behindB, List.all_eq_true] at hbeh
       have h4 := hbeh i (by rw [List.mem_drop_iff_getElem]; exact ⟨i - (m + 1), by simp; omega, by simp; omega⟩)
       rw [h2] at h4
       simp only [List.any_eq_true, Bool.and_eq_true, decide_eq_true_eq] at h4
       obtain ⟨e, hem, ⟨hb, hme⟩, hei⟩ := h4
       exact hno e.on hme (by omega) (h3 e (by simpa using hem) hb)
    have hnd : ¬ Done listed i := by
     unfold Done
     rw [← getD_tf (by rw [hI.lsize]; exact hsz), h1]
     simp
    have hli : late i = true := by
     cases h : late i with
     | true => rfl
     | false => exact absurd (hE i him h) hnd
    refine wpOp_step h2 (fun K hK => hstep i o him hli h2 listed a w hI h3 hnd K (fun v w' hS hv hst => hK _ _ ?_))
    refine ih _ _ _ (hI.step hdst hlt h2 h3 hS hv hst) (fun j hj hjs hdj => ?_) (fun j hj hl => (hE j hj hl).set) ?_
    · rcases hdj.inv with rfl | hdj
      · omega
      · exact hno j hj hjs hdj
    · have := left_set hI.lsize hsz h1
      omega
theorem wpAny_inv6 {P : Program} {md : Region.Mode} {ops : Array Oper} {Q : Exit → Act → World → Prop} {V V2 : Nat → Value → World → Prop} {S S2 : World → Prop} {a0 : Act} {m : Nat} (late : Nat → Bool) (om : Oper) (hom : ops[m]? = some om) (hod : om.dst = none)
 (hord : ∀ (i : Nat) (o : Oper), ops[i]? = some o → ∀ e ∈ o.after, Region.binds md e = true → e.on < i)
 (hdst : ∀ (i j : Nat) (oi oj : Oper) (d : Nat), ops[i]? = some oi → ops[j]? = some oj → oi.dst = some d → oj.dst = some d → i = j)
 (hlt : ∀ (i : Nat) (o : Oper) (d : Nat), ops[i]? = some o → o.dst = some d → d < a0.tmps.size)
 (hmn : m + 1 < ops.size) (hwaitL : waitsL md late ops m = true) (hbeh : behindB md ops m = true) (hwait : waitsB md ops (m + 1) = true) (hbeh2 : behindB md ops (m + 1) = true) (hlm : late m = false)
 (hstep : ∀ i o, i < m → ops[i]? = some o → ∀ listed a w, Inv md ops V S a0 listed a w → (∀ e ∈ o.after, Region.binds md e = true → Done listed e.on) → ¬ Done listed i →
  ∀ K : Act → World → Prop, (∀ v w', S w' → V i v w' → (∀ j u, V j u w → V j u w') → K (a.put o.dst v) w') → if Region.wanted o (yielded ops a.tmps) = true then o.wp P a w K Q else K (a.put o.dst undef) w)
 (hstore : ∀ listed a w, Inv md ops V S a0 listed a w → (∀ i, i < m → late i = false → Done listed i) →
  ∀ K : Act → World → Prop, (∀ w', S2 w' → (∀ i o d u, i < m → ops[i]? = some o → o.dst = some d → a.tmps[d]? = some u → V i u w → V2 i u w') → K (a.put om.dst undef) w') → if Region.wanted om (yielded ops a.tmps) = true then om.wp P a w K Q else K (a.put om.dst undef) w)
 (hstepL : ∀ i o, i < m + 1 → late i = true → ops[i]? = some o → ∀ listed a w, Inv md ops V2 S2 a0 listed a w → (∀ e ∈ o.after, Region.binds md e = true → Done listed e.on) → ¬ Done listed i →
  ∀ K : Act → World → Prop, (∀ v w', S2 w' → V2 i v w' → (∀ j u, V2 j u w → V2 j u w') → K (a.put o.dst v) w') → if Region.wanted o (yielded ops a.tmps) = true then o.wp P a w K Q else K (a.put o.dst undef) w)
 (hmid : ∀ f a w, Inv md ops V2 S2 a0 (headDone (m + 1) ops.size) a w → wpAny P md ops Q (f + (ops.size - (m + 1))) (headDone (m + 1) ops.size) a w) :
 ∀ fuel listed a w, Inv md ops V S a0 listed a w → (∀ i, m ≤ i → i < ops.size → ¬ Done listed i) → left ops.size listed ≤ fuel → wpAny P md ops Q fuel listed a w := by
 have hm1 : m < ops.size := by omega
 intro fuel
 induction fuel with
 | zero =>
  intro listed a w hI hno hf
  have hr : Region.ready md ops listed = [] := by
   rw [List.eq_nil_iff_forall_not_mem]
   intro i hi
   obtain ⟨h1, o, h2, _⟩ := mem_ready.1 hi
   have := left_set hI.lsize (Array.getElem?_eq_some_iff.1 h2).1 h1
   omega
  exact absurd (all_done' hI.lsize hord hr (m + 1) m (by omega) hm1) (hno m (by omega) hm1)
 | succ fuel ih =>
  intro listed a w hI hno hf
  refine ⟨fun hr => absurd (all_done' hI.lsize hord hr (m + 1) m (by omega) hm1) (hno m (by omega) hm1), fun i hi => ?_⟩
  obtain ⟨h1, o, h2, h3⟩ := mem_ready.1 hi
  have hsz : i < ops.size := (Array.getElem?_eq_some_iff.1 h2).1
  have him : i ≤ m := by
   refine Nat.le_of_not_lt fun hgt => ?_
   simp only [behindB, List.all_eq_true] at hbeh
   have h4 := hbeh i (by rw [List.mem_drop_iff_getElem]; exact ⟨i - (m + 1), by simp; omega, by simp; omega⟩)
   rw [h2] at h4
   simp only [List.any_eq_true, Bool.and_eq_true, decide_eq_true_eq] at h4
   obtain ⟨e, hem, ⟨hb, hme⟩, hei⟩ := h4
   exact hno e.on hme (by omega) (h3 e (by simpa using hem) hb)
  have hnd : ¬ Done listed i := by
   unfold Done
   rw [← getD_tf (by rw [hI.lsize]; exact hsz), h1]
   simp
  have hleft := left_set hI.lsize hsz h1
  by_cases he : i = m
  · subst he
    rw [hom] at h2
    cases h2
    have hE : ∀ j, j < i → late j = false → Done listed j := fun j hj hl => waitsL_spec hI hwaitL hom h3 (i - j) j hj hl (Nat.le_refl _)
    refine wpOp_step hom (fun K hK => hstore listed a w hI hE K (fun w' hS2 hV => hK _ _ ?_))
    refine wpAny_inv5 (V := V2) (S := S2) (a0 := a0) (m := i + 1) late hord hdst hlt hmn hwait hbeh2 hstepL hmid fuel _ _ _ ?_ (fun j hj hjs hdj => ?_) (fun j hj hl => ?_) (by omega)
    · refine ⟨by simp [hI.lsize], hS2, ?_, ?_, ?_, ?_, ?_⟩
      · rw [hod]; exact hI.defers
      · rw [hod]; exact hI.size
      · intro j oj hoj hdj e hem hb
        rcases hdj.inv with rfl | hdj
        · rw [hom] at hoj; cases hoj
          exact Done.set (h3 e hem hb)
        · exact (hI.closed j oj hoj hdj e hem hb).set
      · intro j oj d hoj hjd hdj
        rcases hdj.inv with rfl | hdj
        · rw [hom] at hoj; cases hoj
          rw [hod] at hjd; cases hjd
        · obtain ⟨v, hv, hV1⟩ := hI.got j oj d hoj hjd hdj
          have hjm : j < i := Nat.lt_of_not_le fun hle => hno j hle (Array.getElem?_eq_some_iff.1 hoj).1 hdj
          exact ⟨v, by rw [hod]; exact hv, hV j oj d v hjm hoj hjd hv hV1⟩
      · intro j hj
        rw [hod]
        exact hI.old j (fun q oq hoq hqd hdq => hj q oq hoq hqd hdq.set)
    · rcases hdj.inv with rfl | hdj
      · omega
      · exact hno j (by omega) hjs hdj
    · by_cases hji : j = i
      · subst hji
        exact Done.new (by rw [hI.lsize]; exact hsz)
      · exact (hE j (by omega) hl).set
  · refine wpOp_step h2 (fun K hK => hstep i o (by omega) h2 listed a w hI h3 hnd K (fun v w' hS hv hst => hK _ _ ?_))
    refine ih _ _ _ (hI.step hdst hlt h2 h3 hS hv hst) (fun j hj hjs hdj => ?_) (by omega)
    rcases hdj.inv with rfl | hdj
    · omega
    · exact hno j hj hjs hdj
def LateStep (P : Program) (md : Region.Mode) (ops : Array Oper) (Q : Exit → Act → World → Prop) (V : Nat → Value → World → Prop) (S : World → Prop) (a0 : Act) (late : Nat → Bool) (i : Nat) (o : Oper) : Prop := late i = true → OpStep P md ops Q V S a0 i o
theorem wp_region_inv6 {P : Program} {ops : Array Oper} {Q : Exit → Act → World → Prop} (m : Nat) (late : Nat → Bool) (V : Nat → Value → World → Prop) (S : World → Prop) (V2 : Nat → Value → World → Prop) (S2 : World → Prop) {id : Nat} {a : Act} {w : World}
 (hm : P.follows .mixedOrders = true) (ho : ordB' .any ops = true) (hd : dstB ops a.tmps.size = true) (hmn : m + 1 < ops.size) (hwaitL : waitsL .any late ops m = true) (hbeh : behindB .any ops m = true) (hwait : waitsB .any ops (m + 1) = true) (hbeh2 : behindB .any ops (m + 1) = true) (hlm : late m = false) (hch : chainB .any ops (m + 1) = true)
 (om : Oper) (hom : ops[m]? = some om) (hod : om.dst = none) (hS : S w.drew)
 (hstep : AllOps (OpStep P .any ops Q V S a) 0 (ops.toList.take m))
 (hstore : ∀ listed A0 w2, Inv .any ops V S a listed A0 w2 → (∀ i, i < m → late i = false → Done listed i) →
  ∀ K : Act → World → Prop, (∀ w', S2 w' → (∀ i o d u, i < m → ops[i]? = some o → o.dst = some d → A0.tmps[d]? = some u → V i u w2 → V2 i u w') → K (A0.put om.dst undef) w') → if Region.wanted om (yielded ops A0.tmps) = true then om.wp P A0 w2 K Q else K (A0.put om.dst undef) w2)
 (hstepL : AllOps (LateStep P .any ops Q V2 S2 a late) 0 (ops.toList.take (m + 1)))
 (hmid : ∀ a' w', Inv .any ops V2 S2 a (headDone (m + 1) ops.size) a' w' → wpList P ops Q (ops.toList.drop (m + 1)) a' w') : (Code.region id ops true).wp P Q a w := by
 have hno : ∀ i, ¬ Done (Array.replicate ops.size false) i := fun i h => by
  unfold Done at h
  by_cases hi : i < ops.size <;> simp [Array.getD_eq_getD_getElem?, hi] at h
 refine wp_region_any hm (wpAny_inv6 (V := V) (S := S) (V2 := V2) (S2 := S2) (a0 := a) (m := m) late om hom hod (ordB_spec' ho) (fun i j oi oj d hi hj hid hjd => (dstB_spec hd i oi d hi hid).2 j oj hj hjd) (fun i o d hi hid => (dstB_spec hd i o d hi hid).1) hmn hwaitL hbeh hwait hbeh2 hlm
  (fun i o him hi listed a' w' hI hdn hnd K hK => ?_) hstore (fun i o him hl hi listed a' w' hI hdn hnd K hK => ?_) (fun f a' w' hI => wpAny_chain hch hmn (hmid a' w' hI)) _ _ _ _ ?_ (fun i _ _ => hno i) ?_)
 · have := AllOps.get hstep (i := i) (o := o) (by rw [List.getElem?_take_of_lt him]; simpa using hi)
   rw [Nat.zero_add] at this
   exact this listed a' w' hI hdn hnd K hK
 · have := AllOps.get hstepL (i := i) (o := o) (by rw [List.getElem?_take_of_lt him]; simpa using hi)
   rw [Nat.zero_add] at this
   exact this hl listed a' w' hI hdn hnd K hK
 · exact ⟨by simp, hS, rfl, rfl, fun i _ _ h => absurd h (hno i), fun i _ _ _ _ h => absurd h (hno i), fun _ _ => rfl⟩
 · unfold left
   exact Nat.le_trans (List.length_filter_le _ _) (by simp)
def isValB : Option Kind → Bool
 | some (.val _) => true
 | some _ => false
 | none => true
theorem Ks.store {W w w' : World} {ks : List Kind} {p i : Nat} {kn : Kind} {u : Value} (hv : ((List.range ks.length).all fun j => j == p || isValB ks[j]?) = true) (h : Ks W ks i u w) (hp : i = p → kn.holds W u w') : Ks W (ks.set p kn) i u w' := by
 intro k hk
 by_cases hip : i = p
 · subst hip
   rw [List.getElem?_set_self'] at hk
   cases hk2 : ks[i]? with
   | none => rw [hk2] at hk; cases hk
   | some k0 =>
    rw [hk2] at hk
    have hk3 : kn = k := Option.some.inj hk
    subst hk3
    exact hp rfl
 · rw [List.getElem?_set_ne (fun e => hip e.symm)] at hk
   have hlen : i < ks.length := (List.getElem?_eq_some_iff.1 hk).1
   rw [List.all_eq_true] at hv
   have h2 := hv i (List.mem_range.2 hlen)
   rw [hk] at h2
   have h3 := h k hk
   cases k with
   | val x => exact h3
   | own P hP => simp [isValB, hip] at h2
def IsNew (W : World) (arr : Array Value) (t : TypeId) (v : Value) (w : World) : Prop := ∃ g, v = .pointer (some ⟨g, 0, none⟩) ∧ W.heap.size ≤ g ∧ w.heap[g]? = some (.cells arr t (0, 0))
theorem IsNew.keep (W : World) (arr : Array Value) (t : TypeId) : ∀ v w w', Below w.heap.size w w' → IsNew W arr t v w → IsNew W arr t v w' := by
 rintro v w w' hb ⟨g, rfl, h1, h2⟩
 exact ⟨g, rfl, h1, (hb.block _ (blk_lt h2)).trans h2⟩
theorem IsNew.made {W w : World} (h : W.heap.size ≤ w.heap.size) (arr : Array Value) (t : TypeId) : IsNew W arr t (.pointer (some ⟨w.heap.size, 0, none⟩)) (w.alloc (.cells arr t)) := ⟨_, rfl, h, heap_alloc_new _ _⟩
end Go.Proofs.Ytekelchdbkjjjaa
namespace Go.Proofs.Ytekelchdbkjjjaa
open Go Go.RowKit
open Go.Maps (Keyed)
theorem find_n {l : List XAccount} {A : Option Addr} {c n : Nat} {w : World} (hN : l.length = n) (hl : ListC AccountC 4 w (· < w.heap.size) [.slice A l.length c] l) (hn : l.length ≤ 1000) (code : Int) (hc : intBd code) {o : XAccount} {s : Bool} (ho : accO (findA l code) = o) (hs : (findA l code).isSome = s) : Calls Try.prog 26 #[.slice A n c, .int .i64 code] w (Quiet w (.tuple #[.agg (accL o).toArray, .bool s])) := by
 subst hN ho hs
 exact find_c l A c code w hl hc hn
theorem valid_n {l : List XAccount} {A : Option Addr} {c n : Nat} {w : World} (hN : l.length = n) (hl : ListC AccountC 4 w (· < w.heap.size) [.slice A l.length c] l) (hn : l.length ≤ 1000) (g : Bool) : Calls Try.prog 60 #[.slice A n c, .bool g] w (Quiet w (.bool (chartB l g))) := by
 subst hN
 exact chartValid_c l A c g w hl hn
theorem linkB_eq {ec ch : List XAccount} {l : XLink} {o1 o2 : XAccount} {s1 s2 : Bool} (h1 : accO (findA ec l.from_) = o1) (h2 : (findA ec l.from_).isSome = s1) (h3 : accO (findA ch l.to_) = o2) (h4 : (findA ch l.to_).isSome = s2) : linkB ec ch l = (s1 && (s2 && (o1.kind == o2.kind && decide (inD l.since)))) := by
 unfold linkB
 subst h1 h2 h3 h4
 cases findA ec l.from_ with
 | none => rfl
 | some a => cases findA ch l.to_ with
  | none => rfl
  | some b => rfl
theorem linkRow_at {ec ch : List XAccount} {ls : List XLink} {k : Nat} {l : XLink} (h : ls[k]? = some l) : linkRow ec ch ls k = (linkB ec ch l && !((ls.take k).any fun k => k.from_ == l.from_ && k.since == l.since)) := by unfold linkRow; rw [h]
set_option maxHeartbeats 2000000 in
theorem link_c (s cu : ByteArray) (Ac Al Ah : Option Addr) (n m cc nl cl hc : Nat) (jo : Bool) (ec ch : List XAccount) (l : XLink) (w : World) (hN : ec.length = n) (hM : ch.length = m) (hec : ListC AccountC 4 w (· < w.heap.size) [.slice Ac ec.length cc] ec) (hch : ListC AccountC 4 w (· < w.heap.size) [.slice Ah ch.length hc] ch) (hl : linkBd l) (hn : ec.length ≤ 1000) (hm : ch.length ≤ 1000) :
 Calls Try.prog 79 #[.agg (entL s cu Ac n cc Al nl cl jo).toArray, .slice Ah m hc, .agg (linkL l).toArray] w (Quiet w (.bool (linkB ec ch l))) := by
 obtain ⟨r, hr⟩ : ∃ r, linkB ec ch l = r := ⟨_, rfl⟩
 rw [hr]
 obtain ⟨o1, ho1⟩ : ∃ o, accO (findA ec l.from_) = o := ⟨_, rfl⟩
 obtain ⟨s1, hs1⟩ : ∃ s, (findA ec l.from_).isSome = s := ⟨_, rfl⟩
 obtain ⟨o2, ho2⟩ : ∃ o, accO (findA ch l.to_) = o := ⟨_, rfl⟩
 obtain ⟨s2, hs2⟩ : ∃ s, (findA ch l.to_).isSome = s := ⟨_, rfl⟩
 have HR := Lib.hid (hr.symm.trans (linkB_eq ho1 hs1 ho2 hs2))
 obtain ⟨l1, l2, l3⟩ := l
 obtain ⟨b1, b2, b3⟩ := hl
 simp only at b1 b2 b3 ho1 hs1 ho2 hs2
 have HF1 := Lib.hid (fun (w2 : World) (hb : Below w.heap.size w w2) => find_n hN (chart_keep hec hb) hn l1 b1 ho1 hs1)
 have HF2 := Lib.hid (fun (w2 : World) (hb : Below w.heap.size w w2) => find_n hM (chart_keep hch hb) hm l2 b2 ho2 hs2)
 clear hr ho1 hs1 ho2 hs2 hec hch hN hM hn hm b1 b2
 show Calls Try.prog 79 #[.agg #[.string s, .string cu, .slice Ac n cc, .slice Al nl cl, .bool jo], .slice Ah m hc, .agg #[.int .i64 l1, .int .i64 l2, .int .i64 l3]] w (Quiet w (.bool r))
 go_enter Try.func79, Try.ntmps79
 go_upto_region 1 with fail
 have H := heap_alloc_new w (.cells #[.string s, .string cu, .slice Ac n cc, .slice Al nl cl, .bool jo] 65)
 have HB := below1 w (.cells #[.string s, .string cu, .slice Ac n cc, .slice Al nl cl, .bool jo] 65)
 have HS := blk_lt H
 generalize hW : w.alloc (Obj.cells #[.string s, .string cu, .slice Ac n cc, .slice Al nl cl, .bool jo] 65) = W at *
 have H2 := heap_alloc_new W (.cells #[.int .i64 l1, .int .i64 l2, .int .i64 l3] 81)
 have HB2 := below1 W (.cells #[.int .i64 l1, .int .i64 l2, .int .i64 l3] 81)
 have HS2 := blk_lt H2
 replace H := alloc_keep H (Obj.cells #[.int .i64 l1, .int .i64 l2, .int .i64 l3] 81)
 generalize hW2 : W.alloc (Obj.cells #[.int .i64 l1, .int .i64 l2, .int .i64 l3] 81) = W2 at *
 clear hW2
 have eW : W.heap.size = w.heap.size + 1 := by rw [← hW]; simp
 rw [eW] at H2
 clear hW
 have hb2 := HB.trans (HB2.mono HB.size)
 have e2 := blk_cell H 2
 have f0 := blk_cell H2 0
 have HH := Lib.hid H
 have HH2 := Lib.hid H2
 clear H H2
 go_wp2_with fail
 refine (HF1.out W2 hb2).mono ?_
 rintro e w3 ⟨rfl, hb3⟩
 have hb03 := hb2.trans (hb3.mono hb2.size)
 have K3 := (hb3.block _ (blk_lt HH2.out)).trans HH2.out
 obtain ⟨p1, p2, p3, p4⟩ := o1
 go_upto_region 2 with fail
 have H4 := heap_alloc_new w3 (.cells #[.int .i64 p1, .int .i64 p2, .int .i64 p3, .int .i64 p4] 72)
 have HB4 := below1 w3 (.cells #[.int .i64 p1, .int .i64 p2, .int .i64 p3, .int .i64 p4] 72)
 have HS4 := blk_lt H4
 replace K3 := alloc_keep K3 (Obj.cells #[.int .i64 p1, .int .i64 p2, .int .i64 p3, .int .i64 p4] 72)
 generalize hW4 : w3.alloc (Obj.cells #[.int .i64 p1, .int .i64 p2, .int .i64 p3, .int .i64 p4] 72) = W4 at *
 clear hW4
 have hb04 := hb03.trans (HB4.mono hb03.size)
 have f1 := blk_cell K3 1
 have HK3 := Lib.hid K3
 have HH4 := Lib.hid H4
 clear K3 H4 e2 f0
 go_wp2_with fail
 refine (HF2.out W4 hb04).mono ?_
 rintro e w5 ⟨rfl, hb5⟩
 have hb05 := hb04.trans (hb5.mono hb04.size)
 have K5 := (hb5.block _ (blk_lt HK3.out)).trans HK3.out
 have G5 := (hb5.block _ (blk_lt HH4.out)).trans HH4.out
 obtain ⟨q1, q2, q3, q4⟩ := o2
 go_upto_region 3 with fail
 have H6 := heap_alloc_new w5 (.cells #[.int .i64 q1, .int .i64 q2, .int .i64 q3, .int .i64 q4] 72)
 have HB6 := below1 w5 (.cells #[.int .i64 q1, .int .i64 q2, .int .i64 q3, .int .i64 q4] 72)
 have HS6 := blk_lt H6
 replace K5 := alloc_keep K5 (Obj.cells #[.int .i64 q1, .int .i64 q2, .int .i64 q3, .int .i64 q4] 72)
 replace G5 := alloc_keep G5 (Obj.cells #[.int .i64 q1, .int .i64 q2, .int .i64 q3, .int .i64 q4] 72)
 generalize hW6 : w5.alloc (Obj.cells #[.int .i64 q1, .int .i64 q2, .int .i64 q3, .int .i64 q4] 72) = W6 at *
 clear hW6
 have hb06 := hb05.trans (HB6.mono hb05.size)
 have f2 := blk_cell K5 2
 have g1 := blk_cell G5 1
 have k1 := blk_cell H6 1
 clear K5 G5 H6 f1
 cases s1 with
 | false =>
  have hf := Lib.hid (show r = false by rw [HR.out]; rfl)
  go_wp2_with fail
  go_ret
  exact ⟨by rw [hf.out]; first | done | rfl, hb06⟩
 | true =>
 cases s2 with
 | false =>
  have hf := Lib.hid (show r = false by rw [HR.out]; rfl)
  go_wp2_with fail
  go_ret
  exact ⟨by rw [hf.out]; first | done | rfl, hb06⟩
 | true =>
 by_cases h1 : p2 = q2
 case neg =>
  have h1' : (p2 == q2) = false := by simpa using h1
  have hf := Lib.hid (show r = false by rw [HR.out, h1']; rfl)
  go_wp2_with fail
  go_ret
  exact ⟨by rw [hf.out]; first | done | rfl, hb06⟩
 case pos =>
  have h1' : (p2 == q2) = true := by simpa using h1
  have hf := Lib.hid (show r = decide (inD l3) by rw [HR.out, h1']; rfl)
  obtain ⟨d, hd⟩ : ∃ d, decide (inD l3) = d := ⟨_, rfl⟩
  have hcall := dvalid_c l3 W6
  rw [hd] at hcall
  have HD := Lib.hid hd
  clear hd
  go_wp2_with fail
  refine hcall.mono ?_
  clear hcall
  rintro e w7 ⟨rfl, hb7⟩
  go_wp2_with fail
  go_ret
  exact ⟨by rw [hf.out, HD.out]; first | done | rfl, hb06.trans (hb7.mono hb06.size)⟩
end Go.Proofs.Ytekelchdbkjjjaa
namespace Go.Proofs.Ytekelchdbkjjjaa
open Go Go.RowKit
open Go.Maps (Keyed)
open Go.WideMaps (KeyLaw)
theorem try_laidOut : laidOutB Try.prog = true := by kernel_rfl
theorem link_row : (81 : TypeId) < Try.prog.types.size := of_decide_eq_true (by kernel_rfl)
theorem link_wide : (match Try.prog.underlying 81 with | some (.array _ _) | some (.struct _) => true | _ => false) = true := by kernel_rfl
theorem link_law : KeyLaw Try.prog 81 := deep_law_laid try_laidOut (m := 2) (by omega) link_row (by kernel_rfl) link_wide
theorem link_keyed : Keyed Try.prog 81 := Keyed.of_law link_law
theorem int_cells : Try.prog.cellsOf 3 = 1 := by kernel_rfl
theorem link_cells : Try.prog.cellsOf 81 = 3 := by kernel_rfl
theorem keyLits_int {d : Nat} {n : Int} (h : intBd n) : Try.prog.keyLits (d + 1) 3 [.int .i64 n] = some [.int .i64 n] := by
 unfold Program.keyLits
 rw [int_uty]
 simp [WalkArith.wf_i64 h]
theorem link_keyLits {d : Nat} {a z b : Int} (ha : intBd a) (hz : intBd z) (hb : intBd b) : Try.prog.keyLits (d + 2) 81 [.int .i64 a, .int .i64 z, .int .i64 b] = some [.int .i64 a, .int .i64 z, .int .i64 b] := by
 unfold Program.keyLits
 rw [Try.underlying81]
 have h1 := keyLits_int (d := d) ha
 have h2 := keyLits_int (d := d) hz
 have h3 := keyLits_int (d := d) hb
 simp [link_cells, int_cells, h1, h2, h3]
theorem link_keyType : Try.prog.keyType 81 = true := by kernel_rfl
theorem link_isStruct : ∃ fs, Try.prog.underlying 81 = some (.struct fs) := ⟨_, Try.underlying81⟩
theorem link_formed {a b c : Value} : (Value.agg #[a, b, c]).formed Try.prog 81 = true := by
 obtain ⟨fs, hu⟩ := link_isStruct
 simp [Value.formed, hu, link_cells]
theorem types_size : ∃ d, Try.prog.types.size + 1 = d + 2 := ⟨Try.prog.types.size - 1, by have h : 81 < Try.prog.types.size := link_row; omega⟩
theorem link_keyOf {a z b : Int} (ha : intBd a) (hz : intBd z) (hb : intBd b) : keyOf Try.prog 81 (.agg #[.int .i64 a, .int .i64 z, .int .i64 b]) = some (.string (keyBytes [.int .i64 a, .int .i64 z, .int .i64 b])) := by
 obtain ⟨fs, hu⟩ := link_isStruct
 obtain ⟨d, hd⟩ := types_size
 unfold keyOf
 rw [hu]
 simp only [link_keyType, link_formed, Bool.and_self, if_true, hd, Value.cells]
 rw [link_keyLits ha hz hb]; rfl
abbrev LK := {p : Int × Int // intBd p.1 ∧ intBd p.2}
def lkKey (c : LK) : Lit := .string (keyBytes [.int .i64 c.1.1, .int .i64 0, .int .i64 c.1.2])
theorem lkKey_of (c : LK) : keyOf Try.prog 81 (.agg #[.int .i64 c.1.1, .int .i64 0, .int .i64 c.1.2]) = some (lkKey c) := link_keyOf c.2.1 bd0 c.2.2
theorem lkKey_inj (x y : LK) (h : lkKey x = lkKey y) : x = y := by
 have h1 := lkKey_of x
 have h2 := lkKey_of y
 rw [← h] at h2
 have h3 := link_keyed.inj h1 h2
 have h4 := congrArg Array.toList (Value.agg.inj h3)
 simp only [List.cons.injEq, Value.int.injEq, true_and, and_true] at h4
 exact Subtype.ext (Prod.ext h4.1 h4.2)
theorem lkKey_lit (x : LK) : WideAt.IsKeyLit (lkKey x) := trivial
theorem lmap_uty : Try.prog.underlying 128 = some (.map 81 4) := by kernel_rfl
abbrev SetL (w : World) (b n : Nat) (f : LK → Bool) : Prop := SetK Try.prog 81 4 lkKey w b n f
def seenL (ls : List XLink) (k : Nat) (c : LK) : Bool := (ls.take k).any fun x => x.from_ == c.1.1 && x.since == c.1.2
theorem seenL_succ {ls : List XLink} {k : Nat} {l : XLink} (hk : ls[k]? = some l) (h1 : intBd l.from_) (h3 : intBd l.since) {F : LK → Bool} (hF : seenL ls k = F) (d : LK) : (if d = (⟨(l.from_, l.since), h1, h3⟩ : LK) then true else F d) = seenL ls (k + 1) d := by
 obtain ⟨hl, rfl⟩ := List.getElem?_eq_some_iff.1 hk
 unfold seenL
 rw [take_any_succ hl, ← hF]
 by_cases h : d = (⟨(ls[k].from_, ls[k].since), h1, h3⟩ : LK)
 · rw [if_pos h, h]; simp
 · rw [if_neg h]
   have : (ls[k].from_ == d.1.1 && ls[k].since == d.1.2) = false := by
    rw [Bool.and_eq_false_iff]
    by_cases e1 : ls[k].from_ = d.1.1
    · right
      have e2 : ¬ ls[k].since = d.1.2 := fun e2 => h (Subtype.ext (Prod.ext e1.symm e2.symm))
      simpa using e2
    · left; simpa using e1
   rw [this, Bool.or_false]; rfl
def mapB (ec ch : List XAccount) (ls : List XLink) : Bool := chartB ch true && chartB ec false && decide (ls.length ≤ 400) && linksB ec ch ls
theorem mapB_row {ec ch : List XAccount} {ls : List XLink} {k : Nat} (hk : k < ls.length) (h : linkRow ec ch ls k = false) : mapB ec ch ls = false := by
 unfold mapB linksB
 rw [all_range_false hk h, Bool.and_false]
set_option maxHeartbeats 2000000 in
theorem mapValid_c (s cu : ByteArray) (Ac Al Ah : Option Addr) (n m nl cc cl hc : Nat) (jo : Bool) (ec ch : List XAccount) (ls : List XLink) (w : World) (hN : ec.length = n) (hM : ch.length = m) (hNL : ls.length = nl) (hec : ListC AccountC 4 w (· < w.heap.size) [.slice Ac ec.length cc] ec) (hls : ListC LinkC 3 w (· < w.heap.size) [.slice Al ls.length cl] ls) (hch : ListC AccountC 4 w (· < w.heap.size) [.slice Ah ch.length hc] ch) (hn : ec.length ≤ 1000) (hm : ch.length ≤ 1000) (hnl : ls.length ≤ 1000) :
 Calls Try.prog 66 #[.agg (entL s cu Ac n cc Al nl cl jo).toArray, .slice Ah m hc] w (Quiet w (.bool (mapB ec ch ls))) := by
 have hmm := @run_makeMap Try.prog
 obtain ⟨r, hr⟩ : ∃ r, mapB ec ch ls = r := ⟨_, rfl⟩
 rw [hr]
 have HR := Lib.hid hr
 have HV1 := Lib.hid (fun (w2 : World) (hb : Below w.heap.size w w2) => valid_n hM (chart_keep hch hb) hm true)
 have HV2 := Lib.hid (fun (w2 : World) (hb : Below w.heap.size w w2) => valid_n hN (chart_keep hec hb) hn false)
 have HLK := Lib.hid (fun (w2 : World) (hb : Below w.heap.size w w2) (l : XLink) (hl : linkBd l) => link_c s cu Ac Al Ah n m cc nl cl hc jo ec ch l w2 hN hM (chart_keep hec hb) (chart_keep hch hb) hl hn hm)
 have HLS := Lib.hid hls
 have HNL := Lib.hid hNL
 rw [hNL] at hnl
 clear hr hec hch hN hM hls hNL hn hm
 show Calls Try.prog 66 #[.agg #[.string s, .string cu, .slice Ac n cc, .slice Al nl cl, .bool jo], .slice Ah m hc] w (Quiet w (.bool r))
 go_enter Try.func66, Try.ntmps66
 go_upto_region 1 with fail
 have H := heap_alloc_new w (.cells #[.string s, .string cu, .slice Ac n cc, .slice Al nl cl, .bool jo] 65)
 have HB := below1 w (.cells #[.string s, .string cu, .slice Ac n cc, .slice Al nl cl, .bool jo] 65)
 have HS := blk_lt H
 generalize hW : w.alloc (Obj.cells #[.string s, .string cu, .slice Ac n cc, .slice Al nl cl, .bool jo] 65) = W at *
 clear hW
 have HH := Lib.hid H
 clear H
 go_wp2_with fail
 refine (HV1.out W HB).mono ?_
 rintro e w2 ⟨rfl, hb2⟩
 have hb02 := HB.trans (hb2.mono HB.size)
 cases hc1 : chartB ch true with
 | false =>
  have hf := Lib.hid (show r = false by rw [← HR.out]; unfold mapB; rw [hc1]; rfl)
  go_wp2_with fail
  go_ret
  exact ⟨by rw [hf.out]; first | done | rfl, hb02⟩
 | true =>
 have HC1 := Lib.hid hc1
 have G2 := (hb2.block _ HS).trans HH.out
 have e2 := blk_cell G2 2
 have hs2 := hb2.size
 clear hc1
 go_wp2_with fail
 refine (HV2.out w2 hb02).mono ?_
 rintro e w3 ⟨rfl, hb3⟩
 have hb03 := hb02.trans (hb3.mono hb02.size)
 have hs3 := hb3.size
 have G3 := (hb3.block _ (by omega)).trans G2
 have e3 := blk_cell G3 3
 clear e2 G2
 cases hc2 : chartB ec false with
 | false =>
  have hf := Lib.hid (show r = false by rw [← HR.out]; unfold mapB; rw [hc2, Bool.and_false]; rfl)
  go_wp2_with fail
  go_ret
  exact ⟨by rw [hf.out]; first | done | rfl, hb03⟩
 | true =>
 have HC2 := Lib.hid hc2
 clear hc2
 by_cases hle : nl ≤ 400
 case neg =>
  have hleI : (400 : Int) < (nl : Int) := by omega
  have hf := Lib.hid (show r = false by rw [← HR.out]; unfold mapB; rw [HNL.out, decide_eq_false hle, Bool.and_false]; rfl)
  go_wp2_with fail
  go_ret
  exact ⟨by rw [hf.out]; first | done | rfl, hb03⟩
 case pos =>
 have hleI : ¬ (400 : Int) < (nl : Int) := by omega
 have HG3 := Lib.hid G3
 clear G3
 go_upto_region 4 with fail
 have hs0 := SetK.made Try.prog 81 4 lkKey w3
 have HB4 := below1 w3 (.map #[] 0)
 have HS4 : w3.heap.size + 1 = (w3.alloc (.map #[] 0)).heap.size := by simp
 have G4 := alloc_keep HG3.out (.map #[] 0)
 generalize hW4 : w3.alloc (Obj.map #[] 0) = W4 at *
 clear hW4 e3
 have e3 := blk_cell G4 3
 have HG4 := Lib.hid G4
 have hb04 := hb03.trans (HB4.mono hb03.size)
 clear G4
 go_wp2_with fail
 go_loopw [28] (fun i wr => ∃ k : Nat, k ≤ nl ∧ i = .int .i64 (k : Int) ∧ Fr (QX W4.heap.size w3.heap.size) W4 wr ∧ SetL wr w3.heap.size k (seenL ls k) ∧ ∀ j, j < k → linkRow ec ch ls j = true) (fun i _ => nl - (intOf i).toNat)
 case atStart => exact ⟨0, by omega, rfl, Fr.refl _ _, hs0.eqv (fun _ => rfl), fun j hj => by omega⟩
 case round =>
  obtain ⟨k, hk, rfl, hfr, hset, hall⟩ := hrel
  have HA := Lib.hid hall
  have HF := Lib.hid hfr
  have hsz := hfr.size
  clear hall hfr
  have hb0 : Below w.heap.size w wr := ((Fr.ofBelow hb04).trans (HF.out.mono (fun k (hk : k < w.heap.size) => ⟨by omega, by omega⟩))).below
  have hs0' := hb0.size
  by_cases hlt : k < nl
  case pos =>
   have hltI : (k : Int) < (nl : Int) := by omega
   have hkl : k < ls.length := by rw [HNL.out]; exact hlt
   obtain ⟨b, o, es1, hAe, hbw, hes, hat⟩ := ListC.get HLS.out k hkl
   subst hAe
   obtain ⟨hes1, hlb⟩ := LinkC.lit hes
   obtain ⟨l, hl⟩ : ∃ l, ls[k] = l := ⟨_, rfl⟩
   rw [hl] at hes1 hlb
   have HL := Lib.hid (show ls[k]? = some l by rw [List.getElem?_eq_getElem hkl, hl])
   obtain ⟨l1, l2, l3⟩ := l
   subst hes1
   have HLB := Lib.hid hlb
   have HB1 := Lib.hid hlb.1
   have HB3 := Lib.hid hlb.2.2
   have HAR := Lib.hid ((hat.fr (Fr.ofBelow hb0)).range)
   have E6 := (HF.out.block w.heap.size ⟨by omega, by omega⟩).trans HG4.out
   have HLINK := Lib.hid (HLK.out)
   obtain ⟨F, hF⟩ : ∃ F, seenL ls k = F := ⟨_, rfl⟩
   rw [hF] at hset
   have HF2 := Lib.hid hF
   clear hes hat hl hF hbw hlb
   go_upto_region 7 with (show wpList _ _ _ (Oper.mk (some 31) _ _ _ _ _ :: _) _ _; refine wpList_load_mid rfl 81 (.tmp 30) rfl b (o + k * 3) rfl [.int .i64 l1, .int .i64 l2, .int .i64 l3] _ HAR.out Try.underlying81 rfl info_link ?_)
   have H6 := heap_alloc_new wr (.cells #[.int .i64 l1, .int .i64 l2, .int .i64 l3] 81)
   have HB6 := below1 wr (.cells #[.int .i64 l1, .int .i64 l2, .int .i64 l3] 81)
   have HS6 := blk_lt H6
   replace E6 := alloc_keep E6 (Obj.cells #[.int .i64 l1, .int .i64 l2, .int .i64 l3] 81)
   generalize hW6 : wr.alloc (Obj.cells #[.int .i64 l1, .int .i64 l2, .int .i64 l3] 81) = W6 at *
   clear hW6
   have f0 := blk_cell H6 0
   have f2 := blk_cell H6 2
   have hset6 := hset.below HB6
   have hs6 := HB6.size
   clear hset
   go_upto_region 8 with fail
   have H8 := heap_alloc_new W6 (.cells #[.int .i64 l1, .int .i64 0, .int .i64 l3] 81)
   have HB8 := below1 W6 (.cells #[.int .i64 l1, .int .i64 0, .int .i64 l3] 81)
   have HS8 := blk_lt H8
   replace E6 := alloc_keep E6 (Obj.cells #[.int .i64 l1, .int .i64 0, .int .i64 l3] 81)
   replace H6 := alloc_keep H6 (Obj.cells #[.int .i64 l1, .int .i64 0, .int .i64 l3] 81)
   generalize hW8 : W6.alloc (Obj.cells #[.int .i64 l1, .int .i64 0, .int .i64 l3] 81) = W8 at *
   clear hW8
   have hset8 := hset6.below HB8
   have hs8 := HB8.size
   have hb68 := HB6.trans (HB8.mono HB6.size)
   have hb08 := hb0.trans (hb68.mono hb0.size)
   have k0 := blk_cell H8 0
   have k1 := blk_cell H8 1
   have k2 := blk_cell H8 2
   have f0 := blk_cell H6 0
   have f1 := blk_cell H6 1
   have f2 := blk_cell H6 2
   have HE8 := Lib.hid E6
   have HH8 := Lib.hid H8
   clear H8 H6 E6 hset6
   obtain ⟨c0, hc0⟩ : ∃ c : LK, c = ⟨(l1, l3), HB1.out, HB3.out⟩ := ⟨_, rfl⟩
   have HKEY := Lib.hid (show keyOf Try.prog 81 (.agg #[.int .i64 l1, .int .i64 0, .int .i64 l3]) = some (lkKey c0) by rw [hc0]; exact link_keyOf HB1.out bd0 HB3.out)
   have HSN := Lib.hid (show F c0 = ((ls.take k).any fun x => x.from_ == l1 && x.since == l3) by rw [← HF2.out, hc0]; rfl)
   have HC0 := Lib.hid hc0
   clear hc0
   cases hcont : F c0 with
   | true =>
    have hf := Lib.hid (show r = false by rw [← HR.out]; exact mapB_row hkl (by rw [linkRow_at HL.out, show ((ls.take k).any fun x => x.from_ == l1 && x.since == l3) = true from HSN.out.symm.trans hcont]; simp))
    go_wp2_with (at_lookup; refine wpList_look_set rfl _ _ 128 rfl 81 4 link_keyed lmap_uty bool_uty (bool_zero _) w3.heap.size k F rfl hset8 (.agg #[.int .i64 l1, .int .i64 0, .int .i64 l3]) c0 rfl HKEY.out ?_)
    go_ret
    exact ⟨by rw [hf.out]; first | done | rfl, hb08⟩
   | false =>
    have hcall := HLINK.out W8 hb08 ⟨l1, l2, l3⟩ HLB.out
    obtain ⟨v, hv⟩ : ∃ v, linkB ec ch ⟨l1, l2, l3⟩ = v := ⟨_, rfl⟩
    rw [hv] at hcall
    have HROW := Lib.hid (show linkRow ec ch ls k = v by rw [linkRow_at HL.out, hv, show ((ls.take k).any fun x => x.from_ == l1 && x.since == l3) = false from HSN.out.symm.trans hcont]; simp)
    clear hv
    have HCALL := Lib.hid hcall
    clear hcall
    go_wp2_with (first | (at_lookup; refine wpList_look_set rfl _ _ 128 rfl 81 4 link_keyed lmap_uty bool_uty (bool_zero _) w3.heap.size k F rfl hset8 (.agg #[.int .i64 l1, .int .i64 0, .int .i64 l3]) c0 rfl HKEY.out ?_) | (show wpList _ _ _ (Oper.mk (some 41) _ _ _ _ _ :: _) _ _; refine wpList_load_row_g rfl 65 (.tmp 2) rfl w.heap.size rfl _ _ _ _ HE8.out Try.underlying65 rfl info_entity ?_))
    refine HCALL.out.mono ?_
    rintro e wA ⟨rfl, hbA⟩
    have hsetA := hset8.below hbA
    have hsA := hbA.size
    have hb0A := hb08.trans (hbA.mono hb08.size)
    cases v with
    | false =>
     have hf := Lib.hid (show r = false by rw [← HR.out]; exact mapB_row hkl HROW.out)
     go_wp2_with fail
     go_ret
     exact ⟨by rw [hf.out]; first | done | rfl, hb0A⟩
    | true =>
     have KA := (hbA.block _ HS8).trans HH8.out
     have k0 := blk_cell KA 0
     have k1 := blk_cell KA 1
     have k2 := blk_cell KA 2
     clear KA
     go_wp2_with (at_mapUpdate; refine wpList_store_set rfl _ _ _ 128 rfl 81 4 link_keyed lmap_uty bool_uty w3.heap.size k F rfl hsetA (by simp only [maxLen]; omega) lkKey_inj lkKey_lit (.agg #[.int .i64 l1, .int .i64 0, .int .i64 l3]) c0 rfl true rfl HKEY.out ?_; intro wB hsetB hgB; replace hsetB := Lib.hid hsetB)
     go_roundw
     case rel =>
      refine ⟨k + 1, by omega, by go_num, ?_, ?_, ?_⟩
      · exact (HF.out.trans ((Fr.ofBelow (hb68.trans (hbA.mono hb68.size))).mono (fun k hk => by have := hk.1; omega))).grown hgB (fun k hk => hk.1) (fun j hj => by injection hj with hj; exact fun h => h.2 hj.symm)
      · exact hsetB.out.eqv (fun d => by rw [HC0.out]; exact seenL_succ HL.out HB1.out HB3.out HF2.out d)
      · intro j hj
        rcases Nat.lt_or_ge j k with h | h
        · exact HA.out j h
        · have : j = k := by omega
          subst this
          exact HROW.out
     case measure => first | exact meas_v hlt | (simp only [intOf]; omega)
  case neg =>
   have hltI : ¬ (k : Int) < (nl : Int) := by omega
   have hf := Lib.hid (show r = true by
    rw [← HR.out]; unfold mapB linksB
    rw [HC1.out, HC2.out, HNL.out, decide_eq_true hle, all_range_true (fun j hj => HA.out j (by omega))]; rfl)
   go_wp2_with fail
   go_ret
   exact ⟨by rw [hf.out]; first | done | rfl, hb0⟩
end Go.Proofs.Ytekelchdbkjjjaa
