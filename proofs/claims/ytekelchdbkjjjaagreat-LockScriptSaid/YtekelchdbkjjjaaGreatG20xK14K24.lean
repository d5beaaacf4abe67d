/- slices.SortFunc at locks: laid by the kit's tool, its contract in this claim's words. Written by gen_k14.py (out of F6.tpl). -/
import Derived.Test.YtekelchdbkjjjaaGreatG20xB0B2
import Derived.Test.YtekelchdbkjjjaaGreatG20xB3B8
import Derived.Test.YtekelchdbkjjjaaGreatG20xB9B13
import Derived.Test.YtekelchdbkjjjaaGreatG20xB14
import Derived.Test.YtekelchdbkjjjaaGreatG20xB16
import Derived.Test.YtekelchdbkjjjaaGreatG20xB17B24
import Derived.Test.YtekelchdbkjjjaaGreatG20xB29B32
import Derived.Test.YtekelchdbkjjjaaGreatG20xB33C3
import Derived.Test.YtekelchdbkjjjaaGreatG20xC4I2
import Derived.Test.YtekelchdbkjjjaaGreatG20xI3I16
import Derived.Test.YtekelchdbkjjjaaGreatG20xK1K12
import Derived.Test.YtekelchdbkjjjaaGreatG20xT1K13
import Derived.Test.YtekelchdbkjjjaaGreatProg
import Derived.Shelf.SlSortCmp.WholeK
import Derived.Shelf.SlSortCmp.NoneTotal
import Derived.Shelf.SlIter.Collect
import Derived.Maps.OwnSet
import Derived.RangeFuncGives
import Derived.Maps.AppendAt
import Derived.RangeFuncBound
set_option linter.unusedVariables false
set_option linter.unusedSimpArgs false
set_option maxRecDepth 4000
attribute [local go_sem ↓] Go.wp_at_zero Go.wp_at_succ
namespace Go.Proofs.YtekelchdbkjjjaaGreat
open Go Go.RowKit Go.Shelf Go.Lib
open Go.Sort hiding Below
def sortK_ren : Go.Shelf.Ren := ⟨fun | 6 => 75 | 15 => 110 | 14 => 109 | 28 => 133 | 29 => 134 | 20 => 125 | 21 => 126 | 22 => 127 | 23 => 128 | 24 => 129 | 25 => 130 | 26 => 131 | 27 => 132 | 46 => 149 | 47 => 150 | 48 => 151 | 49 => 152 | 50 => 153 | 57 => 164 | n => n, fun | 22 => 69 | 24 => 100 | 25 => 107 | 3 => 3 | 39 => 165 | 0 => 0 | 53 => 187 | 55 => 189 | 4 => 4 | 46 => 181 | 45 => 180 | 50 => 62 | 5 => 5 | 9 => 9 | 66 => 198 | 70 => 202 | 76 => 209 | 77 => 116 | n => n, fun | n => n⟩
theorem sortK : Go.Proofs.SlLaysF0.n6 Tryz.prog sortK_ren := {
 mixed := by kernel_rfl,
 f6 := ⟨Tryz.f75.name, by decide, Tryz.func75.trans (congrArg some (by kernel_rfl))⟩,
 f14 := ⟨Tryz.f109.name, by decide, Tryz.func109.trans (congrArg some (by kernel_rfl))⟩,
 f15 := Tryz.func110.trans (congrArg some (by kernel_rfl)),
 f20 := ⟨Tryz.f125.name, by decide, Tryz.func125.trans (congrArg some (by kernel_rfl))⟩,
 f21 := ⟨Tryz.f126.name, by decide, Tryz.func126.trans (congrArg some (by kernel_rfl))⟩,
 f22 := ⟨Tryz.f127.name, by decide, Tryz.func127.trans (congrArg some (by kernel_rfl))⟩,
 f23 := ⟨Tryz.f128.name, by decide, Tryz.func128.trans (congrArg some (by kernel_rfl))⟩,
 f24 := ⟨Tryz.f129.name, by decide, Tryz.func129.trans (congrArg some (by kernel_rfl))⟩,
 f25 := ⟨Tryz.f130.name, by decide, Tryz.func130.trans (congrArg some (by kernel_rfl))⟩,
 f26 := ⟨Tryz.f131.name, by decide, Tryz.func131.trans (congrArg some (by kernel_rfl))⟩,
 f27 := ⟨Tryz.f132.name, by decide, Tryz.func132.trans (congrArg some (by kernel_rfl))⟩,
 f28 := Tryz.func133.trans (congrArg some (by kernel_rfl)),
 f29 := Tryz.func134.trans (congrArg some (by kernel_rfl)),
 f46 := ⟨Tryz.f149.name, by decide, Tryz.func149.trans (congrArg some (by kernel_rfl))⟩,
 f47 := Tryz.func150.trans (congrArg some (by kernel_rfl)),
 f48 := Tryz.func151.trans (congrArg some (by kernel_rfl)),
 f49 := ⟨Tryz.f152.name, by decide, Tryz.func152.trans (congrArg some (by kernel_rfl))⟩,
 f50 := ⟨Tryz.f153.name, by decide, Tryz.func153.trans (congrArg some (by kernel_rfl))⟩,
 f57 := ⟨Tryz.f164.name, by decide, Tryz.func164.trans (congrArg some (by kernel_rfl))⟩,
 t0 := Tryz.underlying0,
 a0 := Tryz.isAgg0,
 z0 := Tryz.sizeOf0,
 v0 := Tryz.zeroValue0,
 t3 := Tryz.underlying3,
 a3 := Tryz.isAgg3,
 z3 := Tryz.sizeOf3,
 v3 := Tryz.zeroValue3,
 t4 := Tryz.underlying4,
 a4 := Tryz.isAgg4,
 z4 := Tryz.sizeOf4,
 v4 := Tryz.zeroValue4,
 t5 := Tryz.underlying5,
 a5 := Tryz.isAgg5,
 z5 := Tryz.sizeOf5,
 v5 := Tryz.zeroValue5,
 t9 := Tryz.underlying9,
 a9 := Tryz.isAgg9,
 z9 := Tryz.sizeOf9,
 v9 := Tryz.zeroValue9,
 t22 := Tryz.underlying69,
 a22 := Tryz.isAgg69,
 z22 := Tryz.sizeOf69,
 v22 := Tryz.zeroValue69,
 t25 := Tryz.underlying107,
 a25 := Tryz.isAgg107,
 z25 := Tryz.sizeOf107,
 v25 := Tryz.zeroValue107,
 t39 := Tryz.underlying165,
 a39 := Tryz.isAgg165,
 z39 := Tryz.sizeOf165,
 v39 := Tryz.zeroValue165,
 t45 := Tryz.underlying180,
 a45 := Tryz.isAgg180,
 z45 := Tryz.sizeOf180,
 v45 := Tryz.zeroValue180,
 t46 := Tryz.underlying181,
 a46 := Tryz.isAgg181,
 z46 := Tryz.sizeOf181,
 v46 := Tryz.zeroValue181,
 t50 := Tryz.underlying62,
 a50 := Tryz.isAgg62,
 z50 := Tryz.sizeOf62,
 v50 := Tryz.zeroValue62,
 t53 := Tryz.underlying187,
 a53 := Tryz.isAgg187,
 z53 := Tryz.sizeOf187,
 v53 := Tryz.zeroValue187,
 t55 := Tryz.underlying189,
 a55 := Tryz.isAgg189,
 z55 := Tryz.sizeOf189,
 v55 := Tryz.zeroValue189,
 t66 := Tryz.underlying198,
 a66 := Tryz.isAgg198,
 z66 := Tryz.sizeOf198,
 v66 := Tryz.zeroValue198,
 t70 := Tryz.underlying202,
 a70 := Tryz.isAgg202,
 z70 := Tryz.sizeOf202,
 v70 := Tryz.zeroValue202,
 t76 := Tryz.underlying209,
 a76 := Tryz.isAgg209,
 z76 := Tryz.sizeOf209,
 v76 := Tryz.zeroValue209,
 t77 := Tryz.underlying116,
 a77 := Tryz.isAgg116,
 z77 := Tryz.sizeOf116,
 v77 := Tryz.zeroValue116 }
theorem ltOf_cmpK (x y : KK) : ltOf cmpK x y = true ↔ ltK x y := by
 unfold ltOf cmpK orI cmpI ltK
 rw [decide_eq_true_iff]
 by_cases h1 : x.1.1 < y.1.1
 · simp [h1]
 · by_cases h2 : y.1.1 < x.1.1
   · simp [h1, h2]; omega
   · have e : x.1.1 = y.1.1 := by omega
     by_cases h3 : x.1.2 < y.1.2
     · simp [h1, h2, h3, e]
     · by_cases h4 : y.1.2 < x.1.2 <;> simp [h1, h2, h3, h4, e]
theorem swoK : SWO (ltOf cmpK) where
 irrefl x := by
  cases h : ltOf cmpK x x with
  | false => rfl
  | true => exact absurd ((ltOf_cmpK x x).1 h) (ltK_irr x)
 trans x y z h1 h2 := by
  rw [ltOf_cmpK] at *
  unfold ltK at *
  omega
 ntrans x y z h1 h2 := by
  cases h : ltOf cmpK x z with
  | false => rfl
  | true =>
   have a : ¬ ltK x y := fun e => by rw [(ltOf_cmpK x y).2 e] at h1; cases h1
   have b : ¬ ltK y z := fun e => by rw [(ltOf_cmpK y z).2 e] at h2; cases h2
   have c := (ltOf_cmpK x z).1 h
   unfold ltK at *
   omega
instance : Inhabited KK := ⟨⟨(0, 0), kk0⟩⟩
def KC (w : World) (Q : Nat → Prop) (cs : List Value) (c : KK) : Prop := cs = kL c
theorem blk_sortK {w : World} {blk n : Nat} {d : Array KK} {os : Array Obj} : Below w.heap.size w w → w.heap.size ≤ (sortWorldK kL 2 w blk 0 n d os).heap.size ∧ ∀ k, k < w.heap.size → k ≠ blk → (sortWorldK kL 2 w blk 0 n d os).heap[k]? = w.heap[k]? := fun _ => by
 refine ⟨size_sortWorldK_c _ _ _ _ _ _ _ _, fun k hk hne => ?_⟩
 unfold sortWorldK Go.Sort.grow putRowK putRow mapBlock Go.Sort.ahead
 simp only
 rw [Array.getElem?_append_left (by simpa using hk), Array.getElem?_modify, if_neg (fun e => hne e.symm)]
set_option maxHeartbeats 1000000 in
theorem sortk_c (out : List KK) (v : Value) (base : Nat) (w : World) (hown : w.ownsRow base 100 2 v out.length (out.flatMap kL)) (hn : out.length ≤ 1000) (hbase : base ≤ w.heap.size) :
 Calls Tryz.prog 75 #[v, .func (.func 44) #[] #[]] w (fun e w' => e = .returned (.tuple #[]) ∧ ∃ out' : List KK, out'.Perm out ∧ out'.Pairwise (fun x y => ¬ ltK y x) ∧ ListC KC 2 w' (fun q => base ≤ q ∧ q < w'.heap.size) [v] out' ∧ Below base w w' ∧ w.heap.size ≤ w'.heap.size) := by
 rcases Nat.eq_zero_or_pos out.length with h0 | h0
 · have he : out = [] := List.eq_nil_of_length_eq_zero h0
   subst he
   obtain ⟨p, cap, rfl⟩ : ∃ p cap, v = .slice p 0 cap := by
    rcases hown.2 with ⟨rfl, _⟩ | ⟨g, cap, cur, rfl, _⟩
    · exact ⟨_, _, rfl⟩
    · exact ⟨_, _, rfl⟩
   have hcon := AnyF.slices_SortFunc_none sortK p cap (.func (.func 44) #[] #[]) w
   refine (show Calls Tryz.prog 75 #[.slice p 0 cap, .func (.func 44) #[] #[]] w _ from hcon).mono ?_
   rintro e w' ⟨rfl, rfl⟩
   refine ⟨rfl, [], List.Perm.refl _, List.Pairwise.nil, ?_, Below.refl _ _, Nat.le_refl _⟩
   have hc : 0 ≤ cap ∧ cap ≤ maxLen := by
    rcases hown.2 with ⟨e, _⟩ | ⟨g, cap', cur, e, _, _, h1, h2, _⟩
    · simp only [Value.slice.injEq] at e
      obtain ⟨_, _, rfl⟩ := e
      exact ⟨Nat.le_refl _, by unfold maxLen; decide⟩
    · simp only [Value.slice.injEq] at e
      obtain ⟨_, _, rfl⟩ := e
      exact ⟨Nat.zero_le _, h2⟩
   exact ⟨p, cap, rfl, hc.1, hc.2, fun h => absurd h (by simp)⟩
 · obtain ⟨g, cap, rfl, hbg, hgw, hcl, hcm⟩ : ∃ g cap, v = .slice (some ⟨g, 0, none⟩) out.length cap ∧ base ≤ g ∧ g < w.heap.size ∧ out.length ≤ cap ∧ cap ≤ maxLen := by
    rcases hown.2 with ⟨_, hz⟩ | ⟨g, cap, cur, hv, h1, h2, h3, h4, _⟩
    · omega
    · exact ⟨g, cap, hv, h1, blk_lt h2, h3, h4⟩
   have hH : HoldsK kL 2 w g 0 out.toArray := by
    intro j hj
    rw [size_flatK] at hj
    have hj' : j < out.length * 2 := by simpa using hj
    rw [get_flatK _ _ _ _ hj]
    have hg := flat_get (f := kL) (k := 2) (by omega) (fun _ => rfl) out j hj'
    have e1 : out.toArray[j / 2]! = out[j / 2]! := by simp
    have hmod : j % 2 < (kL out[j / 2]!).length := by show j % 2 < 2; omega
    rw [List.getElem?_eq_getElem hmod] at hg
    have hc := hown.cells (g := g) rfl j _ hg
    have hf := own_unfrozen hown (g := g) rfl j
    rw [Addr.add_lit] at hc hf
    rw [e1, getElem!_pos (kL out[j / 2]!) (j % 2) hmod]
    exact ⟨hc, hf⟩
   have hcmp : CmpLays Tryz.prog 44 (#[] : Array Value) kL 2 cmpK g 0 out.toArray.size w := fun m os dk hdk x y => closk_c x y _
   have eg : ∀ args w, (callFunc 44 args).run Tryz.prog w = .ok (.enter 44 args) w := enters_of Tryz.func44 (by kernel_rfl) rfl
   have hcon := AnyQ.slices_SortFunc sortK 2 Tryz.isAgg100 Tryz.sizeOf100 kL (fun _ => rfl) (fun x v hv => by simp [kL] at hv; rcases hv with rfl | rfl <;> rfl) cmpK swoK 44 #[] g 0 cap out.toArray w eg hcmp hH hgw (by simp; omega)
   have hsz : out.toArray.size = out.length := by simp
   rw [hsz] at hcon
   refine (show Calls Tryz.prog 75 #[.slice (some ⟨g, 0, none⟩) out.length cap, .func (.func 44) #[] #[]] w _ from hcon).mono ?_
   rintro e w' ⟨rfl, d', n, os, hp, hs, rfl⟩
   obtain ⟨hp1, _, hp3⟩ := hp
   have hd : d'.size = out.length := by simpa using hp1
   have hperm : d'.toList.Perm out := by
    have e1 : (d'.extract 0 out.length).toList = d'.toList := by rw [← hd]; simp
    have e2 : (out.toArray.extract 0 out.length).toList = out := by simp
    rw [e1, e2] at hp3
    exact hp3
   have hH' := holdsK_sortWorldK_c kL 2 w g 0 out.toArray d' n os hH hgw hp1
   obtain ⟨hz1, hz2⟩ := blk_sortK (w := w) (blk := g) (n := n) (d := d') (os := os) (Below.refl _ _)
   refine ⟨rfl, d'.toList, hperm, ?_, ?_, ⟨rfl, rfl, rfl, hz1, fun k hk => hz2 k (by omega) (by omega)⟩, hz1⟩
   · rw [List.pairwise_iff_getElem]
     intro i j hi hj hij hlt
     have hi' : i < d'.size := by simpa using hi
     have hj' : j < d'.size := by simpa using hj
     have h1 := hs i j (Nat.zero_le _) hij (by omega)
     rw [getElem!_pos d' i hi', getElem!_pos d' j hj'] at h1
     have h2 := (ltOf_cmpK d'[j] d'[i]).2 hlt
     rw [h1] at h2
     cases h2
   · have hlen : d'.toList.length = out.length := by simpa using hd
     rw [← hlen]
     refine ⟨_, cap, rfl, by omega, hcm, fun _ => ⟨g, 0, rfl, ⟨hbg, by omega⟩, fun i x hx => ?_⟩⟩
     obtain ⟨hi, hxi⟩ := List.getElem?_eq_some_iff.1 hx
     have hi' : i < d'.size := by simpa using hi
     refine ⟨kL x, rfl, ⟨⟨hbg, by show g < _; omega⟩, fun j u hj => ?_⟩⟩
     have hjl : j < 2 := (List.getElem?_eq_some_iff.1 hj).1
     have hc := hH'.cell hi' hjl
     rw [getElem!_pos d' i hi'] at hc
     have hxd : d'[i] = x := by rw [← hxi]; simp
     rw [hxd, getElem!_pos (kL x) j hjl] at hc
     rw [Addr.add_lit]
     obtain ⟨_, hju⟩ := List.getElem?_eq_some_iff.1 hj
     have hju2 : (kL x)[j]'hjl = u := hju
     exact ⟨hc.1.trans (congrArg some hju2), hc.2⟩
end Go.Proofs.YtekelchdbkjjjaaGreat
namespace Go.Proofs.YtekelchdbkjjjaaGreat
open Go Go.RowKit Go.Shelf
open Go.Maps (Keyed)
def CollK (f : KK → Bool) (left : Lit → Bool) (ss : List KK) : Prop := ss.Nodup ∧ (∀ c, c ∈ ss ↔ (f c = true ∧ left (kKey c) = false)) ∧ ∀ c, left (kKey c) = true → f c = true
theorem CollK.start {f : KK → Bool} {D : UD} (hat : ∀ c, Maps.has D (kKey c) = f c) : CollK f (Maps.has D) [] :=
 ⟨List.nodup_nil, fun c => by rw [hat c]; cases f c <;> simp, fun c hc => by rw [← hat c]; exact hc⟩
theorem CollK.step {f : KK → Bool} {left : Lit → Bool} {ss : List KK} (h : CollK f left ss) {c : KK} (hl : left (kKey c) = true) : CollK f (fun z => left z && !z.sameKey (kKey c)) (ss ++ [c]) := by
 obtain ⟨h1, h2, h3⟩ := h
 have hnew : c ∉ ss := fun hx => by have := ((h2 c).1 hx).2; rw [hl] at this; cases this
 refine ⟨List.nodup_append.2 ⟨h1, by simp, fun a ha b hb => by simp at hb; subst hb; exact fun e => hnew (e ▸ ha)⟩, fun d => ?_, fun d hd => h3 d (by simp at hd; exact hd.1)⟩
 by_cases hd : d = c
 · subst hd
   have hs : (kKey d).sameKey (kKey d) = true := kKey_same.2 rfl
   simp [h3 d hl, hs]
 · have hs : (kKey d).sameKey (kKey c) = false := by
    cases e : (kKey d).sameKey (kKey c) with
    | false => rfl
    | true => exact absurd (kKey_same.1 e) hd
   simp [h2 d, hd, hs]
def AllK (f : KK → Bool) (ss : List KK) : Prop := ss.Nodup ∧ ∀ c, c ∈ ss ↔ f c = true
theorem CollK.done {f : KK → Bool} {left : Lit → Bool} {ss : List KK} (h : CollK f left ss) (hl : ∀ kl, left kl = false) : AllK f ss := ⟨h.1, fun c => by rw [h.2.1 c, hl]; simp⟩
theorem info_lock : (Tryz.prog.info? 100).map (·.size) = some 2 := by kernel_rfl
theorem wpListIn_load_row {F : Fence} {n : Nat} {P : Program} {ops : Array Oper} {rest : List Oper} {o : Oper} {a : Act} {w : World} {Q : Exit → Act → World → Prop} (hgd : o.guard = none) (ty : TypeId) (x : Operand) (ho : o.op = .load ty x)
 (g : Nat) (hx : a.eval x = .pointer (some ⟨g, 0, none⟩)) (t : TypeId) (cs : Array Value) (fr : Nat × Nat) (d : TypeDesc) (hg : w.heap[g]? = some (.cells cs t fr))
 (hu : P.underlying ty = some d) (hd : (match d with | .struct _ | .array _ _ => true | _ => false) = true) (hi : (P.info? ty).map (·.size) = some cs.size)
 (h : wpListIn F n P ops Q rest (a.put o.dst (.agg cs)) w) : wpListIn F n P ops Q (o :: rest) a w := by
 refine wpListIn_plain hgd fun K hK => ?_
 unfold Oper.wpIn
 refine ⟨by simp [Oper.about, ho], ?_⟩
 rw [Oper.semAt_plain F _ _ (by rw [ho]; intro c hc'; cases hc')]
 have hrun := run_loadVar_row w g t ty cs fr d hg hu hd hi
 unfold execOp
 simp only [ho, hx, Instr.loadAt, Instr.sureAddr, Sem.run_bind, Sem.run_pure, Result.andThen_ok]
 rw [hrun]
 simp only [Result.andThen_ok]
 exact hK _ _ h
theorem keysK_c (b : Nat) (w : World) : Calls Tryz.prog 43 #[.map (some b)] w (fun e w' => e = .returned (.func (.func 76) #[] #[.pointer (some ⟨w.heap.size, 0, none⟩)]) ∧ w' = w.alloc (.cells #[.map (some b)] 94)) := by
 go_enter Tryz.func43, Tryz.ntmps43
 go_wp2_with fail
 go_ret
 exact ⟨rfl, rfl⟩
set_option maxRecDepth 100000 in
set_option maxHeartbeats 1000000 in
theorem keys1K_in (F : Fence) (m : Nat) (hF : F.fn 76) (hro : F.round = none) (hn : 1 ≤ m) (l Bm b n : Nat) (D0 : UD) (f : KK → Bool) (hat : ∀ c, Maps.has D0 (kKey c) = f c) (J : List KK → World → Prop)
 (hY : ∀ pre x W, J pre W → pre.length < Maps.size D0 → YieldAt F (m - 1) Tryz.prog l #[kVal x] W fun e W' => e = .returned (.bool true) ∧ J (pre ++ [x]) W' ∧ KeepsWalks W W')
 (W : World) (hJ : AbidesFrom W.heap.size J) (hm : W.cell? ⟨Bm, 0, none⟩ = some (.map (some b))) (hown : W.ownsMap Tryz.prog 100 (plainElem Tryz.prog 4) b n D0) (h0 : J [] W) :
 CallsIn F m Tryz.prog 76 #[.func (.yield l) #[] #[], .pointer (some ⟨Bm, 0, none⟩)] W fun e W' => (∃ v, e = .returned v) ∧ ∃ ss : List KK, AllK f ss ∧ J ss W' := by
 have h1 : 1 ≤ m := hn
 refine callsIn_of_wp Tryz.func76 rfl hF ?_ hro
 simp only [Tryz.ntmps76, List.size_toArray, List.length_cons, List.length_nil, Nat.reduceAdd, Nat.reduceSub, Array.replicate_succ, Array.replicate_zero, List.push_toArray, List.append_toArray, List.nil_append, List.cons_append]
 gi_wp2_with (gi_at_range; refine wpListIn_range_own _ rfl _ 94 rfl 100 4 lock_keyed kmap_uty _ b n _ rfl hown ?_; intro w0 hrg0 hg0 hs0)
 go_frame
 gi_loopw [3] (fun _ wr => ∃ (left : Lit → Bool) (cnt : Nat) (ss : List KK), wr.ranges Tryz.prog 100 (plainElem Tryz.prog 4) b W.heap.size n D0 left cnt ∧ ss.length + cnt ≤ Maps.size D0 ∧ CollK f left ss ∧ J ss wr)
  (fun _ wr => wr.rangeLeft b W.heap.size)
 case atStart =>
  exact ⟨_, _, [], hrg0, by simp, CollK.start hat, hJ [] W w0 none h0 hg0 (fun r e => by cases e)⟩
 case round =>
  obtain ⟨left, cnt, ss, hrg, hcs, hC, hJs⟩ := hrel
  gi_wp2_with (gi_at_next; refine wpListIn_next_ranges _ rfl _ rfl 100 lock_keyed (plainElem Tryz.prog 4) kVal id (fun key kl hk => lock_inv hk) (fun v _ _ => ⟨v, rfl⟩) b W.heap.size n _ _ _ rfl hrg ?_ ?_)
  · intro hc0 hl0
    gi_wp2
    go_end0
    exact ⟨⟨_, rfl⟩, ss, hC.done hl0, hJs⟩
  · intro xa xb hx c kl yd yp w2 cnt2 hkey hlk hv hat2 hrg2 hlt hg2 hs2 hen
    rw [kKey_of ⟨(xa, xb), hx⟩] at hkey
    obtain rfl := Option.some.inj hkey
    have hJ2 : J ss w2 := hJ ss wr w2 (some W.heap.size) hJs hg2 (fun r e => by cases e; exact ⟨Nat.le_refl _, hrg.iter_walk⟩)
    have hrgA := hrg2.alloc (.cells #[.int .i64 xa, .int .i64 xb] 100)
    have hJA : J ss (w2.alloc (.cells #[.int .i64 xa, .int .i64 xb] 100)) := hJ ss w2 _ none hJ2 (World.grownBy_alloc w2 _ none) (fun r e => by cases e)
    have hst := hC.step (c := ⟨(xa, xb), hx⟩) hlk
    obtain ⟨fn, tmps, assign, body, hy, hR⟩ := hY ss ⟨(xa, xb), hx⟩ _ hJA (by omega)
    simp only [kVal] at hen hy ⊢
    have hh := heap_alloc_new w2 (.cells #[.int .i64 xa, .int .i64 xb] 100)
    have HST := Lib.hid hst
    have HRG := Lib.hid hrg
    have HRGA := Lib.hid hrgA
    clear hs2 hst hv hat2 hg2 hrg hrgA hrg2 hJ2 hJA hC hJs
    gi_wp2_with (show wpListIn _ _ _ _ _ (Oper.mk (some 11) _ _ _ _ _ :: _) _ _; refine wpListIn_load_row rfl 100 (.tmp 3) rfl w2.heap.size rfl _ _ _ _ hh Tryz.underlying100 rfl info_lock ?_)
    refine hR.mono ?_
    rintro e W3 ⟨rfl, hJ3, hk3⟩
    gi_wp2
    have hrg3 := HRGA.out.of_walks hk3
    go_roundw
    case rel => exact ⟨_, cnt2, ss ++ [⟨(xa, xb), hx⟩], hrg3, by simp; omega, HST.out, hJ3⟩
    case measure => rw [hrg3.left_eq, HRG.out.left_eq]; exact hlt
theorem keysK_gives (F : Fence) (m : Nat) (hF : F.fn 76) (hro : F.round = none) (hn : 1 ≤ m) (Bm b n : Nat) (f : KK → Bool) (w : World) (hBm : Bm < w.heap.size)
 (hm : w.cell? ⟨Bm, 0, none⟩ = some (.map (some b))) (hM : MapL w b n f) :
 SeqGives F m Tryz.prog 76 #[.pointer (some ⟨Bm, 0, none⟩)] kVal (AllK f) n w := fun l J W hW hJ hY h0 => by
 have hM2 := hM.below hW
 obtain ⟨D, hown, hat⟩ := hM2
 have hsz : Maps.size D ≤ n := hown.size_le
 exact keys1K_in F m hF hro hn l Bm b n D f (fun c => (hat c).1) J (fun pre x W1 h1 h2 => hY pre x W1 h1 (by omega)) W hJ ((hW.cell (p := ⟨Bm, 0, none⟩) hBm).trans hm) hown h0
def apA (b : Option Code) : Code := match b with
 | some (.seq _ (.seq (.seq _ (.block _ (.rangeFunc _ _ a _))) _)) => a
 | _ => .ret
def apB (b : Option Code) : Code := match b with
 | some (.seq _ (.seq (.seq _ (.block _ (.rangeFunc _ _ _ b))) _)) => b
 | _ => .ret
def apRec (bd : Option Code) (fn : FuncId) (sv : Value) (Bs D : Nat) (st : LoopState) (pend : Option Code) : Loop :=
 { state := st, pending := pend, fn, tmps := #[.slice none 0 0, sv, .pointer (some ⟨Bs, 0, none⟩), undef, .slice none 0 0, undef, sv, undef, undef, undef, undef, undef, undef], params := #[7], assign := apA bd, body := apB bd, defers := D }
theorem info_lockA : (Tryz.prog.info? 100).map (fun i => (i.zero, i.size, i.bytes)) = some (some (.agg #[.int .i64 0, .int .i64 0]), 2, 16) := by kernel_rfl
theorem locks_uty : Tryz.prog.underlying 69 = some (.slice 100) := by kernel_rfl
structure ApAt (w0 : World) (fn : FuncId) (sv : Value) (Bs l D : Nat) (ss : List KK) (W : World) : Prop where
 box : ∃ v, W.heap[Bs]? = some (.cells #[v] 69 (0, 0)) ∧ W.ownsRow w0.heap.size 100 2 v ss.length (ss.flatMap kL)
 L : W.heap[l]? = some (.loop (apRec Tryz.f108.body fn sv Bs D .ready none))
 K : W.heap[D]? = some (.deferred (some []))
 below : Below w0.heap.size w0 W
theorem ap_abides (w0 : World) (fn : FuncId) (sv : Value) (Bs l D B : Nat) (hB : w0.heap.size ≤ B) : AbidesFrom B (ApAt w0 fn sv Bs l D) := fun s W W' row h hg hrow => by
 have hrow' : ∀ r, row = some r → ∃ o : Obj, W.heap[r]? = some o ∧ o.isWalk = true := fun r e => (hrow r e).2
 obtain ⟨v, hv, hr⟩ := h.box
 exact ⟨⟨v, (grownBy_keeps hg hrow' hv rfl).trans hv, ownsRow_abides_a hr hg hrow'⟩, (grownBy_keeps hg hrow' h.L rfl).trans h.L, (grownBy_keeps hg hrow' h.K rfl).trans h.K,
  h.below.grown hg h.below.size (fun k e => Nat.le_trans hB (hrow k e).1)⟩
set_option maxRecDepth 100000 in
set_option maxHeartbeats 2000000 in
theorem apYield (F : Fence) (m : Nat) (w0 : World) (fn : FuncId) (hfn : F.fn fn) (sv : Value) (Bs l D : Nat) (hBl : Bs ≠ l) (hDl : D ≠ l) (hDB : D ≠ Bs) (h0B : w0.heap.size ≤ Bs) (h0l : w0.heap.size ≤ l)
 (N : Nat) (hN : N ≤ maxLen) (hNb : N * 16 ≤ 140737488355328) (ss : List KK) (x : KK) (W : World) (h : ApAt w0 fn sv Bs l D ss W) (hlen : ss.length < N) :
 YieldAt F m Tryz.prog l #[kVal x] W fun e W' => e = .returned (.bool true) ∧ ApAt w0 fn sv Bs l D (ss ++ [x]) W' ∧ KeepsWalks W W' := by
 have hne : (69 : TypeId) ≠ 100 := by decide
 obtain ⟨i0, hi, hz0, hz1, hz2⟩ := info_parts info_lockA
 obtain ⟨v, hv, hrow⟩ := h.box
 refine ⟨fn, #[.slice none 0 0, sv, .pointer (some ⟨Bs, 0, none⟩), undef, .slice none 0 0, undef, sv, kVal x, undef, undef, undef, undef, undef], apA Tryz.f108.body, apB Tryz.f108.body, by simpa [apRec] using run_yield (P := Tryz.prog) (args := #[kVal x]) h.L rfl, roundIn_of_wpIn hfn ?_⟩
 obtain ⟨⟨xa, xb⟩, hx⟩ := x
 dsimp only [apA, apB, Tryz.f108]
 simp only [kVal]
 gi_wp2_with gi_round_op_a
 have hl0 : l < W.heap.size := (Array.getElem?_eq_some_iff.1 h.L).1
 -- the variable's block
 obtain ⟨W1, hW1⟩ : ∃ W1, W.alloc (.cells #[.int .i64 xa, .int .i64 xb] 100) = W1 := ⟨_, rfl⟩
 rw [hW1]
 have hold : ∀ k, k < W.heap.size → W1.heap[k]? = W.heap[k]? := fun k hk => by rw [← hW1]; exact Below.heap_alloc _ _ k hk
 have hs1 : W1.heap.size = W.heap.size + 1 := by rw [← hW1]; simp
 have hvb1 : W1.heap[W.heap.size]? = some (.cells #[.int .i64 xa, .int .i64 xb] 100 (0, 0)) := by rw [← hW1]; exact heap_alloc_new W _
 have hL1 : W1.heap[l]? = some (.loop (apRec Tryz.f108.body fn sv Bs D .ready none)) := (hold _ hl0).trans h.L
 have hv1 : W1.heap[Bs]? = some (.cells #[v] 69 (0, 0)) := (hold _ (Array.getElem?_eq_some_iff.1 hv).1).trans hv
 have hK1 : W1.heap[D]? = some (.deferred (some [])) := (hold _ (Array.getElem?_eq_some_iff.1 h.K).1).trans h.K
 have hrow1 : W1.ownsRow w0.heap.size 100 2 v ss.length (ss.flatMap kL) := by rw [← hW1]; exact hrow.alloc _
 have hb1 : Below w0.heap.size w0 W1 := by rw [← hW1]; exact h.below.alloc h.below.size _
 have hk1 : KeepsWalks W W1 := by rw [← hW1]; exact KeepsWalks.alloc _ _
 have hbr := run_beginRound (P := Tryz.prog) hL1 rfl
 obtain ⟨W2, hW2⟩ : ∃ W2, W1.putObj l (.loop { apRec Tryz.f108.body fn sv Bs D .ready none with state := .busy }) = W2 := ⟨_, rfl⟩
 rw [hW2] at hbr
 have hg2 : W1.grownBy W2 (some l) := by rw [← hW2]; exact grownBy_putObj_a _ _ _
 have hs2 : W2.heap.size = W1.heap.size := by rw [← hW2]; simp
 have hk2 : KeepsWalks W W2 := hk1.trans (by rw [← hW2]; exact KeepsWalks.putObj _ hL1 rfl)
 have hv2 : W2.heap[Bs]? = some (.cells #[v] 69 (0, 0)) := by rw [← hW2]; exact (World.putObj_heap_other hBl).trans hv1
 have hvb2 : W2.heap[W.heap.size]? = some (.cells #[.int .i64 xa, .int .i64 xb] 100 (0, 0)) := by rw [← hW2]; exact (World.putObj_heap_other (by omega)).trans hvb1
 have hK2 : W2.heap[D]? = some (.deferred (some [])) := by rw [← hW2]; exact (World.putObj_heap_other hDl).trans hK1
 have hL2 : W2.heap[l]? = some (.loop { apRec Tryz.f108.body fn sv Bs D .ready none with state := .busy }) := by rw [← hW2]; exact World.putObj_heap_same (by omega)
 have hrow2 : W2.ownsRow w0.heap.size 100 2 v ss.length (ss.flatMap kL) := hrow1.kept hg2 (ownsRow_ne_a hrow1 hL1 (fun cur e => by first | cases e | exact hne (Obj.cells.inj e).2.1))
 have hb2 : Below w0.heap.size w0 W2 := hb1.grown hg2 hb1.size (fun k e => by cases e; exact h0l)
 obtain ⟨hc2, hf2⟩ := cell_of_box_a hv2
 have hBlt : Bs < W2.heap.size := (Array.getElem?_eq_some_iff.1 hv2).1
 have hl2 : l < W2.heap.size := (Array.getElem?_eq_some_iff.1 hL2).1
 have hDlt : D < W2.heap.size := (Array.getElem?_eq_some_iff.1 hK2).1
 have ne_of : ∀ {j : Nat} {o : Obj}, W2.heap[j]? = some o → (∀ cur, o ≠ .cells cur 100 (0, 0)) → some j ≠ v.ownBlock := fun hj hno => by
  rcases ownsRow_ne_a hrow2 hj hno with e | e
  · rw [e]; simp
  · exact fun e' => e e'.symm
 have HVB := Lib.hid hvb2
 have HS12 := Lib.hid (And.intro hs1 hs2)
 clear hW1 hW2 hold hvb1 hL1 hv1 hK1 hrow1 hb1 hk1 hg2 hvb2 hs1 hs2
 gi_wp2_with (first
  | (show wpListIn _ _ _ _ _ (Oper.mk (some 9) _ _ _ _ _ :: _) _ _; refine wpListIn_load_row rfl 100 (.tmp 5) rfl W.heap.size rfl _ _ _ _ HVB.out Tryz.underlying100 rfl info_lock ?_)
  | (gi_at_builtin; refine wpListIn_append_own _ rfl _ _ 69 rfl w0.heap.size 100 i0 _ 2 16 locks_uty hi hz0 hz1 hz2 rfl (by decide) _ _ _ rfl (hrow2.alloc _) ⟨W2.heap.size, 0, none⟩ 1 1 [.int .i64 xa, .int .i64 xb] rfl rfl (fun j u hj => (((box_at (heap_alloc_new W2 (.cells #[.int .i64 xa, .int .i64 xb] 100))).2 j u hj).1)) (by simp [Value.oneCell']) (by omega) (by omega) (by have := hb2.size; simp; omega) ?_; intro v' w3 hown' hg3 hnil3
     have hv3 : w3.heap[Bs]? = some (.cells #[v] 69 (0, 0)) := (hg3.block Bs (by simp; omega) (ne_of hv2 (fun cur e => by first | cases e | exact hne (Obj.cells.inj e).2.1))).trans ((Below.heap_alloc _ _ Bs hBlt).trans hv2)
     obtain ⟨hc3, hf3⟩ := cell_of_box_a hv3
     obtain ⟨A3, n3, c3, rfl⟩ := own_shape hown'
     go_frame)
  | gi_round_op_a)
 have hg3' : (W2.alloc (.cells #[.int .i64 xa, .int .i64 xb] 100)).grownBy w3 v.ownBlock := hg3
 have hL3 : w3.heap[l]? = some (.loop { apRec Tryz.f108.body fn sv Bs D .ready none with state := .busy }) := (hg3'.block l (by simp; omega) (ne_of hL2 (fun cur e => by first | cases e | exact hne (Obj.cells.inj e).2.1))).trans ((Below.heap_alloc _ _ l hl2).trans hL2)
 have hK3 : w3.heap[D]? = some (.deferred (some [])) := (hg3'.block D (by simp; omega) (ne_of hK2 (fun cur e => by first | cases e | exact hne (Obj.cells.inj e).2.1))).trans ((Below.heap_alloc _ _ D hDlt).trans hK2)
 obtain ⟨w4, hw4⟩ : ∃ w4, w3.setCell ⟨Bs, 0, none⟩ (.slice A3 n3 c3) = w4 := ⟨_, rfl⟩
 rw [hw4]
 have hg4 : w3.grownBy w4 (some Bs) := by rw [← hw4]; exact grownBy_setCell0_a _ _ _
 have hv4 : w4.heap[Bs]? = some (.cells #[.slice A3 n3 c3] 69 (0, 0)) := by rw [← hw4]; exact heap_setCell_box_a _ hv3
 have hL4 : w4.heap[l]? = some (.loop { apRec Tryz.f108.body fn sv Bs D .ready none with state := .busy }) := (hg4.block l (Array.getElem?_eq_some_iff.1 hL3).1 (fun e => hBl (by cases e; rfl))).trans hL3
 have hK4 : w4.heap[D]? = some (.deferred (some [])) := (hg4.block D (Array.getElem?_eq_some_iff.1 hK3).1 (fun e => hDB (by cases e; rfl))).trans hK3
 have hrow4 := hown'.kept hg4 (ownsRow_ne_a hown' hv3 (fun cur e => by first | cases e | exact hne (Obj.cells.inj e).2.1))
 have hl4 : l < w4.heap.size := (Array.getElem?_eq_some_iff.1 hL4).1
 have hb3 : Below w0.heap.size w0 w3 := (hb2.alloc hb2.size _).grown hg3' (by have := hb2.size; simp; omega) (fun k e => (hrow2.lt k e).1)
 have hb4 : Below w0.heap.size w0 w4 := hb3.grown hg4 hb3.size (fun k e => by cases e; exact h0B)
 have hk4 : KeepsWalks W w4 := ((hk2.trans (KeepsWalks.alloc _ _)).trans (KeepsWalks.of_grownBy hg3' (ownsRow_not_walk_a (hrow2.alloc _)))).trans (by rw [← hw4]; exact KeepsWalks.setCell _ _ _)
 clear hw4
 refine ⟨_, _, run_endRound none hL4, rfl, ⟨⟨_, (World.putObj_heap_other hBl).trans hv4, ?_⟩, World.putObj_heap_same hl4, (World.putObj_heap_other hDl).trans hK4, hb4.grown (grownBy_putObj_a _ _ _) hb4.size (fun k e => by cases e; exact h0l)⟩, hk4.trans (KeepsWalks.putObj _ hL4 rfl)⟩
 have hfin := hrow4.kept (grownBy_putObj_a w4 l (.loop { { apRec Tryz.f108.body fn sv Bs D .ready none with state := .busy } with state := if (none : Option Code).isNone then .ready else .done, pending := none })) (ownsRow_ne_a hrow4 hL4 (fun cur e => by first | cases e | exact hne (Obj.cells.inj e).2.1))
 rw [List.flatMap_append, List.length_append]
 exact hfin
set_option maxRecDepth 100000 in
set_option maxHeartbeats 2000000 in
theorem appendSeqK_in (F : Fence) (n : Nat) (hF : F.fn 108) (hro : F.round = none) (hn : 2 ≤ n) (g : Nat) (lb : Array Value) (hFg : F.fn g) (eg : ∀ args w, (callFunc g args).run Tryz.prog w = .ok (.enter g args) w)
 (S : List KK → Prop) (N : Nat) (hN : N ≤ maxLen) (hNb : N * 16 ≤ 140737488355328) (w : World) (hseq : SeqGives F (n - 1) Tryz.prog g lb kVal S N w) :
 CallsIn F n Tryz.prog 108 #[.slice none 0 0, .func (.func g) #[] lb] w fun e w' => ∃ (v : Value) (ss : List KK), e = .returned v ∧ S ss ∧ w'.ownsRow w.heap.size 100 2 v ss.length (ss.flatMap kL) ∧ Below w.heap.size w w' := by
 have h1 : 1 ≤ n := by omega
 have hne : (69 : TypeId) ≠ 100 := by decide
 refine callsIn_of_wp_marks Tryz.func108 rfl hF ?_ hro
 simp only [Tryz.ntmps108, List.size_toArray, List.length_cons, List.length_nil, Nat.reduceAdd, Nat.reduceSub, Array.replicate_succ, Array.replicate_zero, List.push_toArray, List.append_toArray, List.nil_append, List.cons_append]
 gi_wp2
 refine wpIn_rangeFunc ?_
 intro fn hfn
 rw [hro]
 obtain ⟨W0, hW0⟩ : ∃ W0, w.alloc (.cells #[.slice none 0 0] 69) = W0 := ⟨_, rfl⟩
 have hs0 : W0.heap.size = w.heap.size + 1 := by rw [← hW0]; simp
 have hv0 : W0.heap[w.heap.size]? = some (.cells #[.slice none 0 0] 69 (0, 0)) := by rw [← hW0]; exact World.alloc_heap_new w _
 have hb0 : Below w.heap.size w W0 := by rw [← hW0]; exact (Below.refl _ w).alloc (Nat.le_refl _) _
 rw [hW0]
 obtain ⟨W1, hW1⟩ : ∃ W1, (W0.alloc (.deferred (some []))).alloc (.loop (apRec Tryz.f108.body fn (.func (.func g) #[] lb) w.heap.size W0.heap.size .ready none)) = W1 := ⟨_, rfl⟩
 have hold : ∀ k, k < W0.heap.size → W1.heap[k]? = W0.heap[k]? := fun k hk => by
  rw [← hW1]; exact (Below.heap_alloc _ _ k (by simp; omega)).trans (Below.heap_alloc _ _ k hk)
 have hb1 : Below w.heap.size w W1 := by rw [← hW1]; exact (hb0.alloc hb0.size _).alloc (by have := hb0.size; simp; omega) _
 have hs1 : W1.heap.size = W0.heap.size + 2 := by rw [← hW1]; simp
 have hM : ApAt w fn (.func (.func g) #[] lb) w.heap.size (W0.heap.size + 1) W0.heap.size [] W1 :=
  ⟨⟨_, (hold w.heap.size (by omega)).trans hv0, World.ownsRow_nil _ _ _ _⟩,
   by rw [← hW1]; have := World.alloc_heap_new (W0.alloc (.deferred (some []))) (.loop (apRec Tryz.f108.body fn (.func (.func g) #[] lb) w.heap.size W0.heap.size .ready none)); rwa [World.size_alloc] at this,
   by rw [← hW1]; exact (Below.heap_alloc _ _ _ (by simp)).trans (World.alloc_heap_new W0 _), hb1⟩
 refine ⟨W0.heap.size + 1, [{ target := .collected W0.heap.size, args := #[] }], W1, { target := .fn (.func g) lb, args := #[.func (.yield (W0.heap.size + 1)) #[] #[]] }, W1, g,
  #[.func (.yield (W0.heap.size + 1)) #[] #[]] ++ lb, W1, ?_, ?_, ?_, ?_, fun _ => h1, ?_⟩
 · rw [← hW1]; exact run_enterLoop_outer _ _ _ _ _
 · simp [resolve, go_sem]
 · intro f' hf'; simp [Target.leads] at hf'; subst hf'; exact hFg
 · simp [invoke, go_sem, eg]
 · refine (hseq (W0.heap.size + 1) (ApAt w fn (.func (.func g) #[] lb) w.heap.size (W0.heap.size + 1) W0.heap.size) W1 hb1 (ap_abides _ _ _ _ _ _ _ hb1.size)
    (fun pre x W hJ hl => apYield F (n - 1 - 1) w fn hfn _ w.heap.size (W0.heap.size + 1) W0.heap.size (by omega) (by omega) (by omega) (Nat.le_refl _) (by omega) N hN hNb pre x W hJ hl) hM).mono ?_
   rintro e W2 ⟨⟨v0, rfl⟩, ss, hS, h2⟩
   obtain ⟨v, hv, hrow⟩ := h2.box
   have hend := run_endLoop (P := Tryz.prog) h2.L (by simp [apRec])
   obtain ⟨W3, hW3⟩ : ∃ W3, W2.putObj (W0.heap.size + 1) (.loop { apRec Tryz.f108.body fn (.func (.func g) #[] lb) w.heap.size W0.heap.size .ready none with state := .exhausted }) = W3 := ⟨_, rfl⟩
   rw [hW3] at hend
   have hg3 : W2.grownBy W3 (some (W0.heap.size + 1)) := by rw [← hW3]; exact grownBy_putObj_a _ _ _
   have hv3 : W3.heap[w.heap.size]? = some (.cells #[v] 69 (0, 0)) := by rw [← hW3]; exact (World.putObj_heap_other (by omega)).trans hv
   have hK3 : W3.heap[W0.heap.size]? = some (.deferred (some [])) := by rw [← hW3]; exact (World.putObj_heap_other (by omega)).trans h2.K
   have hrow3 := hrow.kept hg3 (ownsRow_ne_a hrow h2.L (fun cur e => by first | cases e | exact hne (Obj.cells.inj e).2.1))
   have hb3 : Below w.heap.size w W3 := h2.below.grown hg3 h2.below.size (fun k e => by cases e; omega)
   obtain ⟨hc3, hf3⟩ := cell_of_box_a hv3
   clear hW3
   refine ⟨none, W3, hend, ?_⟩
   gi_wp2
   rw [← hs0]
   refine ⟨by simp, .inl ⟨_, _, rfl, run_takeDeferred hK3, ?_⟩⟩
   exact ⟨_, results_tmp rfl _ _ _, v, ss, rfl, hS, hrow3.kept (grownBy_putObj_a _ _ _) (ownsRow_ne_a hrow3 hK3 (fun cur e => by first | cases e | exact hne (Obj.cells.inj e).2.1)), hb3.grown (grownBy_putObj_a _ _ _) hb3.size (fun k e => by cases e; omega)⟩
set_option maxHeartbeats 1000000 in
theorem collectK_in (F : Fence) (n : Nat) (hC : F.fn 74) (hF : F.fn 108) (hro : F.round = none) (hn : 3 ≤ n) (g : Nat) (lb : Array Value) (hFg : F.fn g) (eg : ∀ args w, (callFunc g args).run Tryz.prog w = .ok (.enter g args) w)
 (S : List KK → Prop) (N : Nat) (hN : N ≤ maxLen) (hNb : N * 16 ≤ 140737488355328) (w : World) (hseq : SeqGives F (n - 1 - 1) Tryz.prog g lb kVal S N w) :
 CallsIn F n Tryz.prog 74 #[.func (.func g) #[] lb] w fun e w' => ∃ (v : Value) (ss : List KK), e = .returned v ∧ S ss ∧ w'.ownsRow w.heap.size 100 2 v ss.length (ss.flatMap kL) ∧ Below w.heap.size w w' := by
 have h1 : 1 ≤ n := by omega
 refine callsIn_of_wp Tryz.func74 rfl hC ?_ hro
 simp only [Tryz.ntmps74, List.size_toArray, List.length_cons, List.length_nil, Nat.reduceAdd, Nat.reduceSub, Array.replicate_succ, Array.replicate_zero, List.push_toArray, List.append_toArray, List.nil_append, List.cons_append]
 gi_wp2_with (gi_at_call 108; refine (appendSeqK_in F (n - 1) hF hro (by omega) g lb hFg eg S N hN hNb _ hseq).mono ?_; rintro e w' ⟨v, ss, rfl, hS, hrow, hb⟩)
 go_ret
 exact ⟨v, ss, rfl, hS, hrow, hb⟩
end Go.Proofs.YtekelchdbkjjjaaGreat
namespace Go.Proofs.YtekelchdbkjjjaaGreat
open Go Go.RowKit
instance (a c : KK) : Decidable (ltK a c) := by unfold ltK; infer_instance
def insK (ks : List KK) (c : KK) : List KK := ks.takeWhile (fun a => decide (ltK a c)) ++ c :: ks.dropWhile (fun a => decide (ltK a c))
theorem ltK_tri {a c : KK} (h : ¬ ltK a c) (hne : a ≠ c) : ltK c a := by
 have : ¬ (a.1.1 = c.1.1 ∧ a.1.2 = c.1.2) := fun e => hne (Subtype.ext (Prod.ext e.1 e.2))
 unfold ltK at *
 omega
theorem takeWhile_all {α : Type} (p : α → Bool) : ∀ (l : List α) x, x ∈ l.takeWhile p → p x = true
 | [], x, h => by simp at h
 | y :: l, x, h => by
  by_cases hy : p y = true
  · rw [List.takeWhile_cons_of_pos hy] at h
    rcases List.mem_cons.1 h with e | h
    · rw [e]; exact hy
    · exact takeWhile_all p l x h
  · rw [List.takeWhile_cons_of_neg hy] at h
    simp at h
theorem dropWhile_head {ks : List KK} {c : KK} (h : ks.Pairwise ltK) (hn : c ∉ ks) : ∀ x ∈ ks.dropWhile (fun a => decide (ltK a c)), ltK c x := by
 induction ks with
 | nil => simp
 | cons y ks ih =>
  obtain ⟨h1, h2⟩ := List.pairwise_cons.1 h
  have hn2 : c ∉ ks := fun e => hn (List.mem_cons_of_mem _ e)
  by_cases hy : ltK y c
  · rw [List.dropWhile_cons_of_pos (by simpa using hy)]
    exact ih h2 hn2
  · rw [List.dropWhile_cons_of_neg (by simpa using hy)]
    have hcy : ltK c y := ltK_tri hy (fun e => hn (by rw [e]; exact List.mem_cons_self ..))
    intro x hx
    rcases List.mem_cons.1 hx with e | hx
    · rw [e]; exact hcy
    · exact ltK_trans hcy (h1 x hx)
theorem insK_list {f : KK → Bool} {ks : List KK} (h : ListK f ks) {c : KK} (hc : f c = false) : ListK (fun d => if d = c then true else f d) (insK ks c) := by
 obtain ⟨h1, h2⟩ := h
 have hn : c ∉ ks := fun e => by have := (h2 c).1 e; rw [hc] at this; cases this
 have hs : ks.takeWhile (fun a => decide (ltK a c)) ++ ks.dropWhile (fun a => decide (ltK a c)) = ks := List.takeWhile_append_dropWhile
 have hd := dropWhile_head h1 hn
 have ht : ∀ x ∈ ks.takeWhile (fun a => decide (ltK a c)), ltK x c := fun x hx => of_decide_eq_true (takeWhile_all _ ks x hx)
 unfold insK
 refine ⟨?_, fun d => ?_⟩
 · rw [← hs] at h1
   obtain ⟨p1, p2, p3⟩ := List.pairwise_append.1 h1
   refine List.pairwise_append.2 ⟨p1, List.pairwise_cons.2 ⟨hd, p2⟩, fun a ha b hb => ?_⟩
   rcases List.mem_cons.1 hb with e | hb
   · rw [e]; exact ht a ha
   · exact p3 a ha b hb
 · have := h2 d
   rw [← hs, List.mem_append] at this
   rw [List.mem_append, List.mem_cons]
   by_cases e : d = c
   · simp [e]
   · simp only [e, if_false, false_or]
     exact this
theorem remK_list {f : KK → Bool} {ks : List KK} (h : ListK f ks) (c : KK) : ListK (unlockF f c) (ks.filter (fun d => decide (d ≠ c))) := by
 obtain ⟨h1, h2⟩ := h
 refine ⟨h1.filter _, fun d => ?_⟩
 rw [List.mem_filter, h2 d]
 unfold unlockF
 by_cases e : d = c <;> simp [e]
theorem last_most {f : KK → Bool} {ks : List KK} (h : ListK f ks) {e : Int} {k : Nat} (hk : k < ks.length) (he : ks[k].1.1 = e) (hl : ∀ j (hj : j < ks.length), k < j → ks[j].1.1 ≠ e) : MostP f e ks[k].1.2 := by
 obtain ⟨h1, h2⟩ := h
 refine ⟨fun c hc hce => ?_, Or.inr ⟨ks[k], (h2 _).1 (List.getElem_mem hk), he, rfl⟩⟩
 obtain ⟨j, hj, rfl⟩ := List.getElem_of_mem ((h2 c).2 hc)
 rcases Nat.lt_trichotomy j k with h3 | h3 | h3
 · have := List.pairwise_iff_getElem.1 h1 j k hj hk h3
   unfold ltK at this
   omega
 · subst h3; exact Int.le_refl _
 · exact absurd hce (hl j hj h3)
end Go.Proofs.YtekelchdbkjjjaaGreat
namespace Go.Proofs.YtekelchdbkjjjaaGreat
open Go Go.RowKit Go.Shelf
open Go.Maps (Keyed)
theorem listK_of {f : KK → Bool} {ss ks : List KK} (h : AllK f ss) (hp : ks.Perm ss) (hs : ks.Pairwise (fun x y => ¬ ltK y x)) : ListK f ks := by
 have hnd : ks.Pairwise (· ≠ ·) := hp.nodup_iff.2 h.1
 refine ⟨(hs.and hnd).imp (fun {a b} hab => ltK_tri hab.1 (fun e => hab.2 e.symm)), fun c => by rw [hp.mem_iff, h.2]⟩
def ListPostN (n : Nat) (f : KK → Bool) (w : World) (e : Ending) (w' : World) : Prop := ∃ (A : Option Addr) (c : Nat) (ks : List KK), e = .returned (.slice A ks.length c) ∧ ListK f ks ∧ ListC KC 2 w' (fun q => w.heap.size ≤ q ∧ q < w'.heap.size) [.slice A ks.length c] ks ∧ Below w.heap.size w w' ∧ ks.length ≤ n
set_option maxHeartbeats 1000000 in
theorem sortedK_c (b n : Nat) (f : KK → Bool) (w : World) (hM : MapL w b n f) (hn : n ≤ 1000) : Calls Tryz.prog 42 #[.func (.func 76) #[] #[.pointer (some ⟨w.heap.size, 0, none⟩)], .func (.func 44) #[] #[]] (w.alloc (.cells #[.map (some b)] 94)) (ListPostN n f w) := by
 have hh := heap_alloc_new w (.cells #[.map (some b)] 94)
 have hb1 := below1 w (.cells #[.map (some b)] 94)
 generalize w.alloc (.cells #[.map (some b)] 94) = W at *
 have hseq := keysK_gives Fence.wide 3 trivial rfl (by omega) w.heap.size b n f W (blk_lt hh) (blk_cell hh 0) (hM.below hb1)
 have hcol := callsIn_wide.1 (collectK_in Fence.wide 5 trivial trivial rfl (by omega) 76 #[.pointer (some ⟨w.heap.size, 0, none⟩)] trivial (enters_of Tryz.func76 (by kernel_rfl) rfl) _ n (by unfold maxLen; omega) (by omega) W hseq.bounded)
 have HCOL := Lib.hid hcol
 have HB1 := Lib.hid hb1
 clear hseq hcol hh hM hb1
 go_enter Tryz.func42, Tryz.ntmps42
 go_wp2_with fail
 refine HCOL.out.mono ?_
 rintro e w2 ⟨v, ss, rfl, ⟨hall, hlen⟩, hrow, hb2⟩
 have HALL := Lib.hid hall
 have HLEN := Lib.hid hlen
 have hs1 := HB1.out.size
 have hb02 := Lib.hid (HB1.out.trans (hb2.mono hs1))
 have HSRT := Lib.hid (sortk_c ss v W.heap.size w2 hrow (by omega) hb2.size)
 obtain ⟨A, n1, c, rfl⟩ := own_shape hrow
 clear hall hrow hlen hs1 hb2 HCOL
 go_wp2_with fail
 refine HSRT.out.mono ?_
 rintro e w3 ⟨rfl, ks, hp, hs, hlc, hb3, hsz⟩
 have hlen : n1 = ks.length := by
  obtain ⟨A2, c2, he, _⟩ := hlc.form
  simp only [List.cons.injEq, and_true, Value.slice.injEq] at he
  exact he.2.1
 subst hlen
 have HL := Lib.hid (listK_of HALL.out hp hs)
 have HKN := Lib.hid (show ks.length ≤ n by rw [hp.length_eq]; exact HLEN.out)
 have HLC := Lib.hid (hlc.mono (Q' := fun q => w.heap.size ≤ q ∧ q < w3.heap.size) (fun h => h) (fun q hq => ⟨Nat.le_trans HB1.out.size hq.1, hq.2⟩))
 have HB3 := Lib.hid (show Below w.heap.size w w3 from hb02.out.trans (hb3.mono HB1.out.size))
 clear hp hs hlc hb3 hsz HSRT HALL
 go_wp2_with fail
 go_ret
 exact ⟨A, c, ks, rfl, HL.out, HLC.out, HB3.out, HKN.out⟩
set_option maxHeartbeats 1000000 in
theorem listN_c (L b : Nat) (y m p ne : Int) (n : Nat) (f : KK → Bool) (w : World) (h : LkC w L b y m p ne n f) (hn : n ≤ 1000) : Calls Tryz.prog 25 #[.pointer (some ⟨L, 0, none⟩)] w (ListPostN n f w) := by
 have HS := Lib.hid (sortedK_c b n f w h.2.1 hn)
 have c4 := blk_cell h.1 4
 have HK := Lib.hid (keysK_c b w)
 clear h
 go_enter Tryz.func25, Tryz.ntmps25
 go_wp2_with fail
 refine HK.out.mono ?_
 rintro e w2 ⟨rfl, rfl⟩
 go_wp2_with fail
 refine HS.out.mono ?_
 rintro e w3 ⟨A, c, ks, rfl, h1, h2, h3, h4⟩
 have H1 := Lib.hid h1
 have H2 := Lib.hid h2
 have H3 := Lib.hid h3
 have H4 := Lib.hid h4
 clear h1 h2 h3 h4
 obtain ⟨k, hk⟩ : ∃ k, ks.length = k := ⟨_, rfl⟩
 have HKK := Lib.hid hk
 rw [hk]
 clear hk
 go_wp2_with fail
 go_ret
 exact ⟨A, c, ks, by rw [HKK.out]; rfl, H1.out, H2.out, H3.out, H4.out⟩
end Go.Proofs.YtekelchdbkjjjaaGreat
namespace Go.Proofs.YtekelchdbkjjjaaGreat
open Go Go.RowKit
theorem info_lock2 : (Tryz.prog.info? 99).map (·.size) = some 2 := by kernel_rfl
theorem info_lock2A : (Tryz.prog.info? 99).map (fun i => (i.zero, i.size, i.bytes)) = some (some (.agg #[.int .i64 0, .int .i64 0]), 2, 16) := by kernel_rfl
theorem locks2_uty : Tryz.prog.underlying 51 = some (.slice 99) := by kernel_rfl
theorem KC.fr {w w' : World} {Q : Nat → Prop} {cs : List Value} {c : KK} (h : KC w Q cs c) : KC w' Q cs c := h
theorem KC.mono {w : World} {Q Q' : Nat → Prop} {cs : List Value} {c : KK} (h : KC w Q cs c) : KC w Q' cs c := h
theorem ks_keep {w w' : World} {cs : List Value} {l : List KK} {Q : Nat → Prop} (hQ : ∀ q, Q q → q < w.heap.size) (h : ListC KC 2 w Q cs l) (hb : Below w.heap.size w w') : ListC KC 2 w' (· < w'.heap.size) cs l :=
 (ListC.fr (w' := w') (h.mono (Q' := (· < w.heap.size)) (fun h => h) hQ) (fun h => h) (Fr.ofBelow hb)).mono (fun h => h) (fun q hq => Nat.lt_of_lt_of_le hq hb.size)
theorem kk_take {ks : List KK} {k : Nat} (hk : k < ks.length) : (ks.take (k + 1)).flatMap kL = (ks.take k).flatMap kL ++ kL ks[k] := by
 rw [List.take_add_one, List.getElem?_eq_getElem hk, List.flatMap_append]
 simp
def FromPost (ks : List KK) (w : World) (e : Ending) (w' : World) : Prop := ∃ (A : Option Addr) (c : Nat), e = .returned (.slice A ks.length c) ∧ ListC KC 2 w' (fun q => w.heap.size ≤ q ∧ q < w'.heap.size) [.slice A ks.length c] ks ∧ Below w.heap.size w w'
set_option maxHeartbeats 2000000 in
theorem from_c (ks : List KK) (A : Option Addr) (c : Nat) (w : World) (h : ListC KC 2 w (· < w.heap.size) [.slice A ks.length c] ks) (hn : ks.length ≤ 1000) : Calls Tryz.prog 24 #[.slice A ks.length c] w (FromPost ks w) := by
 obtain ⟨ia, hia, hzia, hsia, hbia⟩ := info_parts info_lock2A
 have HL := Lib.hid h
 have hcap := h.cap
 unfold maxLen at hcap
 obtain ⟨n, hnl⟩ : ∃ n, ks.length = n := ⟨_, rfl⟩
 have HN := Lib.hid hnl
 rw [hnl] at hcap hn ⊢
 clear h hnl
 go_enter Tryz.func24, Tryz.ntmps24
 go_wp2_with fail
 go_loopw [3, 8] (fun v i wr => ∃ k : Nat, k ≤ n ∧ i = .int .i64 (k : Int) ∧ wr.ownsRow w.heap.size 99 2 v k ((ks.take k).flatMap kL) ∧ Below w.heap.size w wr) (fun _ i _ => n - (intOf i).toNat)
 case atStart => exact ⟨0, by omega, rfl, World.ownsRow_nil _ _ _ _, Below.refl _ _⟩
 case round =>
  obtain ⟨k, hk, rfl, hown, hb⟩ := hrel
  generalize wr = w8 at *
  have HOW := Lib.hid hown
  have HB8 := Lib.hid hb
  clear hown
  by_cases hlt : k < n
  case pos =>
   have hltI : (k : Int) < (n : Int) := by omega
   have hkl : k < ks.length := by rw [HN.out]; exact hlt
   obtain ⟨ab, ao, cs, hAe, hbw, hes, hat⟩ := ListC.get HL.out k hkl
   subst hAe
   have hcs : cs = kL ks[k] := hes
   subst hcs
   have HST := Lib.hid (kk_take hkl)
   obtain ⟨x, hx⟩ : ∃ x, ks[k] = x := ⟨_, rfl⟩
   rw [hx] at hat HST
   obtain ⟨⟨xa, xb⟩, hxx⟩ := x
   replace HST := Lib.hid (show (ks.take (k + 1)).flatMap kL = (ks.take k).flatMap kL ++ [.int .i64 xa, .int .i64 xb] from HST.out)
   have HAT := Lib.hid (show w8.rangeAt ab (ao + k * 2) [.int .i64 xa, .int .i64 xb] from (hat.fr (Fr.ofBelow hb)).range)
   have hnz : 0 < n := by omega
   clear hes hat hx hbw hxx hb
   go_upto_region 5 with (first | (show wpList _ _ _ (Oper.mk (some 11) _ _ _ _ _ :: _) _ _; refine wpList_load_mid rfl 100 (.tmp 10) rfl ab (ao + k * 2) rfl [.int .i64 xa, .int .i64 xb] _ HAT.out Tryz.underlying100 rfl info_lock ?_) | (show wpList _ _ _ (Oper.mk none (Op.store _ (Operand.tmp 5) _) _ _ _ _ :: _) _ _; refine wpList_store_fresh3 rfl 100 (.tmp 5) (.tmp 11) rfl rfl w8 #[.int .i64 0, .int .i64 0] 100 #[.int .i64 xa, .int .i64 xb] rfl rfl rfl info_lock rfl (by simp [Value.oneCell']) ?_; intro wx HX HBX HSX))
   have HXX := Lib.hid HX
   have HBX2 := Lib.hid (HB8.out.trans (HBX.mono HB8.out.size))
   have hsx := HBX2.out.size
   have HOX := Lib.hid (own_below HOW.out HBX)
   clear HX HSX HBX
   go_wp2_with (first | (show wpList _ _ _ (Oper.mk (some 13) _ _ _ _ _ :: _) _ _; refine wpList_load_row_g rfl 100 (.tmp 5) rfl w8.heap.size rfl _ _ _ _ HXX.out Tryz.underlying100 rfl info_lock ?_) | (at_builtin; go_loud (refine wpList_app _ rfl (.tmp 12) (.tmp 14) 51 rfl w.heap.size 99 ia _ 2 16 locks2_uty hia hzia hsia hbia rfl (by decide) u3 k ((ks.take k).flatMap kL) rfl (HOX.out.alloc _) (fun _ => True) (some ⟨wx.heap.size, 0, none⟩) 1 1 [.int .i64 xa, .int .i64 xb] rfl (rd_new (heap_alloc_new _ _) rfl) (by simp [Value.oneCell']) (by simp only [maxLen]; omega) (by omega) (by simp; omega) ?_); intro v9 w9 hown9 hg9 _))
   go_roundw
   case rel =>
    refine ⟨k + 1, by omega, by go_num, ?_, below_grown (HBX2.out.alloc hsx _) hg9 (fun q hq => (HOX.out.lt _ hq).1) (Nat.le_refl _)⟩
    rw [HST.out]
    exact hown9
   case measure => first | exact meas_v hlt | (simp only [intOf]; omega)
  case neg =>
   have hltI : ¬ (k : Int) < (n : Int) := by omega
   have hkn : k = ks.length := by have := HN.out; omega
   have hown : w8.ownsRow w.heap.size 99 2 u3 ks.length (ks.flatMap kL) := by have h := HOW.out; rw [hkn, List.take_length] at h; exact h
   have hlc := own_listC (El := KC) (f := kL) (fun _ => rfl) hown (Q := fun q => w.heap.size ≤ q ∧ q < w8.heap.size) (fun x hx => rfl) (fun q hq => hown.lt _ hq) (by have := HN.out; omega)
   obtain ⟨Ao, no, co, rfl⟩ := own_shape hown
   obtain rfl : no = ks.length := own_val hown
   have HLC := Lib.hid hlc
   have HKE := Lib.hid hkn
   obtain ⟨no, hno⟩ : ∃ x, ks.length = x := ⟨_, rfl⟩
   rw [hno]
   have HNO := Lib.hid hno
   clear hown hlc hkn hno HOW
   go_wp2_with fail
   go_ret
   exact ⟨Ao, co, by rw [HNO.out]; rfl, HLC.out, HB8.out⟩
set_option maxHeartbeats 2000000 in
theorem same13_c (ks : List KK) (A1 A2 : Option Addr) (c1 c2 : Nat) (w : World) (h1 : ListC KC 2 w (· < w.heap.size) [.slice A1 ks.length c1] ks) (h2 : ListC KC 2 w (· < w.heap.size) [.slice A2 ks.length c2] ks) : Calls Tryz.prog 23 #[.slice A1 ks.length c1, .slice A2 ks.length c2] w (Quiet w (.bool true)) := by
 have HL1 := Lib.hid h1
 have HL2 := Lib.hid h2
 have hcap1 := h1.cap
 have hcap2 := h2.cap
 unfold maxLen at hcap1 hcap2
 obtain ⟨n, hnl⟩ : ∃ n, ks.length = n := ⟨_, rfl⟩
 have HN := Lib.hid hnl
 rw [hnl] at hcap1 hcap2 ⊢
 clear h1 h2 hnl
 go_enter Tryz.func23, Tryz.ntmps23
 go_wp2_with fail
 go_loopw [5] (fun i wr => ∃ k : Nat, k ≤ n ∧ i = .int .i64 (k : Int) ∧ Below w.heap.size w wr) (fun i _ => n - (intOf i).toNat)
 case atStart => exact ⟨0, by omega, rfl, Below.refl _ _⟩
 case round =>
  obtain ⟨k, hk, rfl, hb⟩ := hrel
  by_cases hlt : k < n
  case pos =>
   have hltI : (k : Int) < (n : Int) := by omega
   have hltI2 : 0 < n := by omega
   have hkl : k < ks.length := by rw [HN.out]; exact hlt
   obtain ⟨b1, o1, cs1, hAe1, hbw1, hes1, hat1⟩ := ListC.get HL1.out k hkl
   obtain ⟨b2, o2, cs2, hAe2, hbw2, hes2, hat2⟩ := ListC.get HL2.out k hkl
   subst hAe1 hAe2
   have hcs1 : cs1 = kL ks[k] := hes1
   have hcs2 : cs2 = kL ks[k] := hes2
   subst hcs1 hcs2
   obtain ⟨x, hx⟩ : ∃ x, ks[k] = x := ⟨_, rfl⟩
   rw [hx] at hat1 hat2
   obtain ⟨⟨xa, xb⟩, hxx⟩ := x
   have hf1 := hat1.fr (Fr.ofBelow hb)
   have hf2 := hat2.fr (Fr.ofBelow hb)
   have HA1 := Lib.hid (show At wr (· < wr.heap.size) ⟨b1, o1 + k * 2, none⟩ [.int .i64 xa, .int .i64 xb] from hf1.mono (fun q hq => Nat.lt_of_lt_of_le hq hb.size))
   have HA2 := Lib.hid (show At wr (· < wr.heap.size) ⟨b2, o2 + k * 2, none⟩ [.int .i64 xa, .int .i64 xb] from hf2.mono (fun q hq => Nat.lt_of_lt_of_le hq hb.size))
   have HB8 := Lib.hid hb
   clear hes1 hes2 hat1 hat2 hx hbw1 hbw2 hxx hf1 hf2 hb
   go_upto_region 6 with fail
   refine wp_region_inv (Ks wr [.val (.slice (some ⟨b1, o1, none⟩) n c1), .val (.int .i64 (k : Int)), .val (.pointer (some ⟨b1, o1 + k * 2, none⟩)), .val (.agg #[.int .i64 xa, .int .i64 xb]), .val (.slice (some ⟨b2, o2, none⟩) n c2), .val (.int .i64 (k : Int)), .val (.pointer (some ⟨b2, o2 + k * 2, none⟩)), .val (.agg #[.int .i64 xa, .int .i64 xb]), .val (.bool false)])
    (fun w' => Below wr.heap.size wr w') (by kernel_rfl) (by kernel_rfl) (by kernel_rfl) (Below.refl _ _).drew ?_ ?_
   · refine ⟨?_, ?_, ?_, ?_, ?_, ?_, ?_, ?_, ?_, trivial⟩
     · intro _ A0 w2 hI hd hnd K hK; have e0 := hI.q hnd 0; exact hI.z hK
     · intro _ A0 w2 hI hd hnd K hK; have e0 := hI.q hnd 5; exact hI.z hK
     · intro _ A0 w2 hI hd hnd K hK; have e0 := hI.p hd 0 17; have e1 := hI.p hd 1 18; exact hI.z hK
     · intro _ A0 w2 hI hd hnd K hK; have e0 := hI.p hd 2 19; have hS := hI.world; have hrange : w2.rangeAt b1 (o1 + k * 2) [.int .i64 xa, .int .i64 xb] := (HA1.out.fr (Fr.ofBelow hS)).range; have hisize := info_lock2; refine wanted_go rfl ?_; clear hI hd hnd
       refine wp_load_mid 99 (.tmp 19) rfl _ _ (by simpa [Act.eval, Array.getD_eq_getD_getElem?] using e0) _ _ hrange Tryz.underlying99 rfl hisize ?_
       exact kq hK hS rfl
     · intro _ A0 w2 hI hd hnd K hK; have e0 := hI.q hnd 1; exact hI.z hK
     · intro _ A0 w2 hI hd hnd K hK; have e0 := hI.q hnd 5; exact hI.z hK
     · intro _ A0 w2 hI hd hnd K hK; have e0 := hI.p hd 4 21; have e1 := hI.p hd 5 22; exact hI.z hK
     · intro _ A0 w2 hI hd hnd K hK; have e0 := hI.p hd 6 23; have hS := hI.world; have hrange : w2.rangeAt b2 (o2 + k * 2) [.int .i64 xa, .int .i64 xb] := (HA2.out.fr (Fr.ofBelow hS)).range; have hisize := info_lock2; refine wanted_go rfl ?_; clear hI hd hnd
       refine wp_load_mid 99 (.tmp 23) rfl _ _ (by simpa [Act.eval, Array.getD_eq_getD_getElem?] using e0) _ _ hrange Tryz.underlying99 rfl hisize ?_
       exact kq hK hS rfl
     · intro _ A0 w2 hI hd hnd K hK; have e0 := hI.p hd 3 20; have e1 := hI.p hd 7 24; exact hI.z hK
   · intro _ A0 w2 hI hall; have hS := hI.world; have c9 := hI.ch hall [17, 18, 19, 20, 21, 22, 23, 24, 25]; obtain ⟨x0, x1, x2, x3, x4, x5, x6, x7, x8, hA, hV⟩ := c9
     obtain rfl : x8 = .bool false := hV 8 _ _ rfl _ rfl
     clear hV hI hall
     simp only [setAll, List.foldl, List.setIfInBounds_toArray, List.set_cons_zero, List.set_cons_succ] at hA
     rw [hA]
     clear hA
     have HB9 := Lib.hid (HB8.out.trans (hS.mono HB8.out.size))
     clear hS
     go_wp2_with fail
     go_roundw
     case rel => exact ⟨k + 1, by omega, by go_num, HB9.out⟩
     case measure => first | exact meas_v hlt | (simp only [intOf]; omega)
  case neg =>
   have hltI : ¬ (k : Int) < (n : Int) := by omega
   go_wp2_with fail
   go_ret
   exact ⟨rfl, hb⟩
def idxK (ks : List KK) (c : KK) : Int := match ks.findIdx? (fun a => decide (a = c)) with
 | none => -1
 | some k => (k : Int)
theorem idxK_at {ks : List KK} {c : KK} {k : Nat} (hk : k < ks.length) (he : ks[k] = c) (h : ∀ j (hj : j < ks.length), j < k → ks[j] ≠ c) : idxK ks c = (k : Int) := by
 have e : ks.findIdx? (fun a => decide (a = c)) = some k := by
  rw [List.findIdx?_eq_some_iff_getElem]
  exact ⟨hk, by simp [he], fun j hj => by simpa using h j (by omega) hj⟩
 unfold idxK
 rw [e]
theorem idxK_none {ks : List KK} {c : KK} (h : ∀ j (hj : j < ks.length), ks[j] ≠ c) : idxK ks c = -1 := by
 have e : ks.findIdx? (fun a => decide (a = c)) = none := by
  rw [List.findIdx?_eq_none_iff]
  intro a ha
  obtain ⟨j, hj, rfl⟩ := List.getElem_of_mem ha
  simpa using h j hj
 unfold idxK
 rw [e]
theorem idxK_cases (ks : List KK) (c : KK) : (idxK ks c = -1 ∧ c ∉ ks) ∨ ∃ k : Nat, idxK ks c = (k : Int) ∧ ∃ h : k < ks.length, ks[k] = c := by
 unfold idxK
 cases e : ks.findIdx? (fun a => decide (a = c)) with
 | none =>
  rw [List.findIdx?_eq_none_iff] at e
  exact .inl ⟨rfl, fun h => by have := e c h; simp at this⟩
 | some k =>
  rw [List.findIdx?_eq_some_iff_getElem] at e
  obtain ⟨hk, h1, _⟩ := e
  exact .inr ⟨k, rfl, hk, by simpa using h1⟩
theorem cut_filter {ks : List KK} {k : Nat} (hp : ks.Pairwise ltK) (hk : k < ks.length) : ks.take k ++ ks.drop (k + 1) = ks.filter (fun d => decide (d ≠ ks[k])) := by
 have hne : ∀ (i j : Nat) (hi : i < ks.length) (hj : j < ks.length), i ≠ j → ks[i] ≠ ks[j] := fun i j hi hj hij e => by
  rw [List.pairwise_iff_getElem] at hp
  rcases Nat.lt_or_gt_of_ne hij with h | h
  · exact ltK_irr ks[j] (by have := hp i j hi hj h; rwa [e] at this)
  · exact ltK_irr ks[j] (by have := hp j i hj hi h; rwa [e] at this)
 have hsp : ks = ks.take k ++ ks[k] :: ks.drop (k + 1) := by rw [← List.drop_eq_getElem_cons hk, List.take_append_drop]
 have e1 : (ks.drop (k + 1)).filter (fun d => decide (d ≠ ks[k])) = ks.drop (k + 1) := by
  rw [List.filter_eq_self]
  intro a ha
  obtain ⟨j, hj, rfl⟩ := List.getElem_of_mem ha
  rw [List.length_drop] at hj
  rw [List.getElem_drop]
  simpa using hne (k + 1 + j) k (by omega) hk (by omega)
 have e2 : (ks.take k).filter (fun d => decide (d ≠ ks[k])) = ks.take k := by
  rw [List.filter_eq_self]
  intro a ha
  obtain ⟨j, hj, rfl⟩ := List.getElem_of_mem ha
  rw [List.length_take] at hj
  rw [List.getElem_take]
  simpa using hne j k (by omega) hk (by omega)
 generalize ks[k] = y at *
 rw [hsp, List.filter_append, List.filter_cons_of_neg (by simp), e1, e2, ← hsp]
def cntK (ks : List KK) (c : KK) : Nat := (ks.takeWhile (fun a => decide (ltK a c))).length
theorem takeWhile_len {α : Type} (p : α → Bool) : ∀ l : List α, l.takeWhile p = l.take (l.takeWhile p).length
 | [] => rfl
 | x :: l => by
  by_cases h : p x = true
  · rw [List.takeWhile_cons_of_pos h, List.length_cons, List.take_succ_cons]
    exact congrArg _ (takeWhile_len p l)
  · rw [List.takeWhile_cons_of_neg h]; rfl
theorem dropWhile_len {α : Type} (p : α → Bool) : ∀ l : List α, l.dropWhile p = l.drop (l.takeWhile p).length
 | [] => rfl
 | x :: l => by
  by_cases h : p x = true
  · rw [List.takeWhile_cons_of_pos h, List.dropWhile_cons_of_pos h, List.length_cons, List.drop_succ_cons]
    exact dropWhile_len p l
  · rw [List.takeWhile_cons_of_neg h, List.dropWhile_cons_of_neg h]; rfl
theorem ins_take (ks : List KK) (c : KK) : insK ks c = ks.take (cntK ks c) ++ [c] ++ ks.drop (cntK ks c) := by
 unfold insK cntK
 rw [← takeWhile_len, ← dropWhile_len]
 simp
theorem takeWhile_eq {α : Type} {p : α → Bool} : ∀ {l : List α} {k : Nat}, (∀ j (hj : j < l.length), j < k → p l[j] = true) → (k = l.length ∨ ∃ h : k < l.length, p l[k] = false) → (l.takeWhile p).length = k
 | [], k, _, h => by
  rcases h with h | ⟨h, _⟩
  · simpa using h.symm
  · simp at h
 | x :: l, 0, _, h => by
  rcases h with h | ⟨_, h⟩
  · simp at h
  · simp only [List.getElem_cons_zero] at h
    rw [List.takeWhile_cons_of_neg (by simp [h])]; rfl
 | x :: l, k + 1, h1, h => by
  have h0 : p x = true := h1 0 (by simp) (by omega)
  rw [List.takeWhile_cons_of_pos h0, List.length_cons]
  congr 1
  refine takeWhile_eq (fun j hj hjk => ?_) ?_
  · have := h1 (j + 1) (by simp; omega) (by omega)
    simpa using this
  · rcases h with h | ⟨h, h2⟩
    · exact .inl (by simpa using h)
    · exact .inr ⟨by simpa using h, by simpa using h2⟩
section
variable {P : Program} (w : World)
theorem run_app3 (base : Nat) (t ty e : TypeId) (i : TypeInfo) (z : Value) (size bytes : Nat) (ht : P.underlying t = some (.slice e)) (hi : P.info? e = some i) (hz : i.zero = some z)
 (hsize : i.size = size) (hby : i.bytes = bytes) (hzs : z.cells.size = size) (hsz : 0 < size)
 (v : Value) (n : Nat) (xs : List Value) (hown : w.ownsRow base e size v n xs)
 (Q : Nat → Prop) (A : Option Addr) (m c : Nat) (news : List Value) (hr : Rd w Q A m size news) (h1 : ∀ u ∈ news, u.oneCell' = true)
 (h63 : n + m ≤ maxLen) (hbytes : (n + m) * bytes ≤ 140737488355328) (hbase : base ≤ w.heap.size) :
 ∃ v' w', (Builtin.append_ #[t, t] ty #[v, .slice A m c]).run P w = .ok v' w' ∧ w'.ownsRow base e size v' (n + m) (xs ++ news) ∧ w'.ownsRow base e size v n xs ∧ w.grownBy w' v.ownBlock ∧
  (Below w.heap.size w w' ∨ ∃ g cap, v = .slice (some ⟨g, 0, none⟩) n cap ∧ 0 < m ∧ n + m ≤ cap) ∧ (m = 0 → (∃ g cap, v = .slice (some ⟨g, 0, none⟩) n cap) → v' = v) := by
 obtain ⟨v', w', hrun, h2, h3, h4⟩ := run_app (P := P) w base t ty e i z size bytes ht hi hz hsize hby hzs hsz v n xs hown Q A m c news hr h1 h63 hbytes hbase
 rcases Nat.eq_zero_or_pos m with h0 | hm
 · subst h0
   have hn : news = [] := List.eq_nil_of_length_eq_zero (by simpa using hr.1)
   subst hn
   rcases hown.2 with ⟨rfl, rfl⟩ | ⟨g, cap, cur, rfl, hbg, hg, hnc, hcm, hcs, htk⟩
   · have hx : xs = [] := List.eq_nil_of_length_eq_zero (by simpa using hown.1)
     subst hx
     exact ⟨v', w', hrun, h2, World.ownsRow_nil _ _ _ _, h3, .inl (below_grown (Below.refl _ _) h3 (fun k hk => by cases hk) (Nat.le_refl _)), fun _ ⟨g, cap, hg⟩ => by simp at hg⟩
   · have hrun0 : (Builtin.append_ #[t, t] ty #[.slice (some ⟨g, 0, none⟩) n cap, .slice A 0 c]).run P w = .ok (.slice (some ⟨g, 0, none⟩) n cap) w := by
      cases A with
      | none => exact run_app_none w base t ty e i size ht hi _ n xs hown c
      | some ad =>
       have := run_append_room_cells (P := P) w t ty e i ht hi g 0 n cap ad 0 c [] (by simp) (by simp) (by simp) (by omega) (by simp) (by simp)
       simpa [World.setCells] using this
     rw [hrun0] at hrun
     simp only [Result.ok.injEq] at hrun
     obtain ⟨rfl, rfl⟩ := hrun
     exact ⟨_, _, hrun0, h2, hown, h3, .inl (Below.refl _ _), fun _ _ => rfl⟩
 · have h5 := run_app_old (P := P) w base t ty e i z size bytes ht hi hz hsize hby hzs hsz v n xs hown Q A m c news hr h1 h63 hbytes hbase hm hrun
   refine ⟨v', w', hrun, h2, h5, h3, ?_, fun h => by omega⟩
   rcases hown.2 with ⟨rfl, rfl⟩ | ⟨g, cap, cur, rfl, hbg, hg, hnc, hcm, hcs, htk⟩
   · exact .inl (below_grown (Below.refl _ _) h3 (fun k hk => by cases hk) (Nat.le_refl _))
   · by_cases hroom : n + m ≤ cap
     · exact .inr ⟨g, cap, rfl, hm, hroom⟩
     · obtain ⟨ad, rfl, hc⟩ := hr.2 hm
       have hgrow := run_append_grow (P := P) w t ty e i z ht hi hz ⟨g, 0, none⟩ n cap xs (by rw [hsize]; exact hown.1) (fun j u hu => hown.cells (g := g) rfl j u hu) ad m c news (by rw [hsize]; exact hr.1) (fun j u hu => (hc.2 j u hu).1) (by omega) (by unfold maxLen at h63; omega) (by rw [hby]; exact growslice_fits (by omega) (by simpa using hbytes))
       obtain ⟨ob, hw⟩ : ∃ ob, w' = w.drew.alloc ob := by
        have := hrun.symm.trans hgrow
        simp only [Result.ok.injEq] at this
        exact ⟨_, this.2⟩
       exact .inl (by rw [hw]; exact ((Below.refl _ _).drew).alloc (Nat.le_refl _) _)
theorem wp_app3 {o : Oper} {a : Act} {K : Act → World → Prop} {Q' : Exit → Act → World → Prop} (s x : Operand) (t : TypeId)
 (ho : o.op = .call { callee := .builtin .append, args := #[s, x], argTypes := #[t, t] })
 (base : Nat) (e : TypeId) (i : TypeInfo) (z : Value) (size bytes : Nat) (ht : P.underlying t = some (.slice e)) (hi : P.info? e = some i) (hz : i.zero = some z)
 (hsize : i.size = size) (hby : i.bytes = bytes) (hzs : z.cells.size = size) (hsz : 0 < size)
 (v : Value) (n : Nat) (xs : List Value) (hs : a.eval s = v) (hown : w.ownsRow base e size v n xs)
 (Q : Nat → Prop) (A : Option Addr) (m c : Nat) (news : List Value) (hx : a.eval x = .slice A m c) (hr : Rd w Q A m size news) (h1 : ∀ u ∈ news, u.oneCell' = true)
 (h63 : n + m ≤ maxLen) (hbytes : (n + m) * bytes ≤ 140737488355328) (hbase : base ≤ w.heap.size)
 (h : ∀ v' w', w'.ownsRow base e size v' (n + m) (xs ++ news) → w'.ownsRow base e size v n xs → w.grownBy w' v.ownBlock → (Below w.heap.size w w' ∨ ∃ g cap, v = .slice (some ⟨g, 0, none⟩) n cap ∧ 0 < m ∧ n + m ≤ cap) → (m = 0 → (∃ g cap, v = .slice (some ⟨g, 0, none⟩) n cap) → v' = v) → K (a.put o.dst v') w') : o.wp P a w K Q' := by
 obtain ⟨v', w', hrun, h2, h3, h4, h5, h6⟩ := run_app3 (P := P) w base t o.type e i z size bytes ht hi hz hsize hby hzs hsz v n xs hown Q A m c news hr h1 h63 hbytes hbase
 unfold Oper.wp execOp
 simp only [ho, resolve, invoke, builtin, Sem.run_bind, Sem.run_pure, Result.andThen_ok, List.map_toArray, List.map_cons, List.map_nil, hs, hx, hrun]
 exact h v' w' h2 h3 h4 h5 h6
end
def MdL (B : Nat) (v : Value) (w : World) : Prop := ∃ g, v = .slice (some ⟨g, 0, none⟩) 0 0 ∧ B ≤ g ∧ w.heap[g]? = some (.cells #[] 99 (0, 0))
def OneL (B : Nat) (cs : List Value) (v : Value) (w : World) : Prop := ∃ g, v = .slice (some ⟨g, 0, none⟩) 1 1 ∧ B ≤ g ∧ w.heap[g]? = some (.cells cs.toArray 99 (0, 0))
def RwL (B n : Nat) (xs : List Value) (v : Value) (w : World) : Prop := w.ownsRow B 99 2 v n xs ∧ (n = 0 → ∃ g, v = .slice (some ⟨g, 0, none⟩) 0 0)
theorem MdL.keep {B : Nat} : ∀ v w w', Below w.heap.size w w' → MdL B v w → MdL B v w' := fun v w w' hb ⟨g, e, h1, h2⟩ => ⟨g, e, h1, (hb.block g (blk_lt h2)).trans h2⟩
theorem OneL.keep {B : Nat} {cs : List Value} : ∀ v w w', Below w.heap.size w w' → OneL B cs v w → OneL B cs v w' := fun v w w' hb ⟨g, e, h1, h2⟩ => ⟨g, e, h1, (hb.block g (blk_lt h2)).trans h2⟩
theorem RwL.keep {B n : Nat} {xs : List Value} : ∀ v w w', Below w.heap.size w w' → RwL B n xs v w → RwL B n xs v w' := fun v w w' hb ⟨h1, h2⟩ => ⟨own_below h1 hb, h2⟩
section
variable {B n m : Nat} {xs : List Value} {v : Value} {w w' : World}
theorem MdL.app {u : Value} (h : MdL B u w) (hv : w.ownsRow B 99 2 v n xs) (hg : w.grownBy w' v.ownBlock) (hc : Below w.heap.size w w' ∨ ∃ g cap, v = .slice (some ⟨g, 0, none⟩) n cap ∧ 0 < m ∧ n + m ≤ cap) : MdL B u w' := by
 rcases hc with hb | ⟨g, cap, rfl, hm, hr⟩
 · exact MdL.keep _ _ _ hb h
 · obtain ⟨k, e, h1, h2⟩ := h
   refine ⟨k, e, h1, (hg.block k (blk_lt h2) ?_).trans h2⟩
   intro hk
   simp [Value.ownBlock] at hk
   subst hk
   rcases hv.2 with ⟨e, _⟩ | ⟨g', cap', cur', e, _, hg', hnc, _, hcs, _⟩
   · simp at e
   · simp only [Value.slice.injEq, Option.some.injEq, Addr.mk.injEq, and_true, true_and] at e
     obtain ⟨rfl, rfl⟩ := e
     rw [h2] at hg'
     simp at hg'
     rw [hg'] at hcs
     simp at hcs
     omega
theorem OneL.app {u : Value} {cs : List Value} (hl : cs.length = 2) (h : OneL B cs u w) (hv : RwL B n xs v w) (hg : w.grownBy w' v.ownBlock) (hc : Below w.heap.size w w' ∨ ∃ g cap, v = .slice (some ⟨g, 0, none⟩) n cap ∧ 0 < m ∧ n + m ≤ cap) : OneL B cs u w' := by
 rcases hc with hb | ⟨g, cap, rfl, hm, hr⟩
 · exact OneL.keep _ _ _ hb h
 · obtain ⟨k, e, h1, h2⟩ := h
   refine ⟨k, e, h1, (hg.block k (blk_lt h2) ?_).trans h2⟩
   intro hk
   simp [Value.ownBlock] at hk
   subst hk
   rcases hv.1.2 with ⟨e, _⟩ | ⟨g', cap', cur', e, _, hg', hnc, _, hcs, _⟩
   · simp at e
   · simp only [Value.slice.injEq, Option.some.injEq, Addr.mk.injEq, and_true, true_and] at e
     obtain ⟨rfl, rfl⟩ := e
     rw [h2] at hg'
     simp at hg'
     rw [← hg'] at hcs
     simp [hl] at hcs
     have h0 : n = 0 := by omega
     obtain ⟨g', e'⟩ := hv.2 h0
     simp at e'
     omega
theorem RwL.app {u : Value} {k : Nat} {ys : List Value} (h : RwL B k ys u w) (hv : w.ownsRow B 99 2 v n xs) (hv' : w'.ownsRow B 99 2 v n xs) (hg : w.grownBy w' v.ownBlock) (hkn : k ≤ n) : RwL B k ys u w' := by
 refine ⟨?_, h.2⟩
 rcases h.1.2 with ⟨rfl, rfl⟩ | ⟨g, cap, cur, rfl, hbg, hb, hnc, hcm, hcs, htk⟩
 · have hx : ys = [] := List.eq_nil_of_length_eq_zero (by simpa using h.1.1)
   subst hx
   exact World.ownsRow_nil _ _ _ _
 · by_cases hgv : v.ownBlock = some g
   · rcases hv.2 with ⟨rfl, _⟩ | ⟨g1, cap1, cur1, rfl, _, hb1, hnc1, _, hcs1, htk1⟩
     · simp [Value.ownBlock] at hgv
     · simp [Value.ownBlock] at hgv
       subst hgv
       rcases hv'.2 with ⟨e, _⟩ | ⟨g2, cap2, cur2, e, _, hb2, _, _, hcs2, htk2⟩
       · simp at e
       · simp only [Value.slice.injEq, Option.some.injEq, Addr.mk.injEq, and_true, true_and] at e
         obtain ⟨rfl, rfl⟩ := e
         rw [hb] at hb1
         simp at hb1
         subst hb1
         refine ⟨h.1.1, .inr ⟨_, cap, cur2, rfl, hbg, hb2, hnc, hcm, by omega, ?_⟩⟩
         have e1 : ∀ cu : Array Value, cu.toList.take (k * 2) = (cu.toList.take (n * 2)).take (k * 2) := fun cu => by rw [List.take_take, Nat.min_eq_left (by omega)]
         rw [e1, htk2, ← htk1, ← e1]
         exact htk
   · exact ⟨h.1.1, .inr ⟨g, cap, cur, rfl, hbg, (hg.block g (blk_lt hb) (fun e => hgv e.symm)).trans hb, hnc, hcm, hcs, htk⟩⟩
end
end Go.Proofs.YtekelchdbkjjjaaGreat
