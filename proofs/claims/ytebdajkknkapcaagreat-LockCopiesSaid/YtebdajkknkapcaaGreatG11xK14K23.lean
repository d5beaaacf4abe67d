/- slices.SortFunc at locks: laid by the kit's tool, its contract in this claim's words. Written by gen_k14.py (out of F6.tpl). -/
import Derived.Test.YtebdajkknkapcaaGreatG11xB0B2
import Derived.Test.YtebdajkknkapcaaGreatG11xB3B8
import Derived.Test.YtebdajkknkapcaaGreatG11xB9B13
import Derived.Test.YtebdajkknkapcaaGreatG11xB14
import Derived.Test.YtebdajkknkapcaaGreatG11xB16
import Derived.Test.YtebdajkknkapcaaGreatG11xB17B24
import Derived.Test.YtebdajkknkapcaaGreatG11xB29B32
import Derived.Test.YtebdajkknkapcaaGreatG11xB33C3
import Derived.Test.YtebdajkknkapcaaGreatG11xC4I5
import Derived.Test.YtebdajkknkapcaaGreatG11xI7Q2
import Derived.Test.YtebdajkknkapcaaGreatG11xK1K12
import Derived.Test.YtebdajkknkapcaaGreatG11xT1K13
import Derived.Test.YtebdajkknkapcaaGreatProg
import Derived.Shelf.SlSortCmp.WholeK
import Derived.Shelf.SlSortCmp.NoneTotal
import Derived.Shelf.SlIter.Collect
import Derived.Maps.OwnSet
import Derived.RangeFuncGives
import Derived.Maps.AppendAt
import Derived.RangeFuncBound
import Derived.Shelf.SlMaps.Clone
set_option linter.unusedVariables false
set_option linter.unusedSimpArgs false
set_option maxRecDepth 4000
attribute [local go_sem ↓] Go.wp_at_zero Go.wp_at_succ
namespace Go.Proofs.YtebdajkknkapcaaGreat
open Go Go.RowKit Go.Shelf Go.Lib
open Go.Sort hiding Below
def sortK_ren : Go.Shelf.Ren := ⟨fun | 6 => 132 | 15 => 175 | 14 => 174 | 28 => 193 | 29 => 194 | 20 => 185 | 21 => 186 | 22 => 187 | 23 => 188 | 24 => 189 | 25 => 190 | 26 => 191 | 27 => 192 | 46 => 196 | 47 => 197 | 48 => 198 | 49 => 199 | 50 => 200 | 57 => 201 | n => n, fun | 22 => 90 | 24 => 143 | 25 => 150 | 3 => 3 | 39 => 216 | 0 => 0 | 53 => 232 | 55 => 234 | 4 => 4 | 46 => 226 | 45 => 225 | 50 => 84 | 5 => 5 | 9 => 9 | 66 => 235 | 70 => 239 | 76 => 241 | 77 => 123 | n => n, fun | n => n⟩
theorem sortK : Go.Proofs.SlLaysF0.n6 Tryz.prog sortK_ren := {
 mixed := by kernel_rfl,
 f6 := ⟨Tryz.f132.name, by decide, Tryz.func132.trans (congrArg some (by kernel_rfl))⟩,
 f14 := ⟨Tryz.f174.name, by decide, Tryz.func174.trans (congrArg some (by kernel_rfl))⟩,
 f15 := Tryz.func175.trans (congrArg some (by kernel_rfl)),
 f20 := ⟨Tryz.f185.name, by decide, Tryz.func185.trans (congrArg some (by kernel_rfl))⟩,
 f21 := ⟨Tryz.f186.name, by decide, Tryz.func186.trans (congrArg some (by kernel_rfl))⟩,
 f22 := ⟨Tryz.f187.name, by decide, Tryz.func187.trans (congrArg some (by kernel_rfl))⟩,
 f23 := ⟨Tryz.f188.name, by decide, Tryz.func188.trans (congrArg some (by kernel_rfl))⟩,
 f24 := ⟨Tryz.f189.name, by decide, Tryz.func189.trans (congrArg some (by kernel_rfl))⟩,
 f25 := ⟨Tryz.f190.name, by decide, Tryz.func190.trans (congrArg some (by kernel_rfl))⟩,
 f26 := ⟨Tryz.f191.name, by decide, Tryz.func191.trans (congrArg some (by kernel_rfl))⟩,
 f27 := ⟨Tryz.f192.name, by decide, Tryz.func192.trans (congrArg some (by kernel_rfl))⟩,
 f28 := Tryz.func193.trans (congrArg some (by kernel_rfl)),
 f29 := Tryz.func194.trans (congrArg some (by kernel_rfl)),
 f46 := ⟨Tryz.f196.name, by decide, Tryz.func196.trans (congrArg some (by kernel_rfl))⟩,
 f47 := Tryz.func197.trans (congrArg some (by kernel_rfl)),
 f48 := Tryz.func198.trans (congrArg some (by kernel_rfl)),
 f49 := ⟨Tryz.f199.name, by decide, Tryz.func199.trans (congrArg some (by kernel_rfl))⟩,
 f50 := ⟨Tryz.f200.name, by decide, Tryz.func200.trans (congrArg some (by kernel_rfl))⟩,
 f57 := ⟨Tryz.f201.name, by decide, Tryz.func201.trans (congrArg some (by kernel_rfl))⟩,
 t0 := Tryz.underlying0,
 a0 := Tryz.isAgg0,
 z0 := Tryz.sizeOf0,
 v0 := Tryz.zeroValue0,
 t3 := Tryz.underlying3,
 a3 := Tryz.isAgg3,
 z3 := Tryz.sizeOf3,
 v3 := Tryz.zeroValue3,
 t4 := Tryz.underlying4,
 a4 := Tryz.isAgg4,
 z4 := Tryz.sizeOf4,
 v4 := Tryz.zeroValue4,
 t5 := Tryz.underlying5,
 a5 := Tryz.isAgg5,
 z5 := Tryz.sizeOf5,
 v5 := Tryz.zeroValue5,
 t9 := Tryz.underlying9,
 a9 := Tryz.isAgg9,
 z9 := Tryz.sizeOf9,
 v9 := Tryz.zeroValue9,
 t22 := Tryz.underlying90,
 a22 := Tryz.isAgg90,
 z22 := Tryz.sizeOf90,
 v22 := Tryz.zeroValue90,
 t25 := Tryz.underlying150,
 a25 := Tryz.isAgg150,
 z25 := Tryz.sizeOf150,
 v25 := Tryz.zeroValue150,
 t39 := Tryz.underlying216,
 a39 := Tryz.isAgg216,
 z39 := Tryz.sizeOf216,
 v39 := Tryz.zeroValue216,
 t45 := Tryz.underlying225,
 a45 := Tryz.isAgg225,
 z45 := Tryz.sizeOf225,
 v45 := Tryz.zeroValue225,
 t46 := Tryz.underlying226,
 a46 := Tryz.isAgg226,
 z46 := Tryz.sizeOf226,
 v46 := Tryz.zeroValue226,
 t50 := Tryz.underlying84,
 a50 := Tryz.isAgg84,
 z50 := Tryz.sizeOf84,
 v50 := Tryz.zeroValue84,
 t53 := Tryz.underlying232,
 a53 := Tryz.isAgg232,
 z53 := Tryz.sizeOf232,
 v53 := Tryz.zeroValue232,
 t55 := Tryz.underlying234,
 a55 := Tryz.isAgg234,
 z55 := Tryz.sizeOf234,
 v55 := Tryz.zeroValue234,
 t66 := Tryz.underlying235,
 a66 := Tryz.isAgg235,
 z66 := Tryz.sizeOf235,
 v66 := Tryz.zeroValue235,
 t70 := Tryz.underlying239,
 a70 := Tryz.isAgg239,
 z70 := Tryz.sizeOf239,
 v70 := Tryz.zeroValue239,
 t76 := Tryz.underlying241,
 a76 := Tryz.isAgg241,
 z76 := Tryz.sizeOf241,
 v76 := Tryz.zeroValue241,
 t77 := Tryz.underlying123,
 a77 := Tryz.isAgg123,
 z77 := Tryz.sizeOf123,
 v77 := Tryz.zeroValue123 }
theorem ltOf_cmpK (x y : KK) : ltOf cmpK x y = true ↔ ltK x y := by
 unfold ltOf cmpK orI cmpI ltK
 rw [decide_eq_true_iff]
 by_cases h1 : x.1.1 < y.1.1
 · simp [h1]
 · by_cases h2 : y.1.1 < x.1.1
   · simp [h1, h2]; omega
   · have e : x.1.1 = y.1.1 := by omega
     by_cases h3 : x.1.2 < y.1.2
     · simp [h1, h2, h3, e]
     · by_cases h4 : y.1.2 < x.1.2 <;> simp [h1, h2, h3, h4, e]
theorem swoK : SWO (ltOf cmpK) where
 irrefl x := by
  cases h : ltOf cmpK x x with
  | false => rfl
  | true => exact absurd ((ltOf_cmpK x x).1 h) (ltK_irr x)
 trans x y z h1 h2 := by
  rw [ltOf_cmpK] at *
  unfold ltK at *
  omega
 ntrans x y z h1 h2 := by
  cases h : ltOf cmpK x z with
  | false => rfl
  | true =>
   have a : ¬ ltK x y := fun e => by rw [(ltOf_cmpK x y).2 e] at h1; cases h1
   have b : ¬ ltK y z := fun e => by rw [(ltOf_cmpK y z).2 e] at h2; cases h2
   have c := (ltOf_cmpK x z).1 h
   unfold ltK at *
   omega
instance : Inhabited KK := ⟨⟨(0, 0), kk0⟩⟩
def KC (w : World) (Q : Nat → Prop) (cs : List Value) (c : KK) : Prop := cs = kL c
theorem blk_sortK {w : World} {blk n : Nat} {d : Array KK} {os : Array Obj} : Below w.heap.size w w → w.heap.size ≤ (sortWorldK kL 2 w blk 0 n d os).heap.size ∧ ∀ k, k < w.heap.size → k ≠ blk → (sortWorldK kL 2 w blk 0 n d os).heap[k]? = w.heap[k]? := fun _ => by
 refine ⟨size_sortWorldK_c _ _ _ _ _ _ _ _, fun k hk hne => ?_⟩
 unfold sortWorldK Go.Sort.grow putRowK putRow mapBlock Go.Sort.ahead
 simp only
 rw [Array.getElem?_append_left (by simpa using hk), Array.getElem?_modify, if_neg (fun e => hne e.symm)]
set_option maxHeartbeats 1000000 in
theorem sortk_c (out : List KK) (v : Value) (base : Nat) (w : World) (hown : w.ownsRow base 143 2 v out.length (out.flatMap kL)) (hn : out.length ≤ 1000) (hbase : base ≤ w.heap.size) :
 Calls Tryz.prog 132 #[v, .func (.func 91) #[] #[]] w (fun e w' => e = .returned (.tuple #[]) ∧ ∃ out' : List KK, out'.Perm out ∧ out'.Pairwise (fun x y => ¬ ltK y x) ∧ ListC KC 2 w' (fun q => base ≤ q ∧ q < w'.heap.size) [v] out' ∧ Below base w w' ∧ w.heap.size ≤ w'.heap.size) := by
 rcases Nat.eq_zero_or_pos out.length with h0 | h0
 · have he : out = [] := List.eq_nil_of_length_eq_zero h0
   subst he
   obtain ⟨p, cap, rfl⟩ : ∃ p cap, v = .slice p 0 cap := by
    rcases hown.2 with ⟨rfl, _⟩ | ⟨g, cap, cur, rfl, _⟩
    · exact ⟨_, _, rfl⟩
    · exact ⟨_, _, rfl⟩
   have hcon := AnyF.slices_SortFunc_none sortK p cap (.func (.func 91) #[] #[]) w
   refine (show Calls Tryz.prog 132 #[.slice p 0 cap, .func (.func 91) #[] #[]] w _ from hcon).mono ?_
   rintro e w' ⟨rfl, rfl⟩
   refine ⟨rfl, [], List.Perm.refl _, List.Pairwise.nil, ?_, Below.refl _ _, Nat.le_refl _⟩
   have hc : 0 ≤ cap ∧ cap ≤ maxLen := by
    rcases hown.2 with ⟨e, _⟩ | ⟨g, cap', cur, e, _, _, h1, h2, _⟩
    · simp only [Value.slice.injEq] at e
      obtain ⟨_, _, rfl⟩ := e
      exact ⟨Nat.le_refl _, by unfold maxLen; decide⟩
    · simp only [Value.slice.injEq] at e
      obtain ⟨_, _, rfl⟩ := e
      exact ⟨Nat.zero_le _, h2⟩
   exact ⟨p, cap, rfl, hc.1, hc.2, fun h => absurd h (by simp)⟩
 · obtain ⟨g, cap, rfl, hbg, hgw, hcl, hcm⟩ : ∃ g cap, v = .slice (some ⟨g, 0, none⟩) out.length cap ∧ base ≤ g ∧ g < w.heap.size ∧ out.length ≤ cap ∧ cap ≤ maxLen := by
    rcases hown.2 with ⟨_, hz⟩ | ⟨g, cap, cur, hv, h1, h2, h3, h4, _⟩
    · omega
    · exact ⟨g, cap, hv, h1, blk_lt h2, h3, h4⟩
   have hH : HoldsK kL 2 w g 0 out.toArray := by
    intro j hj
    rw [size_flatK] at hj
    have hj' : j < out.length * 2 := by simpa using hj
    rw [get_flatK _ _ _ _ hj]
    have hg := flat_get (f := kL) (k := 2) (by omega) (fun _ => rfl) out j hj'
    have e1 : out.toArray[j / 2]! = out[j / 2]! := by simp
    have hmod : j % 2 < (kL out[j / 2]!).length := by show j % 2 < 2; omega
    rw [List.getElem?_eq_getElem hmod] at hg
    have hc := hown.cells (g := g) rfl j _ hg
    have hf := own_unfrozen hown (g := g) rfl j
    rw [Addr.add_lit] at hc hf
    rw [e1, getElem!_pos (kL out[j / 2]!) (j % 2) hmod]
    exact ⟨hc, hf⟩
   have hcmp : CmpLays Tryz.prog 91 (#[] : Array Value) kL 2 cmpK g 0 out.toArray.size w := fun m os dk hdk x y => closk_c x y _
   have eg : ∀ args w, (callFunc 91 args).run Tryz.prog w = .ok (.enter 91 args) w := enters_of Tryz.func91 (by kernel_rfl) rfl
   have hcon := AnyQ.slices_SortFunc sortK 2 Tryz.isAgg143 Tryz.sizeOf143 kL (fun _ => rfl) (fun x v hv => by simp [kL] at hv; rcases hv with rfl | rfl <;> rfl) cmpK swoK 91 #[] g 0 cap out.toArray w eg hcmp hH hgw (by simp; omega)
   have hsz : out.toArray.size = out.length := by simp
   rw [hsz] at hcon
   refine (show Calls Tryz.prog 132 #[.slice (some ⟨g, 0, none⟩) out.length cap, .func (.func 91) #[] #[]] w _ from hcon).mono ?_
   rintro e w' ⟨rfl, d', n, os, hp, hs, rfl⟩
   obtain ⟨hp1, _, hp3⟩ := hp
   have hd : d'.size = out.length := by simpa using hp1
   have hperm : d'.toList.Perm out := by
    have e1 : (d'.extract 0 out.length).toList = d'.toList := by rw [← hd]; simp
    have e2 : (out.toArray.extract 0 out.length).toList = out := by simp
    rw [e1, e2] at hp3
    exact hp3
   have hH' := holdsK_sortWorldK_c kL 2 w g 0 out.toArray d' n os hH hgw hp1
   obtain ⟨hz1, hz2⟩ := blk_sortK (w := w) (blk := g) (n := n) (d := d') (os := os) (Below.refl _ _)
   refine ⟨rfl, d'.toList, hperm, ?_, ?_, ⟨rfl, rfl, rfl, hz1, fun k hk => hz2 k (by omega) (by omega)⟩, hz1⟩
   · rw [List.pairwise_iff_getElem]
     intro i j hi hj hij hlt
     have hi' : i < d'.size := by simpa using hi
     have hj' : j < d'.size := by simpa using hj
     have h1 := hs i j (Nat.zero_le _) hij (by omega)
     rw [getElem!_pos d' i hi', getElem!_pos d' j hj'] at h1
     have h2 := (ltOf_cmpK d'[j] d'[i]).2 hlt
     rw [h1] at h2
     cases h2
   · have hlen : d'.toList.length = out.length := by simpa using hd
     rw [← hlen]
     refine ⟨_, cap, rfl, by omega, hcm, fun _ => ⟨g, 0, rfl, ⟨hbg, by omega⟩, fun i x hx => ?_⟩⟩
     obtain ⟨hi, hxi⟩ := List.getElem?_eq_some_iff.1 hx
     have hi' : i < d'.size := by simpa using hi
     refine ⟨kL x, rfl, ⟨⟨hbg, by show g < _; omega⟩, fun j u hj => ?_⟩⟩
     have hjl : j < 2 := (List.getElem?_eq_some_iff.1 hj).1
     have hc := hH'.cell hi' hjl
     rw [getElem!_pos d' i hi'] at hc
     have hxd : d'[i] = x := by rw [← hxi]; simp
     rw [hxd, getElem!_pos (kL x) j hjl] at hc
     rw [Addr.add_lit]
     obtain ⟨_, hju⟩ := List.getElem?_eq_some_iff.1 hj
     have hju2 : (kL x)[j]'hjl = u := hju
     exact ⟨hc.1.trans (congrArg some hju2), hc.2⟩
end Go.Proofs.YtebdajkknkapcaaGreat
namespace Go.Proofs.YtebdajkknkapcaaGreat
open Go Go.RowKit Go.Shelf
open Go.Maps (Keyed)
def CollK (f : KK → Bool) (left : Lit → Bool) (ss : List KK) : Prop := ss.Nodup ∧ (∀ c, c ∈ ss ↔ (f c = true ∧ left (kKey c) = false)) ∧ ∀ c, left (kKey c) = true → f c = true
theorem CollK.start {f : KK → Bool} {D : UD} (hat : ∀ c, Maps.has D (kKey c) = f c) : CollK f (Maps.has D) [] :=
 ⟨List.nodup_nil, fun c => by rw [hat c]; cases f c <;> simp, fun c hc => by rw [← hat c]; exact hc⟩
theorem CollK.step {f : KK → Bool} {left : Lit → Bool} {ss : List KK} (h : CollK f left ss) {c : KK} (hl : left (kKey c) = true) : CollK f (fun z => left z && !z.sameKey (kKey c)) (ss ++ [c]) := by
 obtain ⟨h1, h2, h3⟩ := h
 have hnew : c ∉ ss := fun hx => by have := ((h2 c).1 hx).2; rw [hl] at this; cases this
 refine ⟨List.nodup_append.2 ⟨h1, by simp, fun a ha b hb => by simp at hb; subst hb; exact fun e => hnew (e ▸ ha)⟩, fun d => ?_, fun d hd => h3 d (by simp at hd; exact hd.1)⟩
 by_cases hd : d = c
 · subst hd
   have hs : (kKey d).sameKey (kKey d) = true := kKey_same.2 rfl
   simp [h3 d hl, hs]
 · have hs : (kKey d).sameKey (kKey c) = false := by
    cases e : (kKey d).sameKey (kKey c) with
    | false => rfl
    | true => exact absurd (kKey_same.1 e) hd
   simp [h2 d, hd, hs]
def AllK (f : KK → Bool) (ss : List KK) : Prop := ss.Nodup ∧ ∀ c, c ∈ ss ↔ f c = true
theorem CollK.done {f : KK → Bool} {left : Lit → Bool} {ss : List KK} (h : CollK f left ss) (hl : ∀ kl, left kl = false) : AllK f ss := ⟨h.1, fun c => by rw [h.2.1 c, hl]; simp⟩
theorem info_lock : (Tryz.prog.info? 143).map (·.size) = some 2 := by kernel_rfl
theorem wpListIn_load_row {F : Fence} {n : Nat} {P : Program} {ops : Array Oper} {rest : List Oper} {o : Oper} {a : Act} {w : World} {Q : Exit → Act → World → Prop} (hgd : o.guard = none) (ty : TypeId) (x : Operand) (ho : o.op = .load ty x)
 (g : Nat) (hx : a.eval x = .pointer (some ⟨g, 0, none⟩)) (t : TypeId) (cs : Array Value) (fr : Nat × Nat) (d : TypeDesc) (hg : w.heap[g]? = some (.cells cs t fr))
 (hu : P.underlying ty = some d) (hd : (match d with | .struct _ | .array _ _ => true | _ => false) = true) (hi : (P.info? ty).map (·.size) = some cs.size)
 (h : wpListIn F n P ops Q rest (a.put o.dst (.agg cs)) w) : wpListIn F n P ops Q (o :: rest) a w := by
 refine wpListIn_plain hgd fun K hK => ?_
 unfold Oper.wpIn
 refine ⟨by simp [Oper.about, ho], ?_⟩
 rw [Oper.semAt_plain F _ _ (by rw [ho]; intro c hc'; cases hc')]
 have hrun := run_loadVar_row w g t ty cs fr d hg hu hd hi
 unfold execOp
 simp only [ho, hx, Instr.loadAt, Instr.sureAddr, Sem.run_bind, Sem.run_pure, Result.andThen_ok]
 rw [hrun]
 simp only [Result.andThen_ok]
 exact hK _ _ h
theorem keysK_c (b : Nat) (w : World) : Calls Tryz.prog 90 #[.map (some b)] w (fun e w' => e = .returned (.func (.func 133) #[] #[.pointer (some ⟨w.heap.size, 0, none⟩)]) ∧ w' = w.alloc (.cells #[.map (some b)] 137)) := by
 go_enter Tryz.func90, Tryz.ntmps90
 go_wp2_with fail
 go_ret
 exact ⟨rfl, rfl⟩
set_option maxRecDepth 100000 in
set_option maxHeartbeats 1000000 in
theorem keys1K_in (F : Fence) (m : Nat) (hF : F.fn 133) (hro : F.round = none) (hn : 1 ≤ m) (l Bm b n : Nat) (D0 : UD) (f : KK → Bool) (hat : ∀ c, Maps.has D0 (kKey c) = f c) (J : List KK → World → Prop)
 (hY : ∀ pre x W, J pre W → pre.length < Maps.size D0 → YieldAt F (m - 1) Tryz.prog l #[kVal x] W fun e W' => e = .returned (.bool true) ∧ J (pre ++ [x]) W' ∧ KeepsWalks W W')
 (W : World) (hJ : AbidesFrom W.heap.size J) (hm : W.cell? ⟨Bm, 0, none⟩ = some (.map (some b))) (hown : W.ownsMap Tryz.prog 143 (plainElem Tryz.prog 4) b n D0) (h0 : J [] W) :
 CallsIn F m Tryz.prog 133 #[.func (.yield l) #[] #[], .pointer (some ⟨Bm, 0, none⟩)] W fun e W' => (∃ v, e = .returned v) ∧ ∃ ss : List KK, AllK f ss ∧ J ss W' := by
 have h1 : 1 ≤ m := hn
 refine callsIn_of_wp Tryz.func133 rfl hF ?_ hro
 simp only [Tryz.ntmps133, List.size_toArray, List.length_cons, List.length_nil, Nat.reduceAdd, Nat.reduceSub, Array.replicate_succ, Array.replicate_zero, List.push_toArray, List.append_toArray, List.nil_append, List.cons_append]
 gi_wp2_with (gi_at_range; refine wpListIn_range_own _ rfl _ 137 rfl 143 4 lock_keyed kmap_uty _ b n _ rfl hown ?_; intro w0 hrg0 hg0 hs0)
 go_frame
 gi_loopw [3] (fun _ wr => ∃ (left : Lit → Bool) (cnt : Nat) (ss : List KK), wr.ranges Tryz.prog 143 (plainElem Tryz.prog 4) b W.heap.size n D0 left cnt ∧ ss.length + cnt ≤ Maps.size D0 ∧ CollK f left ss ∧ J ss wr)
  (fun _ wr => wr.rangeLeft b W.heap.size)
 case atStart =>
  exact ⟨_, _, [], hrg0, by simp, CollK.start hat, hJ [] W w0 none h0 hg0 (fun r e => by cases e)⟩
 case round =>
  obtain ⟨left, cnt, ss, hrg, hcs, hC, hJs⟩ := hrel
  gi_wp2_with (gi_at_next; refine wpListIn_next_ranges _ rfl _ rfl 143 lock_keyed (plainElem Tryz.prog 4) kVal id (fun key kl hk => lock_inv hk) (fun v _ _ => ⟨v, rfl⟩) b W.heap.size n _ _ _ rfl hrg ?_ ?_)
  · intro hc0 hl0
    gi_wp2
    go_end0
    exact ⟨⟨_, rfl⟩, ss, hC.done hl0, hJs⟩
  · intro xa xb hx c kl yd yp w2 cnt2 hkey hlk hv hat2 hrg2 hlt hg2 hs2 hen
    rw [kKey_of ⟨(xa, xb), hx⟩] at hkey
    obtain rfl := Option.some.inj hkey
    have hJ2 : J ss w2 := hJ ss wr w2 (some W.heap.size) hJs hg2 (fun r e => by cases e; exact ⟨Nat.le_refl _, hrg.iter_walk⟩)
    have hrgA := hrg2.alloc (.cells #[.int .i64 xa, .int .i64 xb] 143)
    have hJA : J ss (w2.alloc (.cells #[.int .i64 xa, .int .i64 xb] 143)) := hJ ss w2 _ none hJ2 (World.grownBy_alloc w2 _ none) (fun r e => by cases e)
    have hst := hC.step (c := ⟨(xa, xb), hx⟩) hlk
    obtain ⟨fn, tmps, assign, body, hy, hR⟩ := hY ss ⟨(xa, xb), hx⟩ _ hJA (by omega)
    simp only [kVal] at hen hy ⊢
    have hh := heap_alloc_new w2 (.cells #[.int .i64 xa, .int .i64 xb] 143)
    have HST := Lib.hid hst
    have HRG := Lib.hid hrg
    have HRGA := Lib.hid hrgA
    clear hs2 hst hv hat2 hg2 hrg hrgA hrg2 hJ2 hJA hC hJs
    gi_wp2_with (show wpListIn _ _ _ _ _ (Oper.mk (some 11) _ _ _ _ _ :: _) _ _; refine wpListIn_load_row rfl 143 (.tmp 3) rfl w2.heap.size rfl _ _ _ _ hh Tryz.underlying143 rfl info_lock ?_)
    refine hR.mono ?_
    rintro e W3 ⟨rfl, hJ3, hk3⟩
    gi_wp2
    have hrg3 := HRGA.out.of_walks hk3
    go_roundw
    case rel => exact ⟨_, cnt2, ss ++ [⟨(xa, xb), hx⟩], hrg3, by simp; omega, HST.out, hJ3⟩
    case measure => rw [hrg3.left_eq, HRG.out.left_eq]; exact hlt
theorem keysK_gives (F : Fence) (m : Nat) (hF : F.fn 133) (hro : F.round = none) (hn : 1 ≤ m) (Bm b n : Nat) (f : KK → Bool) (w : World) (hBm : Bm < w.heap.size)
 (hm : w.cell? ⟨Bm, 0, none⟩ = some (.map (some b))) (hM : MapL w b n f) :
 SeqGives F m Tryz.prog 133 #[.pointer (some ⟨Bm, 0, none⟩)] kVal (AllK f) n w := fun l J W hW hJ hY h0 => by
 have hM2 := hM.below hW
 obtain ⟨D, hown, hat⟩ := hM2
 have hsz : Maps.size D ≤ n := hown.size_le
 exact keys1K_in F m hF hro hn l Bm b n D f (fun c => (hat c).1) J (fun pre x W1 h1 h2 => hY pre x W1 h1 (by omega)) W hJ ((hW.cell (p := ⟨Bm, 0, none⟩) hBm).trans hm) hown h0
def apA (b : Option Code) : Code := match b with
 | some (.seq _ (.seq (.seq _ (.block _ (.rangeFunc _ _ a _))) _)) => a
 | _ => .ret
def apB (b : Option Code) : Code := match b with
 | some (.seq _ (.seq (.seq _ (.block _ (.rangeFunc _ _ _ b))) _)) => b
 | _ => .ret
def apRec (bd : Option Code) (fn : FuncId) (sv : Value) (Bs D : Nat) (st : LoopState) (pend : Option Code) : Loop :=
 { state := st, pending := pend, fn, tmps := #[.slice none 0 0, sv, .pointer (some ⟨Bs, 0, none⟩), undef, .slice none 0 0, undef, sv, undef, undef, undef, undef, undef, undef], params := #[7], assign := apA bd, body := apB bd, defers := D }
theorem info_lockA : (Tryz.prog.info? 143).map (fun i => (i.zero, i.size, i.bytes)) = some (some (.agg #[.int .i64 0, .int .i64 0]), 2, 16) := by kernel_rfl
theorem locks_uty : Tryz.prog.underlying 90 = some (.slice 143) := by kernel_rfl
structure ApAt (w0 : World) (fn : FuncId) (sv : Value) (Bs l D : Nat) (ss : List KK) (W : World) : Prop where
 box : ∃ v, W.heap[Bs]? = some (.cells #[v] 90 (0, 0)) ∧ W.ownsRow w0.heap.size 143 2 v ss.length (ss.flatMap kL)
 L : W.heap[l]? = some (.loop (apRec Tryz.f173.body fn sv Bs D .ready none))
 K : W.heap[D]? = some (.deferred (some []))
 below : Below w0.heap.size w0 W
theorem ap_abides (w0 : World) (fn : FuncId) (sv : Value) (Bs l D B : Nat) (hB : w0.heap.size ≤ B) : AbidesFrom B (ApAt w0 fn sv Bs l D) := fun s W W' row h hg hrow => by
 have hrow' : ∀ r, row = some r → ∃ o : Obj, W.heap[r]? = some o ∧ o.isWalk = true := fun r e => (hrow r e).2
 obtain ⟨v, hv, hr⟩ := h.box
 exact ⟨⟨v, (grownBy_keeps hg hrow' hv rfl).trans hv, ownsRow_abides_a hr hg hrow'⟩, (grownBy_keeps hg hrow' h.L rfl).trans h.L, (grownBy_keeps hg hrow' h.K rfl).trans h.K,
  h.below.grown hg h.below.size (fun k e => Nat.le_trans hB (hrow k e).1)⟩
set_option maxRecDepth 100000 in
set_option maxHeartbeats 2000000 in
theorem apYield (F : Fence) (m : Nat) (w0 : World) (fn : FuncId) (hfn : F.fn fn) (sv : Value) (Bs l D : Nat) (hBl : Bs ≠ l) (hDl : D ≠ l) (hDB : D ≠ Bs) (h0B : w0.heap.size ≤ Bs) (h0l : w0.heap.size ≤ l)
 (N : Nat) (hN : N ≤ maxLen) (hNb : N * 16 ≤ 140737488355328) (ss : List KK) (x : KK) (W : World) (h : ApAt w0 fn sv Bs l D ss W) (hlen : ss.length < N) :
 YieldAt F m Tryz.prog l #[kVal x] W fun e W' => e = .returned (.bool true) ∧ ApAt w0 fn sv Bs l D (ss ++ [x]) W' ∧ KeepsWalks W W' := by
 have hne : (90 : TypeId) ≠ 143 := by decide
 obtain ⟨i0, hi, hz0, hz1, hz2⟩ := info_parts info_lockA
 obtain ⟨v, hv, hrow⟩ := h.box
 refine ⟨fn, #[.slice none 0 0, sv, .pointer (some ⟨Bs, 0, none⟩), undef, .slice none 0 0, undef, sv, kVal x, undef, undef, undef, undef, undef], apA Tryz.f173.body, apB Tryz.f173.body, by simpa [apRec] using run_yield (P := Tryz.prog) (args := #[kVal x]) h.L rfl, roundIn_of_wpIn hfn ?_⟩
 obtain ⟨⟨xa, xb⟩, hx⟩ := x
 dsimp only [apA, apB, Tryz.f173]
 simp only [kVal]
 gi_wp2_with gi_round_op_a
 have hl0 : l < W.heap.size := (Array.getElem?_eq_some_iff.1 h.L).1
 -- the variable's block
 obtain ⟨W1, hW1⟩ : ∃ W1, W.alloc (.cells #[.int .i64 xa, .int .i64 xb] 143) = W1 := ⟨_, rfl⟩
 rw [hW1]
 have hold : ∀ k, k < W.heap.size → W1.heap[k]? = W.heap[k]? := fun k hk => by rw [← hW1]; exact Below.heap_alloc _ _ k hk
 have hs1 : W1.heap.size = W.heap.size + 1 := by rw [← hW1]; simp
 have hvb1 : W1.heap[W.heap.size]? = some (.cells #[.int .i64 xa, .int .i64 xb] 143 (0, 0)) := by rw [← hW1]; exact heap_alloc_new W _
 have hL1 : W1.heap[l]? = some (.loop (apRec Tryz.f173.body fn sv Bs D .ready none)) := (hold _ hl0).trans h.L
 have hv1 : W1.heap[Bs]? = some (.cells #[v] 90 (0, 0)) := (hold _ (Array.getElem?_eq_some_iff.1 hv).1).trans hv
 have hK1 : W1.heap[D]? = some (.deferred (some [])) := (hold _ (Array.getElem?_eq_some_iff.1 h.K).1).trans h.K
 have hrow1 : W1.ownsRow w0.heap.size 143 2 v ss.length (ss.flatMap kL) := by rw [← hW1]; exact hrow.alloc _
 have hb1 : Below w0.heap.size w0 W1 := by rw [← hW1]; exact h.below.alloc h.below.size _
 have hk1 : KeepsWalks W W1 := by rw [← hW1]; exact KeepsWalks.alloc _ _
 have hbr := run_beginRound (P := Tryz.prog) hL1 rfl
 obtain ⟨W2, hW2⟩ : ∃ W2, W1.putObj l (.loop { apRec Tryz.f173.body fn sv Bs D .ready none with state := .busy }) = W2 := ⟨_, rfl⟩
 rw [hW2] at hbr
 have hg2 : W1.grownBy W2 (some l) := by rw [← hW2]; exact grownBy_putObj_a _ _ _
 have hs2 : W2.heap.size = W1.heap.size := by rw [← hW2]; simp
 have hk2 : KeepsWalks W W2 := hk1.trans (by rw [← hW2]; exact KeepsWalks.putObj _ hL1 rfl)
 have hv2 : W2.heap[Bs]? = some (.cells #[v] 90 (0, 0)) := by rw [← hW2]; exact (World.putObj_heap_other hBl).trans hv1
 have hvb2 : W2.heap[W.heap.size]? = some (.cells #[.int .i64 xa, .int .i64 xb] 143 (0, 0)) := by rw [← hW2]; exact (World.putObj_heap_other (by omega)).trans hvb1
 have hK2 : W2.heap[D]? = some (.deferred (some [])) := by rw [← hW2]; exact (World.putObj_heap_other hDl).trans hK1
 have hL2 : W2.heap[l]? = some (.loop { apRec Tryz.f173.body fn sv Bs D .ready none with state := .busy }) := by rw [← hW2]; exact World.putObj_heap_same (by omega)
 have hrow2 : W2.ownsRow w0.heap.size 143 2 v ss.length (ss.flatMap kL) := hrow1.kept hg2 (ownsRow_ne_a hrow1 hL1 (fun cur e => by first | cases e | exact hne (Obj.cells.inj e).2.1))
 have hb2 : Below w0.heap.size w0 W2 := hb1.grown hg2 hb1.size (fun k e => by cases e; exact h0l)
 obtain ⟨hc2, hf2⟩ := cell_of_box_a hv2
 have hBlt : Bs < W2.heap.size := (Array.getElem?_eq_some_iff.1 hv2).1
 have hl2 : l < W2.heap.size := (Array.getElem?_eq_some_iff.1 hL2).1
 have hDlt : D < W2.heap.size := (Array.getElem?_eq_some_iff.1 hK2).1
 have ne_of : ∀ {j : Nat} {o : Obj}, W2.heap[j]? = some o → (∀ cur, o ≠ .cells cur 143 (0, 0)) → some j ≠ v.ownBlock := fun hj hno => by
  rcases ownsRow_ne_a hrow2 hj hno with e | e
  · rw [e]; simp
  · exact fun e' => e e'.symm
 have HVB := Lib.hid hvb2
 have HS12 := Lib.hid (And.intro hs1 hs2)
 clear hW1 hW2 hold hvb1 hL1 hv1 hK1 hrow1 hb1 hk1 hg2 hvb2 hs1 hs2
 gi_wp2_with (first
  | (show wpListIn _ _ _ _ _ (Oper.mk (some 9) _ _ _ _ _ :: _) _ _; refine wpListIn_load_row rfl 143 (.tmp 5) rfl W.heap.size rfl _ _ _ _ HVB.out Tryz.underlying143 rfl info_lock ?_)
  | (gi_at_builtin; refine wpListIn_append_own _ rfl _ _ 90 rfl w0.heap.size 143 i0 _ 2 16 locks_uty hi hz0 hz1 hz2 rfl (by decide) _ _ _ rfl (hrow2.alloc _) ⟨W2.heap.size, 0, none⟩ 1 1 [.int .i64 xa, .int .i64 xb] rfl rfl (fun j u hj => (((box_at (heap_alloc_new W2 (.cells #[.int .i64 xa, .int .i64 xb] 143))).2 j u hj).1)) (by simp [Value.oneCell']) (by omega) (by omega) (by have := hb2.size; simp; omega) ?_; intro v' w3 hown' hg3 hnil3
     have hv3 : w3.heap[Bs]? = some (.cells #[v] 90 (0, 0)) := (hg3.block Bs (by simp; omega) (ne_of hv2 (fun cur e => by first | cases e | exact hne (Obj.cells.inj e).2.1))).trans ((Below.heap_alloc _ _ Bs hBlt).trans hv2)
     obtain ⟨hc3, hf3⟩ := cell_of_box_a hv3
     obtain ⟨A3, n3, c3, rfl⟩ := own_shape hown'
     go_frame)
  | gi_round_op_a)
 have hg3' : (W2.alloc (.cells #[.int .i64 xa, .int .i64 xb] 143)).grownBy w3 v.ownBlock := hg3
 have hL3 : w3.heap[l]? = some (.loop { apRec Tryz.f173.body fn sv Bs D .ready none with state := .busy }) := (hg3'.block l (by simp; omega) (ne_of hL2 (fun cur e => by first | cases e | exact hne (Obj.cells.inj e).2.1))).trans ((Below.heap_alloc _ _ l hl2).trans hL2)
 have hK3 : w3.heap[D]? = some (.deferred (some [])) := (hg3'.block D (by simp; omega) (ne_of hK2 (fun cur e => by first | cases e | exact hne (Obj.cells.inj e).2.1))).trans ((Below.heap_alloc _ _ D hDlt).trans hK2)
 obtain ⟨w4, hw4⟩ : ∃ w4, w3.setCell ⟨Bs, 0, none⟩ (.slice A3 n3 c3) = w4 := ⟨_, rfl⟩
 rw [hw4]
 have hg4 : w3.grownBy w4 (some Bs) := by rw [← hw4]; exact grownBy_setCell0_a _ _ _
 have hv4 : w4.heap[Bs]? = some (.cells #[.slice A3 n3 c3] 90 (0, 0)) := by rw [← hw4]; exact heap_setCell_box_a _ hv3
 have hL4 : w4.heap[l]? = some (.loop { apRec Tryz.f173.body fn sv Bs D .ready none with state := .busy }) := (hg4.block l (Array.getElem?_eq_some_iff.1 hL3).1 (fun e => hBl (by cases e; rfl))).trans hL3
 have hK4 : w4.heap[D]? = some (.deferred (some [])) := (hg4.block D (Array.getElem?_eq_some_iff.1 hK3).1 (fun e => hDB (by cases e; rfl))).trans hK3
 have hrow4 := hown'.kept hg4 (ownsRow_ne_a hown' hv3 (fun cur e => by first | cases e | exact hne (Obj.cells.inj e).2.1))
 have hl4 : l < w4.heap.size := (Array.getElem?_eq_some_iff.1 hL4).1
 have hb3 : Below w0.heap.size w0 w3 := (hb2.alloc hb2.size _).grown hg3' (by have := hb2.size; simp; omega) (fun k e => (hrow2.lt k e).1)
 have hb4 : Below w0.heap.size w0 w4 := hb3.grown hg4 hb3.size (fun k e => by cases e; exact h0B)
 have hk4 : KeepsWalks W w4 := ((hk2.trans (KeepsWalks.alloc _ _)).trans (KeepsWalks.of_grownBy hg3' (ownsRow_not_walk_a (hrow2.alloc _)))).trans (by rw [← hw4]; exact KeepsWalks.setCell _ _ _)
 clear hw4
 refine ⟨_, _, run_endRound none hL4, rfl, ⟨⟨_, (World.putObj_heap_other hBl).trans hv4, ?_⟩, World.putObj_heap_same hl4, (World.putObj_heap_other hDl).trans hK4, hb4.grown (grownBy_putObj_a _ _ _) hb4.size (fun k e => by cases e; exact h0l)⟩, hk4.trans (KeepsWalks.putObj _ hL4 rfl)⟩
 have hfin := hrow4.kept (grownBy_putObj_a w4 l (.loop { { apRec Tryz.f173.body fn sv Bs D .ready none with state := .busy } with state := if (none : Option Code).isNone then .ready else .done, pending := none })) (ownsRow_ne_a hrow4 hL4 (fun cur e => by first | cases e | exact hne (Obj.cells.inj e).2.1))
 rw [List.flatMap_append, List.length_append]
 exact hfin
set_option maxRecDepth 100000 in
set_option maxHeartbeats 2000000 in
theorem appendSeqK_in (F : Fence) (n : Nat) (hF : F.fn 173) (hro : F.round = none) (hn : 2 ≤ n) (g : Nat) (lb : Array Value) (hFg : F.fn g) (eg : ∀ args w, (callFunc g args).run Tryz.prog w = .ok (.enter g args) w)
 (S : List KK → Prop) (N : Nat) (hN : N ≤ maxLen) (hNb : N * 16 ≤ 140737488355328) (w : World) (hseq : SeqGives F (n - 1) Tryz.prog g lb kVal S N w) :
 CallsIn F n Tryz.prog 173 #[.slice none 0 0, .func (.func g) #[] lb] w fun e w' => ∃ (v : Value) (ss : List KK), e = .returned v ∧ S ss ∧ w'.ownsRow w.heap.size 143 2 v ss.length (ss.flatMap kL) ∧ Below w.heap.size w w' := by
 have h1 : 1 ≤ n := by omega
 have hne : (90 : TypeId) ≠ 143 := by decide
 refine callsIn_of_wp_marks Tryz.func173 rfl hF ?_ hro
 simp only [Tryz.ntmps173, List.size_toArray, List.length_cons, List.length_nil, Nat.reduceAdd, Nat.reduceSub, Array.replicate_succ, Array.replicate_zero, List.push_toArray, List.append_toArray, List.nil_append, List.cons_append]
 gi_wp2
 refine wpIn_rangeFunc ?_
 intro fn hfn
 rw [hro]
 obtain ⟨W0, hW0⟩ : ∃ W0, w.alloc (.cells #[.slice none 0 0] 90) = W0 := ⟨_, rfl⟩
 have hs0 : W0.heap.size = w.heap.size + 1 := by rw [← hW0]; simp
 have hv0 : W0.heap[w.heap.size]? = some (.cells #[.slice none 0 0] 90 (0, 0)) := by rw [← hW0]; exact World.alloc_heap_new w _
 have hb0 : Below w.heap.size w W0 := by rw [← hW0]; exact (Below.refl _ w).alloc (Nat.le_refl _) _
 rw [hW0]
 obtain ⟨W1, hW1⟩ : ∃ W1, (W0.alloc (.deferred (some []))).alloc (.loop (apRec Tryz.f173.body fn (.func (.func g) #[] lb) w.heap.size W0.heap.size .ready none)) = W1 := ⟨_, rfl⟩
 have hold : ∀ k, k < W0.heap.size → W1.heap[k]? = W0.heap[k]? := fun k hk => by
  rw [← hW1]; exact (Below.heap_alloc _ _ k (by simp; omega)).trans (Below.heap_alloc _ _ k hk)
 have hb1 : Below w.heap.size w W1 := by rw [← hW1]; exact (hb0.alloc hb0.size _).alloc (by have := hb0.size; simp; omega) _
 have hs1 : W1.heap.size = W0.heap.size + 2 := by rw [← hW1]; simp
 have hM : ApAt w fn (.func (.func g) #[] lb) w.heap.size (W0.heap.size + 1) W0.heap.size [] W1 :=
  ⟨⟨_, (hold w.heap.size (by omega)).trans hv0, World.ownsRow_nil _ _ _ _⟩,
   by rw [← hW1]; have := World.alloc_heap_new (W0.alloc (.deferred (some []))) (.loop (apRec Tryz.f173.body fn (.func (.func g) #[] lb) w.heap.size W0.heap.size .ready none)); rwa [World.size_alloc] at this,
   by rw [← hW1]; exact (Below.heap_alloc _ _ _ (by simp)).trans (World.alloc_heap_new W0 _), hb1⟩
 refine ⟨W0.heap.size + 1, [{ target := .collected W0.heap.size, args := #[] }], W1, { target := .fn (.func g) lb, args := #[.func (.yield (W0.heap.size + 1)) #[] #[]] }, W1, g,
  #[.func (.yield (W0.heap.size + 1)) #[] #[]] ++ lb, W1, ?_, ?_, ?_, ?_, fun _ => h1, ?_⟩
 · rw [← hW1]; exact run_enterLoop_outer _ _ _ _ _
 · simp [resolve, go_sem]
 · intro f' hf'; simp [Target.leads] at hf'; subst hf'; exact hFg
 · simp [invoke, go_sem, eg]
 · refine (hseq (W0.heap.size + 1) (ApAt w fn (.func (.func g) #[] lb) w.heap.size (W0.heap.size + 1) W0.heap.size) W1 hb1 (ap_abides _ _ _ _ _ _ _ hb1.size)
    (fun pre x W hJ hl => apYield F (n - 1 - 1) w fn hfn _ w.heap.size (W0.heap.size + 1) W0.heap.size (by omega) (by omega) (by omega) (Nat.le_refl _) (by omega) N hN hNb pre x W hJ hl) hM).mono ?_
   rintro e W2 ⟨⟨v0, rfl⟩, ss, hS, h2⟩
   obtain ⟨v, hv, hrow⟩ := h2.box
   have hend := run_endLoop (P := Tryz.prog) h2.L (by simp [apRec])
   obtain ⟨W3, hW3⟩ : ∃ W3, W2.putObj (W0.heap.size + 1) (.loop { apRec Tryz.f173.body fn (.func (.func g) #[] lb) w.heap.size W0.heap.size .ready none with state := .exhausted }) = W3 := ⟨_, rfl⟩
   rw [hW3] at hend
   have hg3 : W2.grownBy W3 (some (W0.heap.size + 1)) := by rw [← hW3]; exact grownBy_putObj_a _ _ _
   have hv3 : W3.heap[w.heap.size]? = some (.cells #[v] 90 (0, 0)) := by rw [← hW3]; exact (World.putObj_heap_other (by omega)).trans hv
   have hK3 : W3.heap[W0.heap.size]? = some (.deferred (some [])) := by rw [← hW3]; exact (World.putObj_heap_other (by omega)).trans h2.K
   have hrow3 := hrow.kept hg3 (ownsRow_ne_a hrow h2.L (fun cur e => by first | cases e | exact hne (Obj.cells.inj e).2.1))
   have hb3 : Below w.heap.size w W3 := h2.below.grown hg3 h2.below.size (fun k e => by cases e; omega)
   obtain ⟨hc3, hf3⟩ := cell_of_box_a hv3
   clear hW3
   refine ⟨none, W3, hend, ?_⟩
   gi_wp2
   rw [← hs0]
   refine ⟨by simp, .inl ⟨_, _, rfl, run_takeDeferred hK3, ?_⟩⟩
   exact ⟨_, results_tmp rfl _ _ _, v, ss, rfl, hS, hrow3.kept (grownBy_putObj_a _ _ _) (ownsRow_ne_a hrow3 hK3 (fun cur e => by first | cases e | exact hne (Obj.cells.inj e).2.1)), hb3.grown (grownBy_putObj_a _ _ _) hb3.size (fun k e => by cases e; omega)⟩
set_option maxHeartbeats 1000000 in
theorem collectK_in (F : Fence) (n : Nat) (hC : F.fn 131) (hF : F.fn 173) (hro : F.round = none) (hn : 3 ≤ n) (g : Nat) (lb : Array Value) (hFg : F.fn g) (eg : ∀ args w, (callFunc g args).run Tryz.prog w = .ok (.enter g args) w)
 (S : List KK → Prop) (N : Nat) (hN : N ≤ maxLen) (hNb : N * 16 ≤ 140737488355328) (w : World) (hseq : SeqGives F (n - 1 - 1) Tryz.prog g lb kVal S N w) :
 CallsIn F n Tryz.prog 131 #[.func (.func g) #[] lb] w fun e w' => ∃ (v : Value) (ss : List KK), e = .returned v ∧ S ss ∧ w'.ownsRow w.heap.size 143 2 v ss.length (ss.flatMap kL) ∧ Below w.heap.size w w' := by
 have h1 : 1 ≤ n := by omega
 refine callsIn_of_wp Tryz.func131 rfl hC ?_ hro
 simp only [Tryz.ntmps131, List.size_toArray, List.length_cons, List.length_nil, Nat.reduceAdd, Nat.reduceSub, Array.replicate_succ, Array.replicate_zero, List.push_toArray, List.append_toArray, List.nil_append, List.cons_append]
 gi_wp2_with (gi_at_call 173; refine (appendSeqK_in F (n - 1) hF hro (by omega) g lb hFg eg S N hN hNb _ hseq).mono ?_; rintro e w' ⟨v, ss, rfl, hS, hrow, hb⟩)
 go_ret
 exact ⟨v, ss, rfl, hS, hrow, hb⟩
end Go.Proofs.YtebdajkknkapcaaGreat
namespace Go.Proofs.YtebdajkknkapcaaGreat
open Go Go.RowKit
instance (a c : KK) : Decidable (ltK a c) := by unfold ltK; infer_instance
theorem ltK_tri {a c : KK} (h : ¬ ltK a c) (hne : a ≠ c) : ltK c a := by
 have : ¬ (a.1.1 = c.1.1 ∧ a.1.2 = c.1.2) := fun e => hne (Subtype.ext (Prod.ext e.1 e.2))
 unfold ltK at *
 omega
end Go.Proofs.YtebdajkknkapcaaGreat
namespace Go.Proofs.YtebdajkknkapcaaGreat
open Go Go.RowKit Go.Shelf
open Go.Maps (Keyed)
theorem listK_of {f : KK → Bool} {ss ks : List KK} (h : AllK f ss) (hp : ks.Perm ss) (hs : ks.Pairwise (fun x y => ¬ ltK y x)) : ListK f ks := by
 have hnd : ks.Pairwise (· ≠ ·) := hp.nodup_iff.2 h.1
 refine ⟨(hs.and hnd).imp (fun {a b} hab => ltK_tri hab.1 (fun e => hab.2 e.symm)), fun c => by rw [hp.mem_iff, h.2]⟩
def ListPostN (n : Nat) (f : KK → Bool) (w : World) (e : Ending) (w' : World) : Prop := ∃ (A : Option Addr) (c : Nat) (ks : List KK), e = .returned (.slice A ks.length c) ∧ ListK f ks ∧ ListC KC 2 w' (fun q => w.heap.size ≤ q ∧ q < w'.heap.size) [.slice A ks.length c] ks ∧ Below w.heap.size w w' ∧ ks.length ≤ n
set_option maxHeartbeats 1000000 in
theorem sortedK_c (b n : Nat) (f : KK → Bool) (w : World) (hM : MapL w b n f) (hn : n ≤ 1000) : Calls Tryz.prog 89 #[.func (.func 133) #[] #[.pointer (some ⟨w.heap.size, 0, none⟩)], .func (.func 91) #[] #[]] (w.alloc (.cells #[.map (some b)] 137)) (ListPostN n f w) := by
 have hh := heap_alloc_new w (.cells #[.map (some b)] 137)
 have hb1 := below1 w (.cells #[.map (some b)] 137)
 generalize w.alloc (.cells #[.map (some b)] 137) = W at *
 have hseq := keysK_gives Fence.wide 3 trivial rfl (by omega) w.heap.size b n f W (blk_lt hh) (blk_cell hh 0) (hM.below hb1)
 have hcol := callsIn_wide.1 (collectK_in Fence.wide 5 trivial trivial rfl (by omega) 133 #[.pointer (some ⟨w.heap.size, 0, none⟩)] trivial (enters_of Tryz.func133 (by kernel_rfl) rfl) _ n (by unfold maxLen; omega) (by omega) W hseq.bounded)
 have HCOL := Lib.hid hcol
 have HB1 := Lib.hid hb1
 clear hseq hcol hh hM hb1
 go_enter Tryz.func89, Tryz.ntmps89
 go_wp2_with fail
 refine HCOL.out.mono ?_
 rintro e w2 ⟨v, ss, rfl, ⟨hall, hlen⟩, hrow, hb2⟩
 have HALL := Lib.hid hall
 have HLEN := Lib.hid hlen
 have hs1 := HB1.out.size
 have hb02 := Lib.hid (HB1.out.trans (hb2.mono hs1))
 have HSRT := Lib.hid (sortk_c ss v W.heap.size w2 hrow (by omega) hb2.size)
 obtain ⟨A, n1, c, rfl⟩ := own_shape hrow
 clear hall hrow hlen hs1 hb2 HCOL
 go_wp2_with fail
 refine HSRT.out.mono ?_
 rintro e w3 ⟨rfl, ks, hp, hs, hlc, hb3, hsz⟩
 have hlen : n1 = ks.length := by
  obtain ⟨A2, c2, he, _⟩ := hlc.form
  simp only [List.cons.injEq, and_true, Value.slice.injEq] at he
  exact he.2.1
 subst hlen
 have HL := Lib.hid (listK_of HALL.out hp hs)
 have HKN := Lib.hid (show ks.length ≤ n by rw [hp.length_eq]; exact HLEN.out)
 have HLC := Lib.hid (hlc.mono (Q' := fun q => w.heap.size ≤ q ∧ q < w3.heap.size) (fun h => h) (fun q hq => ⟨Nat.le_trans HB1.out.size hq.1, hq.2⟩))
 have HB3 := Lib.hid (show Below w.heap.size w w3 from hb02.out.trans (hb3.mono HB1.out.size))
 clear hp hs hlc hb3 hsz HSRT HALL
 go_wp2_with fail
 go_ret
 exact ⟨A, c, ks, rfl, HL.out, HLC.out, HB3.out, HKN.out⟩
set_option maxHeartbeats 1000000 in
theorem listN_c (L b : Nat) (y m p ne : Int) (n : Nat) (f : KK → Bool) (w : World) (h : LkC w L b y m p ne n f) (hn : n ≤ 1000) : Calls Tryz.prog 47 #[.pointer (some ⟨L, 0, none⟩)] w (ListPostN n f w) := by
 have HS := Lib.hid (sortedK_c b n f w h.2.1 hn)
 have c4 := blk_cell h.1 4
 have HK := Lib.hid (keysK_c b w)
 clear h
 go_enter Tryz.func47, Tryz.ntmps47
 go_wp2_with fail
 refine HK.out.mono ?_
 rintro e w2 ⟨rfl, rfl⟩
 go_wp2_with fail
 refine HS.out.mono ?_
 rintro e w3 ⟨A, c, ks, rfl, h1, h2, h3, h4⟩
 have H1 := Lib.hid h1
 have H2 := Lib.hid h2
 have H3 := Lib.hid h3
 have H4 := Lib.hid h4
 clear h1 h2 h3 h4
 obtain ⟨k, hk⟩ : ∃ k, ks.length = k := ⟨_, rfl⟩
 have HKK := Lib.hid hk
 rw [hk]
 clear hk
 go_wp2_with fail
 go_ret
 exact ⟨A, c, ks, by rw [HKK.out]; rfl, H1.out, H2.out, H3.out, H4.out⟩
end Go.Proofs.YtebdajkknkapcaaGreat
namespace Go.Proofs.YtebdajkknkapcaaGreat
open Go Go.RowKit
theorem info_lock2 : (Tryz.prog.info? 142).map (·.size) = some 2 := by kernel_rfl
theorem info_lock2A : (Tryz.prog.info? 142).map (fun i => (i.zero, i.size, i.bytes)) = some (some (.agg #[.int .i64 0, .int .i64 0]), 2, 16) := by kernel_rfl
theorem locks2_uty : Tryz.prog.underlying 73 = some (.slice 142) := by kernel_rfl
theorem KC.fr {w w' : World} {Q : Nat → Prop} {cs : List Value} {c : KK} (h : KC w Q cs c) : KC w' Q cs c := h
theorem KC.mono {w : World} {Q Q' : Nat → Prop} {cs : List Value} {c : KK} (h : KC w Q cs c) : KC w Q' cs c := h
theorem ks_keep {w w' : World} {cs : List Value} {l : List KK} {Q : Nat → Prop} (hQ : ∀ q, Q q → q < w.heap.size) (h : ListC KC 2 w Q cs l) (hb : Below w.heap.size w w') : ListC KC 2 w' (· < w'.heap.size) cs l :=
 (ListC.fr (w' := w') (h.mono (Q' := (· < w.heap.size)) (fun h => h) hQ) (fun h => h) (Fr.ofBelow hb)).mono (fun h => h) (fun q hq => Nat.lt_of_lt_of_le hq hb.size)
theorem kk_take {ks : List KK} {k : Nat} (hk : k < ks.length) : (ks.take (k + 1)).flatMap kL = (ks.take k).flatMap kL ++ kL ks[k] := by
 rw [List.take_add_one, List.getElem?_eq_getElem hk, List.flatMap_append]
 simp
def FromPost (ks : List KK) (w : World) (e : Ending) (w' : World) : Prop := ∃ (A : Option Addr) (c : Nat), e = .returned (.slice A ks.length c) ∧ ListC KC 2 w' (fun q => w.heap.size ≤ q ∧ q < w'.heap.size) [.slice A ks.length c] ks ∧ Below w.heap.size w w'
set_option maxHeartbeats 2000000 in
theorem from_c (ks : List KK) (A : Option Addr) (c : Nat) (w : World) (h : ListC KC 2 w (· < w.heap.size) [.slice A ks.length c] ks) (hn : ks.length ≤ 1000) : Calls Tryz.prog 46 #[.slice A ks.length c] w (FromPost ks w) := by
 obtain ⟨ia, hia, hzia, hsia, hbia⟩ := info_parts info_lock2A
 have HL := Lib.hid h
 have hcap := h.cap
 unfold maxLen at hcap
 obtain ⟨n, hnl⟩ : ∃ n, ks.length = n := ⟨_, rfl⟩
 have HN := Lib.hid hnl
 rw [hnl] at hcap hn ⊢
 clear h hnl
 go_enter Tryz.func46, Tryz.ntmps46
 go_wp2_with fail
 go_loopw [3, 8] (fun v i wr => ∃ k : Nat, k ≤ n ∧ i = .int .i64 (k : Int) ∧ wr.ownsRow w.heap.size 142 2 v k ((ks.take k).flatMap kL) ∧ Below w.heap.size w wr) (fun _ i _ => n - (intOf i).toNat)
 case atStart => exact ⟨0, by omega, rfl, World.ownsRow_nil _ _ _ _, Below.refl _ _⟩
 case round =>
  obtain ⟨k, hk, rfl, hown, hb⟩ := hrel
  generalize wr = w8 at *
  have HOW := Lib.hid hown
  have HB8 := Lib.hid hb
  clear hown
  by_cases hlt : k < n
  case pos =>
   have hltI : (k : Int) < (n : Int) := by omega
   have hkl : k < ks.length := by rw [HN.out]; exact hlt
   obtain ⟨ab, ao, cs, hAe, hbw, hes, hat⟩ := ListC.get HL.out k hkl
   subst hAe
   have hcs : cs = kL ks[k] := hes
   subst hcs
   have HST := Lib.hid (kk_take hkl)
   obtain ⟨x, hx⟩ : ∃ x, ks[k] = x := ⟨_, rfl⟩
   rw [hx] at hat HST
   obtain ⟨⟨xa, xb⟩, hxx⟩ := x
   replace HST := Lib.hid (show (ks.take (k + 1)).flatMap kL = (ks.take k).flatMap kL ++ [.int .i64 xa, .int .i64 xb] from HST.out)
   have HAT := Lib.hid (show w8.rangeAt ab (ao + k * 2) [.int .i64 xa, .int .i64 xb] from (hat.fr (Fr.ofBelow hb)).range)
   have hnz : 0 < n := by omega
   clear hes hat hx hbw hxx hb
   go_upto_region 5 with (first | (show wpList _ _ _ (Oper.mk (some 11) _ _ _ _ _ :: _) _ _; refine wpList_load_mid rfl 143 (.tmp 10) rfl ab (ao + k * 2) rfl [.int .i64 xa, .int .i64 xb] _ HAT.out Tryz.underlying143 rfl info_lock ?_) | (show wpList _ _ _ (Oper.mk none (Op.store _ (Operand.tmp 5) _) _ _ _ _ :: _) _ _; refine wpList_store_fresh3 rfl 143 (.tmp 5) (.tmp 11) rfl rfl w8 #[.int .i64 0, .int .i64 0] 143 #[.int .i64 xa, .int .i64 xb] rfl rfl rfl info_lock rfl (by simp [Value.oneCell']) ?_; intro wx HX HBX HSX))
   have HXX := Lib.hid HX
   have HBX2 := Lib.hid (HB8.out.trans (HBX.mono HB8.out.size))
   have hsx := HBX2.out.size
   have HOX := Lib.hid (own_below HOW.out HBX)
   clear HX HSX HBX
   go_wp2_with (first | (show wpList _ _ _ (Oper.mk (some 13) _ _ _ _ _ :: _) _ _; refine wpList_load_row_g rfl 143 (.tmp 5) rfl w8.heap.size rfl _ _ _ _ HXX.out Tryz.underlying143 rfl info_lock ?_) | (at_builtin; go_loud (refine wpList_app _ rfl (.tmp 12) (.tmp 14) 73 rfl w.heap.size 142 ia _ 2 16 locks2_uty hia hzia hsia hbia rfl (by decide) u3 k ((ks.take k).flatMap kL) rfl (HOX.out.alloc _) (fun _ => True) (some ⟨wx.heap.size, 0, none⟩) 1 1 [.int .i64 xa, .int .i64 xb] rfl (rd_new (heap_alloc_new _ _) rfl) (by simp [Value.oneCell']) (by simp only [maxLen]; omega) (by omega) (by simp; omega) ?_); intro v9 w9 hown9 hg9 _))
   go_roundw
   case rel =>
    refine ⟨k + 1, by omega, by go_num, ?_, below_grown (HBX2.out.alloc hsx _) hg9 (fun q hq => (HOX.out.lt _ hq).1) (Nat.le_refl _)⟩
    rw [HST.out]
    exact hown9
   case measure => first | exact meas_v hlt | (simp only [intOf]; omega)
  case neg =>
   have hltI : ¬ (k : Int) < (n : Int) := by omega
   have hkn : k = ks.length := by have := HN.out; omega
   have hown : w8.ownsRow w.heap.size 142 2 u3 ks.length (ks.flatMap kL) := by have h := HOW.out; rw [hkn, List.take_length] at h; exact h
   have hlc := own_listC (El := KC) (f := kL) (fun _ => rfl) hown (Q := fun q => w.heap.size ≤ q ∧ q < w8.heap.size) (fun x hx => rfl) (fun q hq => hown.lt _ hq) (by have := HN.out; omega)
   obtain ⟨Ao, no, co, rfl⟩ := own_shape hown
   obtain rfl : no = ks.length := own_val hown
   have HLC := Lib.hid hlc
   have HKE := Lib.hid hkn
   obtain ⟨no, hno⟩ : ∃ x, ks.length = x := ⟨_, rfl⟩
   rw [hno]
   have HNO := Lib.hid hno
   clear hown hlc hkn hno HOW
   go_wp2_with fail
   go_ret
   exact ⟨Ao, co, by rw [HNO.out]; rfl, HLC.out, HB8.out⟩
set_option maxHeartbeats 2000000 in
theorem same13_c (ks : List KK) (A1 A2 : Option Addr) (c1 c2 : Nat) (w : World) (h1 : ListC KC 2 w (· < w.heap.size) [.slice A1 ks.length c1] ks) (h2 : ListC KC 2 w (· < w.heap.size) [.slice A2 ks.length c2] ks) : Calls Tryz.prog 45 #[.slice A1 ks.length c1, .slice A2 ks.length c2] w (Quiet w (.bool true)) := by
 have HL1 := Lib.hid h1
 have HL2 := Lib.hid h2
 have hcap1 := h1.cap
 have hcap2 := h2.cap
 unfold maxLen at hcap1 hcap2
 obtain ⟨n, hnl⟩ : ∃ n, ks.length = n := ⟨_, rfl⟩
 have HN := Lib.hid hnl
 rw [hnl] at hcap1 hcap2 ⊢
 clear h1 h2 hnl
 go_enter Tryz.func45, Tryz.ntmps45
 go_wp2_with fail
 go_loopw [5] (fun i wr => ∃ k : Nat, k ≤ n ∧ i = .int .i64 (k : Int) ∧ Below w.heap.size w wr) (fun i _ => n - (intOf i).toNat)
 case atStart => exact ⟨0, by omega, rfl, Below.refl _ _⟩
 case round =>
  obtain ⟨k, hk, rfl, hb⟩ := hrel
  by_cases hlt : k < n
  case pos =>
   have hltI : (k : Int) < (n : Int) := by omega
   have hltI2 : 0 < n := by omega
   have hkl : k < ks.length := by rw [HN.out]; exact hlt
   obtain ⟨b1, o1, cs1, hAe1, hbw1, hes1, hat1⟩ := ListC.get HL1.out k hkl
   obtain ⟨b2, o2, cs2, hAe2, hbw2, hes2, hat2⟩ := ListC.get HL2.out k hkl
   subst hAe1 hAe2
   have hcs1 : cs1 = kL ks[k] := hes1
   have hcs2 : cs2 = kL ks[k] := hes2
   subst hcs1 hcs2
   obtain ⟨x, hx⟩ : ∃ x, ks[k] = x := ⟨_, rfl⟩
   rw [hx] at hat1 hat2
   obtain ⟨⟨xa, xb⟩, hxx⟩ := x
   have hf1 := hat1.fr (Fr.ofBelow hb)
   have hf2 := hat2.fr (Fr.ofBelow hb)
   have HA1 := Lib.hid (show At wr (· < wr.heap.size) ⟨b1, o1 + k * 2, none⟩ [.int .i64 xa, .int .i64 xb] from hf1.mono (fun q hq => Nat.lt_of_lt_of_le hq hb.size))
   have HA2 := Lib.hid (show At wr (· < wr.heap.size) ⟨b2, o2 + k * 2, none⟩ [.int .i64 xa, .int .i64 xb] from hf2.mono (fun q hq => Nat.lt_of_lt_of_le hq hb.size))
   have HB8 := Lib.hid hb
   clear hes1 hes2 hat1 hat2 hx hbw1 hbw2 hxx hf1 hf2 hb
   go_upto_region 6 with fail
   refine wp_region_inv (Ks wr [.val (.slice (some ⟨b1, o1, none⟩) n c1), .val (.int .i64 (k : Int)), .val (.pointer (some ⟨b1, o1 + k * 2, none⟩)), .val (.agg #[.int .i64 xa, .int .i64 xb]), .val (.slice (some ⟨b2, o2, none⟩) n c2), .val (.int .i64 (k : Int)), .val (.pointer (some ⟨b2, o2 + k * 2, none⟩)), .val (.agg #[.int .i64 xa, .int .i64 xb]), .val (.bool false)])
    (fun w' => Below wr.heap.size wr w') (by kernel_rfl) (by kernel_rfl) (by kernel_rfl) (Below.refl _ _).drew ?_ ?_
   · refine ⟨?_, ?_, ?_, ?_, ?_, ?_, ?_, ?_, ?_, trivial⟩
     · intro _ A0 w2 hI hd hnd K hK; have e0 := hI.slot hnd 0 _ rfl (by kernel_rfl); have hS := hI.world; refine wanted_go rfl ?_; clear hI hd hnd; go_simp; exact kq hK hS rfl
     · intro _ A0 w2 hI hd hnd K hK; have e0 := hI.slot hnd 5 _ rfl (by kernel_rfl); have hS := hI.world; refine wanted_go rfl ?_; clear hI hd hnd; go_simp; exact kq hK hS rfl
     · intro _ A0 w2 hI hd hnd K hK; have e0 := hI.depv hd 0 17 _ rfl rfl rfl (by kernel_rfl); have e1 := hI.depv hd 1 18 _ rfl rfl rfl (by kernel_rfl); have hS := hI.world; refine wanted_go rfl ?_; clear hI hd hnd; go_simp; exact kq hK hS rfl
     · intro _ A0 w2 hI hd hnd K hK; have e0 := hI.depv hd 2 19 _ rfl rfl rfl (by kernel_rfl); have hS := hI.world; have hrange : w2.rangeAt b1 (o1 + k * 2) [.int .i64 xa, .int .i64 xb] := (HA1.out.fr (Fr.ofBelow hS)).range; have hisize := info_lock2; refine wanted_go rfl ?_; clear hI hd hnd
       refine wp_load_mid 142 (.tmp 19) rfl _ _ (by simpa [Act.eval, Array.getD_eq_getD_getElem?] using e0) _ _ hrange Tryz.underlying142 rfl hisize ?_
       exact kq hK hS rfl
     · intro _ A0 w2 hI hd hnd K hK; have e0 := hI.slot hnd 1 _ rfl (by kernel_rfl); have hS := hI.world; refine wanted_go rfl ?_; clear hI hd hnd; go_simp; exact kq hK hS rfl
     · intro _ A0 w2 hI hd hnd K hK; have e0 := hI.slot hnd 5 _ rfl (by kernel_rfl); have hS := hI.world; refine wanted_go rfl ?_; clear hI hd hnd; go_simp; exact kq hK hS rfl
     · intro _ A0 w2 hI hd hnd K hK; have e0 := hI.depv hd 4 21 _ rfl rfl rfl (by kernel_rfl); have e1 := hI.depv hd 5 22 _ rfl rfl rfl (by kernel_rfl); have hS := hI.world; refine wanted_go rfl ?_; clear hI hd hnd; go_simp; exact kq hK hS rfl
     · intro _ A0 w2 hI hd hnd K hK; have e0 := hI.depv hd 6 23 _ rfl rfl rfl (by kernel_rfl); have hS := hI.world; have hrange : w2.rangeAt b2 (o2 + k * 2) [.int .i64 xa, .int .i64 xb] := (HA2.out.fr (Fr.ofBelow hS)).range; have hisize := info_lock2; refine wanted_go rfl ?_; clear hI hd hnd
       refine wp_load_mid 142 (.tmp 23) rfl _ _ (by simpa [Act.eval, Array.getD_eq_getD_getElem?] using e0) _ _ hrange Tryz.underlying142 rfl hisize ?_
       exact kq hK hS rfl
     · intro _ A0 w2 hI hd hnd K hK; have e0 := hI.depv hd 3 20 _ rfl rfl rfl (by kernel_rfl); have e1 := hI.depv hd 7 24 _ rfl rfl rfl (by kernel_rfl); have hS := hI.world; refine wanted_go rfl ?_; clear hI hd hnd; go_simp; exact kq hK hS rfl
   · intro _ A0 w2 hI hall; obtain ⟨x0, g0, h0⟩ := hI.got 0 _ 17 rfl rfl (hall 0 (by decide)); obtain ⟨x1, g1, h1⟩ := hI.got 1 _ 18 rfl rfl (hall 1 (by decide)); obtain ⟨x2, g2, h2⟩ := hI.got 2 _ 19 rfl rfl (hall 2 (by decide)); obtain ⟨x3, g3, h3⟩ := hI.got 3 _ 20 rfl rfl (hall 3 (by decide)); obtain ⟨x4, g4, h4⟩ := hI.got 4 _ 21 rfl rfl (hall 4 (by decide)); obtain ⟨x5, g5, h5⟩ := hI.got 5 _ 22 rfl rfl (hall 5 (by decide)); obtain ⟨x6, g6, h6⟩ := hI.got 6 _ 23 rfl rfl (hall 6 (by decide)); obtain ⟨x7, g7, h7⟩ := hI.got 7 _ 24 rfl rfl (hall 7 (by decide)); obtain ⟨x8, g8, h8⟩ := hI.got 8 _ 25 rfl rfl (hall 8 (by decide)); have hS := hI.world
     have hA : A0 = _ := hI.tmps [(17, x0), (18, x1), (19, x2), (20, x3), (21, x4), (22, x5), (23, x6), (24, x7), (25, x8)] (by simp only [List.mem_cons, List.not_mem_nil, or_false, forall_eq_or_imp, forall_eq]; exact ⟨g0, g1, g2, g3, g4, g5, g6, g7, g8⟩) (by kernel_rfl)
     obtain rfl : x8 = .bool false := h8 _ rfl
     clear h0 g0 h1 g1 h2 g2 h3 g3 h4 g4 h5 g5 h6 g6 h7 g7 h8 g8 hI hall
     simp only [setAll, List.foldl, List.setIfInBounds_toArray, List.set_cons_zero, List.set_cons_succ] at hA
     rw [hA]
     clear hA
     have HB9 := Lib.hid (HB8.out.trans (hS.mono HB8.out.size))
     clear hS
     go_wp2_with fail
     go_roundw
     case rel => exact ⟨k + 1, by omega, by go_num, HB9.out⟩
     case measure => first | exact meas_v hlt | (simp only [intOf]; omega)
  case neg =>
   have hltI : ¬ (k : Int) < (n : Int) := by omega
   go_wp2_with fail
   go_ret
   exact ⟨rfl, hb⟩
def IsLk (B : Nat) (y m p ne : Int) (f : KK → Bool) (v : Value) (w : World) : Prop := ∃ L b n : Nat, v = .pointer (some ⟨L, 0, none⟩) ∧ n ≤ 60 ∧ LkC w L b y m p ne n f ∧ B ≤ b
theorem IsLk.keep {B : Nat} {y m p ne : Int} {f : KK → Bool} : ∀ v w w', Below w.heap.size w w' → IsLk B y m p ne f v w → IsLk B y m p ne f v w' := fun v w w' hb ⟨L, b, n, h1, h2, h3, h4⟩ => ⟨L, b, n, h1, h2, h3.below hb, h4⟩
end Go.Proofs.YtebdajkknkapcaaGreat
namespace Go.Proofs.YtebdajkknkapcaaGreat
open Go Go.RowKit Go.Shelf
def cloneK_ren : Go.Shelf.Ren := ⟨fun | 5 => 94 | 7 => 104 | n => n, fun | 23 => 137 | 25 => 143 | 3 => 4 | 4 => 4 | 20 => 20 | n => n, fun | n => n⟩
theorem cloneK : Go.Proofs.SlLaysW.n5 Tryz.prog cloneK_ren := {
 mixed := by kernel_rfl,
 f5 := ⟨Tryz.f94.name, by decide, Tryz.func94.trans (congrArg some (by kernel_rfl))⟩,
 f7 := Tryz.func104.trans (congrArg some (by kernel_rfl)),
 t4 := Tryz.underlying4,
 a4 := Tryz.isAgg4,
 z4 := Tryz.sizeOf4,
 v4 := Tryz.zeroValue4,
 t20 := Tryz.underlying20,
 a20 := Tryz.isAgg20,
 z20 := Tryz.sizeOf20,
 v20 := Tryz.zeroValue20,
 t23 := Tryz.underlying137,
 a23 := Tryz.isAgg137,
 z23 := Tryz.sizeOf137,
 v23 := Tryz.zeroValue137 }
theorem clonem_c (b n : Nat) (f : KK → Bool) (w : World) (h : MapL w b n f) : Calls Tryz.prog 94 #[.map (some b)] w (fun e w' => e = .returned (.map (some w.heap.size)) ∧ MapL w' w.heap.size n f ∧ Below w.heap.size w w') := by
 obtain ⟨D, h1, h2⟩ := h
 exact (AnyW.maps_Clone_owns cloneK 143 (plainElem Tryz.prog 4) b n D w h1).mono fun e w' ⟨he, h3, _, h4⟩ => ⟨he, ⟨D, h3, h2⟩, h4⟩
def IsMp (B n : Nat) (f : KK → Bool) (v : Value) (w : World) : Prop := ∃ b : Nat, v = .map (some b) ∧ MapL w b n f ∧ B ≤ b
theorem IsMp.keep {B n : Nat} {f : KK → Bool} : ∀ v w w', Below w.heap.size w w' → IsMp B n f v w → IsMp B n f v w' := fun v w w' hb ⟨b, h1, h2, h3⟩ => ⟨b, h1, h2.below hb, h3⟩
def IsBl (B : Nat) (y m p ne : Int) (n : Nat) (f : KK → Bool) (v : Value) (w : World) : Prop := ∃ b : Nat, v = .agg #[.int .i64 y, .int .i64 m, .int .i64 p, .int .i64 ne, .map (some b)] ∧ MapL w b n f ∧ B ≤ b
theorem IsBl.keep {B : Nat} {y m p ne : Int} {n : Nat} {f : KK → Bool} : ∀ v w w', Below w.heap.size w w' → IsBl B y m p ne n f v w → IsBl B y m p ne n f v w' := fun v w w' hb ⟨b, h1, h2, h3⟩ => ⟨b, h1, h2.below hb, h3⟩
def IsLx (B : Nat) (y m p ne : Int) (n : Nat) (f : KK → Bool) (v : Value) (w : World) : Prop := ∃ L b : Nat, v = .pointer (some ⟨L, 0, none⟩) ∧ LkC w L b y m p ne n f ∧ B ≤ L ∧ B ≤ b
theorem IsLx.keep {B : Nat} {y m p ne : Int} {n : Nat} {f : KK → Bool} : ∀ v w w', Below w.heap.size w w' → IsLx B y m p ne n f v w → IsLx B y m p ne n f v w' := fun v w w' hb ⟨L, b, h1, h2, h3⟩ => ⟨L, b, h1, h2.below hb, h3⟩
theorem IsLx.made {B : Nat} {y m p ne : Int} {n b : Nat} {f : KK → Bool} {w : World} (h : MapL w b n f) (hb : B ≤ b) (hw : B ≤ w.heap.size) : IsLx B y m p ne n f (.pointer (some ⟨w.heap.size, 0, none⟩)) (w.alloc (.cells #[.int .i64 y, .int .i64 m, .int .i64 p, .int .i64 ne, .map (some b)] 139)) :=
 ⟨w.heap.size, b, rfl, ⟨heap_alloc_new w _, h.below (below1 w _), by have := h.lt; omega⟩, hw, hb⟩
set_option maxHeartbeats 2000000 in
theorem lclone_c (L b : Nat) (y m p ne : Int) (n : Nat) (f : KK → Bool) (w : World) (h : LkC w L b y m p ne n f) : Calls Tryz.prog 48 #[.pointer (some ⟨L, 0, none⟩)] w (fun e w' => ∃ L2 b2, e = .returned (.pointer (some ⟨L2, 0, none⟩)) ∧ LkC w' L2 b2 y m p ne n f ∧ w.heap.size ≤ L2 ∧ w.heap.size ≤ b2 ∧ Below w.heap.size w w') := by
 have HM := Lib.hid h.2.1
 have X3 := Lib.hid (show w.cell? ⟨L, 3, none⟩ = some (.int .i64 ne) from blk_cell h.1 3)
 have X4 := Lib.hid (show w.cell? ⟨L, 4, none⟩ = some (.map (some b)) from blk_cell h.1 4)
 have LTL := Lib.hid (blk_lt h.1)
 have HAC := Lib.hid (show At w (· < w.heap.size) ⟨L, 0, none⟩ [.int .i64 y, .int .i64 m, .int .i64 p] from (At.split (xs := [.int .i64 y, .int .i64 m, .int .i64 p]) (ys := [Value.int .i64 ne, Value.map (some b)]) (box_at h.1)).1)
 clear h
 go_enter Tryz.func48, Tryz.ntmps48
 go_upto_region 3 with fail
 refine wp_region_inv (Ks w [.val (.pointer (some ⟨L, 0, none⟩)), .val (.pointer (some ⟨L, 0, none⟩)), .val (.pointer (some ⟨L, 0, none⟩)), .val (.agg #[.int .i64 y, .int .i64 m, .int .i64 p]), .val (.pointer (some ⟨L, 0, none⟩)), .val (.pointer (some ⟨L, 0, none⟩)), .val (.pointer (some ⟨L, 3, none⟩)), .val (.int .i64 ne), .val (.pointer (some ⟨L, 0, none⟩)), .val (.pointer (some ⟨L, 0, none⟩)), .val (.pointer (some ⟨L, 4, none⟩)), .val (.map (some b)), .own (IsMp w.heap.size n f) (IsMp.keep), .own (IsBl w.heap.size y m p ne n f) (IsBl.keep), .own (IsLx w.heap.size y m p ne n f) (IsLx.keep), .own (IsLx w.heap.size y m p ne n f) (IsLx.keep)])
  (fun w' => Below w.heap.size w w') (by kernel_rfl) (by kernel_rfl) (by kernel_rfl) (Below.refl _ _).drew ?_ ?_
 · refine ⟨?_, ?_, ?_, ?_, ?_, ?_, ?_, ?_, ?_, ?_, ?_, ?_, ?_, ?_, ?_, ?_, trivial⟩
   · intro _ A0 w2 hI hd hnd K hK; have e0 := hI.slot hnd 0 _ rfl (by kernel_rfl); have hS := hI.world; refine wanted_go rfl ?_; clear hI hd hnd; go_simp; exact kq hK hS rfl
   · intro _ A0 w2 hI hd hnd K hK; have e0 := hI.depv hd 0 5 _ rfl rfl rfl (by kernel_rfl); have hS := hI.world; refine wanted_go rfl ?_; clear hI hd hnd; go_simp; exact kq hK hS rfl
   · intro _ A0 w2 hI hd hnd K hK; have e0 := hI.depv hd 1 6 _ rfl rfl rfl (by kernel_rfl); have hS := hI.world; refine wanted_go rfl ?_; clear hI hd hnd; go_simp; exact kq hK hS rfl
   · intro _ A0 w2 hI hd hnd K hK; have e0 := hI.depv hd 2 7 _ rfl rfl rfl (by kernel_rfl); have hS := hI.world; have hrange : w2.rangeAt L 0 [.int .i64 y, .int .i64 m, .int .i64 p] := (HAC.out.fr (Fr.ofBelow hS)).range; have hisize := info_cal; refine wanted_go rfl ?_; clear hI hd hnd
     refine wp_load_mid 23 (.tmp 7) rfl _ _ (by simpa [Act.eval, Array.getD_eq_getD_getElem?] using e0) _ _ hrange Tryz.underlying23 rfl hisize ?_
     exact kq hK hS rfl
   · intro _ A0 w2 hI hd hnd K hK; have e0 := hI.slot hnd 0 _ rfl (by kernel_rfl); have hS := hI.world; refine wanted_go rfl ?_; clear hI hd hnd; go_simp; exact kq hK hS rfl
   · intro _ A0 w2 hI hd hnd K hK; have e0 := hI.depv hd 4 9 _ rfl rfl rfl (by kernel_rfl); have hS := hI.world; refine wanted_go rfl ?_; clear hI hd hnd; go_simp; exact kq hK hS rfl
   · intro _ A0 w2 hI hd hnd K hK; have e0 := hI.depv hd 5 10 _ rfl rfl rfl (by kernel_rfl); have hS := hI.world; refine wanted_go rfl ?_; clear hI hd hnd; go_simp; exact kq hK hS rfl
   · intro _ A0 w2 hI hd hnd K hK; have e0 := hI.depv hd 6 11 _ rfl rfl rfl (by kernel_rfl); have hS := hI.world; have hcc : w2.cell? ⟨L, 3, none⟩ = _ := (hS.cell (p := ⟨L, 3, none⟩) LTL.out).trans X3.out; refine wanted_go rfl ?_; clear hI hd hnd; go_simp; exact kq hK hS rfl
   · intro _ A0 w2 hI hd hnd K hK; have e0 := hI.slot hnd 0 _ rfl (by kernel_rfl); have hS := hI.world; refine wanted_go rfl ?_; clear hI hd hnd; go_simp; exact kq hK hS rfl
   · intro _ A0 w2 hI hd hnd K hK; have e0 := hI.depv hd 8 13 _ rfl rfl rfl (by kernel_rfl); have hS := hI.world; refine wanted_go rfl ?_; clear hI hd hnd; go_simp; exact kq hK hS rfl
   · intro _ A0 w2 hI hd hnd K hK; have e0 := hI.depv hd 9 14 _ rfl rfl rfl (by kernel_rfl); have hS := hI.world; refine wanted_go rfl ?_; clear hI hd hnd; go_simp; exact kq hK hS rfl
   · intro _ A0 w2 hI hd hnd K hK; have e0 := hI.depv hd 10 15 _ rfl rfl rfl (by kernel_rfl); have hS := hI.world; have hcc : w2.cell? ⟨L, 4, none⟩ = _ := (hS.cell (p := ⟨L, 4, none⟩) LTL.out).trans X4.out; refine wanted_go rfl ?_; clear hI hd hnd; go_simp; exact kq hK hS rfl
   · intro _ A0 w2 hI hd hnd K hK; have e0 := hI.depv hd 11 16 _ rfl rfl rfl (by kernel_rfl); have hS := hI.world; refine wanted_go rfl ?_; clear hI hd hnd; go_simp
     go_at_call 94
     refine (clonem_c b n f w2 (HM.out.below hS)).mono ?_
     rintro e w3 ⟨rfl, hm3, h3⟩
     exact hK.out _ _ (hS.trans (h3.mono hS.size)) (Ks.of rfl ⟨_, rfl, hm3, hS.size⟩) (Ks.keep h3)
   · intro _ A0 w2 hI hd hnd K hK; have e0 := hI.depv hd 3 8 _ rfl rfl rfl (by kernel_rfl); have e1 := hI.depv hd 7 12 _ rfl rfl rfl (by kernel_rfl)
     obtain ⟨x2, e2, h2⟩ := hI.dep hd 12 17 rfl rfl rfl (by kernel_rfl)
     have hS := hI.world
     obtain ⟨b2, rfl, hm2, hge2⟩ := h2
     refine wanted_go rfl ?_; clear hI hd hnd; go_simp
     exact hK.out _ _ hS (Ks.of rfl ⟨b2, rfl, hm2, hge2⟩) (fun _ _ h => h)
   · intro _ A0 w2 hI hd hnd K hK
     obtain ⟨x0, e0, h0⟩ := hI.dep hd 13 18 rfl rfl rfl (by kernel_rfl)
     have hS := hI.world
     obtain ⟨b2, rfl, hm2, hge2⟩ := h0
     refine wanted_go rfl ?_; clear hI hd hnd; go_simp
     exact hK.out _ _ (hS.alloc hS.size _) (Ks.of rfl (IsLx.made hm2 hge2 hS.size)) (Ks.keep (below1 w2 _))
   · intro _ A0 w2 hI hd hnd K hK
     obtain ⟨x0, e0, h0⟩ := hI.dep hd 14 19 rfl rfl rfl (by kernel_rfl)
     have hS := hI.world; refine wanted_go rfl ?_; clear hI hd hnd; go_simp
     exact hK.out _ _ hS (Ks.of rfl h0) (fun _ _ h => h)
 · intro _ A0 w2 hI hall; obtain ⟨x0, g0, h0⟩ := hI.got 0 _ 5 rfl rfl (hall 0 (by decide)); obtain ⟨x1, g1, h1⟩ := hI.got 1 _ 6 rfl rfl (hall 1 (by decide)); obtain ⟨x2, g2, h2⟩ := hI.got 2 _ 7 rfl rfl (hall 2 (by decide)); obtain ⟨x3, g3, h3⟩ := hI.got 3 _ 8 rfl rfl (hall 3 (by decide)); obtain ⟨x4, g4, h4⟩ := hI.got 4 _ 9 rfl rfl (hall 4 (by decide)); obtain ⟨x5, g5, h5⟩ := hI.got 5 _ 10 rfl rfl (hall 5 (by decide)); obtain ⟨x6, g6, h6⟩ := hI.got 6 _ 11 rfl rfl (hall 6 (by decide)); obtain ⟨x7, g7, h7⟩ := hI.got 7 _ 12 rfl rfl (hall 7 (by decide)); obtain ⟨x8, g8, h8⟩ := hI.got 8 _ 13 rfl rfl (hall 8 (by decide)); obtain ⟨x9, g9, h9⟩ := hI.got 9 _ 14 rfl rfl (hall 9 (by decide)); obtain ⟨x10, g10, h10⟩ := hI.got 10 _ 15 rfl rfl (hall 10 (by decide)); obtain ⟨x11, g11, h11⟩ := hI.got 11 _ 16 rfl rfl (hall 11 (by decide)); obtain ⟨x12, g12, h12⟩ := hI.got 12 _ 17 rfl rfl (hall 12 (by decide)); obtain ⟨x13, g13, h13⟩ := hI.got 13 _ 18 rfl rfl (hall 13 (by decide)); obtain ⟨x14, g14, h14⟩ := hI.got 14 _ 19 rfl rfl (hall 14 (by decide)); obtain ⟨x15, g15, h15⟩ := hI.got 15 _ 2 rfl rfl (hall 15 (by decide)); have hS := hI.world
   have hA : A0 = _ := hI.tmps [(5, x0), (6, x1), (7, x2), (8, x3), (9, x4), (10, x5), (11, x6), (12, x7), (13, x8), (14, x9), (15, x10), (16, x11), (17, x12), (18, x13), (19, x14), (2, x15)] (by simp only [List.mem_cons, List.not_mem_nil, or_false, forall_eq_or_imp, forall_eq]; exact ⟨g0, g1, g2, g3, g4, g5, g6, g7, g8, g9, g10, g11, g12, g13, g14, g15⟩) (by kernel_rfl)
   have k15 : (IsLx w.heap.size y m p ne n f) x15 w2 := h15 _ rfl
   clear h0 g0 h1 g1 h2 g2 h3 g3 h4 g4 h5 g5 h6 g6 h7 g7 h8 g8 h9 g9 h10 g10 h11 g11 h12 g12 h13 g13 h14 g14 h15 g15 hI hall
   simp only [setAll, List.foldl, List.setIfInBounds_toArray, List.set_cons_zero, List.set_cons_succ] at hA
   rw [hA]
   clear hA
   obtain ⟨L2, b2, rfl, hlk, hL2, hb2⟩ := k15
   have HR := Lib.hid (And.intro hlk (And.intro hL2 (And.intro hb2 hS)))
   clear hlk hL2 hb2 hS
   go_wp2_with fail
   go_ret
   exact ⟨L2, b2, rfl, HR.out.1, HR.out.2.1, HR.out.2.2.1, HR.out.2.2.2⟩
theorem until_nil (w : World) : Calls Tryz.prog 41 #[.pointer none, .int .i64 0] w (Quiet w (.tuple #[.int .i64 0, .bool false])) := by
 go_enter Tryz.func41, Tryz.ntmps41
 go_wp2_with fail
 go_ret2
 exact ⟨rfl, Below.refl _ _⟩
theorem lclone_nil (w : World) : Calls Tryz.prog 48 #[.pointer none] w (Quiet w (.pointer none)) := by
 go_enter Tryz.func48, Tryz.ntmps48
 go_wp2_with fail
 go_ret
 exact ⟨rfl, Below.refl _ _⟩
theorem locked_nil (w : World) : Calls Tryz.prog 39 #[.pointer none, .int .i64 0, .int .i64 0] w (Quiet w (.bool false)) := by
 go_enter Tryz.func39, Tryz.ntmps39
 go_wp2_with fail
 go_ret
 exact ⟨rfl, Below.refl _ _⟩
theorem list_nil (w : World) : Calls Tryz.prog 47 #[.pointer none] w (Quiet w (.slice none 0 0)) := by
 go_enter Tryz.func47, Tryz.ntmps47
 go_wp2_with fail
 go_ret
 exact ⟨rfl, Below.refl _ _⟩
theorem lcheck_nil (xs : Array Value) (w : World) : Calls Tryz.prog 43 #[.pointer none, .agg xs] w (Quiet w (.int .i64 7)) := by
 go_enter Tryz.func43, Tryz.ntmps43
 go_wp2_with fail
 go_ret
 exact ⟨rfl, below1 w _⟩
theorem lock_nil (e q : Int) (w : World) : Calls Tryz.prog 85 #[.pointer none, .int .i64 e, .int .i64 q] w (Quiet w (.int .i64 7)) := by
 go_enter Tryz.func85, Tryz.ntmps85
 go_wp2_with fail
 go_ret
 exact ⟨rfl, Below.refl _ _⟩
theorem unlock_nil (e q : Int) (w : World) : Calls Tryz.prog 88 #[.pointer none, .int .i64 e, .int .i64 q] w (Quiet w (.int .i64 7)) := by
 go_enter Tryz.func88, Tryz.ntmps88
 go_wp2_with fail
 go_ret
 exact ⟨rfl, Below.refl _ _⟩
set_option maxHeartbeats 1000000 in
theorem do_nil (e q : Int) (u : Bool) (w : World) : Calls Tryz.prog 38 #[.pointer none, .agg #[.int .i64 e, .int .i64 q, .bool u]] w (Quiet w (.int .i64 7)) := by
 go_enter Tryz.func38, Tryz.ntmps38
 go_upto_region 1 with fail
 have H := heap_alloc_new w (.cells #[.int .i64 e, .int .i64 q, .bool u] 79)
 have HB := below1 w (.cells #[.int .i64 e, .int .i64 q, .bool u] 79)
 generalize w.alloc (Obj.cells #[.int .i64 e, .int .i64 q, .bool u] 79) = W at *
 have k0 := blk_cell H 0
 have k1 := blk_cell H 1
 have k2 := blk_cell H 2
 clear H
 cases u with
 | true =>
  go_wp2_with fail
  refine (unlock_nil e q W).mono ?_
  rintro e2 w3 ⟨rfl, hb3⟩
  go_wp2_with fail
  go_ret
  exact ⟨rfl, HB.trans (hb3.mono HB.size)⟩
 | false =>
  go_wp2_with fail
  refine (lock_nil e q W).mono ?_
  rintro e2 w3 ⟨rfl, hb3⟩
  go_wp2_with fail
  go_ret
  exact ⟨rfl, HB.trans (hb3.mono HB.size)⟩
end Go.Proofs.YtebdajkknkapcaaGreat
namespace Go.Proofs.YtebdajkknkapcaaGreat
open Go Go.RowKit
set_option maxHeartbeats 8000000 in
theorem law_lockCopies (g : XGroup) (l : List XStep) (x : XStep) (gl sl : List Value) (A : Option Addr) (c : Nat) (w : World) (hg : GroupC w (· < w.heap.size) gl g) (hsz : szG g) (hl : ListC StepC 3 w (· < w.heap.size) [.slice A l.length c] l) (hx : StepC w (· < w.heap.size) sl x) :
 Calls Tryz.prog 10 #[.agg gl.toArray, .slice A l.length c, .agg sl.toArray] w (Quiet w (.bool true)) := by
 obtain ⟨hcs, hbd⟩ := StepC.lit hx
 subst hcs
 obtain ⟨se, sp, su⟩ := x
 show Calls Tryz.prog 10 #[.agg gl.toArray, .slice A l.length c, .agg #[.int .i64 se, .int .i64 sp, .bool su]] w (Quiet w (.bool true))
 have HFEW := Lib.hid (fun (w2 : World) (hb : Below w.heap.size w w2) => few_v hg hsz hb)
 have HVAL := Lib.hid (fun (hf : fewG g) => rgroup_v hg hf.small)
 have HFIL := Lib.hid (fun (w2 : World) (hb : Below w.heap.size w w2) (hf : fewG g) (hv : groupB g = true) (hn : l.length ≤ 1000) => filled_c g gl l A c w2 (hg.keep hb) hf.small hv (steps_keep hl hb) hn)
 have HGS := Lib.hid (show gl.toArray.size = 21 by have := hg.len; simpa using this)
 have hcap := hl.cap
 unfold maxLen at hcap
 unfold FillPost at HFIL
 obtain ⟨yy, hyy⟩ : ∃ y, g.calendar.year = y := ⟨_, rfl⟩
 obtain ⟨mm, hmm⟩ : ∃ y, g.calendar.month = y := ⟨_, rfl⟩
 obtain ⟨pp, hpp⟩ : ∃ y, g.calendar.periods = y := ⟨_, rfl⟩
 obtain ⟨ne, hne⟩ : ∃ y, g.entities.length = y := ⟨_, rfl⟩
 rw [hyy, hmm, hpp, hne] at HFIL
 obtain ⟨fw, hfw⟩ : ∃ p : Prop, fewG g = p := ⟨_, rfl⟩
 rw [hfw] at HFEW HVAL HFIL
 obtain ⟨bg, hbg⟩ : ∃ b, groupB g = b := ⟨_, rfl⟩
 rw [hbg] at HVAL HFIL
 obtain ⟨f, hf⟩ : ∃ f, allF pp (ne : Int) l = f := ⟨_, rfl⟩
 rw [hf] at HFIL
 obtain ⟨n, hnl⟩ : ∃ n, l.length = n := ⟨_, rfl⟩
 rw [hnl] at hcap HFIL ⊢
 have HBX := Lib.hid hbd
 clear hg hsz hl hx hyy hmm hpp hne hfw hbg hnl hbd hf
 go_enter Tryz.func10, Tryz.ntmps10
 go_upto_region 1 with fail
 have H := heap_alloc_new w (.cells gl.toArray 29)
 have HB := below1 w (.cells gl.toArray 29)
 have HS := blk_lt H
 generalize hW : w.alloc (Obj.cells gl.toArray 29) = W at *
 have H2 := heap_alloc_new W (.cells #[.int .i64 se, .int .i64 sp, .bool su] 79)
 have HB2 := below1 W (.cells #[.int .i64 se, .int .i64 sp, .bool su] 79)
 have HS2 := blk_lt H2
 replace H := alloc_keep H (Obj.cells #[.int .i64 se, .int .i64 sp, .bool su] 79)
 generalize hW2 : W.alloc (Obj.cells #[.int .i64 se, .int .i64 sp, .bool su] 79) = W2 at *
 clear hW2
 have eW : W.heap.size = w.heap.size + 1 := by rw [← hW]; simp
 rw [eW] at H2
 clear hW
 have hb2 := HB.trans (HB2.mono HB.size)
 have hs2 := HB2.size
 have LT1 := blk_lt H2
 have LT0 : w.heap.size < W2.heap.size := by omega
 have HH := Lib.hid H
 have HZ := Lib.hid H2
 have EW := Lib.hid eW
 clear H H2 eW
 have hb02 := hb2
 have LT02 := LT0
 have LT12 := LT1
 have HH2 := HH
 have HZ2 := HZ
 go_wp2_with fail
 refine (until_nil W2).mono ?_
 rintro e w3 ⟨rfl, hb3⟩
 have hb03 := hb02.trans (hb3.mono hb02.size)
 have hs3 := hb3.size
 have LT03 := Nat.lt_of_lt_of_le LT02 hs3
 have LT13 := Nat.lt_of_lt_of_le LT12 hs3
 have HH3 := Lib.hid ((hb3.block _ LT02).trans HH2.out)
 have HZ3 := Lib.hid ((hb3.block _ LT12).trans HZ2.out)
 go_wp2_with fail
 refine (awake13_c w3).mono ?_
 rintro e w4 ⟨rfl, hb4⟩
 have hb04 := hb03.trans (hb4.mono hb03.size)
 have hs4 := hb4.size
 have LT04 := Nat.lt_of_lt_of_le LT03 hs4
 have LT14 := Nat.lt_of_lt_of_le LT13 hs4
 have HH4 := Lib.hid ((hb4.block _ LT03).trans HH3.out)
 have HZ4 := Lib.hid ((hb4.block _ LT13).trans HZ3.out)
 go_wp2_with (show wpList _ _ _ (Oper.mk (some 22) _ _ _ _ _ :: _) _ _; refine wpList_load_row_g rfl 79 (.tmp 5) rfl (w.heap.size + 1) rfl _ _ _ _ HZ4.out Tryz.underlying79 rfl info_step ?_)
 refine (do_nil se sp su w4).mono ?_
 rintro e w5 ⟨rfl, hb5⟩
 have hb05 := hb04.trans (hb5.mono hb04.size)
 have hs5 := hb5.size
 have LT05 := Nat.lt_of_lt_of_le LT04 hs5
 have LT15 := Nat.lt_of_lt_of_le LT14 hs5
 have HH5 := Lib.hid ((hb5.block _ LT04).trans HH4.out)
 have HZ5 := Lib.hid ((hb5.block _ LT14).trans HZ4.out)
 go_wp2_with fail
 refine (lcheck_nil _ w5).mono ?_
 rintro e w6 ⟨rfl, hb6⟩
 have hb06 := hb05.trans (hb6.mono hb05.size)
 have hs6 := hb6.size
 have LT06 := Nat.lt_of_lt_of_le LT05 hs6
 have LT16 := Nat.lt_of_lt_of_le LT15 hs6
 have HH6 := Lib.hid ((hb6.block _ LT05).trans HH5.out)
 have HZ6 := Lib.hid ((hb6.block _ LT15).trans HZ5.out)
 go_wp2_with fail
 refine (lclone_nil w6).mono ?_
 rintro e w7 ⟨rfl, hb7⟩
 have hb07 := hb06.trans (hb7.mono hb06.size)
 have hs7 := hb7.size
 have LT07 := Nat.lt_of_lt_of_le LT06 hs7
 have LT17 := Nat.lt_of_lt_of_le LT16 hs7
 have HH7 := Lib.hid ((hb7.block _ LT06).trans HH6.out)
 have HZ7 := Lib.hid ((hb7.block _ LT16).trans HZ6.out)
 go_wp2_with fail
 refine (locked_nil w7).mono ?_
 rintro e w8 ⟨rfl, hb8⟩
 have hb08 := hb07.trans (hb8.mono hb07.size)
 have hs8 := hb8.size
 have LT08 := Nat.lt_of_lt_of_le LT07 hs8
 have LT18 := Nat.lt_of_lt_of_le LT17 hs8
 have HH8 := Lib.hid ((hb8.block _ LT07).trans HH7.out)
 have HZ8 := Lib.hid ((hb8.block _ LT17).trans HZ7.out)
 go_wp2_with fail
 refine (list_nil w8).mono ?_
 rintro e w9 ⟨rfl, hb9⟩
 have hb09 := hb08.trans (hb9.mono hb08.size)
 have hs9 := hb9.size
 have LT09 := Nat.lt_of_lt_of_le LT08 hs9
 have LT19 := Nat.lt_of_lt_of_le LT18 hs9
 have HH9 := Lib.hid ((hb9.block _ LT08).trans HH8.out)
 have HZ9 := Lib.hid ((hb9.block _ LT18).trans HZ8.out)
 go_wp2_with (show wpList _ _ _ (Oper.mk (some 54) _ _ _ _ _ :: _) _ _; refine wpList_load_row_g rfl 29 (.tmp 3) rfl (w.heap.size) rfl _ _ _ _ HH9.out Tryz.underlying29 rfl (by rw [info_group]; exact congrArg some HGS.out.symm) ?_)
 refine (HFEW.out w9 hb09).mono ?_
 rintro e wa ⟨bf, rfl, hf, hba⟩
 have hb0a := hb09.trans (hba.mono hb09.size)
 have hsa := hba.size
 have LT0a := Nat.lt_of_lt_of_le LT09 hsa
 have LT1a := Nat.lt_of_lt_of_le LT19 hsa
 have HHa := Lib.hid ((hba.block _ LT09).trans HH9.out)
 have HZa := Lib.hid ((hba.block _ LT19).trans HZ9.out)
 cases bf with
 | false =>
  clear hf
  go_wp2_with fail
  go_ret
  exact ⟨rfl, hb0a⟩
 | true =>
 have HFP := Lib.hid (hf rfl)
 clear hf
 by_cases h30 : n ≤ 30
 case neg =>
  have h30d : decide ((30 : Int) < (n : Int)) = true := decide_eq_true (by omega)
  clear h30
  go_wp2_with fail
  go_ret
  exact ⟨rfl, hb0a⟩
 case pos =>
 have h30d : decide ((30 : Int) < (n : Int)) = false := decide_eq_false (by omega)
 go_wp2_with (show wpList _ _ _ (Oper.mk (some 63) _ _ _ _ _ :: _) _ _; refine wpList_load_row_g rfl 29 (.tmp 3) rfl (w.heap.size) rfl _ _ _ _ HHa.out Tryz.underlying29 rfl (by rw [info_group]; exact congrArg some HGS.out.symm) ?_)
 refine (HVAL.out HFP.out wa hb0a).mono ?_
 rintro e wb ⟨rfl, hbb⟩
 have hb0b := hb0a.trans (hbb.mono hb0a.size)
 have hsb := hbb.size
 have LT0b := Nat.lt_of_lt_of_le LT0a hsb
 have LT1b := Nat.lt_of_lt_of_le LT1a hsb
 have HHb := Lib.hid ((hbb.block _ LT0a).trans HHa.out)
 have HZb := Lib.hid ((hbb.block _ LT1a).trans HZa.out)
 cases bg with
 | false =>
  go_wp2_with fail
  go_ret
  exact ⟨rfl, hb0b⟩
 | true =>
 have HF1 := Lib.hid (HFIL.out wb hb0b HFP.out (by first | rfl | trivial) (by omega))
 clear HFEW HVAL HFIL h30d
 go_wp2_with (show wpList _ _ _ (Oper.mk (some 67) _ _ _ _ _ :: _) _ _; refine wpList_load_row_g rfl 29 (.tmp 3) rfl (w.heap.size) rfl _ _ _ _ HHb.out Tryz.underlying29 rfl (by rw [info_group]; exact congrArg some HGS.out.symm) ?_)
 refine HF1.out.mono ?_
 rintro e wc ⟨L1, b1, n1, rfl, hn1, hlk, hL1, hb1, hbc⟩
 have hb0c := hb0b.trans (hbc.mono hb0b.size)
 have hsc := hbc.size
 have LT0c := Nat.lt_of_lt_of_le LT0b hsc
 have LT1c := Nat.lt_of_lt_of_le LT1b hsc
 have HHc := Lib.hid ((hbc.block _ LT0b).trans HHb.out)
 have HZc := Lib.hid ((hbc.block _ LT1b).trans HZb.out)
 have HA := Lib.hid hlk
 have HN1 := Lib.hid (show n1 ≤ 30 by omega)
 have h1b : b1 < wc.heap.size := hlk.2.1.lt
 have h1L : L1 < wc.heap.size := blk_lt hlk.1
 have HLT := Lib.hid (And.intro h1b h1L)
 clear hlk hn1 hL1 hb1 HF1 h1b h1L
 go_wp2_with fail
 refine (lclone_c L1 b1 yy mm pp (ne : Int) n1 f wc HA.out).mono ?_
 rintro e wd ⟨L2, b2, rfl, hlk2, hL2, hb2', hbd⟩
 have hb0d := hb0c.trans (hbd.mono hb0c.size)
 have hsd := hbd.size
 have LT0d := Nat.lt_of_lt_of_le LT0c hsd
 have LT1d := Nat.lt_of_lt_of_le LT1c hsd
 have HHd := Lib.hid ((hbd.block _ LT0c).trans HHc.out)
 have HZd := Lib.hid ((hbd.block _ LT1c).trans HZc.out)
 have HB := Lib.hid hlk2
 have HAD := Lib.hid (HA.out.below hbd)
 have HG2 := Lib.hid (And.intro hL2 hb2')
 have h2b : b2 < wd.heap.size := hlk2.2.1.lt
 have H2B := Lib.hid h2b
 have hn1 := HN1.out
 clear hlk2 hL2 hb2' h2b
 go_wp2_with fail
 refine (listN_c L1 b1 yy mm pp (ne : Int) _ f wd HAD.out (by omega)).mono ?_
 rintro e wp1 ⟨Axp, cxp, kxp, rfl, hkx, hlx, hbp1, hnx⟩
 have HKXp := Lib.hid hkx
 have HB0p1 := Lib.hid (hb0d.trans (hbp1.mono hb0d.size))
 have hfx := from_c kxp Axp cxp wp1 (hlx.mono (Q' := (· < wp1.heap.size)) (fun h => h) (fun q hq => hq.2)) (by omega)
 obtain ⟨nxp, hnxe⟩ : ∃ x, kxp.length = x := ⟨_, rfl⟩
 have HNXp := Lib.hid hnxe
 rw [hnxe] at hfx ⊢
 have HFX := Lib.hid hfx
 have HB1p := Lib.hid hbp1
 clear hkx hlx hnx hfx hnxe hbp1
 go_wp2_with fail
 refine HFX.out.mono ?_
 rintro e wp2 ⟨Ayp, cyp, he, hly, hby⟩
 rw [HNXp.out] at he
 subst he
 have HLYp := Lib.hid hly
 have HB2p := Lib.hid hby
 have hb0p2 := HB0p1.out.trans (hby.mono HB0p1.out.size)
 have hbxp := HB1p.out.trans (hby.mono HB1p.out.size)
 clear hly hby HFX
 have HBQ := Lib.hid (HB.out.below hbxp)
 have HAQ := Lib.hid (HAD.out.below hbxp)
 go_wp2_with fail
 refine (listN_c L2 b2 yy mm pp (ne : Int) _ f wp2 HBQ.out (by omega)).mono ?_
 rintro e wq1 ⟨Axq, cxq, kxq, rfl, hkx, hlx, hbq1, hnx⟩
 have HKXq := Lib.hid hkx
 have HB0q1 := Lib.hid (hb0p2.trans (hbq1.mono hb0p2.size))
 have hfx := from_c kxq Axq cxq wq1 (hlx.mono (Q' := (· < wq1.heap.size)) (fun h => h) (fun q hq => hq.2)) (by omega)
 obtain ⟨nxq, hnxe⟩ : ∃ x, kxq.length = x := ⟨_, rfl⟩
 have HNXq := Lib.hid hnxe
 rw [hnxe] at hfx ⊢
 have HFX := Lib.hid hfx
 have HB1q := Lib.hid hbq1
 clear hkx hlx hnx hfx hnxe hbq1
 go_wp2_with fail
 refine HFX.out.mono ?_
 rintro e wq2 ⟨Ayq, cyq, he, hly, hby⟩
 rw [HNXq.out] at he
 subst he
 have HLYq := Lib.hid hly
 have HB2q := Lib.hid hby
 have hb0q2 := HB0q1.out.trans (hby.mono HB0q1.out.size)
 have hbxq := HB1q.out.trans (hby.mono HB1q.out.size)
 clear hly hby HFX
 obtain rfl : kxq = kxp := ListK.uniq (fun c => rfl) HKXq.out HKXp.out
 have hp2 := ks_keep (fun q hq => hq.2) HLYp.out hbxq
 have HPB := Lib.hid (show ListC KC 2 wq2 (fun q => wd.heap.size ≤ q ∧ q < wq2.heap.size) [.slice Ayp kxq.length cyp] kxq from
  (ListC.fr (w' := wq2) HLYp.out (fun h => h) ((Fr.ofBelow hbxq).mono (fun q (hq : wp1.heap.size ≤ q ∧ q < wp2.heap.size) => hq.2))).mono (fun h => h) (fun q hq => ⟨by have := HB1p.out.size; omega, by have := hbxq.size; omega⟩))
 have hsm := same13_c kxq Ayq Ayp cyq cyp wq2 (HLYq.out.mono (Q' := (· < wq2.heap.size)) (fun h => h) (fun q hq => hq.2)) hp2
 rw [HNXp.out] at hsm
 obtain rfl : nxq = nxp := HNXq.out.symm.trans HNXp.out
 have HSM := Lib.hid hsm
 have HZQ := Lib.hid (((hbxp.trans (hbxq.mono hbxp.size)).block _ LT1d).trans HZd.out)
 have HAQ2 := Lib.hid (HAQ.out.below hbxq)
 have HBQ2 := Lib.hid (HBQ.out.below hbxq)
 clear hsm hp2
 go_wp2_with fail
 refine HSM.out.mono ?_
 rintro e wr ⟨rfl, hbr⟩
 have hb0r := hb0q2.trans (hbr.mono hb0q2.size)
 have HZr := Lib.hid ((hbr.block _ (blk_lt HZQ.out)).trans HZQ.out)
 have HDO := Lib.hid (show Calls Tryz.prog 38 #[.pointer (some ⟨L2, 0, none⟩), .agg #[.int .i64 se, .int .i64 sp, .bool su]] wr _ from do_c L2 b2 yy mm pp (ne : Int) n1 f ⟨(se, sp), HBX.out⟩ su wr (HBQ2.out.below hbr) (by unfold maxLen; omega))
 have HPB2 := Lib.hid (ListC.fr (w' := wr) HPB.out (fun h => h) ((Fr.ofBelow hbr).mono (fun q (hq : wd.heap.size ≤ q ∧ q < wq2.heap.size) => hq.2)))
 have hszr := hbr.size
 go_wp2_with (show wpList _ _ _ (Oper.mk (some 88) _ _ _ _ _ :: _) _ _; refine wpList_load_row_g rfl 79 (.tmp 5) rfl (w.heap.size + 1) rfl _ _ _ _ HZr.out Tryz.underlying79 rfl info_step ?_)
 refine HDO.out.mono ?_
 rintro e ws ⟨r, rfl, _, hfs⟩
 have hne1 : L1 ≠ b2 := by have h1 := HLT.out; have h2 := HG2.out; omega
 have hne2 : b1 ≠ b2 := by have h1 := HLT.out; have h2 := HG2.out; omega
 have hsz1 : wc.heap.size ≤ wr.heap.size := Nat.le_trans hbd.size (Nat.le_trans hbxp.size (Nat.le_trans hbxq.size hbr.size))
 have HAS := Lib.hid (show LkC ws L1 b1 yy mm pp (ne : Int) n1 f from (HAQ2.out.below hbr).fr hfs ⟨by have h1 := HLT.out; omega, hne1⟩ ⟨by have h1 := HLT.out; omega, hne2⟩)
 have HPS := Lib.hid (show ListC KC 2 ws (· < ws.heap.size) [.slice Ayp kxq.length cyp] kxq from
  (ListC.fr (w' := ws) HPB2.out (fun h => h) (hfs.mono (fun q (hq : wd.heap.size ≤ q ∧ q < wq2.heap.size) => ⟨by omega, by have := H2B.out; omega⟩))).mono (fun h => h) (fun q hq => by have := hfs.size; omega))
 have hb0s : Below w.heap.size w ws := ((Fr.ofBelow hb0r).trans (hfs.mono (fun q hq => ⟨Nat.lt_of_lt_of_le hq hb0r.size, by have h2 := HG2.out; have := hb0c.size; omega⟩))).below
 clear hfs HDO HSM HPB HPB2
 go_wp2_with fail
 refine (listN_c L1 b1 yy mm pp (ne : Int) _ f ws HAS.out (by omega)).mono ?_
 rintro e wt1 ⟨Axt, cxt, kxt, rfl, hkx, hlx, hbt1, hnx⟩
 have HKXt := Lib.hid hkx
 have HB0t1 := Lib.hid (hb0s.trans (hbt1.mono hb0s.size))
 have hfx := from_c kxt Axt cxt wt1 (hlx.mono (Q' := (· < wt1.heap.size)) (fun h => h) (fun q hq => hq.2)) (by omega)
 obtain ⟨nxt, hnxe⟩ : ∃ x, kxt.length = x := ⟨_, rfl⟩
 have HNXt := Lib.hid hnxe
 rw [hnxe] at hfx ⊢
 have HFX := Lib.hid hfx
 have HB1t := Lib.hid hbt1
 clear hkx hlx hnx hfx hnxe hbt1
 go_wp2_with fail
 refine HFX.out.mono ?_
 rintro e wt2 ⟨Ayt, cyt, he, hly, hby⟩
 rw [HNXt.out] at he
 subst he
 have HLYt := Lib.hid hly
 have HB2t := Lib.hid hby
 have hb0t2 := HB0t1.out.trans (hby.mono HB0t1.out.size)
 have hbxt := HB1t.out.trans (hby.mono HB1t.out.size)
 clear hly hby HFX
 obtain rfl : kxt = kxq := ListK.uniq (fun c => rfl) HKXt.out HKXp.out
 have hps := ks_keep (fun q hq => hq) HPS.out hbxt
 have hsm := same13_c kxt Ayt Ayp cyt cyp wt2 (HLYt.out.mono (Q' := (· < wt2.heap.size)) (fun h => h) (fun q hq => hq.2)) hps
 rw [HNXt.out] at hsm
 obtain rfl : nxt = nxq := HNXt.out.symm.trans HNXp.out
 have HSM := Lib.hid hsm
 clear hsm hps
 go_wp2_with fail
 refine HSM.out.mono ?_
 rintro e wu ⟨rfl, hbu⟩
 go_wp2_with fail
 go_ret
 exact ⟨rfl, hb0t2.trans (hbu.mono hb0t2.size)⟩
end Go.Proofs.YtebdajkknkapcaaGreat
