/- slices.SortFunc at locks: laid by the kit's tool, its contract in this claim's words. Written by gen_k14.py (out of F6.tpl). -/
import Derived.Test.YtebdajkknkapcaaG8xB0B2
import Derived.Test.YtebdajkknkapcaaG8xB3B8
import Derived.Test.YtebdajkknkapcaaG8xB9B13
import Derived.Test.YtebdajkknkapcaaG8xB14
import Derived.Test.YtebdajkknkapcaaG8xB16
import Derived.Test.YtebdajkknkapcaaG8xB17B24
import Derived.Test.YtebdajkknkapcaaG8xB29B32
import Derived.Test.YtebdajkknkapcaaG8xB33C3
import Derived.Test.YtebdajkknkapcaaG8xC4I5
import Derived.Test.YtebdajkknkapcaaG8xI7Q2
import Derived.Test.YtebdajkknkapcaaG8xK1K12
import Derived.Test.YtebdajkknkapcaaG8xT1K13
import Derived.Test.YtebdajkknkapcaaProg
import Derived.Shelf.SlSortCmp.WholeK
import Derived.Shelf.SlSortCmp.NoneTotal
import Derived.Shelf.SlIter.Collect
import Derived.Maps.OwnSet
import Derived.RangeFuncGives
import Derived.Maps.AppendAt
import Derived.RangeFuncBound
set_option linter.unusedVariables false
set_option linter.unusedSimpArgs false
set_option maxRecDepth 4000
attribute [local go_sem ↓] Go.wp_at_zero Go.wp_at_succ
namespace Go.Proofs.Ytebdajkknkapcaa
open Go Go.RowKit Go.Shelf Go.Lib
open Go.Sort hiding Below
def sortK_ren : Go.Shelf.Ren := ⟨fun | 6 => 129 | 15 => 115 | 14 => 163 | 28 => 160 | 29 => 161 | 20 => 181 | 21 => 182 | 22 => 183 | 23 => 184 | 24 => 185 | 25 => 186 | 26 => 187 | 27 => 188 | 46 => 196 | 47 => 177 | 48 => 178 | 49 => 197 | 50 => 198 | 57 => 200 | n => n, fun | 22 => 85 | 24 => 90 | 25 => 144 | 3 => 3 | 39 => 168 | 0 => 0 | 53 => 205 | 55 => 207 | 4 => 4 | 46 => 199 | 45 => 198 | 50 => 50 | 5 => 5 | 9 => 9 | 66 => 219 | 70 => 223 | 76 => 234 | 77 => 235 | n => n, fun | n => n⟩
theorem sortK : Go.Proofs.SlLaysF0.n6 Try.prog sortK_ren := {
 mixed := by kernel_rfl,
 f6 := ⟨Try.f129.name, by decide, Try.func129.trans (congrArg some (by kernel_rfl))⟩,
 f14 := ⟨Try.f163.name, by decide, Try.func163.trans (congrArg some (by kernel_rfl))⟩,
 f15 := Try.func115.trans (congrArg some (by kernel_rfl)),
 f20 := ⟨Try.f181.name, by decide, Try.func181.trans (congrArg some (by kernel_rfl))⟩,
 f21 := ⟨Try.f182.name, by decide, Try.func182.trans (congrArg some (by kernel_rfl))⟩,
 f22 := ⟨Try.f183.name, by decide, Try.func183.trans (congrArg some (by kernel_rfl))⟩,
 f23 := ⟨Try.f184.name, by decide, Try.func184.trans (congrArg some (by kernel_rfl))⟩,
 f24 := ⟨Try.f185.name, by decide, Try.func185.trans (congrArg some (by kernel_rfl))⟩,
 f25 := ⟨Try.f186.name, by decide, Try.func186.trans (congrArg some (by kernel_rfl))⟩,
 f26 := ⟨Try.f187.name, by decide, Try.func187.trans (congrArg some (by kernel_rfl))⟩,
 f27 := ⟨Try.f188.name, by decide, Try.func188.trans (congrArg some (by kernel_rfl))⟩,
 f28 := Try.func160.trans (congrArg some (by kernel_rfl)),
 f29 := Try.func161.trans (congrArg some (by kernel_rfl)),
 f46 := ⟨Try.f196.name, by decide, Try.func196.trans (congrArg some (by kernel_rfl))⟩,
 f47 := Try.func177.trans (congrArg some (by kernel_rfl)),
 f48 := Try.func178.trans (congrArg some (by kernel_rfl)),
 f49 := ⟨Try.f197.name, by decide, Try.func197.trans (congrArg some (by kernel_rfl))⟩,
 f50 := ⟨Try.f198.name, by decide, Try.func198.trans (congrArg some (by kernel_rfl))⟩,
 f57 := ⟨Try.f200.name, by decide, Try.func200.trans (congrArg some (by kernel_rfl))⟩,
 t0 := Try.underlying0,
 a0 := Try.isAgg0,
 z0 := Try.sizeOf0,
 v0 := Try.zeroValue0,
 t3 := Try.underlying3,
 a3 := Try.isAgg3,
 z3 := Try.sizeOf3,
 v3 := Try.zeroValue3,
 t4 := Try.underlying4,
 a4 := Try.isAgg4,
 z4 := Try.sizeOf4,
 v4 := Try.zeroValue4,
 t5 := Try.underlying5,
 a5 := Try.isAgg5,
 z5 := Try.sizeOf5,
 v5 := Try.zeroValue5,
 t9 := Try.underlying9,
 a9 := Try.isAgg9,
 z9 := Try.sizeOf9,
 v9 := Try.zeroValue9,
 t22 := Try.underlying85,
 a22 := Try.isAgg85,
 z22 := Try.sizeOf85,
 v22 := Try.zeroValue85,
 t25 := Try.underlying144,
 a25 := Try.isAgg144,
 z25 := Try.sizeOf144,
 v25 := Try.zeroValue144,
 t39 := Try.underlying168,
 a39 := Try.isAgg168,
 z39 := Try.sizeOf168,
 v39 := Try.zeroValue168,
 t45 := Try.underlying198,
 a45 := Try.isAgg198,
 z45 := Try.sizeOf198,
 v45 := Try.zeroValue198,
 t46 := Try.underlying199,
 a46 := Try.isAgg199,
 z46 := Try.sizeOf199,
 v46 := Try.zeroValue199,
 t50 := Try.underlying50,
 a50 := Try.isAgg50,
 z50 := Try.sizeOf50,
 v50 := Try.zeroValue50,
 t53 := Try.underlying205,
 a53 := Try.isAgg205,
 z53 := Try.sizeOf205,
 v53 := Try.zeroValue205,
 t55 := Try.underlying207,
 a55 := Try.isAgg207,
 z55 := Try.sizeOf207,
 v55 := Try.zeroValue207,
 t66 := Try.underlying219,
 a66 := Try.isAgg219,
 z66 := Try.sizeOf219,
 v66 := Try.zeroValue219,
 t70 := Try.underlying223,
 a70 := Try.isAgg223,
 z70 := Try.sizeOf223,
 v70 := Try.zeroValue223,
 t76 := Try.underlying234,
 a76 := Try.isAgg234,
 z76 := Try.sizeOf234,
 v76 := Try.zeroValue234,
 t77 := Try.underlying235,
 a77 := Try.isAgg235,
 z77 := Try.sizeOf235,
 v77 := Try.zeroValue235 }
theorem ltOf_cmpK (x y : KK) : ltOf cmpK x y = true ↔ ltK x y := by
 unfold ltOf cmpK orI cmpI ltK
 rw [decide_eq_true_iff]
 by_cases h1 : x.1.1 < y.1.1
 · simp [h1]
 · by_cases h2 : y.1.1 < x.1.1
   · simp [h1, h2]; omega
   · have e : x.1.1 = y.1.1 := by omega
     by_cases h3 : x.1.2 < y.1.2
     · simp [h1, h2, h3, e]
     · by_cases h4 : y.1.2 < x.1.2 <;> simp [h1, h2, h3, h4, e]
theorem swoK : SWO (ltOf cmpK) where
 irrefl x := by
  cases h : ltOf cmpK x x with
  | false => rfl
  | true => exact absurd ((ltOf_cmpK x x).1 h) (ltK_irr x)
 trans x y z h1 h2 := by
  rw [ltOf_cmpK] at *
  unfold ltK at *
  omega
 ntrans x y z h1 h2 := by
  cases h : ltOf cmpK x z with
  | false => rfl
  | true =>
   have a : ¬ ltK x y := fun e => by rw [(ltOf_cmpK x y).2 e] at h1; cases h1
   have b : ¬ ltK y z := fun e => by rw [(ltOf_cmpK y z).2 e] at h2; cases h2
   have c := (ltOf_cmpK x z).1 h
   unfold ltK at *
   omega
instance : Inhabited KK := ⟨⟨(0, 0), kk0⟩⟩
def KC (w : World) (Q : Nat → Prop) (cs : List Value) (c : KK) : Prop := cs = kL c
theorem blk_sortK {w : World} {blk n : Nat} {d : Array KK} {os : Array Obj} : Below w.heap.size w w → w.heap.size ≤ (sortWorldK kL 2 w blk 0 n d os).heap.size ∧ ∀ k, k < w.heap.size → k ≠ blk → (sortWorldK kL 2 w blk 0 n d os).heap[k]? = w.heap[k]? := fun _ => by
 refine ⟨size_sortWorldK_c _ _ _ _ _ _ _ _, fun k hk hne => ?_⟩
 unfold sortWorldK Go.Sort.grow putRowK putRow mapBlock Go.Sort.ahead
 simp only
 rw [Array.getElem?_append_left (by simpa using hk), Array.getElem?_modify, if_neg (fun e => hne e.symm)]
set_option maxHeartbeats 1000000 in
theorem sortk_c (out : List KK) (v : Value) (base : Nat) (w : World) (hown : w.ownsRow base 90 2 v out.length (out.flatMap kL)) (hn : out.length ≤ 1000) (hbase : base ≤ w.heap.size) :
 Calls Try.prog 129 #[v, .func (.func 88) #[] #[]] w (fun e w' => e = .returned (.tuple #[]) ∧ ∃ out' : List KK, out'.Perm out ∧ out'.Pairwise (fun x y => ¬ ltK y x) ∧ ListC KC 2 w' (fun q => base ≤ q ∧ q < w'.heap.size) [v] out' ∧ Below base w w' ∧ w.heap.size ≤ w'.heap.size) := by
 rcases Nat.eq_zero_or_pos out.length with h0 | h0
 · have he : out = [] := List.eq_nil_of_length_eq_zero h0
   subst he
   obtain ⟨p, cap, rfl⟩ : ∃ p cap, v = .slice p 0 cap := by
    rcases hown.2 with ⟨rfl, _⟩ | ⟨g, cap, cur, rfl, _⟩
    · exact ⟨_, _, rfl⟩
    · exact ⟨_, _, rfl⟩
   have hcon := AnyF.slices_SortFunc_none sortK p cap (.func (.func 88) #[] #[]) w
   refine (show Calls Try.prog 129 #[.slice p 0 cap, .func (.func 88) #[] #[]] w _ from hcon).mono ?_
   rintro e w' ⟨rfl, rfl⟩
   refine ⟨rfl, [], List.Perm.refl _, List.Pairwise.nil, ?_, Below.refl _ _, Nat.le_refl _⟩
   have hc : 0 ≤ cap ∧ cap ≤ maxLen := by
    rcases hown.2 with ⟨e, _⟩ | ⟨g, cap', cur, e, _, _, h1, h2, _⟩
    · simp only [Value.slice.injEq] at e
      obtain ⟨_, _, rfl⟩ := e
      exact ⟨Nat.le_refl _, by unfold maxLen; decide⟩
    · simp only [Value.slice.injEq] at e
      obtain ⟨_, _, rfl⟩ := e
      exact ⟨Nat.zero_le _, h2⟩
   exact ⟨p, cap, rfl, hc.1, hc.2, fun h => absurd h (by simp)⟩
 · obtain ⟨g, cap, rfl, hbg, hgw, hcl, hcm⟩ : ∃ g cap, v = .slice (some ⟨g, 0, none⟩) out.length cap ∧ base ≤ g ∧ g < w.heap.size ∧ out.length ≤ cap ∧ cap ≤ maxLen := by
    rcases hown.2 with ⟨_, hz⟩ | ⟨g, cap, cur, hv, h1, h2, h3, h4, _⟩
    · omega
    · exact ⟨g, cap, hv, h1, blk_lt h2, h3, h4⟩
   have hH : HoldsK kL 2 w g 0 out.toArray := by
    intro j hj
    rw [size_flatK] at hj
    have hj' : j < out.length * 2 := by simpa using hj
    rw [get_flatK _ _ _ _ hj]
    have hg := flat_get (f := kL) (k := 2) (by omega) (fun _ => rfl) out j hj'
    have e1 : out.toArray[j / 2]! = out[j / 2]! := by simp
    have hmod : j % 2 < (kL out[j / 2]!).length := by show j % 2 < 2; omega
    rw [List.getElem?_eq_getElem hmod] at hg
    have hc := hown.cells (g := g) rfl j _ hg
    have hf := own_unfrozen hown (g := g) rfl j
    rw [Addr.add_lit] at hc hf
    rw [e1, getElem!_pos (kL out[j / 2]!) (j % 2) hmod]
    exact ⟨hc, hf⟩
   have hcmp : CmpLays Try.prog 88 (#[] : Array Value) kL 2 cmpK g 0 out.toArray.size w := fun m os dk hdk x y => closk_c x y _
   have eg : ∀ args w, (callFunc 88 args).run Try.prog w = .ok (.enter 88 args) w := enters_of Try.func88 (by kernel_rfl) rfl
   have hcon := AnyQ.slices_SortFunc sortK 2 Try.isAgg90 Try.sizeOf90 kL (fun _ => rfl) (fun x v hv => by simp [kL] at hv; rcases hv with rfl | rfl <;> rfl) cmpK swoK 88 #[] g 0 cap out.toArray w eg hcmp hH hgw (by simp; omega)
   have hsz : out.toArray.size = out.length := by simp
   rw [hsz] at hcon
   refine (show Calls Try.prog 129 #[.slice (some ⟨g, 0, none⟩) out.length cap, .func (.func 88) #[] #[]] w _ from hcon).mono ?_
   rintro e w' ⟨rfl, d', n, os, hp, hs, rfl⟩
   obtain ⟨hp1, _, hp3⟩ := hp
   have hd : d'.size = out.length := by simpa using hp1
   have hperm : d'.toList.Perm out := by
    have e1 : (d'.extract 0 out.length).toList = d'.toList := by rw [← hd]; simp
    have e2 : (out.toArray.extract 0 out.length).toList = out := by simp
    rw [e1, e2] at hp3
    exact hp3
   have hH' := holdsK_sortWorldK_c kL 2 w g 0 out.toArray d' n os hH hgw hp1
   obtain ⟨hz1, hz2⟩ := blk_sortK (w := w) (blk := g) (n := n) (d := d') (os := os) (Below.refl _ _)
   refine ⟨rfl, d'.toList, hperm, ?_, ?_, ⟨rfl, rfl, rfl, hz1, fun k hk => hz2 k (by omega) (by omega)⟩, hz1⟩
   · rw [List.pairwise_iff_getElem]
     intro i j hi hj hij hlt
     have hi' : i < d'.size := by simpa using hi
     have hj' : j < d'.size := by simpa using hj
     have h1 := hs i j (Nat.zero_le _) hij (by omega)
     rw [getElem!_pos d' i hi', getElem!_pos d' j hj'] at h1
     have h2 := (ltOf_cmpK d'[j] d'[i]).2 hlt
     rw [h1] at h2
     cases h2
   · have hlen : d'.toList.length = out.length := by simpa using hd
     rw [← hlen]
     refine ⟨_, cap, rfl, by omega, hcm, fun _ => ⟨g, 0, rfl, ⟨hbg, by omega⟩, fun i x hx => ?_⟩⟩
     obtain ⟨hi, hxi⟩ := List.getElem?_eq_some_iff.1 hx
     have hi' : i < d'.size := by simpa using hi
     refine ⟨kL x, rfl, ⟨⟨hbg, by show g < _; omega⟩, fun j u hj => ?_⟩⟩
     have hjl : j < 2 := (List.getElem?_eq_some_iff.1 hj).1
     have hc := hH'.cell hi' hjl
     rw [getElem!_pos d' i hi'] at hc
     have hxd : d'[i] = x := by rw [← hxi]; simp
     rw [hxd, getElem!_pos (kL x) j hjl] at hc
     rw [Addr.add_lit]
     obtain ⟨_, hju⟩ := List.getElem?_eq_some_iff.1 hj
     have hju2 : (kL x)[j]'hjl = u := hju
     exact ⟨hc.1.trans (congrArg some hju2), hc.2⟩
end Go.Proofs.Ytebdajkknkapcaa
namespace Go.Proofs.Ytebdajkknkapcaa
open Go Go.RowKit Go.Shelf
open Go.Maps (Keyed)
def CollK (f : KK → Bool) (left : Lit → Bool) (ss : List KK) : Prop := ss.Nodup ∧ (∀ c, c ∈ ss ↔ (f c = true ∧ left (kKey c) = false)) ∧ ∀ c, left (kKey c) = true → f c = true
theorem CollK.start {f : KK → Bool} {D : UD} (hat : ∀ c, Maps.has D (kKey c) = f c) : CollK f (Maps.has D) [] :=
 ⟨List.nodup_nil, fun c => by rw [hat c]; cases f c <;> simp, fun c hc => by rw [← hat c]; exact hc⟩
theorem CollK.step {f : KK → Bool} {left : Lit → Bool} {ss : List KK} (h : CollK f left ss) {c : KK} (hl : left (kKey c) = true) : CollK f (fun z => left z && !z.sameKey (kKey c)) (ss ++ [c]) := by
 obtain ⟨h1, h2, h3⟩ := h
 have hnew : c ∉ ss := fun hx => by have := ((h2 c).1 hx).2; rw [hl] at this; cases this
 refine ⟨List.nodup_append.2 ⟨h1, by simp, fun a ha b hb => by simp at hb; subst hb; exact fun e => hnew (e ▸ ha)⟩, fun d => ?_, fun d hd => h3 d (by simp at hd; exact hd.1)⟩
 by_cases hd : d = c
 · subst hd
   have hs : (kKey d).sameKey (kKey d) = true := kKey_same.2 rfl
   simp [h3 d hl, hs]
 · have hs : (kKey d).sameKey (kKey c) = false := by
    cases e : (kKey d).sameKey (kKey c) with
    | false => rfl
    | true => exact absurd (kKey_same.1 e) hd
   simp [h2 d, hd, hs]
def AllK (f : KK → Bool) (ss : List KK) : Prop := ss.Nodup ∧ ∀ c, c ∈ ss ↔ f c = true
theorem CollK.done {f : KK → Bool} {left : Lit → Bool} {ss : List KK} (h : CollK f left ss) (hl : ∀ kl, left kl = false) : AllK f ss := ⟨h.1, fun c => by rw [h.2.1 c, hl]; simp⟩
theorem info_lock : (Try.prog.info? 90).map (·.size) = some 2 := by kernel_rfl
theorem wpListIn_load_row {F : Fence} {n : Nat} {P : Program} {ops : Array Oper} {rest : List Oper} {o : Oper} {a : Act} {w : World} {Q : Exit → Act → World → Prop} (hgd : o.guard = none) (ty : TypeId) (x : Operand) (ho : o.op = .load ty x)
 (g : Nat) (hx : a.eval x = .pointer (some ⟨g, 0, none⟩)) (t : TypeId) (cs : Array Value) (fr : Nat × Nat) (d : TypeDesc) (hg : w.heap[g]? = some (.cells cs t fr))
 (hu : P.underlying ty = some d) (hd : (match d with | .struct _ | .array _ _ => true | _ => false) = true) (hi : (P.info? ty).map (·.size) = some cs.size)
 (h : wpListIn F n P ops Q rest (a.put o.dst (.agg cs)) w) : wpListIn F n P ops Q (o :: rest) a w := by
 refine wpListIn_plain hgd fun K hK => ?_
 unfold Oper.wpIn
 refine ⟨by simp [Oper.about, ho], ?_⟩
 rw [Oper.semAt_plain F _ _ (by rw [ho]; intro c hc'; cases hc')]
 have hrun := run_loadVar_row w g t ty cs fr d hg hu hd hi
 unfold execOp
 simp only [ho, hx, Instr.loadAt, Instr.sureAddr, Sem.run_bind, Sem.run_pure, Result.andThen_ok]
 rw [hrun]
 simp only [Result.andThen_ok]
 exact hK _ _ h
theorem keysK_c (b : Nat) (w : World) : Calls Try.prog 87 #[.map (some b)] w (fun e w' => e = .returned (.func (.func 130) #[] #[.pointer (some ⟨w.heap.size, 0, none⟩)]) ∧ w' = w.alloc (.cells #[.map (some b)] 101)) := by
 go_enter Try.func87, Try.ntmps87
 go_wp2_with fail
 go_ret
 exact ⟨rfl, rfl⟩
set_option maxRecDepth 100000 in
set_option maxHeartbeats 1000000 in
theorem keys1K_in (F : Fence) (m : Nat) (hF : F.fn 130) (hro : F.round = none) (hn : 1 ≤ m) (l Bm b n : Nat) (D0 : UD) (f : KK → Bool) (hat : ∀ c, Maps.has D0 (kKey c) = f c) (J : List KK → World → Prop)
 (hY : ∀ pre x W, J pre W → pre.length < Maps.size D0 → YieldAt F (m - 1) Try.prog l #[kVal x] W fun e W' => e = .returned (.bool true) ∧ J (pre ++ [x]) W' ∧ KeepsWalks W W')
 (W : World) (hJ : AbidesFrom W.heap.size J) (hm : W.cell? ⟨Bm, 0, none⟩ = some (.map (some b))) (hown : W.ownsMap Try.prog 90 (plainElem Try.prog 4) b n D0) (h0 : J [] W) :
 CallsIn F m Try.prog 130 #[.func (.yield l) #[] #[], .pointer (some ⟨Bm, 0, none⟩)] W fun e W' => (∃ v, e = .returned v) ∧ ∃ ss : List KK, AllK f ss ∧ J ss W' := by
 have h1 : 1 ≤ m := hn
 refine callsIn_of_wp Try.func130 rfl hF ?_ hro
 simp only [Try.ntmps130, List.size_toArray, List.length_cons, List.length_nil, Nat.reduceAdd, Nat.reduceSub, Array.replicate_succ, Array.replicate_zero, List.push_toArray, List.append_toArray, List.nil_append, List.cons_append]
 gi_wp2_with (gi_at_range; refine wpListIn_range_own _ rfl _ 101 rfl 90 4 lock_keyed kmap_uty _ b n _ rfl hown ?_; intro w0 hrg0 hg0 hs0)
 go_frame
 gi_loopw [3] (fun _ wr => ∃ (left : Lit → Bool) (cnt : Nat) (ss : List KK), wr.ranges Try.prog 90 (plainElem Try.prog 4) b W.heap.size n D0 left cnt ∧ ss.length + cnt ≤ Maps.size D0 ∧ CollK f left ss ∧ J ss wr)
  (fun _ wr => wr.rangeLeft b W.heap.size)
 case atStart =>
  exact ⟨_, _, [], hrg0, by simp, CollK.start hat, hJ [] W w0 none h0 hg0 (fun r e => by cases e)⟩
 case round =>
  obtain ⟨left, cnt, ss, hrg, hcs, hC, hJs⟩ := hrel
  gi_wp2_with (gi_at_next; refine wpListIn_next_ranges _ rfl _ rfl 90 lock_keyed (plainElem Try.prog 4) kVal id (fun key kl hk => lock_inv hk) (fun v _ _ => ⟨v, rfl⟩) b W.heap.size n _ _ _ rfl hrg ?_ ?_)
  · intro hc0 hl0
    gi_wp2
    go_end0
    exact ⟨⟨_, rfl⟩, ss, hC.done hl0, hJs⟩
  · intro xa xb hx c kl yd yp w2 cnt2 hkey hlk hv hat2 hrg2 hlt hg2 hs2 hen
    rw [kKey_of ⟨(xa, xb), hx⟩] at hkey
    obtain rfl := Option.some.inj hkey
    have hJ2 : J ss w2 := hJ ss wr w2 (some W.heap.size) hJs hg2 (fun r e => by cases e; exact ⟨Nat.le_refl _, hrg.iter_walk⟩)
    have hrgA := hrg2.alloc (.cells #[.int .i64 xa, .int .i64 xb] 90)
    have hJA : J ss (w2.alloc (.cells #[.int .i64 xa, .int .i64 xb] 90)) := hJ ss w2 _ none hJ2 (World.grownBy_alloc w2 _ none) (fun r e => by cases e)
    have hst := hC.step (c := ⟨(xa, xb), hx⟩) hlk
    obtain ⟨fn, tmps, assign, body, hy, hR⟩ := hY ss ⟨(xa, xb), hx⟩ _ hJA (by omega)
    simp only [kVal] at hen hy ⊢
    have hh := heap_alloc_new w2 (.cells #[.int .i64 xa, .int .i64 xb] 90)
    have HST := Lib.hid hst
    have HRG := Lib.hid hrg
    have HRGA := Lib.hid hrgA
    clear hs2 hst hv hat2 hg2 hrg hrgA hrg2 hJ2 hJA hC hJs
    gi_wp2_with (show wpListIn _ _ _ _ _ (Oper.mk (some 11) _ _ _ _ _ :: _) _ _; refine wpListIn_load_row rfl 90 (.tmp 3) rfl w2.heap.size rfl _ _ _ _ hh Try.underlying90 rfl info_lock ?_)
    refine hR.mono ?_
    rintro e W3 ⟨rfl, hJ3, hk3⟩
    gi_wp2
    have hrg3 := HRGA.out.of_walks hk3
    go_roundw
    case rel => exact ⟨_, cnt2, ss ++ [⟨(xa, xb), hx⟩], hrg3, by simp; omega, HST.out, hJ3⟩
    case measure => rw [hrg3.left_eq, HRG.out.left_eq]; exact hlt
theorem keysK_gives (F : Fence) (m : Nat) (hF : F.fn 130) (hro : F.round = none) (hn : 1 ≤ m) (Bm b n : Nat) (f : KK → Bool) (w : World) (hBm : Bm < w.heap.size)
 (hm : w.cell? ⟨Bm, 0, none⟩ = some (.map (some b))) (hM : MapL w b n f) :
 SeqGives F m Try.prog 130 #[.pointer (some ⟨Bm, 0, none⟩)] kVal (AllK f) n w := fun l J W hW hJ hY h0 => by
 have hM2 := hM.below hW
 obtain ⟨D, hown, hat⟩ := hM2
 have hsz : Maps.size D ≤ n := hown.size_le
 exact keys1K_in F m hF hro hn l Bm b n D f (fun c => (hat c).1) J (fun pre x W1 h1 h2 => hY pre x W1 h1 (by omega)) W hJ ((hW.cell (p := ⟨Bm, 0, none⟩) hBm).trans hm) hown h0
end Go.Proofs.Ytebdajkknkapcaa
namespace Go.Proofs.Ytebdajkknkapcaa
open Go Go.RowKit Go.Shelf
open Go.Maps (Keyed)
def apA (b : Option Code) : Code := match b with
 | some (.seq _ (.seq (.seq _ (.block _ (.rangeFunc _ _ a _))) _)) => a
 | _ => .ret
def apB (b : Option Code) : Code := match b with
 | some (.seq _ (.seq (.seq _ (.block _ (.rangeFunc _ _ _ b))) _)) => b
 | _ => .ret
def apRec (bd : Option Code) (fn : FuncId) (sv : Value) (Bs D : Nat) (st : LoopState) (pend : Option Code) : Loop :=
 { state := st, pending := pend, fn, tmps := #[.slice none 0 0, sv, .pointer (some ⟨Bs, 0, none⟩), undef, .slice none 0 0, undef, sv, undef, undef, undef, undef, undef, undef], params := #[7], assign := apA bd, body := apB bd, defers := D }
theorem info_lockA : (Try.prog.info? 90).map (fun i => (i.zero, i.size, i.bytes)) = some (some (.agg #[.int .i64 0, .int .i64 0]), 2, 16) := by kernel_rfl
theorem locks_uty : Try.prog.underlying 85 = some (.slice 90) := by kernel_rfl
structure ApAt (w0 : World) (fn : FuncId) (sv : Value) (Bs l D : Nat) (ss : List KK) (W : World) : Prop where
 box : ∃ v, W.heap[Bs]? = some (.cells #[v] 85 (0, 0)) ∧ W.ownsRow w0.heap.size 90 2 v ss.length (ss.flatMap kL)
 L : W.heap[l]? = some (.loop (apRec Try.f162.body fn sv Bs D .ready none))
 K : W.heap[D]? = some (.deferred (some []))
 below : Below w0.heap.size w0 W
theorem ap_abides (w0 : World) (fn : FuncId) (sv : Value) (Bs l D B : Nat) (hB : w0.heap.size ≤ B) : AbidesFrom B (ApAt w0 fn sv Bs l D) := fun s W W' row h hg hrow => by
 have hrow' : ∀ r, row = some r → ∃ o : Obj, W.heap[r]? = some o ∧ o.isWalk = true := fun r e => (hrow r e).2
 obtain ⟨v, hv, hr⟩ := h.box
 exact ⟨⟨v, (grownBy_keeps hg hrow' hv rfl).trans hv, ownsRow_abides_a hr hg hrow'⟩, (grownBy_keeps hg hrow' h.L rfl).trans h.L, (grownBy_keeps hg hrow' h.K rfl).trans h.K,
  h.below.grown hg h.below.size (fun k e => Nat.le_trans hB (hrow k e).1)⟩
set_option maxRecDepth 100000 in
set_option maxHeartbeats 2000000 in
theorem apYield (F : Fence) (m : Nat) (w0 : World) (fn : FuncId) (hfn : F.fn fn) (sv : Value) (Bs l D : Nat) (hBl : Bs ≠ l) (hDl : D ≠ l) (hDB : D ≠ Bs) (h0B : w0.heap.size ≤ Bs) (h0l : w0.heap.size ≤ l)
 (N : Nat) (hN : N ≤ maxLen) (hNb : N * 16 ≤ 140737488355328) (ss : List KK) (x : KK) (W : World) (h : ApAt w0 fn sv Bs l D ss W) (hlen : ss.length < N) :
 YieldAt F m Try.prog l #[kVal x] W fun e W' => e = .returned (.bool true) ∧ ApAt w0 fn sv Bs l D (ss ++ [x]) W' ∧ KeepsWalks W W' := by
 have hne : (85 : TypeId) ≠ 90 := by decide
 obtain ⟨i0, hi, hz0, hz1, hz2⟩ := info_parts info_lockA
 obtain ⟨v, hv, hrow⟩ := h.box
 refine ⟨fn, #[.slice none 0 0, sv, .pointer (some ⟨Bs, 0, none⟩), undef, .slice none 0 0, undef, sv, kVal x, undef, undef, undef, undef, undef], apA Try.f162.body, apB Try.f162.body, by simpa [apRec] using run_yield (P := Try.prog) (args := #[kVal x]) h.L rfl, roundIn_of_wpIn hfn ?_⟩
 obtain ⟨⟨xa, xb⟩, hx⟩ := x
 dsimp only [apA, apB, Try.f162]
 simp only [kVal]
 gi_wp2_with gi_round_op_a
 have hl0 : l < W.heap.size := (Array.getElem?_eq_some_iff.1 h.L).1
 -- the variable's block
 obtain ⟨W1, hW1⟩ : ∃ W1, W.alloc (.cells #[.int .i64 xa, .int .i64 xb] 90) = W1 := ⟨_, rfl⟩
 rw [hW1]
 have hold : ∀ k, k < W.heap.size → W1.heap[k]? = W.heap[k]? := fun k hk => by rw [← hW1]; exact Below.heap_alloc _ _ k hk
 have hs1 : W1.heap.size = W.heap.size + 1 := by rw [← hW1]; simp
 have hvb1 : W1.heap[W.heap.size]? = some (.cells #[.int .i64 xa, .int .i64 xb] 90 (0, 0)) := by rw [← hW1]; exact heap_alloc_new W _
 have hL1 : W1.heap[l]? = some (.loop (apRec Try.f162.body fn sv Bs D .ready none)) := (hold _ hl0).trans h.L
 have hv1 : W1.heap[Bs]? = some (.cells #[v] 85 (0, 0)) := (hold _ (Array.getElem?_eq_some_iff.1 hv).1).trans hv
 have hK1 : W1.heap[D]? = some (.deferred (some [])) := (hold _ (Array.getElem?_eq_some_iff.1 h.K).1).trans h.K
 have hrow1 : W1.ownsRow w0.heap.size 90 2 v ss.length (ss.flatMap kL) := by rw [← hW1]; exact hrow.alloc _
 have hb1 : Below w0.heap.size w0 W1 := by rw [← hW1]; exact h.below.alloc h.below.size _
 have hk1 : KeepsWalks W W1 := by rw [← hW1]; exact KeepsWalks.alloc _ _
 have hbr := run_beginRound (P := Try.prog) hL1 rfl
 obtain ⟨W2, hW2⟩ : ∃ W2, W1.putObj l (.loop { apRec Try.f162.body fn sv Bs D .ready none with state := .busy }) = W2 := ⟨_, rfl⟩
 rw [hW2] at hbr
 have hg2 : W1.grownBy W2 (some l) := by rw [← hW2]; exact grownBy_putObj_a _ _ _
 have hs2 : W2.heap.size = W1.heap.size := by rw [← hW2]; simp
 have hk2 : KeepsWalks W W2 := hk1.trans (by rw [← hW2]; exact KeepsWalks.putObj _ hL1 rfl)
 have hv2 : W2.heap[Bs]? = some (.cells #[v] 85 (0, 0)) := by rw [← hW2]; exact (World.putObj_heap_other hBl).trans hv1
 have hvb2 : W2.heap[W.heap.size]? = some (.cells #[.int .i64 xa, .int .i64 xb] 90 (0, 0)) := by rw [← hW2]; exact (World.putObj_heap_other (by omega)).trans hvb1
 have hK2 : W2.heap[D]? = some (.deferred (some [])) := by rw [← hW2]; exact (World.putObj_heap_other hDl).trans hK1
 have hL2 : W2.heap[l]? = some (.loop { apRec Try.f162.body fn sv Bs D .ready none with state := .busy }) := by rw [← hW2]; exact World.putObj_heap_same (by omega)
 have hrow2 : W2.ownsRow w0.heap.size 90 2 v ss.length (ss.flatMap kL) := hrow1.kept hg2 (ownsRow_ne_a hrow1 hL1 (fun cur e => by first | cases e | exact hne (Obj.cells.inj e).2.1))
 have hb2 : Below w0.heap.size w0 W2 := hb1.grown hg2 hb1.size (fun k e => by cases e; exact h0l)
 obtain ⟨hc2, hf2⟩ := cell_of_box_a hv2
 have hBlt : Bs < W2.heap.size := (Array.getElem?_eq_some_iff.1 hv2).1
 have hl2 : l < W2.heap.size := (Array.getElem?_eq_some_iff.1 hL2).1
 have hDlt : D < W2.heap.size := (Array.getElem?_eq_some_iff.1 hK2).1
 have ne_of : ∀ {j : Nat} {o : Obj}, W2.heap[j]? = some o → (∀ cur, o ≠ .cells cur 90 (0, 0)) → some j ≠ v.ownBlock := fun hj hno => by
  rcases ownsRow_ne_a hrow2 hj hno with e | e
  · rw [e]; simp
  · exact fun e' => e e'.symm
 have HVB := Lib.hid hvb2
 have HS12 := Lib.hid (And.intro hs1 hs2)
 clear hW1 hW2 hold hvb1 hL1 hv1 hK1 hrow1 hb1 hk1 hg2 hvb2 hs1 hs2
 gi_wp2_with (first
  | (show wpListIn _ _ _ _ _ (Oper.mk (some 9) _ _ _ _ _ :: _) _ _; refine wpListIn_load_row rfl 90 (.tmp 5) rfl W.heap.size rfl _ _ _ _ HVB.out Try.underlying90 rfl info_lock ?_)
  | (gi_at_builtin; refine wpListIn_append_own _ rfl _ _ 85 rfl w0.heap.size 90 i0 _ 2 16 locks_uty hi hz0 hz1 hz2 rfl (by decide) _ _ _ rfl (hrow2.alloc _) ⟨W2.heap.size, 0, none⟩ 1 1 [.int .i64 xa, .int .i64 xb] rfl rfl (fun j u hj => (((box_at (heap_alloc_new W2 (.cells #[.int .i64 xa, .int .i64 xb] 90))).2 j u hj).1)) (by simp [Value.oneCell']) (by omega) (by omega) (by have := hb2.size; simp; omega) ?_; intro v' w3 hown' hg3 hnil3
     have hv3 : w3.heap[Bs]? = some (.cells #[v] 85 (0, 0)) := (hg3.block Bs (by simp; omega) (ne_of hv2 (fun cur e => by first | cases e | exact hne (Obj.cells.inj e).2.1))).trans ((Below.heap_alloc _ _ Bs hBlt).trans hv2)
     obtain ⟨hc3, hf3⟩ := cell_of_box_a hv3
     obtain ⟨A3, n3, c3, rfl⟩ := own_shape hown'
     go_frame)
  | gi_round_op_a)
 have hg3' : (W2.alloc (.cells #[.int .i64 xa, .int .i64 xb] 90)).grownBy w3 v.ownBlock := hg3
 have hL3 : w3.heap[l]? = some (.loop { apRec Try.f162.body fn sv Bs D .ready none with state := .busy }) := (hg3'.block l (by simp; omega) (ne_of hL2 (fun cur e => by first | cases e | exact hne (Obj.cells.inj e).2.1))).trans ((Below.heap_alloc _ _ l hl2).trans hL2)
 have hK3 : w3.heap[D]? = some (.deferred (some [])) := (hg3'.block D (by simp; omega) (ne_of hK2 (fun cur e => by first | cases e | exact hne (Obj.cells.inj e).2.1))).trans ((Below.heap_alloc _ _ D hDlt).trans hK2)
 obtain ⟨w4, hw4⟩ : ∃ w4, w3.setCell ⟨Bs, 0, none⟩ (.slice A3 n3 c3) = w4 := ⟨_, rfl⟩
 rw [hw4]
 have hg4 : w3.grownBy w4 (some Bs) := by rw [← hw4]; exact grownBy_setCell0_a _ _ _
 have hv4 : w4.heap[Bs]? = some (.cells #[.slice A3 n3 c3] 85 (0, 0)) := by rw [← hw4]; exact heap_setCell_box_a _ hv3
 have hL4 : w4.heap[l]? = some (.loop { apRec Try.f162.body fn sv Bs D .ready none with state := .busy }) := (hg4.block l (Array.getElem?_eq_some_iff.1 hL3).1 (fun e => hBl (by cases e; rfl))).trans hL3
 have hK4 : w4.heap[D]? = some (.deferred (some [])) := (hg4.block D (Array.getElem?_eq_some_iff.1 hK3).1 (fun e => hDB (by cases e; rfl))).trans hK3
 have hrow4 := hown'.kept hg4 (ownsRow_ne_a hown' hv3 (fun cur e => by first | cases e | exact hne (Obj.cells.inj e).2.1))
 have hl4 : l < w4.heap.size := (Array.getElem?_eq_some_iff.1 hL4).1
 have hb3 : Below w0.heap.size w0 w3 := (hb2.alloc hb2.size _).grown hg3' (by have := hb2.size; simp; omega) (fun k e => (hrow2.lt k e).1)
 have hb4 : Below w0.heap.size w0 w4 := hb3.grown hg4 hb3.size (fun k e => by cases e; exact h0B)
 have hk4 : KeepsWalks W w4 := ((hk2.trans (KeepsWalks.alloc _ _)).trans (KeepsWalks.of_grownBy hg3' (ownsRow_not_walk_a (hrow2.alloc _)))).trans (by rw [← hw4]; exact KeepsWalks.setCell _ _ _)
 clear hw4
 refine ⟨_, _, run_endRound none hL4, rfl, ⟨⟨_, (World.putObj_heap_other hBl).trans hv4, ?_⟩, World.putObj_heap_same hl4, (World.putObj_heap_other hDl).trans hK4, hb4.grown (grownBy_putObj_a _ _ _) hb4.size (fun k e => by cases e; exact h0l)⟩, hk4.trans (KeepsWalks.putObj _ hL4 rfl)⟩
 have hfin := hrow4.kept (grownBy_putObj_a w4 l (.loop { { apRec Try.f162.body fn sv Bs D .ready none with state := .busy } with state := if (none : Option Code).isNone then .ready else .done, pending := none })) (ownsRow_ne_a hrow4 hL4 (fun cur e => by first | cases e | exact hne (Obj.cells.inj e).2.1))
 rw [List.flatMap_append, List.length_append]
 exact hfin
set_option maxRecDepth 100000 in
set_option maxHeartbeats 2000000 in
theorem appendSeqK_in (F : Fence) (n : Nat) (hF : F.fn 162) (hro : F.round = none) (hn : 2 ≤ n) (g : Nat) (lb : Array Value) (hFg : F.fn g) (eg : ∀ args w, (callFunc g args).run Try.prog w = .ok (.enter g args) w)
 (S : List KK → Prop) (N : Nat) (hN : N ≤ maxLen) (hNb : N * 16 ≤ 140737488355328) (w : World) (hseq : SeqGives F (n - 1) Try.prog g lb kVal S N w) :
 CallsIn F n Try.prog 162 #[.slice none 0 0, .func (.func g) #[] lb] w fun e w' => ∃ (v : Value) (ss : List KK), e = .returned v ∧ S ss ∧ w'.ownsRow w.heap.size 90 2 v ss.length (ss.flatMap kL) ∧ Below w.heap.size w w' := by
 have h1 : 1 ≤ n := by omega
 have hne : (85 : TypeId) ≠ 90 := by decide
 refine callsIn_of_wp_marks Try.func162 rfl hF ?_ hro
 simp only [Try.ntmps162, List.size_toArray, List.length_cons, List.length_nil, Nat.reduceAdd, Nat.reduceSub, Array.replicate_succ, Array.replicate_zero, List.push_toArray, List.append_toArray, List.nil_append, List.cons_append]
 gi_wp2
 refine wpIn_rangeFunc ?_
 intro fn hfn
 rw [hro]
 obtain ⟨W0, hW0⟩ : ∃ W0, w.alloc (.cells #[.slice none 0 0] 85) = W0 := ⟨_, rfl⟩
 have hs0 : W0.heap.size = w.heap.size + 1 := by rw [← hW0]; simp
 have hv0 : W0.heap[w.heap.size]? = some (.cells #[.slice none 0 0] 85 (0, 0)) := by rw [← hW0]; exact World.alloc_heap_new w _
 have hb0 : Below w.heap.size w W0 := by rw [← hW0]; exact (Below.refl _ w).alloc (Nat.le_refl _) _
 rw [hW0]
 obtain ⟨W1, hW1⟩ : ∃ W1, (W0.alloc (.deferred (some []))).alloc (.loop (apRec Try.f162.body fn (.func (.func g) #[] lb) w.heap.size W0.heap.size .ready none)) = W1 := ⟨_, rfl⟩
 have hold : ∀ k, k < W0.heap.size → W1.heap[k]? = W0.heap[k]? := fun k hk => by
  rw [← hW1]; exact (Below.heap_alloc _ _ k (by simp; omega)).trans (Below.heap_alloc _ _ k hk)
 have hb1 : Below w.heap.size w W1 := by rw [← hW1]; exact (hb0.alloc hb0.size _).alloc (by have := hb0.size; simp; omega) _
 have hs1 : W1.heap.size = W0.heap.size + 2 := by rw [← hW1]; simp
 have hM : ApAt w fn (.func (.func g) #[] lb) w.heap.size (W0.heap.size + 1) W0.heap.size [] W1 :=
  ⟨⟨_, (hold w.heap.size (by omega)).trans hv0, World.ownsRow_nil _ _ _ _⟩,
   by rw [← hW1]; have := World.alloc_heap_new (W0.alloc (.deferred (some []))) (.loop (apRec Try.f162.body fn (.func (.func g) #[] lb) w.heap.size W0.heap.size .ready none)); rwa [World.size_alloc] at this,
   by rw [← hW1]; exact (Below.heap_alloc _ _ _ (by simp)).trans (World.alloc_heap_new W0 _), hb1⟩
 refine ⟨W0.heap.size + 1, [{ target := .collected W0.heap.size, args := #[] }], W1, { target := .fn (.func g) lb, args := #[.func (.yield (W0.heap.size + 1)) #[] #[]] }, W1, g,
  #[.func (.yield (W0.heap.size + 1)) #[] #[]] ++ lb, W1, ?_, ?_, ?_, ?_, fun _ => h1, ?_⟩
 · rw [← hW1]; exact run_enterLoop_outer _ _ _ _ _
 · simp [resolve, go_sem]
 · intro f' hf'; simp [Target.leads] at hf'; subst hf'; exact hFg
 · simp [invoke, go_sem, eg]
 · refine (hseq (W0.heap.size + 1) (ApAt w fn (.func (.func g) #[] lb) w.heap.size (W0.heap.size + 1) W0.heap.size) W1 hb1 (ap_abides _ _ _ _ _ _ _ hb1.size)
    (fun pre x W hJ hl => apYield F (n - 1 - 1) w fn hfn _ w.heap.size (W0.heap.size + 1) W0.heap.size (by omega) (by omega) (by omega) (Nat.le_refl _) (by omega) N hN hNb pre x W hJ hl) hM).mono ?_
   rintro e W2 ⟨⟨v0, rfl⟩, ss, hS, h2⟩
   obtain ⟨v, hv, hrow⟩ := h2.box
   have hend := run_endLoop (P := Try.prog) h2.L (by simp [apRec])
   obtain ⟨W3, hW3⟩ : ∃ W3, W2.putObj (W0.heap.size + 1) (.loop { apRec Try.f162.body fn (.func (.func g) #[] lb) w.heap.size W0.heap.size .ready none with state := .exhausted }) = W3 := ⟨_, rfl⟩
   rw [hW3] at hend
   have hg3 : W2.grownBy W3 (some (W0.heap.size + 1)) := by rw [← hW3]; exact grownBy_putObj_a _ _ _
   have hv3 : W3.heap[w.heap.size]? = some (.cells #[v] 85 (0, 0)) := by rw [← hW3]; exact (World.putObj_heap_other (by omega)).trans hv
   have hK3 : W3.heap[W0.heap.size]? = some (.deferred (some [])) := by rw [← hW3]; exact (World.putObj_heap_other (by omega)).trans h2.K
   have hrow3 := hrow.kept hg3 (ownsRow_ne_a hrow h2.L (fun cur e => by first | cases e | exact hne (Obj.cells.inj e).2.1))
   have hb3 : Below w.heap.size w W3 := h2.below.grown hg3 h2.below.size (fun k e => by cases e; omega)
   obtain ⟨hc3, hf3⟩ := cell_of_box_a hv3
   clear hW3
   refine ⟨none, W3, hend, ?_⟩
   gi_wp2
   rw [← hs0]
   refine ⟨by simp, .inl ⟨_, _, rfl, run_takeDeferred hK3, ?_⟩⟩
   exact ⟨_, results_tmp rfl _ _ _, v, ss, rfl, hS, hrow3.kept (grownBy_putObj_a _ _ _) (ownsRow_ne_a hrow3 hK3 (fun cur e => by first | cases e | exact hne (Obj.cells.inj e).2.1)), hb3.grown (grownBy_putObj_a _ _ _) hb3.size (fun k e => by cases e; omega)⟩
set_option maxHeartbeats 1000000 in
theorem collectK_in (F : Fence) (n : Nat) (hC : F.fn 128) (hF : F.fn 162) (hro : F.round = none) (hn : 3 ≤ n) (g : Nat) (lb : Array Value) (hFg : F.fn g) (eg : ∀ args w, (callFunc g args).run Try.prog w = .ok (.enter g args) w)
 (S : List KK → Prop) (N : Nat) (hN : N ≤ maxLen) (hNb : N * 16 ≤ 140737488355328) (w : World) (hseq : SeqGives F (n - 1 - 1) Try.prog g lb kVal S N w) :
 CallsIn F n Try.prog 128 #[.func (.func g) #[] lb] w fun e w' => ∃ (v : Value) (ss : List KK), e = .returned v ∧ S ss ∧ w'.ownsRow w.heap.size 90 2 v ss.length (ss.flatMap kL) ∧ Below w.heap.size w w' := by
 have h1 : 1 ≤ n := by omega
 refine callsIn_of_wp Try.func128 rfl hC ?_ hro
 simp only [Try.ntmps128, List.size_toArray, List.length_cons, List.length_nil, Nat.reduceAdd, Nat.reduceSub, Array.replicate_succ, Array.replicate_zero, List.push_toArray, List.append_toArray, List.nil_append, List.cons_append]
 gi_wp2_with (gi_at_call 162; refine (appendSeqK_in F (n - 1) hF hro (by omega) g lb hFg eg S N hN hNb _ hseq).mono ?_; rintro e w' ⟨v, ss, rfl, hS, hrow, hb⟩)
 go_ret
 exact ⟨v, ss, rfl, hS, hrow, hb⟩
end Go.Proofs.Ytebdajkknkapcaa
namespace Go.Proofs.Ytebdajkknkapcaa
open Go Go.RowKit
instance (a c : KK) : Decidable (ltK a c) := by unfold ltK; infer_instance
theorem ltK_tri {a c : KK} (h : ¬ ltK a c) (hne : a ≠ c) : ltK c a := by
 have : ¬ (a.1.1 = c.1.1 ∧ a.1.2 = c.1.2) := fun e => hne (Subtype.ext (Prod.ext e.1 e.2))
 unfold ltK at *
 omega
end Go.Proofs.Ytebdajkknkapcaa
namespace Go.Proofs.Ytebdajkknkapcaa
open Go Go.RowKit Go.Shelf
open Go.Maps (Keyed)
theorem listK_of {f : KK → Bool} {ss ks : List KK} (h : AllK f ss) (hp : ks.Perm ss) (hs : ks.Pairwise (fun x y => ¬ ltK y x)) : ListK f ks := by
 have hnd : ks.Pairwise (· ≠ ·) := hp.nodup_iff.2 h.1
 refine ⟨(hs.and hnd).imp (fun {a b} hab => ltK_tri hab.1 (fun e => hab.2 e.symm)), fun c => by rw [hp.mem_iff, h.2]⟩
def ListPost (f : KK → Bool) (w : World) (e : Ending) (w' : World) : Prop := ∃ (A : Option Addr) (c : Nat) (ks : List KK), e = .returned (.slice A ks.length c) ∧ ListK f ks ∧ ListC KC 2 w' (fun q => w.heap.size ≤ q ∧ q < w'.heap.size) [.slice A ks.length c] ks ∧ Below w.heap.size w w'
set_option maxHeartbeats 1000000 in
theorem sortedK_c (b n : Nat) (f : KK → Bool) (w : World) (hM : MapL w b n f) (hn : n ≤ 1000) : Calls Try.prog 86 #[.func (.func 130) #[] #[.pointer (some ⟨w.heap.size, 0, none⟩)], .func (.func 88) #[] #[]] (w.alloc (.cells #[.map (some b)] 101)) (ListPost f w) := by
 have hh := heap_alloc_new w (.cells #[.map (some b)] 101)
 have hb1 := below1 w (.cells #[.map (some b)] 101)
 generalize w.alloc (.cells #[.map (some b)] 101) = W at *
 have hseq := keysK_gives Fence.wide 3 trivial rfl (by omega) w.heap.size b n f W (blk_lt hh) (blk_cell hh 0) (hM.below hb1)
 have hcol := callsIn_wide.1 (collectK_in Fence.wide 5 trivial trivial rfl (by omega) 130 #[.pointer (some ⟨w.heap.size, 0, none⟩)] trivial (enters_of Try.func130 (by kernel_rfl) rfl) _ n (by unfold maxLen; omega) (by omega) W hseq.bounded)
 have HCOL := Lib.hid hcol
 have HB1 := Lib.hid hb1
 clear hseq hcol hh hM hb1
 go_enter Try.func86, Try.ntmps86
 go_wp2_with fail
 refine HCOL.out.mono ?_
 rintro e w2 ⟨v, ss, rfl, ⟨hall, hlen⟩, hrow, hb2⟩
 have HALL := Lib.hid hall
 have hs1 := HB1.out.size
 have hb02 := Lib.hid (HB1.out.trans (hb2.mono hs1))
 have HSRT := Lib.hid (sortk_c ss v W.heap.size w2 hrow (by omega) hb2.size)
 obtain ⟨A, n1, c, rfl⟩ := own_shape hrow
 clear hall hrow hlen hs1 hb2 HCOL
 go_wp2_with fail
 refine HSRT.out.mono ?_
 rintro e w3 ⟨rfl, ks, hp, hs, hlc, hb3, hsz⟩
 have hlen : n1 = ks.length := by
  obtain ⟨A2, c2, he, _⟩ := hlc.form
  simp only [List.cons.injEq, and_true, Value.slice.injEq] at he
  exact he.2.1
 subst hlen
 have HL := Lib.hid (listK_of HALL.out hp hs)
 have HLC := Lib.hid (hlc.mono (Q' := fun q => w.heap.size ≤ q ∧ q < w3.heap.size) (fun h => h) (fun q hq => ⟨Nat.le_trans HB1.out.size hq.1, hq.2⟩))
 have HB3 := Lib.hid (show Below w.heap.size w w3 from hb02.out.trans (hb3.mono HB1.out.size))
 clear hp hs hlc hb3 hsz HSRT HALL
 go_wp2_with fail
 go_ret
 exact ⟨A, c, ks, rfl, HL.out, HLC.out, HB3.out⟩
set_option maxHeartbeats 1000000 in
theorem list_c (L b : Nat) (y m p ne : Int) (n : Nat) (f : KK → Bool) (w : World) (h : LkC w L b y m p ne n f) (hn : n ≤ 1000) : Calls Try.prog 49 #[.pointer (some ⟨L, 0, none⟩)] w (ListPost f w) := by
 have HS := Lib.hid (sortedK_c b n f w h.2.1 hn)
 have c4 := blk_cell h.1 4
 have HK := Lib.hid (keysK_c b w)
 clear h
 go_enter Try.func49, Try.ntmps49
 go_wp2_with fail
 refine HK.out.mono ?_
 rintro e w2 ⟨rfl, rfl⟩
 go_wp2_with fail
 refine HS.out.mono ?_
 rintro e w3 ⟨A, c, ks, rfl, h1, h2, h3⟩
 have H1 := Lib.hid h1
 have H2 := Lib.hid h2
 have H3 := Lib.hid h3
 clear h1 h2 h3
 obtain ⟨k, hk⟩ : ∃ k, ks.length = k := ⟨_, rfl⟩
 have HKK := Lib.hid hk
 rw [hk]
 clear hk
 go_wp2_with fail
 go_ret
 exact ⟨A, c, ks, by rw [HKK.out]; rfl, H1.out, H2.out, H3.out⟩
end Go.Proofs.Ytebdajkknkapcaa
namespace Go.Proofs.Ytebdajkknkapcaa
open Go Go.RowKit
theorem ck_val {y m p ne : Int} {f : KK → Bool} {e d r M : Int} (hin : 0 ≤ e ∧ e < ne) (hp : ∀ c, f c = true → 0 ≤ c.1.2) (hM : MostP f e M) (h : (e < 0 ∨ ne ≤ e) ∧ r = 1 ∨ ∃ last, MostP f e last ∧ -1 ≤ last ∧ r = chkL y m p ne e d last) : r = chkL y m p ne e d M := by
 rcases h with ⟨h, _⟩ | ⟨last, h1, _, h2⟩
 · omega
 · rw [h1.uniq hp hM] at h2
   exact h2
theorem mostL_succ {e : Int} {ks : List KK} {k : Nat} (hk : k < ks.length) : mostL e (ks.take (k + 1)) = if ks[k].1.1 = e then (if mostL e (ks.take k) < ks[k].1.2 then ks[k].1.2 else mostL e (ks.take k)) else mostL e (ks.take k) := by
 rw [List.take_add_one, List.getElem?_eq_getElem hk]
 exact mostL_snoc e _ _
theorem calLast_in {y m n p : Int} (hc : calB y m n = true) (h0 : 0 ≤ p) (h1 : p < n) : (calLast y m n p).2 = 0 ∧ -100000 ≤ (calLast y m n p).1 ∧ (calLast y m n p).1 ≤ 1000000 := by
 have h : calCheck y m n p = 0 := by unfold calCheck; rw [if_pos hc, if_pos ⟨h0, h1⟩]
 unfold calLast
 rw [if_pos h]
 refine ⟨rfl, ?_⟩
 obtain ⟨q, rfl⟩ : ∃ q : Nat, p = (q : Int) := ⟨p.toNat, by omega⟩
 have hin := per_inD (d := lasI (perI y m q)) hc (p := q) (by omega) (mon_las (calB_in hc h0 h1).2.2.2.2.2) (Int.le_refl _)
 unfold inD at hin
 show -100000 ≤ lasI (perI y m q) ∧ lasI (perI y m q) ≤ 1000000
 omega
set_option maxHeartbeats 8000000 in
theorem law_lockUntil (g : XGroup) (l : List XStep) (gl : List Value) (A : Option Addr) (c : Nat) (a0 : Int) (w : World) (hg : GroupC w (· < w.heap.size) gl g) (hsz : szG g) (hl : ListC StepC 3 w (· < w.heap.size) [.slice A l.length c] l) (hab : intBd a0) :
 Calls Try.prog 11 #[.agg gl.toArray, .slice A l.length c, .int .i64 a0] w (Quiet w (.bool true)) := by
 have HFEW := Lib.hid (fun (w2 : World) (hb : Below w.heap.size w w2) => few_v hg hsz hb)
 have HVAL := Lib.hid (fun (hf : fewG g) => rgroup_v hg hf.small)
 have HFIL := Lib.hid (fun (l2 : List XStep) (B : Option Addr) (d : Nat) (w2 : World) (hb : Below w.heap.size w w2) (hf : fewG g) (hv : groupB g = true) (h2 : ListC StepC 3 w2 (· < w2.heap.size) [.slice B l2.length d] l2) (hn : l2.length ≤ 1000) => filled_c g gl l2 B d w2 (hg.keep hb) hf.small hv h2 hn)
 have HGS := Lib.hid (show gl.toArray.size = 21 by have := hg.len; simpa using this)
 obtain ⟨Ac0, cc0, Ae0, ce0, _, hv20, _, v1, v2, v3, _, _⟩ := hg.view
 have HL := Lib.hid hl
 have hcap := hl.cap
 unfold maxLen at hcap
 have HCAL := Lib.hid (fun (h : groupB g = true) => groupB_cal h)
 unfold FillPost at HFIL
 obtain ⟨yy, hyy⟩ : ∃ y, g.calendar.year = y := ⟨_, rfl⟩
 obtain ⟨mm, hmm⟩ : ∃ y, g.calendar.month = y := ⟨_, rfl⟩
 obtain ⟨pp, hpp⟩ : ∃ y, g.calendar.periods = y := ⟨_, rfl⟩
 obtain ⟨ne, hne⟩ : ∃ y, g.entities.length = y := ⟨_, rfl⟩
 rw [hyy, hmm, hpp, hne] at HFIL
 rw [hyy, hmm, hpp] at HCAL
 rw [hne] at hv20
 rw [hyy] at v1
 rw [hmm] at v2
 rw [hpp] at v3
 have V20 := Lib.hid hv20
 have VY := Lib.hid v1
 have VM := Lib.hid v2
 have VN := Lib.hid v3
 obtain ⟨fw, hfw⟩ : ∃ p : Prop, fewG g = p := ⟨_, rfl⟩
 rw [hfw] at HFEW HVAL HFIL
 obtain ⟨bg, hbg⟩ : ∃ b, groupB g = b := ⟨_, rfl⟩
 rw [hbg] at HVAL HFIL HCAL
 obtain ⟨n, hnl⟩ : ∃ n, l.length = n := ⟨_, rfl⟩
 have HN := Lib.hid hnl
 rw [hnl] at hcap ⊢
 clear hg hsz hl hyy hmm hpp hne hfw hbg hnl hv20 v1 v2 v3
 go_enter Try.func11, Try.ntmps11
 go_upto_region 1 with fail
 have H1 := heap_alloc_new w (.cells gl.toArray 29)
 have HB1 := below1 w (.cells gl.toArray 29)
 have HS1 : w.heap.size < (w.alloc (.cells gl.toArray 29)).heap.size := blk_lt H1
 generalize hW1 : w.alloc (Obj.cells gl.toArray 29) = W2 at *
 clear hW1
 have HH2 := Lib.hid H1
 have hb02 := HB1
 have LT02 := HS1
 clear H1 HB1 HS1
 go_wp2_with fail
 refine (awake13_c W2).mono ?_
 rintro e w3 ⟨rfl, hb3⟩
 have hb03 := hb02.trans (hb3.mono hb02.size)
 have hs3 := hb3.size
 have LT03 := Nat.lt_of_lt_of_le LT02 hs3
 have HH3 := Lib.hid ((hb3.block _ LT02).trans HH2.out)
 go_wp2_with (show wpList _ _ _ (Oper.mk (some 18) _ _ _ _ _ :: _) _ _; refine wpList_load_row_g rfl 29 (.tmp 3) rfl (w.heap.size) rfl _ _ _ _ HH3.out Try.underlying29 rfl (by rw [info_group]; exact congrArg some HGS.out.symm) ?_)
 refine (HFEW.out w3 hb03).mono ?_
 rintro e w4 ⟨bf, rfl, hf, hb4⟩
 have hb04 := hb03.trans (hb4.mono hb03.size)
 have hs4 := hb4.size
 have LT04 := Nat.lt_of_lt_of_le LT03 hs4
 have HH4 := Lib.hid ((hb4.block _ LT03).trans HH3.out)
 cases bf with
 | false =>
  clear hf
  go_wp2_with fail
  refine (awake13_c w4).mono ?_
  rintro e wz ⟨rfl, hbz⟩
  go_wp2_with fail
  go_ret
  exact ⟨rfl, hb04.trans (hbz.mono hb04.size)⟩
 | true =>
 have HFP := Lib.hid (hf rfl)
 clear hf
 by_cases h30 : n ≤ 30
 case neg =>
  have h30d : decide ((30 : Int) < (n : Int)) = true := decide_eq_true (by omega)
  clear h30
  go_wp2_with fail
  refine (awake13_c w4).mono ?_
  rintro e wz ⟨rfl, hbz⟩
  go_wp2_with fail
  go_ret
  exact ⟨rfl, hb04.trans (hbz.mono hb04.size)⟩
 case pos =>
 have h30d : decide ((30 : Int) < (n : Int)) = false := decide_eq_false (by omega)
 go_wp2_with (show wpList _ _ _ (Oper.mk (some 28) _ _ _ _ _ :: _) _ _; refine wpList_load_row_g rfl 29 (.tmp 3) rfl (w.heap.size) rfl _ _ _ _ HH4.out Try.underlying29 rfl (by rw [info_group]; exact congrArg some HGS.out.symm) ?_)
 refine (HVAL.out HFP.out w4 hb04).mono ?_
 rintro e w5 ⟨rfl, hb5⟩
 have hb05 := hb04.trans (hb5.mono hb04.size)
 have hs5 := hb5.size
 have LT05 := Nat.lt_of_lt_of_le LT04 hs5
 have HH5 := Lib.hid ((hb5.block _ LT04).trans HH4.out)
 cases bg with
 | false =>
  go_wp2_with fail
  refine (awake13_c w5).mono ?_
  rintro e wz ⟨rfl, hbz⟩
  go_wp2_with fail
  go_ret
  exact ⟨rfl, hb05.trans (hbz.mono hb05.size)⟩
 | true =>
 by_cases he0 : a0 < 0
 case pos =>
  have he0d : decide (a0 < 0) = true := decide_eq_true he0
  clear he0
  go_wp2_with fail
  refine (awake13_c w5).mono ?_
  rintro e wz ⟨rfl, hbz⟩
  go_wp2_with fail
  go_ret
  exact ⟨rfl, hb05.trans (hbz.mono hb05.size)⟩
 case neg =>
 have he0d : decide (a0 < 0) = false := decide_eq_false he0
 have g20 : w5.cell? ⟨w.heap.size, 20, none⟩ = some (.slice Ae0 ne ce0) := (blk_cell HH5.out 20).trans (by simpa using V20.out)
 by_cases he1 : (ne : Int) ≤ a0
 case pos =>
  have he1d : decide ((ne : Int) ≤ a0) = true := decide_eq_true he1
  clear he0 he1
  go_wp2_with fail
  refine (awake13_c w5).mono ?_
  rintro e wz ⟨rfl, hbz⟩
  go_wp2_with fail
  go_ret
  exact ⟨rfl, hb05.trans (hbz.mono hb05.size)⟩
 case neg =>
 have he1d : decide ((ne : Int) ≤ a0) = false := decide_eq_false he1
 have HIN := Lib.hid (show 0 ≤ a0 ∧ a0 < (ne : Int) by omega)
 clear he0 he1
 have hfil := HFIL.out l A c w5 hb05 HFP.out (by first | rfl | trivial) (by have h := steps_keep HL.out hb05; exact h) (by have := HN.out; omega)
 rw [HN.out] at hfil
 have HF1 := Lib.hid hfil
 clear hfil
 go_wp2_with (show wpList _ _ _ (Oper.mk (some 44) _ _ _ _ _ :: _) _ _; refine wpList_load_row_g rfl 29 (.tmp 3) rfl (w.heap.size) rfl _ _ _ _ HH5.out Try.underlying29 rfl (by rw [info_group]; exact congrArg some HGS.out.symm) ?_)
 refine HF1.out.mono ?_
 rintro e w6 ⟨L, b, n1, rfl, hn1, hlk, hL1, hb1, hb6⟩
 have hb06 := hb05.trans (hb6.mono hb05.size)
 have hs6 := hb6.size
 have LT06 := Nat.lt_of_lt_of_le LT05 hs6
 have HH6 := Lib.hid ((hb6.block _ LT05).trans HH5.out)
 have HLK6 := Lib.hid hlk
 have HLS := Lib.hid (list_c L b yy mm pp (ne : Int) n1 _ w6 hlk (by omega))
 have HRNG := Lib.hid (allF_range pp (ne : Int) l)
 have HPOS := Lib.hid (allF_pos (p := pp) (ne := (ne : Int)) (l := l) (calB_in (q := 0) (HCAL.out (by first | rfl | trivial)) (Int.le_refl 0) (by have := HCAL.out (by first | rfl | trivial); unfold calB at this; simp at this; omega)).2.2.2.2.1)
 obtain ⟨f, hf⟩ : ∃ f, allF pp (ne : Int) l = f := ⟨_, rfl⟩
 rw [hf] at HLK6 HLS HPOS HRNG
 clear hlk hn1 hL1 hb1 HF1 hf g20 he0d he1d h30d
 go_wp2_with fail
 refine HLS.out.mono ?_
 rintro e w7 ⟨Ak, ck, ks, rfl, hks, hlc, hb7⟩
 have hb07 := hb06.trans (hb7.mono hb06.size)
 have hs7 := hb7.size
 have LT07 := Nat.lt_of_lt_of_le LT06 hs7
 have HH7 := Lib.hid ((hb7.block _ LT06).trans HH6.out)
 have HKS := Lib.hid hks
 have HLC := Lib.hid hlc
 have HLK7 := Lib.hid (HLK6.out.below hb7)
 obtain ⟨kn, hkn⟩ : ∃ k, ks.length = k := ⟨_, rfl⟩
 have HKN := Lib.hid hkn
 have hkc := hlc.cap
 unfold maxLen at hkc
 rw [hkn] at hkc ⊢
 clear hks hlc hkn HLS HLK6
 go_wp2_with fail
 go_loopw [8, 52] (fun v i wr => ∃ k : Nat, k ≤ kn ∧ i = .int .i64 (k : Int) ∧ v = .int .i64 (mostL a0 (ks.take k)) ∧ Below w7.heap.size w7 wr) (fun _ i _ => kn - (intOf i).toNat)
 case atStart => exact ⟨0, by omega, rfl, rfl, Below.refl _ _⟩
 case round =>
  obtain ⟨k, hk, rfl, rfl, hb8⟩ := hrel
  generalize wr = w8 at *
  have hb08 := hb07.trans (hb8.mono hb07.size)
  have hs8 := hb8.size
  have LT08 := Nat.lt_of_lt_of_le LT07 hs8
  have HH8 := Lib.hid ((hb8.block _ LT07).trans HH7.out)
  have HB8 := Lib.hid hb8
  by_cases hlt : k < kn
  case pos =>
   have hltI : (k : Int) < (kn : Int) := by omega
   have hkl : k < ks.length := by rw [HKN.out]; exact hlt
   obtain ⟨ab, ao, cs, hAe, hbw, hes, hat⟩ := ListC.get HLC.out k hkl
   subst hAe
   have hcs : cs = kL ks[k] := hes
   subst hcs
   have HST := Lib.hid (mostL_succ (e := a0) hkl)
   obtain ⟨x, hx⟩ : ∃ x, ks[k] = x := ⟨_, rfl⟩
   have hxm := (HKS.out.2 _).1 (List.getElem_mem hkl)
   rw [hx] at hat hxm HST
   have hxr := HRNG.out _ hxm
   obtain ⟨⟨xa, xb⟩, hxx⟩ := x
   replace HST := Lib.hid (show mostL a0 (ks.take (k + 1)) = if xa = a0 then (if mostL a0 (ks.take k) < xb then xb else mostL a0 (ks.take k)) else mostL a0 (ks.take k) from HST.out)
   have HAT := Lib.hid (show w8.rangeAt ab (ao + k * 2) [.int .i64 xa, .int .i64 xb] from (hat.fr ((Fr.ofBelow hb8).mono (fun q (hq : w6.heap.size ≤ q ∧ q < w7.heap.size) => hq.2))).range)
   obtain ⟨M, hM⟩ : ∃ M, mostL a0 (ks.take k) = M := ⟨_, rfl⟩
   rw [hM] at HST ⊢
   have hnz : 0 < kn := by omega
   clear hes hat hx hbw hM hxm hxr hxx hb8
   go_upto_region 10 with (first | (show wpList _ _ _ (Oper.mk (some 55) _ _ _ _ _ :: _) _ _; refine wpList_load_mid rfl 90 (.tmp 54) rfl ab (ao + k * 2) rfl [.int .i64 xa, .int .i64 xb] _ HAT.out Try.underlying90 rfl info_lock ?_) | (show wpList _ _ _ (Oper.mk none (Op.store _ (Operand.tmp 10) _) _ _ _ _ :: _) _ _; refine wpList_store_fresh3 rfl 90 (.tmp 10) (.tmp 55) rfl rfl w8 #[.int .i64 0, .int .i64 0] 90 #[.int .i64 xa, .int .i64 xb] rfl rfl rfl info_lock rfl (by simp [Value.oneCell']) ?_; intro wx HX HBX HSX))
   have c0 := blk_cell HX 0
   have c1 := blk_cell HX 1
   have HBX2 := Lib.hid (HB8.out.trans (HBX.mono HB8.out.size))
   clear HX HSX HBX
   by_cases hse : xa = a0
   case neg =>
    have hseb : (xa == a0) = false := by simpa using hse
    have HEQ := Lib.hid (show mostL a0 (ks.take (k + 1)) = M by rw [HST.out, if_neg hse])
    clear hse
    go_wp2_with fail
    go_roundw
    case rel => exact ⟨k + 1, by omega, by go_num, by rw [HEQ.out], HBX2.out⟩
    case measure => first | exact meas_v hlt | (simp only [intOf]; omega)
   case pos =>
    have hseb : (xa == a0) = true := by simpa using hse
    have HEQ := Lib.hid (show mostL a0 (ks.take (k + 1)) = if M < xb then xb else M by rw [HST.out, if_pos hse])
    clear hse
    go_wp2_with fail
    go_roundw
    case rel => exact ⟨k + 1, by omega, by go_num, by rw [HEQ.out]; exact congrArg (Value.int .i64) (by split <;> omega), HBX2.out⟩
    case measure => first | exact meas_v hlt | (simp only [intOf]; omega)
  case neg =>
   have hltI : ¬ (k : Int) < (kn : Int) := by omega
   have hkn : k = ks.length := by have := HKN.out; omega
   have hM2 : mostL a0 (ks.take k) = mostL a0 ks := by rw [hkn, List.take_length]
   rw [hM2]
   have HMO := Lib.hid (mostL_most (e := a0) HKS.out)
   have hge := (mostL_fold a0 ks (-1)).1
   have hge2 : -1 ≤ mostL a0 ks := hge
   have hlt2 : mostL a0 ks < pp := by
    rcases HMO.out.2 with h | ⟨c, h1, _, h3⟩
    · have := (calB_in (q := 0) (HCAL.out (by first | rfl | trivial)) (Int.le_refl 0) (by have := HCAL.out (by first | rfl | trivial); unfold calB at this; simp at this; omega)).2.2.2.1
      omega
    · have := (HRNG.out c h1).2
      omega
   obtain ⟨M, hM⟩ : ∃ M, mostL a0 ks = M := ⟨_, rfl⟩
   rw [hM] at HMO hge2 hlt2 ⊢
   have HUN := Lib.hid (until_c L b yy mm pp (ne : Int) n1 f a0 w8 (HLK7.out.below hb8) HPOS.out)
   have HLK8 := Lib.hid (HLK7.out.below hb8)
   clear hM hM2 hkn hge HLK7 hb8 HLC HKS HKN
   go_wp2_with fail
   refine HUN.out.mono ?_
   rintro e w9 ⟨last, hlast, _, rfl, hb9⟩
   obtain rfl : last = M := hlast.uniq (fun c hc => (HPOS.out c hc).1) HMO.out
   have HLK9 := Lib.hid (HLK8.out.below hb9)
   have hb09 := hb08.trans (hb9.mono hb08.size)
   have hs9 := hb9.size
   have LT09 := Nat.lt_of_lt_of_le LT08 hs9
   have HH9 := Lib.hid ((hb9.block _ LT08).trans HH8.out)
   clear hlast HUN HLK8 hb9
   by_cases hneg : last < 0
   case pos =>
    have hd1 : decide (last < 0) = true := decide_eq_true hneg
    have hd2 : decide (0 ≤ last) = false := decide_eq_false (by omega)
    have hu : untD yy mm pp last = 0 := if_pos hneg
    rw [hd2, hu]
    clear hu
    go_wp2_with fail
    refine (show Calls Try.prog 16 #[.pointer (some ⟨L, 0, none⟩), .agg #[.int .i64 0, .int .i64 a0, .int .i64 (0), .int .i64 0, .int .i64 0, .string ⟨#[]⟩, .slice none 0 0]] w9 _ from lcheck_c L b yy mm pp (ne : Int) _ _ 0 a0 (0) 0 0 _ none 0 0 w9 HLK9.out HPOS.out).mono ?_
    rintro e wa ⟨rwa, rfl, hr, hbc⟩
    have hck := ck_val HIN.out (fun c hc => (HPOS.out c hc).1) HMO.out hr
    have hz : rwa = 0 := by
     rw [hck]
     unfold chkL
     rw [if_neg (by have := HIN.out; omega), if_neg (by omega)]
    subst hz
    have hb0a := hb09.trans (hbc.mono hb09.size)
    clear hr hbc hck
    go_wp2_with fail
    go_ret
    exact ⟨rfl, hb0a⟩
   case neg =>
    have hd1 : decide (last < 0) = false := decide_eq_false hneg
    have hd2 : decide (0 ≤ last) = true := decide_eq_true (by omega)
    have hu : untD yy mm pp last = (calLast yy mm pp last).1 := if_neg hneg
    have HU := Lib.hid hu
    rw [hd2, hu]
    obtain ⟨hz2, hz3, hz4⟩ := calLast_in (HCAL.out (by first | rfl | trivial)) (p := last) (by omega) hlt2
    have HCR := Lib.hid (cal_range HH9.out VY.out VM.out VN.out)
    have hcl := calLast_c yy mm pp last w9
    rw [hz2] at hcl
    obtain ⟨D, hD⟩ : ∃ D, (calLast yy mm pp last).1 = D := ⟨_, rfl⟩
    rw [hD] at hcl HU hz3 hz4 ⊢
    have HCL := Lib.hid hcl
    have HGE := Lib.hid (show 0 ≤ last by omega)
    clear hu hcl hD hz2
    go_wp2_with (show wpList _ _ _ (Oper.mk (some 88) _ _ _ _ _ :: _) _ _; refine wpList_load_mid rfl 23 (.tmp 87) rfl w.heap.size 1 rfl [.int .i64 yy, .int .i64 mm, .int .i64 pp] _ HCR.out Try.underlying23 rfl info_cal ?_)
    refine HCL.out.mono ?_
    rintro e wb ⟨rfl, hbb⟩
    have HLKb := Lib.hid (HLK9.out.below hbb)
    have hb0b := hb09.trans (hbb.mono hb09.size)
    have hDD : (D == D) = true := by simp
    clear hbb
    go_wp2_with fail
    refine (show Calls Try.prog 16 #[.pointer (some ⟨L, 0, none⟩), .agg #[.int .i64 0, .int .i64 a0, .int .i64 (D), .int .i64 0, .int .i64 0, .string ⟨#[]⟩, .slice none 0 0]] wb _ from lcheck_c L b yy mm pp (ne : Int) _ _ 0 a0 (D) 0 0 _ none 0 0 wb HLKb.out HPOS.out).mono ?_
    rintro e wa ⟨rwa, rfl, hr, hbc⟩
    have hck := ck_val HIN.out (fun c hc => (HPOS.out c hc).1) HMO.out hr
    have hz : rwa = 12 := by
     rw [hck]
     unfold chkL
     rw [if_neg (by have := HIN.out; omega), if_pos ⟨HGE.out, by rw [HU.out]; exact Int.le_refl _⟩]
    subst hz
    have HLKa := Lib.hid (HLKb.out.below hbc)
    have hb0a := hb0b.trans (hbc.mono hb0b.size)
    clear hr hbc hck
    go_wp2_with fail
    refine (show Calls Try.prog 16 #[.pointer (some ⟨L, 0, none⟩), .agg #[.int .i64 0, .int .i64 a0, .int .i64 (D + 1), .int .i64 0, .int .i64 0, .string ⟨#[]⟩, .slice none 0 0]] wa _ from lcheck_c L b yy mm pp (ne : Int) _ _ 0 a0 (D + 1) 0 0 _ none 0 0 wa HLKa.out HPOS.out).mono ?_
    rintro e wd ⟨rwd, rfl, hr, hbc⟩
    have hck := ck_val HIN.out (fun c hc => (HPOS.out c hc).1) HMO.out hr
    have hz : rwd = 0 := by
     rw [hck]
     unfold chkL
     rw [if_neg (by have := HIN.out; omega), if_neg (by rw [HU.out]; omega)]
    subst hz
    have hb0d := hb0a.trans (hbc.mono hb0a.size)
    clear hr hbc hck
    go_wp2_with fail
    go_ret
    exact ⟨rfl, hb0d⟩
end Go.Proofs.Ytebdajkknkapcaa
