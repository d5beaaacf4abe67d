/- slices.SortFunc at locks: laid by the kit's tool, its contract in this claim's words. Written by gen_k14.py (out of F6.tpl). -/
import Derived.Test.YtebdajkknkapcaaG9xB0B2
import Derived.Test.YtebdajkknkapcaaG9xB3B8
import Derived.Test.YtebdajkknkapcaaG9xB9B13
import Derived.Test.YtebdajkknkapcaaG9xB14
import Derived.Test.YtebdajkknkapcaaG9xB16
import Derived.Test.YtebdajkknkapcaaG9xB17B24
import Derived.Test.YtebdajkknkapcaaG9xB29B32
import Derived.Test.YtebdajkknkapcaaG9xB33C3
import Derived.Test.YtebdajkknkapcaaG9xC4I5
import Derived.Test.YtebdajkknkapcaaG9xI7Q2
import Derived.Test.YtebdajkknkapcaaG9xK1K12
import Derived.Test.YtebdajkknkapcaaG9xT1K13
import Derived.Test.YtebdajkknkapcaaProg
import Derived.Shelf.SlSortCmp.WholeK
import Derived.Shelf.SlSortCmp.NoneTotal
import Derived.Shelf.SlIter.Collect
import Derived.Maps.OwnSet
import Derived.RangeFuncGives
import Derived.Maps.AppendAt
import Derived.RangeFuncBound
set_option linter.unusedVariables false
set_option linter.unusedSimpArgs false
set_option maxRecDepth 4000
attribute [local go_sem ↓] Go.wp_at_zero Go.wp_at_succ
namespace Go.Proofs.Ytebdajkknkapcaa
open Go Go.RowKit Go.Shelf Go.Lib
open Go.Sort hiding Below
def sortK_ren : Go.Shelf.Ren := ⟨fun | 6 => 129 | 15 => 115 | 14 => 163 | 28 => 160 | 29 => 161 | 20 => 181 | 21 => 182 | 22 => 183 | 23 => 184 | 24 => 185 | 25 => 186 | 26 => 187 | 27 => 188 | 46 => 196 | 47 => 177 | 48 => 178 | 49 => 197 | 50 => 198 | 57 => 200 | n => n, fun | 22 => 85 | 24 => 90 | 25 => 144 | 3 => 3 | 39 => 168 | 0 => 0 | 53 => 205 | 55 => 207 | 4 => 4 | 46 => 199 | 45 => 198 | 50 => 50 | 5 => 5 | 9 => 9 | 66 => 219 | 70 => 223 | 76 => 234 | 77 => 235 | n => n, fun | n => n⟩
theorem sortK : Go.Proofs.SlLaysF0.n6 Try.prog sortK_ren := {
 mixed := by kernel_rfl,
 f6 := ⟨Try.f129.name, by decide, Try.func129.trans (congrArg some (by kernel_rfl))⟩,
 f14 := ⟨Try.f163.name, by decide, Try.func163.trans (congrArg some (by kernel_rfl))⟩,
 f15 := Try.func115.trans (congrArg some (by kernel_rfl)),
 f20 := ⟨Try.f181.name, by decide, Try.func181.trans (congrArg some (by kernel_rfl))⟩,
 f21 := ⟨Try.f182.name, by decide, Try.func182.trans (congrArg some (by kernel_rfl))⟩,
 f22 := ⟨Try.f183.name, by decide, Try.func183.trans (congrArg some (by kernel_rfl))⟩,
 f23 := ⟨Try.f184.name, by decide, Try.func184.trans (congrArg some (by kernel_rfl))⟩,
 f24 := ⟨Try.f185.name, by decide, Try.func185.trans (congrArg some (by kernel_rfl))⟩,
 f25 := ⟨Try.f186.name, by decide, Try.func186.trans (congrArg some (by kernel_rfl))⟩,
 f26 := ⟨Try.f187.name, by decide, Try.func187.trans (congrArg some (by kernel_rfl))⟩,
 f27 := ⟨Try.f188.name, by decide, Try.func188.trans (congrArg some (by kernel_rfl))⟩,
 f28 := Try.func160.trans (congrArg some (by kernel_rfl)),
 f29 := Try.func161.trans (congrArg some (by kernel_rfl)),
 f46 := ⟨Try.f196.name, by decide, Try.func196.trans (congrArg some (by kernel_rfl))⟩,
 f47 := Try.func177.trans (congrArg some (by kernel_rfl)),
 f48 := Try.func178.trans (congrArg some (by kernel_rfl)),
 f49 := ⟨Try.f197.name, by decide, Try.func197.trans (congrArg some (by kernel_rfl))⟩,
 f50 := ⟨Try.f198.name, by decide, Try.func198.trans (congrArg some (by kernel_rfl))⟩,
 f57 := ⟨Try.f200.name, by decide, Try.func200.trans (congrArg some (by kernel_rfl))⟩,
 t0 := Try.underlying0,
 a0 := Try.isAgg0,
 z0 := Try.sizeOf0,
 v0 := Try.zeroValue0,
 t3 := Try.underlying3,
 a3 := Try.isAgg3,
 z3 := Try.sizeOf3,
 v3 := Try.zeroValue3,
 t4 := Try.underlying4,
 a4 := Try.isAgg4,
 z4 := Try.sizeOf4,
 v4 := Try.zeroValue4,
 t5 := Try.underlying5,
 a5 := Try.isAgg5,
 z5 := Try.sizeOf5,
 v5 := Try.zeroValue5,
 t9 := Try.underlying9,
 a9 := Try.isAgg9,
 z9 := Try.sizeOf9,
 v9 := Try.zeroValue9,
 t22 := Try.underlying85,
 a22 := Try.isAgg85,
 z22 := Try.sizeOf85,
 v22 := Try.zeroValue85,
 t25 := Try.underlying144,
 a25 := Try.isAgg144,
 z25 := Try.sizeOf144,
 v25 := Try.zeroValue144,
 t39 := Try.underlying168,
 a39 := Try.isAgg168,
 z39 := Try.sizeOf168,
 v39 := Try.zeroValue168,
 t45 := Try.underlying198,
 a45 := Try.isAgg198,
 z45 := Try.sizeOf198,
 v45 := Try.zeroValue198,
 t46 := Try.underlying199,
 a46 := Try.isAgg199,
 z46 := Try.sizeOf199,
 v46 := Try.zeroValue199,
 t50 := Try.underlying50,
 a50 := Try.isAgg50,
 z50 := Try.sizeOf50,
 v50 := Try.zeroValue50,
 t53 := Try.underlying205,
 a53 := Try.isAgg205,
 z53 := Try.sizeOf205,
 v53 := Try.zeroValue205,
 t55 := Try.underlying207,
 a55 := Try.isAgg207,
 z55 := Try.sizeOf207,
 v55 := Try.zeroValue207,
 t66 := Try.underlying219,
 a66 := Try.isAgg219,
 z66 := Try.sizeOf219,
 v66 := Try.zeroValue219,
 t70 := Try.underlying223,
 a70 := Try.isAgg223,
 z70 := Try.sizeOf223,
 v70 := Try.zeroValue223,
 t76 := Try.underlying234,
 a76 := Try.isAgg234,
 z76 := Try.sizeOf234,
 v76 := Try.zeroValue234,
 t77 := Try.underlying235,
 a77 := Try.isAgg235,
 z77 := Try.sizeOf235,
 v77 := Try.zeroValue235 }
theorem ltOf_cmpK (x y : KK) : ltOf cmpK x y = true ↔ ltK x y := by
 unfold ltOf cmpK orI cmpI ltK
 rw [decide_eq_true_iff]
 by_cases h1 : x.1.1 < y.1.1
 · simp [h1]
 · by_cases h2 : y.1.1 < x.1.1
   · simp [h1, h2]; omega
   · have e : x.1.1 = y.1.1 := by omega
     by_cases h3 : x.1.2 < y.1.2
     · simp [h1, h2, h3, e]
     · by_cases h4 : y.1.2 < x.1.2 <;> simp [h1, h2, h3, h4, e]
theorem swoK : SWO (ltOf cmpK) where
 irrefl x := by
  cases h : ltOf cmpK x x with
  | false => rfl
  | true => exact absurd ((ltOf_cmpK x x).1 h) (ltK_irr x)
 trans x y z h1 h2 := by
  rw [ltOf_cmpK] at *
  unfold ltK at *
  omega
 ntrans x y z h1 h2 := by
  cases h : ltOf cmpK x z with
  | false => rfl
  | true =>
   have a : ¬ ltK x y := fun e => by rw [(ltOf_cmpK x y).2 e] at h1; cases h1
   have b : ¬ ltK y z := fun e => by rw [(ltOf_cmpK y z).2 e] at h2; cases h2
   have c := (ltOf_cmpK x z).1 h
   unfold ltK at *
   omega
instance : Inhabited KK := ⟨⟨(0, 0), kk0⟩⟩
def KC (w : World) (Q : Nat → Prop) (cs : List Value) (c : KK) : Prop := cs = kL c
theorem blk_sortK {w : World} {blk n : Nat} {d : Array KK} {os : Array Obj} : Below w.heap.size w w → w.heap.size ≤ (sortWorldK kL 2 w blk 0 n d os).heap.size ∧ ∀ k, k < w.heap.size → k ≠ blk → (sortWorldK kL 2 w blk 0 n d os).heap[k]? = w.heap[k]? := fun _ => by
 refine ⟨size_sortWorldK_c _ _ _ _ _ _ _ _, fun k hk hne => ?_⟩
 unfold sortWorldK Go.Sort.grow putRowK putRow mapBlock Go.Sort.ahead
 simp only
 rw [Array.getElem?_append_left (by simpa using hk), Array.getElem?_modify, if_neg (fun e => hne e.symm)]
set_option maxHeartbeats 1000000 in
theorem sortk_c (out : List KK) (v : Value) (base : Nat) (w : World) (hown : w.ownsRow base 90 2 v out.length (out.flatMap kL)) (hn : out.length ≤ 1000) (hbase : base ≤ w.heap.size) :
 Calls Try.prog 129 #[v, .func (.func 88) #[] #[]] w (fun e w' => e = .returned (.tuple #[]) ∧ ∃ out' : List KK, out'.Perm out ∧ out'.Pairwise (fun x y => ¬ ltK y x) ∧ ListC KC 2 w' (fun q => base ≤ q ∧ q < w'.heap.size) [v] out' ∧ Below base w w' ∧ w.heap.size ≤ w'.heap.size) := by
 rcases Nat.eq_zero_or_pos out.length with h0 | h0
 · have he : out = [] := List.eq_nil_of_length_eq_zero h0
   subst he
   obtain ⟨p, cap, rfl⟩ : ∃ p cap, v = .slice p 0 cap := by
    rcases hown.2 with ⟨rfl, _⟩ | ⟨g, cap, cur, rfl, _⟩
    · exact ⟨_, _, rfl⟩
    · exact ⟨_, _, rfl⟩
   have hcon := AnyF.slices_SortFunc_none sortK p cap (.func (.func 88) #[] #[]) w
   refine (show Calls Try.prog 129 #[.slice p 0 cap, .func (.func 88) #[] #[]] w _ from hcon).mono ?_
   rintro e w' ⟨rfl, rfl⟩
   refine ⟨rfl, [], List.Perm.refl _, List.Pairwise.nil, ?_, Below.refl _ _, Nat.le_refl _⟩
   have hc : 0 ≤ cap ∧ cap ≤ maxLen := by
    rcases hown.2 with ⟨e, _⟩ | ⟨g, cap', cur, e, _, _, h1, h2, _⟩
    · simp only [Value.slice.injEq] at e
      obtain ⟨_, _, rfl⟩ := e
      exact ⟨Nat.le_refl _, by unfold maxLen; decide⟩
    · simp only [Value.slice.injEq] at e
      obtain ⟨_, _, rfl⟩ := e
      exact ⟨Nat.zero_le _, h2⟩
   exact ⟨p, cap, rfl, hc.1, hc.2, fun h => absurd h (by simp)⟩
 · obtain ⟨g, cap, rfl, hbg, hgw, hcl, hcm⟩ : ∃ g cap, v = .slice (some ⟨g, 0, none⟩) out.length cap ∧ base ≤ g ∧ g < w.heap.size ∧ out.length ≤ cap ∧ cap ≤ maxLen := by
    rcases hown.2 with ⟨_, hz⟩ | ⟨g, cap, cur, hv, h1, h2, h3, h4, _⟩
    · omega
    · exact ⟨g, cap, hv, h1, blk_lt h2, h3, h4⟩
   have hH : HoldsK kL 2 w g 0 out.toArray := by
    intro j hj
    rw [size_flatK] at hj
    have hj' : j < out.length * 2 := by simpa using hj
    rw [get_flatK _ _ _ _ hj]
    have hg := flat_get (f := kL) (k := 2) (by omega) (fun _ => rfl) out j hj'
    have e1 : out.toArray[j / 2]! = out[j / 2]! := by simp
    have hmod : j % 2 < (kL out[j / 2]!).length := by show j % 2 < 2; omega
    rw [List.getElem?_eq_getElem hmod] at hg
    have hc := hown.cells (g := g) rfl j _ hg
    have hf := own_unfrozen hown (g := g) rfl j
    rw [Addr.add_lit] at hc hf
    rw [e1, getElem!_pos (kL out[j / 2]!) (j % 2) hmod]
    exact ⟨hc, hf⟩
   have hcmp : CmpLays Try.prog 88 (#[] : Array Value) kL 2 cmpK g 0 out.toArray.size w := fun m os dk hdk x y => closk_c x y _
   have eg : ∀ args w, (callFunc 88 args).run Try.prog w = .ok (.enter 88 args) w := enters_of Try.func88 (by kernel_rfl) rfl
   have hcon := AnyQ.slices_SortFunc sortK 2 Try.isAgg90 Try.sizeOf90 kL (fun _ => rfl) (fun x v hv => by simp [kL] at hv; rcases hv with rfl | rfl <;> rfl) cmpK swoK 88 #[] g 0 cap out.toArray w eg hcmp hH hgw (by simp; omega)
   have hsz : out.toArray.size = out.length := by simp
   rw [hsz] at hcon
   refine (show Calls Try.prog 129 #[.slice (some ⟨g, 0, none⟩) out.length cap, .func (.func 88) #[] #[]] w _ from hcon).mono ?_
   rintro e w' ⟨rfl, d', n, os, hp, hs, rfl⟩
   obtain ⟨hp1, _, hp3⟩ := hp
   have hd : d'.size = out.length := by simpa using hp1
   have hperm : d'.toList.Perm out := by
    have e1 : (d'.extract 0 out.length).toList = d'.toList := by rw [← hd]; simp
    have e2 : (out.toArray.extract 0 out.length).toList = out := by simp
    rw [e1, e2] at hp3
    exact hp3
   have hH' := holdsK_sortWorldK_c kL 2 w g 0 out.toArray d' n os hH hgw hp1
   obtain ⟨hz1, hz2⟩ := blk_sortK (w := w) (blk := g) (n := n) (d := d') (os := os) (Below.refl _ _)
   refine ⟨rfl, d'.toList, hperm, ?_, ?_, ⟨rfl, rfl, rfl, hz1, fun k hk => hz2 k (by omega) (by omega)⟩, hz1⟩
   · rw [List.pairwise_iff_getElem]
     intro i j hi hj hij hlt
     have hi' : i < d'.size := by simpa using hi
     have hj' : j < d'.size := by simpa using hj
     have h1 := hs i j (Nat.zero_le _) hij (by omega)
     rw [getElem!_pos d' i hi', getElem!_pos d' j hj'] at h1
     have h2 := (ltOf_cmpK d'[j] d'[i]).2 hlt
     rw [h1] at h2
     cases h2
   · have hlen : d'.toList.length = out.length := by simpa using hd
     rw [← hlen]
     refine ⟨_, cap, rfl, by omega, hcm, fun _ => ⟨g, 0, rfl, ⟨hbg, by omega⟩, fun i x hx => ?_⟩⟩
     obtain ⟨hi, hxi⟩ := List.getElem?_eq_some_iff.1 hx
     have hi' : i < d'.size := by simpa using hi
     refine ⟨kL x, rfl, ⟨⟨hbg, by show g < _; omega⟩, fun j u hj => ?_⟩⟩
     have hjl : j < 2 := (List.getElem?_eq_some_iff.1 hj).1
     have hc := hH'.cell hi' hjl
     rw [getElem!_pos d' i hi'] at hc
     have hxd : d'[i] = x := by rw [← hxi]; simp
     rw [hxd, getElem!_pos (kL x) j hjl] at hc
     rw [Addr.add_lit]
     obtain ⟨_, hju⟩ := List.getElem?_eq_some_iff.1 hj
     have hju2 : (kL x)[j]'hjl = u := hju
     exact ⟨hc.1.trans (congrArg some hju2), hc.2⟩
end Go.Proofs.Ytebdajkknkapcaa
namespace Go.Proofs.Ytebdajkknkapcaa
open Go Go.RowKit Go.Shelf
open Go.Maps (Keyed)
def CollK (f : KK → Bool) (left : Lit → Bool) (ss : List KK) : Prop := ss.Nodup ∧ (∀ c, c ∈ ss ↔ (f c = true ∧ left (kKey c) = false)) ∧ ∀ c, left (kKey c) = true → f c = true
theorem CollK.start {f : KK → Bool} {D : UD} (hat : ∀ c, Maps.has D (kKey c) = f c) : CollK f (Maps.has D) [] :=
 ⟨List.nodup_nil, fun c => by rw [hat c]; cases f c <;> simp, fun c hc => by rw [← hat c]; exact hc⟩
theorem CollK.step {f : KK → Bool} {left : Lit → Bool} {ss : List KK} (h : CollK f left ss) {c : KK} (hl : left (kKey c) = true) : CollK f (fun z => left z && !z.sameKey (kKey c)) (ss ++ [c]) := by
 obtain ⟨h1, h2, h3⟩ := h
 have hnew : c ∉ ss := fun hx => by have := ((h2 c).1 hx).2; rw [hl] at this; cases this
 refine ⟨List.nodup_append.2 ⟨h1, by simp, fun a ha b hb => by simp at hb; subst hb; exact fun e => hnew (e ▸ ha)⟩, fun d => ?_, fun d hd => h3 d (by simp at hd; exact hd.1)⟩
 by_cases hd : d = c
 · subst hd
   have hs : (kKey d).sameKey (kKey d) = true := kKey_same.2 rfl
   simp [h3 d hl, hs]
 · have hs : (kKey d).sameKey (kKey c) = false := by
    cases e : (kKey d).sameKey (kKey c) with
    | false => rfl
    | true => exact absurd (kKey_same.1 e) hd
   simp [h2 d, hd, hs]
def AllK (f : KK → Bool) (ss : List KK) : Prop := ss.Nodup ∧ ∀ c, c ∈ ss ↔ f c = true
theorem CollK.done {f : KK → Bool} {left : Lit → Bool} {ss : List KK} (h : CollK f left ss) (hl : ∀ kl, left kl = false) : AllK f ss := ⟨h.1, fun c => by rw [h.2.1 c, hl]; simp⟩
theorem info_lock : (Try.prog.info? 90).map (·.size) = some 2 := by kernel_rfl
theorem wpListIn_load_row {F : Fence} {n : Nat} {P : Program} {ops : Array Oper} {rest : List Oper} {o : Oper} {a : Act} {w : World} {Q : Exit → Act → World → Prop} (hgd : o.guard = none) (ty : TypeId) (x : Operand) (ho : o.op = .load ty x)
 (g : Nat) (hx : a.eval x = .pointer (some ⟨g, 0, none⟩)) (t : TypeId) (cs : Array Value) (fr : Nat × Nat) (d : TypeDesc) (hg : w.heap[g]? = some (.cells cs t fr))
 (hu : P.underlying ty = some d) (hd : (match d with | .struct _ | .array _ _ => true | _ => false) = true) (hi : (P.info? ty).map (·.size) = some cs.size)
 (h : wpListIn F n P ops Q rest (a.put o.dst (.agg cs)) w) : wpListIn F n P ops Q (o :: rest) a w := by
 refine wpListIn_plain hgd fun K hK => ?_
 unfold Oper.wpIn
 refine ⟨by simp [Oper.about, ho], ?_⟩
 rw [Oper.semAt_plain F _ _ (by rw [ho]; intro c hc'; cases hc')]
 have hrun := run_loadVar_row w g t ty cs fr d hg hu hd hi
 unfold execOp
 simp only [ho, hx, Instr.loadAt, Instr.sureAddr, Sem.run_bind, Sem.run_pure, Result.andThen_ok]
 rw [hrun]
 simp only [Result.andThen_ok]
 exact hK _ _ h
theorem keysK_c (b : Nat) (w : World) : Calls Try.prog 87 #[.map (some b)] w (fun e w' => e = .returned (.func (.func 130) #[] #[.pointer (some ⟨w.heap.size, 0, none⟩)]) ∧ w' = w.alloc (.cells #[.map (some b)] 101)) := by
 go_enter Try.func87, Try.ntmps87
 go_wp2_with fail
 go_ret
 exact ⟨rfl, rfl⟩
set_option maxRecDepth 100000 in
set_option maxHeartbeats 1000000 in
theorem keys1K_in (F : Fence) (m : Nat) (hF : F.fn 130) (hro : F.round = none) (hn : 1 ≤ m) (l Bm b n : Nat) (D0 : UD) (f : KK → Bool) (hat : ∀ c, Maps.has D0 (kKey c) = f c) (J : List KK → World → Prop)
 (hY : ∀ pre x W, J pre W → pre.length < Maps.size D0 → YieldAt F (m - 1) Try.prog l #[kVal x] W fun e W' => e = .returned (.bool true) ∧ J (pre ++ [x]) W' ∧ KeepsWalks W W')
 (W : World) (hJ : AbidesFrom W.heap.size J) (hm : W.cell? ⟨Bm, 0, none⟩ = some (.map (some b))) (hown : W.ownsMap Try.prog 90 (plainElem Try.prog 4) b n D0) (h0 : J [] W) :
 CallsIn F m Try.prog 130 #[.func (.yield l) #[] #[], .pointer (some ⟨Bm, 0, none⟩)] W fun e W' => (∃ v, e = .returned v) ∧ ∃ ss : List KK, AllK f ss ∧ J ss W' := by
 have h1 : 1 ≤ m := hn
 refine callsIn_of_wp Try.func130 rfl hF ?_ hro
 simp only [Try.ntmps130, List.size_toArray, List.length_cons, List.length_nil, Nat.reduceAdd, Nat.reduceSub, Array.replicate_succ, Array.replicate_zero, List.push_toArray, List.append_toArray, List.nil_append, List.cons_append]
 gi_wp2_with (gi_at_range; refine wpListIn_range_own _ rfl _ 101 rfl 90 4 lock_keyed kmap_uty _ b n _ rfl hown ?_; intro w0 hrg0 hg0 hs0)
 go_frame
 gi_loopw [3] (fun _ wr => ∃ (left : Lit → Bool) (cnt : Nat) (ss : List KK), wr.ranges Try.prog 90 (plainElem Try.prog 4) b W.heap.size n D0 left cnt ∧ ss.length + cnt ≤ Maps.size D0 ∧ CollK f left ss ∧ J ss wr)
  (fun _ wr => wr.rangeLeft b W.heap.size)
 case atStart =>
  exact ⟨_, _, [], hrg0, by simp, CollK.start hat, hJ [] W w0 none h0 hg0 (fun r e => by cases e)⟩
 case round =>
  obtain ⟨left, cnt, ss, hrg, hcs, hC, hJs⟩ := hrel
  gi_wp2_with (gi_at_next; refine wpListIn_next_ranges _ rfl _ rfl 90 lock_keyed (plainElem Try.prog 4) kVal id (fun key kl hk => lock_inv hk) (fun v _ _ => ⟨v, rfl⟩) b W.heap.size n _ _ _ rfl hrg ?_ ?_)
  · intro hc0 hl0
    gi_wp2
    go_end0
    exact ⟨⟨_, rfl⟩, ss, hC.done hl0, hJs⟩
  · intro xa xb hx c kl yd yp w2 cnt2 hkey hlk hv hat2 hrg2 hlt hg2 hs2 hen
    rw [kKey_of ⟨(xa, xb), hx⟩] at hkey
    obtain rfl := Option.some.inj hkey
    have hJ2 : J ss w2 := hJ ss wr w2 (some W.heap.size) hJs hg2 (fun r e => by cases e; exact ⟨Nat.le_refl _, hrg.iter_walk⟩)
    have hrgA := hrg2.alloc (.cells #[.int .i64 xa, .int .i64 xb] 90)
    have hJA : J ss (w2.alloc (.cells #[.int .i64 xa, .int .i64 xb] 90)) := hJ ss w2 _ none hJ2 (World.grownBy_alloc w2 _ none) (fun r e => by cases e)
    have hst := hC.step (c := ⟨(xa, xb), hx⟩) hlk
    obtain ⟨fn, tmps, assign, body, hy, hR⟩ := hY ss ⟨(xa, xb), hx⟩ _ hJA (by omega)
    simp only [kVal] at hen hy ⊢
    have hh := heap_alloc_new w2 (.cells #[.int .i64 xa, .int .i64 xb] 90)
    have HST := Lib.hid hst
    have HRG := Lib.hid hrg
    have HRGA := Lib.hid hrgA
    clear hs2 hst hv hat2 hg2 hrg hrgA hrg2 hJ2 hJA hC hJs
    gi_wp2_with (show wpListIn _ _ _ _ _ (Oper.mk (some 11) _ _ _ _ _ :: _) _ _; refine wpListIn_load_row rfl 90 (.tmp 3) rfl w2.heap.size rfl _ _ _ _ hh Try.underlying90 rfl info_lock ?_)
    refine hR.mono ?_
    rintro e W3 ⟨rfl, hJ3, hk3⟩
    gi_wp2
    have hrg3 := HRGA.out.of_walks hk3
    go_roundw
    case rel => exact ⟨_, cnt2, ss ++ [⟨(xa, xb), hx⟩], hrg3, by simp; omega, HST.out, hJ3⟩
    case measure => rw [hrg3.left_eq, HRG.out.left_eq]; exact hlt
theorem keysK_gives (F : Fence) (m : Nat) (hF : F.fn 130) (hro : F.round = none) (hn : 1 ≤ m) (Bm b n : Nat) (f : KK → Bool) (w : World) (hBm : Bm < w.heap.size)
 (hm : w.cell? ⟨Bm, 0, none⟩ = some (.map (some b))) (hM : MapL w b n f) :
 SeqGives F m Try.prog 130 #[.pointer (some ⟨Bm, 0, none⟩)] kVal (AllK f) n w := fun l J W hW hJ hY h0 => by
 have hM2 := hM.below hW
 obtain ⟨D, hown, hat⟩ := hM2
 have hsz : Maps.size D ≤ n := hown.size_le
 exact keys1K_in F m hF hro hn l Bm b n D f (fun c => (hat c).1) J (fun pre x W1 h1 h2 => hY pre x W1 h1 (by omega)) W hJ ((hW.cell (p := ⟨Bm, 0, none⟩) hBm).trans hm) hown h0
end Go.Proofs.Ytebdajkknkapcaa
namespace Go.Proofs.Ytebdajkknkapcaa
open Go Go.RowKit Go.Shelf
open Go.Maps (Keyed)
def apA (b : Option Code) : Code := match b with
 | some (.seq _ (.seq (.seq _ (.block _ (.rangeFunc _ _ a _))) _)) => a
 | _ => .ret
def apB (b : Option Code) : Code := match b with
 | some (.seq _ (.seq (.seq _ (.block _ (.rangeFunc _ _ _ b))) _)) => b
 | _ => .ret
def apRec (bd : Option Code) (fn : FuncId) (sv : Value) (Bs D : Nat) (st : LoopState) (pend : Option Code) : Loop :=
 { state := st, pending := pend, fn, tmps := #[.slice none 0 0, sv, .pointer (some ⟨Bs, 0, none⟩), undef, .slice none 0 0, undef, sv, undef, undef, undef, undef, undef, undef], params := #[7], assign := apA bd, body := apB bd, defers := D }
theorem info_lockA : (Try.prog.info? 90).map (fun i => (i.zero, i.size, i.bytes)) = some (some (.agg #[.int .i64 0, .int .i64 0]), 2, 16) := by kernel_rfl
theorem locks_uty : Try.prog.underlying 85 = some (.slice 90) := by kernel_rfl
structure ApAt (w0 : World) (fn : FuncId) (sv : Value) (Bs l D : Nat) (ss : List KK) (W : World) : Prop where
 box : ∃ v, W.heap[Bs]? = some (.cells #[v] 85 (0, 0)) ∧ W.ownsRow w0.heap.size 90 2 v ss.length (ss.flatMap kL)
 L : W.heap[l]? = some (.loop (apRec Try.f162.body fn sv Bs D .ready none))
 K : W.heap[D]? = some (.deferred (some []))
 below : Below w0.heap.size w0 W
theorem ap_abides (w0 : World) (fn : FuncId) (sv : Value) (Bs l D B : Nat) (hB : w0.heap.size ≤ B) : AbidesFrom B (ApAt w0 fn sv Bs l D) := fun s W W' row h hg hrow => by
 have hrow' : ∀ r, row = some r → ∃ o : Obj, W.heap[r]? = some o ∧ o.isWalk = true := fun r e => (hrow r e).2
 obtain ⟨v, hv, hr⟩ := h.box
 exact ⟨⟨v, (grownBy_keeps hg hrow' hv rfl).trans hv, ownsRow_abides_a hr hg hrow'⟩, (grownBy_keeps hg hrow' h.L rfl).trans h.L, (grownBy_keeps hg hrow' h.K rfl).trans h.K,
  h.below.grown hg h.below.size (fun k e => Nat.le_trans hB (hrow k e).1)⟩
set_option maxRecDepth 100000 in
set_option maxHeartbeats 2000000 in
theorem apYield (F : Fence) (m : Nat) (w0 : World) (fn : FuncId) (hfn : F.fn fn) (sv : Value) (Bs l D : Nat) (hBl : Bs ≠ l) (hDl : D ≠ l) (hDB : D ≠ Bs) (h0B : w0.heap.size ≤ Bs) (h0l : w0.heap.size ≤ l)
 (N : Nat) (hN : N ≤ maxLen) (hNb : N * 16 ≤ 140737488355328) (ss : List KK) (x : KK) (W : World) (h : ApAt w0 fn sv Bs l D ss W) (hlen : ss.length < N) :
 YieldAt F m Try.prog l #[kVal x] W fun e W' => e = .returned (.bool true) ∧ ApAt w0 fn sv Bs l D (ss ++ [x]) W' ∧ KeepsWalks W W' := by
 have hne : (85 : TypeId) ≠ 90 := by decide
 obtain ⟨i0, hi, hz0, hz1, hz2⟩ := info_parts info_lockA
 obtain ⟨v, hv, hrow⟩ := h.box
 refine ⟨fn, #[.slice none 0 0, sv, .pointer (some ⟨Bs, 0, none⟩), undef, .slice none 0 0, undef, sv, kVal x, undef, undef, undef, undef, undef], apA Try.f162.body, apB Try.f162.body, by simpa [apRec] using run_yield (P := Try.prog) (args := #[kVal x]) h.L rfl, roundIn_of_wpIn hfn ?_⟩
 obtain ⟨⟨xa, xb⟩, hx⟩ := x
 dsimp only [apA, apB, Try.f162]
 simp only [kVal]
 gi_wp2_with gi_round_op_a
 have hl0 : l < W.heap.size := (Array.getElem?_eq_some_iff.1 h.L).1
 -- the variable's block
 obtain ⟨W1, hW1⟩ : ∃ W1, W.alloc (.cells #[.int .i64 xa, .int .i64 xb] 90) = W1 := ⟨_, rfl⟩
 rw [hW1]
 have hold : ∀ k, k < W.heap.size → W1.heap[k]? = W.heap[k]? := fun k hk => by rw [← hW1]; exact Below.heap_alloc _ _ k hk
 have hs1 : W1.heap.size = W.heap.size + 1 := by rw [← hW1]; simp
 have hvb1 : W1.heap[W.heap.size]? = some (.cells #[.int .i64 xa, .int .i64 xb] 90 (0, 0)) := by rw [← hW1]; exact heap_alloc_new W _
 have hL1 : W1.heap[l]? = some (.loop (apRec Try.f162.body fn sv Bs D .ready none)) := (hold _ hl0).trans h.L
 have hv1 : W1.heap[Bs]? = some (.cells #[v] 85 (0, 0)) := (hold _ (Array.getElem?_eq_some_iff.1 hv).1).trans hv
 have hK1 : W1.heap[D]? = some (.deferred (some [])) := (hold _ (Array.getElem?_eq_some_iff.1 h.K).1).trans h.K
 have hrow1 : W1.ownsRow w0.heap.size 90 2 v ss.length (ss.flatMap kL) := by rw [← hW1]; exact hrow.alloc _
 have hb1 : Below w0.heap.size w0 W1 := by rw [← hW1]; exact h.below.alloc h.below.size _
 have hk1 : KeepsWalks W W1 := by rw [← hW1]; exact KeepsWalks.alloc _ _
 have hbr := run_beginRound (P := Try.prog) hL1 rfl
 obtain ⟨W2, hW2⟩ : ∃ W2, W1.putObj l (.loop { apRec Try.f162.body fn sv Bs D .ready none with state := .busy }) = W2 := ⟨_, rfl⟩
 rw [hW2] at hbr
 have hg2 : W1.grownBy W2 (some l) := by rw [← hW2]; exact grownBy_putObj_a _ _ _
 have hs2 : W2.heap.size = W1.heap.size := by rw [← hW2]; simp
 have hk2 : KeepsWalks W W2 := hk1.trans (by rw [← hW2]; exact KeepsWalks.putObj _ hL1 rfl)
 have hv2 : W2.heap[Bs]? = some (.cells #[v] 85 (0, 0)) := by rw [← hW2]; exact (World.putObj_heap_other hBl).trans hv1
 have hvb2 : W2.heap[W.heap.size]? = some (.cells #[.int .i64 xa, .int .i64 xb] 90 (0, 0)) := by rw [← hW2]; exact (World.putObj_heap_other (by omega)).trans hvb1
 have hK2 : W2.heap[D]? = some (.deferred (some [])) := by rw [← hW2]; exact (World.putObj_heap_other hDl).trans hK1
 have hL2 : W2.heap[l]? = some (.loop { apRec Try.f162.body fn sv Bs D .ready none with state := .busy }) := by rw [← hW2]; exact World.putObj_heap_same (by omega)
 have hrow2 : W2.ownsRow w0.heap.size 90 2 v ss.length (ss.flatMap kL) := hrow1.kept hg2 (ownsRow_ne_a hrow1 hL1 (fun cur e => by first | cases e | exact hne (Obj.cells.inj e).2.1))
 have hb2 : Below w0.heap.size w0 W2 := hb1.grown hg2 hb1.size (fun k e => by cases e; exact h0l)
 obtain ⟨hc2, hf2⟩ := cell_of_box_a hv2
 have hBlt : Bs < W2.heap.size := (Array.getElem?_eq_some_iff.1 hv2).1
 have hl2 : l < W2.heap.size := (Array.getElem?_eq_some_iff.1 hL2).1
 have hDlt : D < W2.heap.size := (Array.getElem?_eq_some_iff.1 hK2).1
 have ne_of : ∀ {j : Nat} {o : Obj}, W2.heap[j]? = some o → (∀ cur, o ≠ .cells cur 90 (0, 0)) → some j ≠ v.ownBlock := fun hj hno => by
  rcases ownsRow_ne_a hrow2 hj hno with e | e
  · rw [e]; simp
  · exact fun e' => e e'.symm
 have HVB := Lib.hid hvb2
 have HS12 := Lib.hid (And.intro hs1 hs2)
 clear hW1 hW2 hold hvb1 hL1 hv1 hK1 hrow1 hb1 hk1 hg2 hvb2 hs1 hs2
 gi_wp2_with (first
  | (show wpListIn _ _ _ _ _ (Oper.mk (some 9) _ _ _ _ _ :: _) _ _; refine wpListIn_load_row rfl 90 (.tmp 5) rfl W.heap.size rfl _ _ _ _ HVB.out Try.underlying90 rfl info_lock ?_)
  | (gi_at_builtin; refine wpListIn_append_own _ rfl _ _ 85 rfl w0.heap.size 90 i0 _ 2 16 locks_uty hi hz0 hz1 hz2 rfl (by decide) _ _ _ rfl (hrow2.alloc _) ⟨W2.heap.size, 0, none⟩ 1 1 [.int .i64 xa, .int .i64 xb] rfl rfl (fun j u hj => (((box_at (heap_alloc_new W2 (.cells #[.int .i64 xa, .int .i64 xb] 90))).2 j u hj).1)) (by simp [Value.oneCell']) (by omega) (by omega) (by have := hb2.size; simp; omega) ?_; intro v' w3 hown' hg3 hnil3
     have hv3 : w3.heap[Bs]? = some (.cells #[v] 85 (0, 0)) := (hg3.block Bs (by simp; omega) (ne_of hv2 (fun cur e => by first | cases e | exact hne (Obj.cells.inj e).2.1))).trans ((Below.heap_alloc _ _ Bs hBlt).trans hv2)
     obtain ⟨hc3, hf3⟩ := cell_of_box_a hv3
     obtain ⟨A3, n3, c3, rfl⟩ := own_shape hown'
     go_frame)
  | gi_round_op_a)
 have hg3' : (W2.alloc (.cells #[.int .i64 xa, .int .i64 xb] 90)).grownBy w3 v.ownBlock := hg3
 have hL3 : w3.heap[l]? = some (.loop { apRec Try.f162.body fn sv Bs D .ready none with state := .busy }) := (hg3'.block l (by simp; omega) (ne_of hL2 (fun cur e => by first | cases e | exact hne (Obj.cells.inj e).2.1))).trans ((Below.heap_alloc _ _ l hl2).trans hL2)
 have hK3 : w3.heap[D]? = some (.deferred (some [])) := (hg3'.block D (by simp; omega) (ne_of hK2 (fun cur e => by first | cases e | exact hne (Obj.cells.inj e).2.1))).trans ((Below.heap_alloc _ _ D hDlt).trans hK2)
 obtain ⟨w4, hw4⟩ : ∃ w4, w3.setCell ⟨Bs, 0, none⟩ (.slice A3 n3 c3) = w4 := ⟨_, rfl⟩
 rw [hw4]
 have hg4 : w3.grownBy w4 (some Bs) := by rw [← hw4]; exact grownBy_setCell0_a _ _ _
 have hv4 : w4.heap[Bs]? = some (.cells #[.slice A3 n3 c3] 85 (0, 0)) := by rw [← hw4]; exact heap_setCell_box_a _ hv3
 have hL4 : w4.heap[l]? = some (.loop { apRec Try.f162.body fn sv Bs D .ready none with state := .busy }) := (hg4.block l (Array.getElem?_eq_some_iff.1 hL3).1 (fun e => hBl (by cases e; rfl))).trans hL3
 have hK4 : w4.heap[D]? = some (.deferred (some [])) := (hg4.block D (Array.getElem?_eq_some_iff.1 hK3).1 (fun e => hDB (by cases e; rfl))).trans hK3
 have hrow4 := hown'.kept hg4 (ownsRow_ne_a hown' hv3 (fun cur e => by first | cases e | exact hne (Obj.cells.inj e).2.1))
 have hl4 : l < w4.heap.size := (Array.getElem?_eq_some_iff.1 hL4).1
 have hb3 : Below w0.heap.size w0 w3 := (hb2.alloc hb2.size _).grown hg3' (by have := hb2.size; simp; omega) (fun k e => (hrow2.lt k e).1)
 have hb4 : Below w0.heap.size w0 w4 := hb3.grown hg4 hb3.size (fun k e => by cases e; exact h0B)
 have hk4 : KeepsWalks W w4 := ((hk2.trans (KeepsWalks.alloc _ _)).trans (KeepsWalks.of_grownBy hg3' (ownsRow_not_walk_a (hrow2.alloc _)))).trans (by rw [← hw4]; exact KeepsWalks.setCell _ _ _)
 clear hw4
 refine ⟨_, _, run_endRound none hL4, rfl, ⟨⟨_, (World.putObj_heap_other hBl).trans hv4, ?_⟩, World.putObj_heap_same hl4, (World.putObj_heap_other hDl).trans hK4, hb4.grown (grownBy_putObj_a _ _ _) hb4.size (fun k e => by cases e; exact h0l)⟩, hk4.trans (KeepsWalks.putObj _ hL4 rfl)⟩
 have hfin := hrow4.kept (grownBy_putObj_a w4 l (.loop { { apRec Try.f162.body fn sv Bs D .ready none with state := .busy } with state := if (none : Option Code).isNone then .ready else .done, pending := none })) (ownsRow_ne_a hrow4 hL4 (fun cur e => by first | cases e | exact hne (Obj.cells.inj e).2.1))
 rw [List.flatMap_append, List.length_append]
 exact hfin
set_option maxRecDepth 100000 in
set_option maxHeartbeats 2000000 in
theorem appendSeqK_in (F : Fence) (n : Nat) (hF : F.fn 162) (hro : F.round = none) (hn : 2 ≤ n) (g : Nat) (lb : Array Value) (hFg : F.fn g) (eg : ∀ args w, (callFunc g args).run Try.prog w = .ok (.enter g args) w)
 (S : List KK → Prop) (N : Nat) (hN : N ≤ maxLen) (hNb : N * 16 ≤ 140737488355328) (w : World) (hseq : SeqGives F (n - 1) Try.prog g lb kVal S N w) :
 CallsIn F n Try.prog 162 #[.slice none 0 0, .func (.func g) #[] lb] w fun e w' => ∃ (v : Value) (ss : List KK), e = .returned v ∧ S ss ∧ w'.ownsRow w.heap.size 90 2 v ss.length (ss.flatMap kL) ∧ Below w.heap.size w w' := by
 have h1 : 1 ≤ n := by omega
 have hne : (85 : TypeId) ≠ 90 := by decide
 refine callsIn_of_wp_marks Try.func162 rfl hF ?_ hro
 simp only [Try.ntmps162, List.size_toArray, List.length_cons, List.length_nil, Nat.reduceAdd, Nat.reduceSub, Array.replicate_succ, Array.replicate_zero, List.push_toArray, List.append_toArray, List.nil_append, List.cons_append]
 gi_wp2
 refine wpIn_rangeFunc ?_
 intro fn hfn
 rw [hro]
 obtain ⟨W0, hW0⟩ : ∃ W0, w.alloc (.cells #[.slice none 0 0] 85) = W0 := ⟨_, rfl⟩
 have hs0 : W0.heap.size = w.heap.size + 1 := by rw [← hW0]; simp
 have hv0 : W0.heap[w.heap.size]? = some (.cells #[.slice none 0 0] 85 (0, 0)) := by rw [← hW0]; exact World.alloc_heap_new w _
 have hb0 : Below w.heap.size w W0 := by rw [← hW0]; exact (Below.refl _ w).alloc (Nat.le_refl _) _
 rw [hW0]
 obtain ⟨W1, hW1⟩ : ∃ W1, (W0.alloc (.deferred (some []))).alloc (.loop (apRec Try.f162.body fn (.func (.func g) #[] lb) w.heap.size W0.heap.size .ready none)) = W1 := ⟨_, rfl⟩
 have hold : ∀ k, k < W0.heap.size → W1.heap[k]? = W0.heap[k]? := fun k hk => by
  rw [← hW1]; exact (Below.heap_alloc _ _ k (by simp; omega)).trans (Below.heap_alloc _ _ k hk)
 have hb1 : Below w.heap.size w W1 := by rw [← hW1]; exact (hb0.alloc hb0.size _).alloc (by have := hb0.size; simp; omega) _
 have hs1 : W1.heap.size = W0.heap.size + 2 := by rw [← hW1]; simp
 have hM : ApAt w fn (.func (.func g) #[] lb) w.heap.size (W0.heap.size + 1) W0.heap.size [] W1 :=
  ⟨⟨_, (hold w.heap.size (by omega)).trans hv0, World.ownsRow_nil _ _ _ _⟩,
   by rw [← hW1]; have := World.alloc_heap_new (W0.alloc (.deferred (some []))) (.loop (apRec Try.f162.body fn (.func (.func g) #[] lb) w.heap.size W0.heap.size .ready none)); rwa [World.size_alloc] at this,
   by rw [← hW1]; exact (Below.heap_alloc _ _ _ (by simp)).trans (World.alloc_heap_new W0 _), hb1⟩
 refine ⟨W0.heap.size + 1, [{ target := .collected W0.heap.size, args := #[] }], W1, { target := .fn (.func g) lb, args := #[.func (.yield (W0.heap.size + 1)) #[] #[]] }, W1, g,
  #[.func (.yield (W0.heap.size + 1)) #[] #[]] ++ lb, W1, ?_, ?_, ?_, ?_, fun _ => h1, ?_⟩
 · rw [← hW1]; exact run_enterLoop_outer _ _ _ _ _
 · simp [resolve, go_sem]
 · intro f' hf'; simp [Target.leads] at hf'; subst hf'; exact hFg
 · simp [invoke, go_sem, eg]
 · refine (hseq (W0.heap.size + 1) (ApAt w fn (.func (.func g) #[] lb) w.heap.size (W0.heap.size + 1) W0.heap.size) W1 hb1 (ap_abides _ _ _ _ _ _ _ hb1.size)
    (fun pre x W hJ hl => apYield F (n - 1 - 1) w fn hfn _ w.heap.size (W0.heap.size + 1) W0.heap.size (by omega) (by omega) (by omega) (Nat.le_refl _) (by omega) N hN hNb pre x W hJ hl) hM).mono ?_
   rintro e W2 ⟨⟨v0, rfl⟩, ss, hS, h2⟩
   obtain ⟨v, hv, hrow⟩ := h2.box
   have hend := run_endLoop (P := Try.prog) h2.L (by simp [apRec])
   obtain ⟨W3, hW3⟩ : ∃ W3, W2.putObj (W0.heap.size + 1) (.loop { apRec Try.f162.body fn (.func (.func g) #[] lb) w.heap.size W0.heap.size .ready none with state := .exhausted }) = W3 := ⟨_, rfl⟩
   rw [hW3] at hend
   have hg3 : W2.grownBy W3 (some (W0.heap.size + 1)) := by rw [← hW3]; exact grownBy_putObj_a _ _ _
   have hv3 : W3.heap[w.heap.size]? = some (.cells #[v] 85 (0, 0)) := by rw [← hW3]; exact (World.putObj_heap_other (by omega)).trans hv
   have hK3 : W3.heap[W0.heap.size]? = some (.deferred (some [])) := by rw [← hW3]; exact (World.putObj_heap_other (by omega)).trans h2.K
   have hrow3 := hrow.kept hg3 (ownsRow_ne_a hrow h2.L (fun cur e => by first | cases e | exact hne (Obj.cells.inj e).2.1))
   have hb3 : Below w.heap.size w W3 := h2.below.grown hg3 h2.below.size (fun k e => by cases e; omega)
   obtain ⟨hc3, hf3⟩ := cell_of_box_a hv3
   clear hW3
   refine ⟨none, W3, hend, ?_⟩
   gi_wp2
   rw [← hs0]
   refine ⟨by simp, .inl ⟨_, _, rfl, run_takeDeferred hK3, ?_⟩⟩
   exact ⟨_, results_tmp rfl _ _ _, v, ss, rfl, hS, hrow3.kept (grownBy_putObj_a _ _ _) (ownsRow_ne_a hrow3 hK3 (fun cur e => by first | cases e | exact hne (Obj.cells.inj e).2.1)), hb3.grown (grownBy_putObj_a _ _ _) hb3.size (fun k e => by cases e; omega)⟩
set_option maxHeartbeats 1000000 in
theorem collectK_in (F : Fence) (n : Nat) (hC : F.fn 128) (hF : F.fn 162) (hro : F.round = none) (hn : 3 ≤ n) (g : Nat) (lb : Array Value) (hFg : F.fn g) (eg : ∀ args w, (callFunc g args).run Try.prog w = .ok (.enter g args) w)
 (S : List KK → Prop) (N : Nat) (hN : N ≤ maxLen) (hNb : N * 16 ≤ 140737488355328) (w : World) (hseq : SeqGives F (n - 1 - 1) Try.prog g lb kVal S N w) :
 CallsIn F n Try.prog 128 #[.func (.func g) #[] lb] w fun e w' => ∃ (v : Value) (ss : List KK), e = .returned v ∧ S ss ∧ w'.ownsRow w.heap.size 90 2 v ss.length (ss.flatMap kL) ∧ Below w.heap.size w w' := by
 have h1 : 1 ≤ n := by omega
 refine callsIn_of_wp Try.func128 rfl hC ?_ hro
 simp only [Try.ntmps128, List.size_toArray, List.length_cons, List.length_nil, Nat.reduceAdd, Nat.reduceSub, Array.replicate_succ, Array.replicate_zero, List.push_toArray, List.append_toArray, List.nil_append, List.cons_append]
 gi_wp2_with (gi_at_call 162; refine (appendSeqK_in F (n - 1) hF hro (by omega) g lb hFg eg S N hN hNb _ hseq).mono ?_; rintro e w' ⟨v, ss, rfl, hS, hrow, hb⟩)
 go_ret
 exact ⟨v, ss, rfl, hS, hrow, hb⟩
end Go.Proofs.Ytebdajkknkapcaa
namespace Go.Proofs.Ytebdajkknkapcaa
open Go Go.RowKit
instance (a c : KK) : Decidable (ltK a c) := by unfold ltK; infer_instance
theorem ltK_tri {a c : KK} (h : ¬ ltK a c) (hne : a ≠ c) : ltK c a := by
 have : ¬ (a.1.1 = c.1.1 ∧ a.1.2 = c.1.2) := fun e => hne (Subtype.ext (Prod.ext e.1 e.2))
 unfold ltK at *
 omega
end Go.Proofs.Ytebdajkknkapcaa
namespace Go.Proofs.Ytebdajkknkapcaa
open Go Go.RowKit Go.Shelf
open Go.Maps (Keyed)
theorem listK_of {f : KK → Bool} {ss ks : List KK} (h : AllK f ss) (hp : ks.Perm ss) (hs : ks.Pairwise (fun x y => ¬ ltK y x)) : ListK f ks := by
 have hnd : ks.Pairwise (· ≠ ·) := hp.nodup_iff.2 h.1
 refine ⟨(hs.and hnd).imp (fun {a b} hab => ltK_tri hab.1 (fun e => hab.2 e.symm)), fun c => by rw [hp.mem_iff, h.2]⟩
def ListPostN (n : Nat) (f : KK → Bool) (w : World) (e : Ending) (w' : World) : Prop := ∃ (A : Option Addr) (c : Nat) (ks : List KK), e = .returned (.slice A ks.length c) ∧ ListK f ks ∧ ListC KC 2 w' (fun q => w.heap.size ≤ q ∧ q < w'.heap.size) [.slice A ks.length c] ks ∧ Below w.heap.size w w' ∧ ks.length ≤ n
set_option maxHeartbeats 1000000 in
theorem sortedK_c (b n : Nat) (f : KK → Bool) (w : World) (hM : MapL w b n f) (hn : n ≤ 1000) : Calls Try.prog 86 #[.func (.func 130) #[] #[.pointer (some ⟨w.heap.size, 0, none⟩)], .func (.func 88) #[] #[]] (w.alloc (.cells #[.map (some b)] 101)) (ListPostN n f w) := by
 have hh := heap_alloc_new w (.cells #[.map (some b)] 101)
 have hb1 := below1 w (.cells #[.map (some b)] 101)
 generalize w.alloc (.cells #[.map (some b)] 101) = W at *
 have hseq := keysK_gives Fence.wide 3 trivial rfl (by omega) w.heap.size b n f W (blk_lt hh) (blk_cell hh 0) (hM.below hb1)
 have hcol := callsIn_wide.1 (collectK_in Fence.wide 5 trivial trivial rfl (by omega) 130 #[.pointer (some ⟨w.heap.size, 0, none⟩)] trivial (enters_of Try.func130 (by kernel_rfl) rfl) _ n (by unfold maxLen; omega) (by omega) W hseq.bounded)
 have HCOL := Lib.hid hcol
 have HB1 := Lib.hid hb1
 clear hseq hcol hh hM hb1
 go_enter Try.func86, Try.ntmps86
 go_wp2_with fail
 refine HCOL.out.mono ?_
 rintro e w2 ⟨v, ss, rfl, ⟨hall, hlen⟩, hrow, hb2⟩
 have HALL := Lib.hid hall
 have HLEN := Lib.hid hlen
 have hs1 := HB1.out.size
 have hb02 := Lib.hid (HB1.out.trans (hb2.mono hs1))
 have HSRT := Lib.hid (sortk_c ss v W.heap.size w2 hrow (by omega) hb2.size)
 obtain ⟨A, n1, c, rfl⟩ := own_shape hrow
 clear hall hrow hlen hs1 hb2 HCOL
 go_wp2_with fail
 refine HSRT.out.mono ?_
 rintro e w3 ⟨rfl, ks, hp, hs, hlc, hb3, hsz⟩
 have hlen : n1 = ks.length := by
  obtain ⟨A2, c2, he, _⟩ := hlc.form
  simp only [List.cons.injEq, and_true, Value.slice.injEq] at he
  exact he.2.1
 subst hlen
 have HL := Lib.hid (listK_of HALL.out hp hs)
 have HKN := Lib.hid (show ks.length ≤ n by rw [hp.length_eq]; exact HLEN.out)
 have HLC := Lib.hid (hlc.mono (Q' := fun q => w.heap.size ≤ q ∧ q < w3.heap.size) (fun h => h) (fun q hq => ⟨Nat.le_trans HB1.out.size hq.1, hq.2⟩))
 have HB3 := Lib.hid (show Below w.heap.size w w3 from hb02.out.trans (hb3.mono HB1.out.size))
 clear hp hs hlc hb3 hsz HSRT HALL
 go_wp2_with fail
 go_ret
 exact ⟨A, c, ks, rfl, HL.out, HLC.out, HB3.out, HKN.out⟩
set_option maxHeartbeats 1000000 in
theorem listN_c (L b : Nat) (y m p ne : Int) (n : Nat) (f : KK → Bool) (w : World) (h : LkC w L b y m p ne n f) (hn : n ≤ 1000) : Calls Try.prog 49 #[.pointer (some ⟨L, 0, none⟩)] w (ListPostN n f w) := by
 have HS := Lib.hid (sortedK_c b n f w h.2.1 hn)
 have c4 := blk_cell h.1 4
 have HK := Lib.hid (keysK_c b w)
 clear h
 go_enter Try.func49, Try.ntmps49
 go_wp2_with fail
 refine HK.out.mono ?_
 rintro e w2 ⟨rfl, rfl⟩
 go_wp2_with fail
 refine HS.out.mono ?_
 rintro e w3 ⟨A, c, ks, rfl, h1, h2, h3, h4⟩
 have H1 := Lib.hid h1
 have H2 := Lib.hid h2
 have H3 := Lib.hid h3
 have H4 := Lib.hid h4
 clear h1 h2 h3 h4
 obtain ⟨k, hk⟩ : ∃ k, ks.length = k := ⟨_, rfl⟩
 have HKK := Lib.hid hk
 rw [hk]
 clear hk
 go_wp2_with fail
 go_ret
 exact ⟨A, c, ks, by rw [HKK.out]; rfl, H1.out, H2.out, H3.out, H4.out⟩
end Go.Proofs.Ytebdajkknkapcaa
namespace Go.Proofs.Ytebdajkknkapcaa
open Go Go.RowKit
theorem info_lock2 : (Try.prog.info? 139).map (·.size) = some 2 := by kernel_rfl
theorem info_lock2A : (Try.prog.info? 139).map (fun i => (i.zero, i.size, i.bytes)) = some (some (.agg #[.int .i64 0, .int .i64 0]), 2, 16) := by kernel_rfl
theorem locks2_uty : Try.prog.underlying 83 = some (.slice 139) := by kernel_rfl
theorem KC.fr {w w' : World} {Q : Nat → Prop} {cs : List Value} {c : KK} (h : KC w Q cs c) : KC w' Q cs c := h
theorem KC.mono {w : World} {Q Q' : Nat → Prop} {cs : List Value} {c : KK} (h : KC w Q cs c) : KC w Q' cs c := h
theorem ks_keep {w w' : World} {cs : List Value} {l : List KK} {Q : Nat → Prop} (hQ : ∀ q, Q q → q < w.heap.size) (h : ListC KC 2 w Q cs l) (hb : Below w.heap.size w w') : ListC KC 2 w' (· < w'.heap.size) cs l :=
 (ListC.fr (w' := w') (h.mono (Q' := (· < w.heap.size)) (fun h => h) hQ) (fun h => h) (Fr.ofBelow hb)).mono (fun h => h) (fun q hq => Nat.lt_of_lt_of_le hq hb.size)
theorem kk_take {ks : List KK} {k : Nat} (hk : k < ks.length) : (ks.take (k + 1)).flatMap kL = (ks.take k).flatMap kL ++ kL ks[k] := by
 rw [List.take_add_one, List.getElem?_eq_getElem hk, List.flatMap_append]
 simp
def FromPost (ks : List KK) (w : World) (e : Ending) (w' : World) : Prop := ∃ (A : Option Addr) (c : Nat), e = .returned (.slice A ks.length c) ∧ ListC KC 2 w' (fun q => w.heap.size ≤ q ∧ q < w'.heap.size) [.slice A ks.length c] ks ∧ Below w.heap.size w w'
set_option maxHeartbeats 2000000 in
theorem from_c (ks : List KK) (A : Option Addr) (c : Nat) (w : World) (h : ListC KC 2 w (· < w.heap.size) [.slice A ks.length c] ks) (hn : ks.length ≤ 1000) : Calls Try.prog 48 #[.slice A ks.length c] w (FromPost ks w) := by
 obtain ⟨ia, hia, hzia, hsia, hbia⟩ := info_parts info_lock2A
 have HL := Lib.hid h
 have hcap := h.cap
 unfold maxLen at hcap
 obtain ⟨n, hnl⟩ : ∃ n, ks.length = n := ⟨_, rfl⟩
 have HN := Lib.hid hnl
 rw [hnl] at hcap hn ⊢
 clear h hnl
 go_enter Try.func48, Try.ntmps48
 go_wp2_with fail
 go_loopw [3, 8] (fun v i wr => ∃ k : Nat, k ≤ n ∧ i = .int .i64 (k : Int) ∧ wr.ownsRow w.heap.size 139 2 v k ((ks.take k).flatMap kL) ∧ Below w.heap.size w wr) (fun _ i _ => n - (intOf i).toNat)
 case atStart => exact ⟨0, by omega, rfl, World.ownsRow_nil _ _ _ _, Below.refl _ _⟩
 case round =>
  obtain ⟨k, hk, rfl, hown, hb⟩ := hrel
  generalize wr = w8 at *
  have HOW := Lib.hid hown
  have HB8 := Lib.hid hb
  clear hown
  by_cases hlt : k < n
  case pos =>
   have hltI : (k : Int) < (n : Int) := by omega
   have hkl : k < ks.length := by rw [HN.out]; exact hlt
   obtain ⟨ab, ao, cs, hAe, hbw, hes, hat⟩ := ListC.get HL.out k hkl
   subst hAe
   have hcs : cs = kL ks[k] := hes
   subst hcs
   have HST := Lib.hid (kk_take hkl)
   obtain ⟨x, hx⟩ : ∃ x, ks[k] = x := ⟨_, rfl⟩
   rw [hx] at hat HST
   obtain ⟨⟨xa, xb⟩, hxx⟩ := x
   replace HST := Lib.hid (show (ks.take (k + 1)).flatMap kL = (ks.take k).flatMap kL ++ [.int .i64 xa, .int .i64 xb] from HST.out)
   have HAT := Lib.hid (show w8.rangeAt ab (ao + k * 2) [.int .i64 xa, .int .i64 xb] from (hat.fr (Fr.ofBelow hb)).range)
   have hnz : 0 < n := by omega
   clear hes hat hx hbw hxx hb
   go_upto_region 5 with (first | (show wpList _ _ _ (Oper.mk (some 11) _ _ _ _ _ :: _) _ _; refine wpList_load_mid rfl 90 (.tmp 10) rfl ab (ao + k * 2) rfl [.int .i64 xa, .int .i64 xb] _ HAT.out Try.underlying90 rfl info_lock ?_) | (show wpList _ _ _ (Oper.mk none (Op.store _ (Operand.tmp 5) _) _ _ _ _ :: _) _ _; refine wpList_store_fresh3 rfl 90 (.tmp 5) (.tmp 11) rfl rfl w8 #[.int .i64 0, .int .i64 0] 90 #[.int .i64 xa, .int .i64 xb] rfl rfl rfl info_lock rfl (by simp [Value.oneCell']) ?_; intro wx HX HBX HSX))
   have HXX := Lib.hid HX
   have HBX2 := Lib.hid (HB8.out.trans (HBX.mono HB8.out.size))
   have hsx := HBX2.out.size
   have HOX := Lib.hid (own_below HOW.out HBX)
   clear HX HSX HBX
   go_wp2_with (first | (show wpList _ _ _ (Oper.mk (some 13) _ _ _ _ _ :: _) _ _; refine wpList_load_row_g rfl 90 (.tmp 5) rfl w8.heap.size rfl _ _ _ _ HXX.out Try.underlying90 rfl info_lock ?_) | (at_builtin; go_loud (refine wpList_app _ rfl (.tmp 12) (.tmp 14) 83 rfl w.heap.size 139 ia _ 2 16 locks2_uty hia hzia hsia hbia rfl (by decide) u3 k ((ks.take k).flatMap kL) rfl (HOX.out.alloc _) (fun _ => True) (some ⟨wx.heap.size, 0, none⟩) 1 1 [.int .i64 xa, .int .i64 xb] rfl (rd_new (heap_alloc_new _ _) rfl) (by simp [Value.oneCell']) (by simp only [maxLen]; omega) (by omega) (by simp; omega) ?_); intro v9 w9 hown9 hg9 _))
   go_roundw
   case rel =>
    refine ⟨k + 1, by omega, by go_num, ?_, below_grown (HBX2.out.alloc hsx _) hg9 (fun q hq => (HOX.out.lt _ hq).1) (Nat.le_refl _)⟩
    rw [HST.out]
    exact hown9
   case measure => first | exact meas_v hlt | (simp only [intOf]; omega)
  case neg =>
   have hltI : ¬ (k : Int) < (n : Int) := by omega
   have hkn : k = ks.length := by have := HN.out; omega
   have hown : w8.ownsRow w.heap.size 139 2 u3 ks.length (ks.flatMap kL) := by have h := HOW.out; rw [hkn, List.take_length] at h; exact h
   have hlc := own_listC (El := KC) (f := kL) (fun _ => rfl) hown (Q := fun q => w.heap.size ≤ q ∧ q < w8.heap.size) (fun x hx => rfl) (fun q hq => hown.lt _ hq) (by have := HN.out; omega)
   obtain ⟨Ao, no, co, rfl⟩ := own_shape hown
   obtain rfl : no = ks.length := own_val hown
   have HLC := Lib.hid hlc
   have HKE := Lib.hid hkn
   obtain ⟨no, hno⟩ : ∃ x, ks.length = x := ⟨_, rfl⟩
   rw [hno]
   have HNO := Lib.hid hno
   clear hown hlc hkn hno HOW
   go_wp2_with fail
   go_ret
   exact ⟨Ao, co, by rw [HNO.out]; rfl, HLC.out, HB8.out⟩
set_option maxHeartbeats 2000000 in
theorem same13_c (ks : List KK) (A1 A2 : Option Addr) (c1 c2 : Nat) (w : World) (h1 : ListC KC 2 w (· < w.heap.size) [.slice A1 ks.length c1] ks) (h2 : ListC KC 2 w (· < w.heap.size) [.slice A2 ks.length c2] ks) : Calls Try.prog 47 #[.slice A1 ks.length c1, .slice A2 ks.length c2] w (Quiet w (.bool true)) := by
 have HL1 := Lib.hid h1
 have HL2 := Lib.hid h2
 have hcap1 := h1.cap
 have hcap2 := h2.cap
 unfold maxLen at hcap1 hcap2
 obtain ⟨n, hnl⟩ : ∃ n, ks.length = n := ⟨_, rfl⟩
 have HN := Lib.hid hnl
 rw [hnl] at hcap1 hcap2 ⊢
 clear h1 h2 hnl
 go_enter Try.func47, Try.ntmps47
 go_wp2_with fail
 go_loopw [5] (fun i wr => ∃ k : Nat, k ≤ n ∧ i = .int .i64 (k : Int) ∧ Below w.heap.size w wr) (fun i _ => n - (intOf i).toNat)
 case atStart => exact ⟨0, by omega, rfl, Below.refl _ _⟩
 case round =>
  obtain ⟨k, hk, rfl, hb⟩ := hrel
  by_cases hlt : k < n
  case pos =>
   have hltI : (k : Int) < (n : Int) := by omega
   have hltI2 : 0 < n := by omega
   have hkl : k < ks.length := by rw [HN.out]; exact hlt
   obtain ⟨b1, o1, cs1, hAe1, hbw1, hes1, hat1⟩ := ListC.get HL1.out k hkl
   obtain ⟨b2, o2, cs2, hAe2, hbw2, hes2, hat2⟩ := ListC.get HL2.out k hkl
   subst hAe1 hAe2
   have hcs1 : cs1 = kL ks[k] := hes1
   have hcs2 : cs2 = kL ks[k] := hes2
   subst hcs1 hcs2
   obtain ⟨x, hx⟩ : ∃ x, ks[k] = x := ⟨_, rfl⟩
   rw [hx] at hat1 hat2
   obtain ⟨⟨xa, xb⟩, hxx⟩ := x
   have hf1 := hat1.fr (Fr.ofBelow hb)
   have hf2 := hat2.fr (Fr.ofBelow hb)
   have HA1 := Lib.hid (show At wr (· < wr.heap.size) ⟨b1, o1 + k * 2, none⟩ [.int .i64 xa, .int .i64 xb] from hf1.mono (fun q hq => Nat.lt_of_lt_of_le hq hb.size))
   have HA2 := Lib.hid (show At wr (· < wr.heap.size) ⟨b2, o2 + k * 2, none⟩ [.int .i64 xa, .int .i64 xb] from hf2.mono (fun q hq => Nat.lt_of_lt_of_le hq hb.size))
   have HB8 := Lib.hid hb
   clear hes1 hes2 hat1 hat2 hx hbw1 hbw2 hxx hf1 hf2 hb
   go_upto_region 6 with fail
   refine wp_region_inv (Ks wr [.val (.slice (some ⟨b1, o1, none⟩) n c1), .val (.int .i64 (k : Int)), .val (.pointer (some ⟨b1, o1 + k * 2, none⟩)), .val (.agg #[.int .i64 xa, .int .i64 xb]), .val (.slice (some ⟨b2, o2, none⟩) n c2), .val (.int .i64 (k : Int)), .val (.pointer (some ⟨b2, o2 + k * 2, none⟩)), .val (.agg #[.int .i64 xa, .int .i64 xb]), .val (.bool false)])
    (fun w' => Below wr.heap.size wr w') (by kernel_rfl) (by kernel_rfl) (by kernel_rfl) (Below.refl _ _).drew ?_ ?_
   · refine ⟨?_, ?_, ?_, ?_, ?_, ?_, ?_, ?_, ?_, trivial⟩
     · intro listed A0 w2 hI hd hnd K hK
       have e0 := hI.slot hnd 0 _ rfl (by kernel_rfl)
       have hS := hI.world
       refine wanted_go rfl ?_
       clear hI hd hnd
       go_simp
       exact kq hK hS rfl
     · intro listed A0 w2 hI hd hnd K hK
       have e0 := hI.slot hnd 5 _ rfl (by kernel_rfl)
       have hS := hI.world
       refine wanted_go rfl ?_
       clear hI hd hnd
       go_simp
       exact kq hK hS rfl
     · intro listed A0 w2 hI hd hnd K hK
       have e0 := hI.depv hd 0 17 _ rfl rfl rfl (by kernel_rfl)
       have e1 := hI.depv hd 1 18 _ rfl rfl rfl (by kernel_rfl)
       have hS := hI.world
       refine wanted_go rfl ?_
       clear hI hd hnd
       go_simp
       exact kq hK hS rfl
     · intro listed A0 w2 hI hd hnd K hK
       have e0 := hI.depv hd 2 19 _ rfl rfl rfl (by kernel_rfl)
       have hS := hI.world
       have hrange : w2.rangeAt b1 (o1 + k * 2) [.int .i64 xa, .int .i64 xb] := (HA1.out.fr (Fr.ofBelow hS)).range
       have hisize := info_lock2
       refine wanted_go rfl ?_
       clear hI hd hnd
       refine wp_load_mid 139 (.tmp 19) rfl _ _ (by simpa [Act.eval, Array.getD_eq_getD_getElem?] using e0) _ _ hrange Try.underlying139 rfl hisize ?_
       exact kq hK hS rfl
     · intro listed A0 w2 hI hd hnd K hK
       have e0 := hI.slot hnd 1 _ rfl (by kernel_rfl)
       have hS := hI.world
       refine wanted_go rfl ?_
       clear hI hd hnd
       go_simp
       exact kq hK hS rfl
     · intro listed A0 w2 hI hd hnd K hK
       have e0 := hI.slot hnd 5 _ rfl (by kernel_rfl)
       have hS := hI.world
       refine wanted_go rfl ?_
       clear hI hd hnd
       go_simp
       exact kq hK hS rfl
     · intro listed A0 w2 hI hd hnd K hK
       have e0 := hI.depv hd 4 21 _ rfl rfl rfl (by kernel_rfl)
       have e1 := hI.depv hd 5 22 _ rfl rfl rfl (by kernel_rfl)
       have hS := hI.world
       refine wanted_go rfl ?_
       clear hI hd hnd
       go_simp
       exact kq hK hS rfl
     · intro listed A0 w2 hI hd hnd K hK
       have e0 := hI.depv hd 6 23 _ rfl rfl rfl (by kernel_rfl)
       have hS := hI.world
       have hrange : w2.rangeAt b2 (o2 + k * 2) [.int .i64 xa, .int .i64 xb] := (HA2.out.fr (Fr.ofBelow hS)).range
       have hisize := info_lock2
       refine wanted_go rfl ?_
       clear hI hd hnd
       refine wp_load_mid 139 (.tmp 23) rfl _ _ (by simpa [Act.eval, Array.getD_eq_getD_getElem?] using e0) _ _ hrange Try.underlying139 rfl hisize ?_
       exact kq hK hS rfl
     · intro listed A0 w2 hI hd hnd K hK
       have e0 := hI.depv hd 3 20 _ rfl rfl rfl (by kernel_rfl)
       have e1 := hI.depv hd 7 24 _ rfl rfl rfl (by kernel_rfl)
       have hS := hI.world
       refine wanted_go rfl ?_
       clear hI hd hnd
       go_simp
       exact kq hK hS rfl
   · intro listed A0 w2 hI hall
     obtain ⟨x0, g0, h0⟩ := hI.got 0 _ 17 rfl rfl (hall 0 (by decide))
     obtain ⟨x1, g1, h1⟩ := hI.got 1 _ 18 rfl rfl (hall 1 (by decide))
     obtain ⟨x2, g2, h2⟩ := hI.got 2 _ 19 rfl rfl (hall 2 (by decide))
     obtain ⟨x3, g3, h3⟩ := hI.got 3 _ 20 rfl rfl (hall 3 (by decide))
     obtain ⟨x4, g4, h4⟩ := hI.got 4 _ 21 rfl rfl (hall 4 (by decide))
     obtain ⟨x5, g5, h5⟩ := hI.got 5 _ 22 rfl rfl (hall 5 (by decide))
     obtain ⟨x6, g6, h6⟩ := hI.got 6 _ 23 rfl rfl (hall 6 (by decide))
     obtain ⟨x7, g7, h7⟩ := hI.got 7 _ 24 rfl rfl (hall 7 (by decide))
     obtain ⟨x8, g8, h8⟩ := hI.got 8 _ 25 rfl rfl (hall 8 (by decide))
     have hS := hI.world
     have hA : A0 = _ := hI.tmps [(17, x0), (18, x1), (19, x2), (20, x3), (21, x4), (22, x5), (23, x6), (24, x7), (25, x8)] (by simp only [List.mem_cons, List.not_mem_nil, or_false, forall_eq_or_imp, forall_eq]; exact ⟨g0, g1, g2, g3, g4, g5, g6, g7, g8⟩) (by kernel_rfl)
     obtain rfl : x8 = .bool false := h8 _ rfl
     clear h0 g0 h1 g1 h2 g2 h3 g3 h4 g4 h5 g5 h6 g6 h7 g7 h8 g8 hI hall
     simp only [setAll, List.foldl, List.setIfInBounds_toArray, List.set_cons_zero, List.set_cons_succ] at hA
     rw [hA]
     clear hA
     have HB9 := Lib.hid (HB8.out.trans (hS.mono HB8.out.size))
     clear hS
     go_wp2_with fail
     go_roundw
     case rel => exact ⟨k + 1, by omega, by go_num, HB9.out⟩
     case measure => first | exact meas_v hlt | (simp only [intOf]; omega)
  case neg =>
   have hltI : ¬ (k : Int) < (n : Int) := by omega
   go_wp2_with fail
   go_ret
   exact ⟨rfl, hb⟩
end Go.Proofs.Ytebdajkknkapcaa
namespace Go.Proofs.Ytebdajkknkapcaa
open Go Go.RowKit
def lockS (x : XStep) : XStep := ⟨x.entity, x.period, false⟩
theorem lockS_bd {x : XStep} (h : bdS x) : bdS (lockS x) := h
theorem locks_same (p ne : Int) (l : List XStep) (c : KK) : allF p ne (l.map lockS) c = allF p ne (l.reverse.map lockS) c :=
 allF_perm (fun x hx => by obtain ⟨y, _, rfl⟩ := List.mem_map.1 hx; rfl) (fun x => by simp) c
theorem map_take {m : List XStep} {k : Nat} {x : XStep} (h : m[k]? = some x) : ((m.take (k + 1)).map lockS).flatMap stepL = ((m.take k).map lockS).flatMap stepL ++ [.int .i64 x.entity, .int .i64 x.period, .bool false] := by
 rw [List.take_add_one, h]
 simp [lockS]
def IsLk (B : Nat) (y m p ne : Int) (f : KK → Bool) (v : Value) (w : World) : Prop := ∃ L b n : Nat, v = .pointer (some ⟨L, 0, none⟩) ∧ n ≤ 60 ∧ LkC w L b y m p ne n f ∧ B ≤ b
theorem IsLk.keep {B : Nat} {y m p ne : Int} {f : KK → Bool} : ∀ v w w', Below w.heap.size w w' → IsLk B y m p ne f v w → IsLk B y m p ne f v w' := fun v w w' hb ⟨L, b, n, h1, h2, h3, h4⟩ => ⟨L, b, n, h1, h2, h3.below hb, h4⟩
theorem app_step {w wr wb w2 : World} {B nB sB : Nat} {eB : TypeId} {vA vB v2 : Value} {xsB : List Value} (h0 : B ≤ w.heap.size) (hw : Below B w wr) (hBw : B ≤ wr.heap.size) (hwb : Below wr.heap.size wr wb) (hg : wb.grownBy w2 vA.ownBlock)
 (hA : ∀ g, vA.ownBlock = some g → B ≤ g) (hB : wr.ownsRow B eB sB vB nB xsB) (hN : ∀ g, vA.ownBlock = some g → vB.ownBlock ≠ some g) (hat : v2.ownBlock = vA.ownBlock ∨ v2.ownBlock = some wb.heap.size) :
 w2.ownsRow B eB sB vB nB xsB ∧ Below B w w2 ∧ (∀ g, v2.ownBlock = some g → vB.ownBlock ≠ some g) ∧ B ≤ w2.heap.size := by
 have hsz := hwb.size
 have hsz2 := hg.size
 refine ⟨own_same hB (fun g hg' => ?_), below_grown (hw.trans (hwb.mono hBw)) hg (fun q hq => hA q hq) h0, fun g hg' hb => ?_, by omega⟩
 · have h3 := hB.lt _ hg'
   rw [hg.block g (by omega) (fun e => hN g e.symm hg'), hwb.block g (by omega)]
 · rcases hat with h | h
   · exact hN g (h ▸ hg') hb
   · rw [h] at hg'
     injection hg' with hg'
     have := (hB.lt _ hb).2
     omega
theorem lk_other {w w' : World} {L1 b1 L2 b2 n1 n2 n3 : Nat} {y m p ne : Int} {f1 f2 f3 : KK → Bool} (h1 : LkC w L1 b1 y m p ne n1 f1) (h2 : LkC w L2 b2 y m p ne n2 f2) (hf : Fr (fun q => q ≠ b1) w w') (h3 : LkC w' L1 b1 y m p ne n3 f3) (e2 : ∀ c, f1 c = f2 c) (e3 : ∀ c, f3 c = f1 c) (k2 : n2 ≤ 60) (k3 : n3 ≤ 100) :
 ∃ n f, n ≤ 100 ∧ LkC w' L2 b2 y m p ne n f ∧ ∀ c, f c = f1 c := by
 have hne : L2 ≠ b1 := by
  intro e
  obtain ⟨D, ⟨es, clock, hb, _⟩, _⟩ := h1.2.1
  have := h2.1
  rw [e, hb] at this
  cases this
 by_cases hb : b2 = b1
 · subst hb
   exact ⟨n3, f3, k3, ⟨(hf.block L2 hne).trans h2.1, h3.2.1, h2.2.2⟩, e3⟩
 · exact ⟨n2, f2, by omega, h2.fr hf hne hb, fun c => (e2 c).symm⟩
set_option maxHeartbeats 8000000 in
theorem law_lockOrder (g : XGroup) (l : List XStep) (x : XStep) (gl sl : List Value) (A : Option Addr) (c : Nat) (w : World) (hg : GroupC w (· < w.heap.size) gl g) (hsz : szG g) (hl : ListC StepC 3 w (· < w.heap.size) [.slice A l.length c] l) (hx : StepC w (· < w.heap.size) sl x) :
 Calls Try.prog 10 #[.agg gl.toArray, .slice A l.length c, .agg sl.toArray] w (Quiet w (.bool true)) := by
 obtain ⟨hcs, hbd⟩ := StepC.lit hx
 subst hcs
 obtain ⟨se, sp, su⟩ := x
 show Calls Try.prog 10 #[.agg gl.toArray, .slice A l.length c, .agg #[.int .i64 se, .int .i64 sp, .bool su]] w (Quiet w (.bool true))
 obtain ⟨ia, hia, hzia, hsia, hbia⟩ := info_parts info_stepA
 have HFEW := Lib.hid (fun (w2 : World) (hb : Below w.heap.size w w2) => few_v hg hsz hb)
 have HVAL := Lib.hid (fun (hf : fewG g) => rgroup_v hg hf.small)
 have HFIL := Lib.hid (fun (l2 : List XStep) (B : Option Addr) (d : Nat) (w2 : World) (hb : Below w.heap.size w w2) (hf : fewG g) (hv : groupB g = true) (h2 : ListC StepC 3 w2 (· < w2.heap.size) [.slice B l2.length d] l2) (hn : l2.length ≤ 1000) => filled_c g gl l2 B d w2 (hg.keep hb) hf.small hv h2 hn)
 have HGI := Lib.hid (show (Try.prog.info? 29).map (·.size) = some gl.length by rw [info_group, hg.len])
 have HGS := Lib.hid (show gl.toArray.size = 21 by have := hg.len; simpa using this)
 have HL := Lib.hid hl
 have HBD := Lib.hid (steps_bd hl)
 have hcap := hl.cap
 unfold maxLen at hcap
 unfold FillPost at HFIL
 obtain ⟨yy, hyy⟩ : ∃ y, g.calendar.year = y := ⟨_, rfl⟩
 obtain ⟨mm, hmm⟩ : ∃ y, g.calendar.month = y := ⟨_, rfl⟩
 obtain ⟨pp, hpp⟩ : ∃ y, g.calendar.periods = y := ⟨_, rfl⟩
 obtain ⟨ne, hne⟩ : ∃ y, (g.entities.length : Int) = y := ⟨_, rfl⟩
 rw [hyy, hmm, hpp, hne] at HFIL
 obtain ⟨fw, hfw⟩ : ∃ p : Prop, fewG g = p := ⟨_, rfl⟩
 rw [hfw] at HFEW HVAL HFIL
 obtain ⟨bg, hbg⟩ : ∃ b, groupB g = b := ⟨_, rfl⟩
 rw [hbg] at HVAL HFIL
 obtain ⟨n, hnl⟩ : ∃ n, l.length = n := ⟨_, rfl⟩
 have HN := Lib.hid hnl
 rw [hnl] at hcap ⊢
 have HBX := Lib.hid hbd
 clear hg hsz hl hx hyy hmm hpp hne hfw hbg hnl hbd
 go_enter Try.func10, Try.ntmps10
 go_upto_region 1 with fail
 have H := heap_alloc_new w (.cells gl.toArray 29)
 have HB := below1 w (.cells gl.toArray 29)
 have HS : w.heap.size < (w.alloc (.cells gl.toArray 29)).heap.size := blk_lt H
 generalize hW : w.alloc (Obj.cells gl.toArray 29) = W at *
 have H2 := heap_alloc_new W (.cells #[.int .i64 se, .int .i64 sp, .bool su] 37)
 have HB2 := below1 W (.cells #[.int .i64 se, .int .i64 sp, .bool su] 37)
 have HS2 : W.heap.size < (W.alloc (.cells #[.int .i64 se, .int .i64 sp, .bool su] 37)).heap.size := blk_lt H2
 replace H := alloc_keep H (Obj.cells #[.int .i64 se, .int .i64 sp, .bool su] 37)
 generalize hW2 : W.alloc (Obj.cells #[.int .i64 se, .int .i64 sp, .bool su] 37) = W2 at *
 clear hW2
 have eW : W.heap.size = w.heap.size + 1 := by rw [← hW]; simp
 rw [eW] at H2
 clear hW
 have hb2 := HB.trans (HB2.mono HB.size)
 have hs2 := HB2.size
 have LT1 := blk_lt H2
 have LT0 : w.heap.size < W2.heap.size := by omega
 have HH := Lib.hid H
 have HZ := Lib.hid H2
 have EW := Lib.hid eW
 clear H H2 eW
 have hb02 := hb2
 have LT02 := LT0
 have LT12 := LT1
 have HH2 := HH
 have HZ2 := HZ
 go_wp2_with fail
 refine (awake13_c W2).mono ?_
 rintro e w3 ⟨rfl, hb3⟩
 have hb03 := hb02.trans (hb3.mono hb02.size)
 have hs3 := hb3.size
 have LT03 := Nat.lt_of_lt_of_le LT02 hs3
 have LT13 := Nat.lt_of_lt_of_le LT12 hs3
 have HH3 := Lib.hid ((hb3.block _ LT02).trans HH2.out)
 have HZ3 := Lib.hid ((hb3.block _ LT12).trans HZ2.out)
 go_wp2_with (show wpList _ _ _ (Oper.mk (some 16) _ _ _ _ _ :: _) _ _; refine wpList_load_row_g rfl 29 (.tmp 3) rfl (w.heap.size) rfl _ _ _ _ HH3.out Try.underlying29 rfl (by rw [info_group]; exact congrArg some HGS.out.symm) ?_)
 refine (HFEW.out w3 hb03).mono ?_
 rintro e w4 ⟨bf, rfl, hf, hb4⟩
 have hb04 := hb03.trans (hb4.mono hb03.size)
 have hs4 := hb4.size
 have LT04 := Nat.lt_of_lt_of_le LT03 hs4
 have LT14 := Nat.lt_of_lt_of_le LT13 hs4
 have HH4 := Lib.hid ((hb4.block _ LT03).trans HH3.out)
 have HZ4 := Lib.hid ((hb4.block _ LT13).trans HZ3.out)
 cases bf with
 | false =>
  clear hf
  go_wp2_with fail
  refine (awake13_c w4).mono ?_
  rintro e wz ⟨rfl, hbz⟩
  go_wp2_with fail
  go_ret
  exact ⟨rfl, hb04.trans (hbz.mono hb04.size)⟩
 | true =>
 have HFP := Lib.hid (hf rfl)
 clear hf
 by_cases h30 : n ≤ 30
 case neg =>
  have h30d : decide ((30 : Int) < (n : Int)) = true := decide_eq_true (by omega)
  clear h30
  go_wp2_with fail
  refine (awake13_c w4).mono ?_
  rintro e wz ⟨rfl, hbz⟩
  go_wp2_with fail
  go_ret
  exact ⟨rfl, hb04.trans (hbz.mono hb04.size)⟩
 case pos =>
 have h30d : decide ((30 : Int) < (n : Int)) = false := decide_eq_false (by omega)
 go_wp2_with (show wpList _ _ _ (Oper.mk (some 26) _ _ _ _ _ :: _) _ _; refine wpList_load_row_g rfl 29 (.tmp 3) rfl (w.heap.size) rfl _ _ _ _ HH4.out Try.underlying29 rfl (by rw [info_group]; exact congrArg some HGS.out.symm) ?_)
 refine (HVAL.out HFP.out w4 hb04).mono ?_
 rintro e w5 ⟨rfl, hb5⟩
 have hb05 := hb04.trans (hb5.mono hb04.size)
 have hs5 := hb5.size
 have LT05 := Nat.lt_of_lt_of_le LT04 hs5
 have LT15 := Nat.lt_of_lt_of_le LT14 hs5
 have HH5 := Lib.hid ((hb5.block _ LT04).trans HH4.out)
 have HZ5 := Lib.hid ((hb5.block _ LT14).trans HZ4.out)
 cases bg with
 | false =>
  go_wp2_with fail
  refine (awake13_c w5).mono ?_
  rintro e wz ⟨rfl, hbz⟩
  go_wp2_with fail
  go_ret
  exact ⟨rfl, hb05.trans (hbz.mono hb05.size)⟩
 | true =>
 have HZ := HZ5
 clear HFEW HVAL h30d
 go_wp2_with fail
 go_loopw [7, 8, 33] (fun v v2 i wr => ∃ k : Nat, k ≤ n ∧ i = .int .i64 (k : Int) ∧ wr.ownsRow w5.heap.size 37 3 v k (((l.take (k)).map lockS).flatMap stepL) ∧ wr.ownsRow w5.heap.size 37 3 v2 k (((l.reverse.take (k)).map lockS).flatMap stepL) ∧ (∀ g, v.ownBlock = some g → v2.ownBlock ≠ some g) ∧ Below w5.heap.size w5 wr ∧ w5.heap.size ≤ wr.heap.size) (fun _ _ i _ => n - (intOf i).toNat)
 case atStart => exact ⟨0, by omega, rfl, World.ownsRow_nil _ _ _ _, World.ownsRow_nil _ _ _ _, (fun g h => by cases h), Below.refl _ _, Nat.le_refl _⟩
 case round =>
  obtain ⟨k, hk, rfl, hown1, hown2, hne12, hb8, hs8⟩ := hrel
  generalize wr = w8 at *
  have hb08 := hb05.trans (hb8.mono hb05.size)
  have HO1 := Lib.hid hown1
  have HO2 := Lib.hid hown2
  have NE := Lib.hid hne12
  have HBW := Lib.hid hb8
  have HSW := Lib.hid hs8
  clear hown1 hown2 hne12
  by_cases hlt : k < n
  case pos =>
   have hltI : (k : Int) < (n : Int) := by omega
   have hkl : k < l.length := by rw [HN.out]; exact hlt
   have hkr : n - 1 - k < l.length := by rw [HN.out]; omega
   obtain ⟨ab, ao, cs, hAe, hbw, hes, hat⟩ := ListC.get HL.out k hkl
   subst hAe
   obtain ⟨ab2, ao2, cs2, hAe2, hbw2, hes2, hat2⟩ := ListC.get HL.out (n - 1 - k) hkr
   simp only [Option.some.injEq, Addr.mk.injEq, and_true] at hAe2
   obtain ⟨rfl, rfl⟩ := hAe2
   have hcs := (StepC.lit hes).1
   have hcs2 := (StepC.lit hes2).1
   subst hcs hcs2
   have hr1 := map_take (List.getElem?_eq_getElem hkl)
   have hrk : l.reverse[k]? = some l[n - 1 - k] := by
    rw [List.getElem?_reverse hkl, HN.out, List.getElem?_eq_getElem hkr]
   have hr2 := map_take hrk
   obtain ⟨x1, hx1⟩ : ∃ x, l[k] = x := ⟨_, rfl⟩
   obtain ⟨x2, hx2⟩ : ∃ x, l[n - 1 - k] = x := ⟨_, rfl⟩
   rw [hx1] at hat hr1
   rw [hx2] at hat2 hr2
   obtain ⟨xe, xp, xu⟩ := x1
   have HROW := Lib.hid hr1
   have HROWB := Lib.hid hr2
   have hatf := hat.fr (Fr.ofBelow hb08)
   have hc0 : w8.cell? ⟨ab, ao + k * 3, none⟩ = some (.int .i64 xe) := hatf.c (j := 0) rfl
   have hc1 : w8.cell? ⟨ab, ao + k * 3 + 1, none⟩ = some (.int .i64 xp) := hatf.c (j := 1) rfl
   have HAT2 := Lib.hid hat2
   have hnz : 0 < n := by omega
   clear hes hes2 hat hx1 hx2 hbw hbw2 hatf hrk hr1 hr2
   go_upto_region 7 with fail
   go_cut [7] from 36 to 49 (fun v wx => ∃ A2 n2 cc2, v = .slice A2 n2 cc2 ∧ wx.ownsRow w5.heap.size 37 3 (.slice A2 n2 cc2) (k + 1) (((l.take (k + 1)).map lockS).flatMap stepL) ∧ wx.ownsRow w5.heap.size 37 3 u8 k (((l.reverse.take (k)).map lockS).flatMap stepL) ∧ Below w5.heap.size w5 wx ∧ w5.heap.size ≤ wx.heap.size ∧ (∀ g, (Value.slice A2 n2 cc2).ownBlock = some g → (u8 : Value).ownBlock ≠ some g))
   case first =>
    go_region_law (refine step_app _ (by rfl) _ _ 30 (by rfl) w5.heap.size 37 ia _ 3 24 steps_uty hia hzia hsia hbia rfl (by decide) u7 k (((l.take (k)).map lockS).flatMap stepL) (by rfl) (by exact (own_below HO1.out (((Below.refl _ _).alloc (Nat.le_refl _) _).drew))) (fun _ => True) (some ⟨_, 0, none⟩) 1 1 [.int .i64 xe, .int .i64 xp, .bool false] (by rfl) (by exact rd_new (w := World.drew (w8.alloc _)) (heap_alloc_new w8 _) rfl) (by simp [Value.oneCell']) (by unfold maxLen; omega) (by omega) (by simp; omega) ?_; intro v2 w2 hown2 hg2 hat2; obtain ⟨A2, n2, cc2, rfl⟩ := own_shape hown2)
    all_goals (go_wp2_with fail)
    all_goals go_meet
    all_goals (obtain ⟨h1, h2, h3, h4⟩ := app_step (Nat.le_refl _) HBW.out HSW.out (((Below.refl _ _).alloc (Nat.le_refl _) _).drew) hg2 (fun g h => (HO1.out.lt _ h).1) HO2.out NE.out hat2; rw [← HROW.out] at hown2; exact ⟨_, _, _, rfl, hown2, h1, h2, h4, h3⟩)
   case rest =>
   obtain ⟨A7, n7, c7, rfl, ho1, ho2, hbc, hsc, hnec⟩ := hcut
   generalize wc = w9 at *
   have hb09 := hb05.trans (hbc.mono hb05.size)
   have HP1 := Lib.hid ho1
   have HP2 := Lib.hid ho2
   replace NE := Lib.hid (fun g (h : u8.ownBlock = some g) => (fun h2 => hnec g h2 h : (Value.slice A7 n7 c7).ownBlock ≠ some g))
   replace HBW := Lib.hid hbc
   replace HSW := Lib.hid hsc
   replace HROW := HROWB
   clear ho1 ho2 hnec hc0 hc1 HROWB
   obtain ⟨xe, xp, xu⟩ := x2
   have hatf := HAT2.out.fr (Fr.ofBelow hb09)
   have hc0 : w9.cell? ⟨ab, ao + (n - 1 - k) * 3, none⟩ = some (.int .i64 xe) := hatf.c (j := 0) rfl
   have hc1 : w9.cell? ⟨ab, ao + (n - 1 - k) * 3 + 1, none⟩ = some (.int .i64 xp) := hatf.c (j := 1) rfl
   have hin1 : (n : Int) - 1 - (k : Int) = ((n - 1 - k : Nat) : Int) := by omega
   obtain ⟨kr, hkre⟩ : ∃ q : Nat, n - 1 - k = q := ⟨_, rfl⟩
   rw [hkre] at hin1 hc0 hc1 hkr
   have hkrn : kr < n := by omega
   have hkrI : (kr : Int) < (n : Int) := by omega
   clear hatf
   go_upto_region 9 with fail
   go_region_law (refine step_app _ (by rfl) _ _ 30 (by rfl) w5.heap.size 37 ia _ 3 24 steps_uty hia hzia hsia hbia rfl (by decide) u8 k (((l.reverse.take (k)).map lockS).flatMap stepL) (by rfl) (by exact (own_below HP2.out (((Below.refl _ _).alloc (Nat.le_refl _) _).drew))) (fun _ => True) (some ⟨_, 0, none⟩) 1 1 [.int .i64 xe, .int .i64 xp, .bool false] (by rfl) (by exact rd_new (w := World.drew (w9.alloc _)) (heap_alloc_new w9 _) rfl) (by simp [Value.oneCell']) (by unfold maxLen; omega) (by omega) (by simp; omega) ?_; intro v2 w2 hown2 hg2 hat2; obtain ⟨A2, n2, cc2, rfl⟩ := own_shape hown2)
   all_goals (go_wp2_with fail)
   all_goals (
    go_roundw
    case rel =>
     obtain ⟨h1, h2, h3, h4⟩ := app_step (Nat.le_refl _) HBW.out HSW.out (((Below.refl _ _).alloc (Nat.le_refl _) _).drew) hg2 (fun g h => (HP2.out.lt _ h).1) HP1.out NE.out hat2
     rw [← HROW.out] at hown2
     exact ⟨k + 1, by omega, by go_num, h1, hown2, (fun g h h' => h3 g h' h), h2, h4⟩
    case measure => first | exact meas_v hlt | (simp only [intOf]; omega))
  case neg =>
   have hltI : ¬ (k : Int) < (n : Int) := by omega
   have hkn : k = l.length := by have := HN.out; omega
   obtain ⟨Aa, na, ca, rfl⟩ := own_shape HO1.out
   obtain ⟨Ab, nb, cb, rfl⟩ := own_shape HO2.out
   obtain rfl : na = k := own_val HO1.out
   obtain rfl : nb = na := own_val HO2.out
   obtain rfl : n = nb := by omega
   have ho1 : w8.ownsRow w5.heap.size 37 3 (.slice Aa n ca) (l.map lockS).length ((l.map lockS).flatMap stepL) := by
    have h := HO1.out
    rw [List.take_of_length_le (by have := HN.out; omega)] at h
    rw [List.length_map, HN.out]
    exact h
   have ho2 : w8.ownsRow w5.heap.size 37 3 (.slice Ab n cb) (l.reverse.map lockS).length ((l.reverse.map lockS).flatMap stepL) := by
    have h := HO2.out
    rw [List.take_of_length_le (by have := HN.out; rw [List.length_reverse]; omega)] at h
    rw [List.length_map, List.length_reverse, HN.out]
    exact h
   have hl1 := own_listC (El := StepC) (f := stepL) (fun _ => rfl) ho1 (Q := (· < w8.heap.size)) (fun x hx => by obtain ⟨y, hy, rfl⟩ := List.mem_map.1 hx; exact stepC_of (lockS_bd (HBD.out y hy))) (fun q hq => (ho1.lt _ hq).2) (by rw [List.length_map, HN.out]; omega)
   have hl2 := own_listC (El := StepC) (f := stepL) (fun _ => rfl) ho2 (Q := (· < w8.heap.size)) (fun x hx => by obtain ⟨y, hy, rfl⟩ := List.mem_map.1 hx; exact stepC_of (lockS_bd (HBD.out y (List.mem_reverse.1 hy)))) (fun q hq => (ho2.lt _ hq).2) (by rw [List.length_map, List.length_reverse, HN.out]; omega)
   have ln1 : (l.map lockS).length = n := by rw [List.length_map, HN.out]
   have ln2 : (l.reverse.map lockS).length = n := by rw [List.length_map, List.length_reverse, HN.out]
   have hsame := locks_same pp ne l
   obtain ⟨f1, hf1⟩ : ∃ f, allF pp ne (l.map lockS) = f := ⟨_, rfl⟩
   obtain ⟨f2, hf2⟩ : ∃ f, allF pp ne (l.reverse.map lockS) = f := ⟨_, rfl⟩
   have HF1 := Lib.hid (show ∀ w2 : World, Below w8.heap.size w8 w2 → Calls Try.prog 15 #[.agg gl.toArray, .slice Aa n ca] w2 (fun e w' => ∃ v, e = .returned v ∧ IsLk w.heap.size yy mm pp ne f1 v w' ∧ Below w2.heap.size w2 w') from fun w2 hb => by
    have h := HFIL.out (l.map lockS) Aa ca w2 (hb08.trans (hb.mono hb08.size)) HFP.out (by first | rfl | trivial) (by rw [ln1]; exact steps_keep hl1 hb) (by omega)
    rw [ln1, hf1] at h
    exact h.mono fun e w' ⟨L, b, n1, he, hn, hlk, _, hbb, hb'⟩ => ⟨_, he, ⟨L, b, n1, rfl, by omega, hlk, Nat.le_trans (hb08.trans (hb.mono hb08.size)).size hbb⟩, hb'⟩)
   have HF2 := Lib.hid (show ∀ w2 : World, Below w8.heap.size w8 w2 → Calls Try.prog 15 #[.agg gl.toArray, .slice Ab n cb] w2 (fun e w' => ∃ v, e = .returned v ∧ IsLk w.heap.size yy mm pp ne f2 v w' ∧ Below w2.heap.size w2 w') from fun w2 hb => by
    have h := HFIL.out (l.reverse.map lockS) Ab cb w2 (hb08.trans (hb.mono hb08.size)) HFP.out (by first | rfl | trivial) (by rw [ln2]; exact steps_keep hl2 hb) (by omega)
    rw [ln2, hf2] at h
    exact h.mono fun e w' ⟨L, b, n1, he, hn, hlk, _, hbb, hb'⟩ => ⟨_, he, ⟨L, b, n1, rfl, by omega, hlk, Nat.le_trans (hb08.trans (hb.mono hb08.size)).size hbb⟩, hb'⟩)
   have HEQ := Lib.hid (show ∀ c, f1 c = f2 c from fun c => by rw [← hf1, ← hf2]; exact hsame c)
   have HATG := Lib.hid (show At w8 (· < w8.heap.size) ⟨w.heap.size, 0, none⟩ gl from (box_at ((hb8.block _ LT05).trans HH5.out)))
   have HZ8 := Lib.hid ((hb8.block _ LT15).trans HZ.out)
   have HB08 := Lib.hid hb08
   have LT18 := Nat.lt_of_lt_of_le LT15 hb8.size
   clear ho1 ho2 hl1 hl2 ln1 ln2 hf1 hf2 hsame hb8 HFIL HO1 HO2 NE hkn hb08
   go_upto_region 11 with fail
   refine wp_region_inv (Ks w8 [.val (.agg gl.toArray), .val (.slice Aa n ca), .own (IsLk w.heap.size yy mm pp ne f1) (IsLk.keep), .val (.agg gl.toArray), .val (.slice Ab n cb), .own (IsLk w.heap.size yy mm pp ne f2) (IsLk.keep), .own (IsLk w.heap.size yy mm pp ne f1) (IsLk.keep), .own (IsLk w.heap.size yy mm pp ne f2) (IsLk.keep)])
    (fun w' => Below w8.heap.size w8 w') (by kernel_rfl) (by kernel_rfl) (by kernel_rfl) (Below.refl _ _).drew ?_ ?_
   · refine ⟨?_, ?_, ?_, ?_, ?_, ?_, ?_, ?_, trivial⟩
     · intro listed A0 w2 hI hd hnd K hK
       have e0 := hI.slot hnd 3 _ rfl (by kernel_rfl)
       have hS := hI.world
       have hrange : w2.rangeAt w.heap.size 0 gl := (HATG.out.fr (Fr.ofBelow hS)).range
       have hisize := HGI.out
       refine wanted_go rfl ?_
       clear hI hd hnd
       refine wp_load_mid 29 (.tmp 3) rfl _ _ (by simpa [Act.eval, Array.getD_eq_getD_getElem?] using e0) _ _ hrange Try.underlying29 rfl hisize ?_
       exact kq hK hS rfl
     · intro listed A0 w2 hI hd hnd K hK
       have e0 := hI.slot hnd 7 _ rfl (by kernel_rfl)
       have hS := hI.world
       refine wanted_go rfl ?_
       clear hI hd hnd
       go_simp
       exact kq hK hS rfl
     · intro listed A0 w2 hI hd hnd K hK
       have e0 := hI.depv hd 0 70 _ rfl rfl rfl (by kernel_rfl)
       have e1 := hI.depv hd 1 71 _ rfl rfl rfl (by kernel_rfl)
       have hS := hI.world
       refine wanted_go rfl ?_
       clear hI hd hnd
       go_simp
       go_at_call 15
       refine (HF1.out w2 hS).mono ?_
       rintro e w3 ⟨v3, rfl, hl3, h3⟩
       exact hK.out _ _ (hS.trans (h3.mono hS.size)) (Ks.of rfl hl3) (Ks.keep h3)
     · intro listed A0 w2 hI hd hnd K hK
       have e0 := hI.slot hnd 3 _ rfl (by kernel_rfl)
       have hS := hI.world
       have hrange : w2.rangeAt w.heap.size 0 gl := (HATG.out.fr (Fr.ofBelow hS)).range
       have hisize := HGI.out
       refine wanted_go rfl ?_
       clear hI hd hnd
       refine wp_load_mid 29 (.tmp 3) rfl _ _ (by simpa [Act.eval, Array.getD_eq_getD_getElem?] using e0) _ _ hrange Try.underlying29 rfl hisize ?_
       exact kq hK hS rfl
     · intro listed A0 w2 hI hd hnd K hK
       have e0 := hI.slot hnd 8 _ rfl (by kernel_rfl)
       have hS := hI.world
       refine wanted_go rfl ?_
       clear hI hd hnd
       go_simp
       exact kq hK hS rfl
     · intro listed A0 w2 hI hd hnd K hK
       have e0 := hI.depv hd 3 73 _ rfl rfl rfl (by kernel_rfl)
       have e1 := hI.depv hd 4 74 _ rfl rfl rfl (by kernel_rfl)
       have hS := hI.world
       refine wanted_go rfl ?_
       clear hI hd hnd
       go_simp
       go_at_call 15
       refine (HF2.out w2 hS).mono ?_
       rintro e w3 ⟨v3, rfl, hl3, h3⟩
       exact hK.out _ _ (hS.trans (h3.mono hS.size)) (Ks.of rfl hl3) (Ks.keep h3)
     · intro listed A0 w2 hI hd hnd K hK
       obtain ⟨x0, e0, h0⟩ := hI.dep hd 2 72 rfl rfl rfl (by kernel_rfl)
       have hS := hI.world
       refine wanted_go rfl ?_
       clear hI hd hnd
       go_simp
       exact hK.out _ _ hS (Ks.of rfl h0) (fun _ _ h => h)
     · intro listed A0 w2 hI hd hnd K hK
       obtain ⟨x0, e0, h0⟩ := hI.dep hd 5 75 rfl rfl rfl (by kernel_rfl)
       have hS := hI.world
       refine wanted_go rfl ?_
       clear hI hd hnd
       go_simp
       exact hK.out _ _ hS (Ks.of rfl h0) (fun _ _ h => h)
   · intro listed A0 w2 hI hall
     obtain ⟨x0, g0, h0⟩ := hI.got 0 _ 70 rfl rfl (hall 0 (by decide))
     obtain ⟨x1, g1, h1⟩ := hI.got 1 _ 71 rfl rfl (hall 1 (by decide))
     obtain ⟨x2, g2, h2⟩ := hI.got 2 _ 72 rfl rfl (hall 2 (by decide))
     obtain ⟨x3, g3, h3⟩ := hI.got 3 _ 73 rfl rfl (hall 3 (by decide))
     obtain ⟨x4, g4, h4⟩ := hI.got 4 _ 74 rfl rfl (hall 4 (by decide))
     obtain ⟨x5, g5, h5⟩ := hI.got 5 _ 75 rfl rfl (hall 5 (by decide))
     obtain ⟨x6, g6, h6⟩ := hI.got 6 _ 11 rfl rfl (hall 6 (by decide))
     obtain ⟨x7, g7, h7⟩ := hI.got 7 _ 12 rfl rfl (hall 7 (by decide))
     have hS := hI.world
     have hA : A0 = _ := hI.tmps [(70, x0), (71, x1), (72, x2), (73, x3), (74, x4), (75, x5), (11, x6), (12, x7)] (by simp only [List.mem_cons, List.not_mem_nil, or_false, forall_eq_or_imp, forall_eq]; exact ⟨g0, g1, g2, g3, g4, g5, g6, g7⟩) (by kernel_rfl)
     have k6 : (IsLk w.heap.size yy mm pp ne f1) x6 w2 := h6 _ rfl
     have k7 : (IsLk w.heap.size yy mm pp ne f2) x7 w2 := h7 _ rfl
     clear h0 g0 h1 g1 h2 g2 h3 g3 h4 g4 h5 g5 h6 g6 h7 g7 hI hall
     simp only [setAll, List.foldl, List.setIfInBounds_toArray, List.set_cons_zero, List.set_cons_succ] at hA
     rw [hA]
     clear hA
     obtain ⟨L1, b1, n1, rfl, hn1, hlk1, hge1⟩ := k6
     obtain ⟨L2, b2, n2, rfl, hn2, hlk2, hge2⟩ := k7
     generalize w2 = w9 at *
     have HA9 := Lib.hid hlk1
     have HB9 := Lib.hid hlk2
     have HGE1 := Lib.hid hge1
     have HN2 := Lib.hid hn2
     clear hlk1 hlk2 hge1 hge2
     go_wp2_with fail
     refine (listN_c L1 b1 yy mm pp ne _ f1 w9 HA9.out (by omega)).mono ?_
     rintro e wa1 ⟨Ax, cx, kx, rfl, hkx, hlx, hbx, hnx⟩
     have HKX := Lib.hid hkx
     have HLX := Lib.hid (hlx.mono (Q' := (· < wa1.heap.size)) (fun h => h) (fun q hq => hq.2))
     have HB1 := Lib.hid (hS.trans (hbx.mono hS.size))
     have HLB1 := Lib.hid (HB9.out.below hbx)
     have HLA1 := Lib.hid (HA9.out.below hbx)
     have hfx := from_c kx Ax cx wa1 HLX.out (by omega)
     obtain ⟨nx, hnxe⟩ : ∃ x, kx.length = x := ⟨_, rfl⟩
     have HNX := Lib.hid hnxe
     rw [hnxe] at hfx ⊢
     have HFX := Lib.hid hfx
     clear hkx hlx hbx hnx hfx hnxe HLX
     go_wp2_with fail
     refine HFX.out.mono ?_
     rintro e wa2 ⟨Ay, cy, he, hly, hby⟩
     rw [HNX.out] at he
     subst he
     have HLY := Lib.hid hly
     have HB2 := Lib.hid (HB1.out.trans (hby.mono HB1.out.size))
     have HLB2 := Lib.hid (HLB1.out.below hby)
     have HLA2 := Lib.hid (HLA1.out.below hby)
     clear hly hby HFX
     go_wp2_with fail
     refine (listN_c L2 b2 yy mm pp ne _ f2 wa2 HLB2.out (by omega)).mono ?_
     rintro e wa3 ⟨Az, cz, kz, rfl, hkz, hlz, hbz, hnz⟩
     obtain rfl : kz = kx := ListK.uniq (fun c => (HEQ.out c).symm) hkz HKX.out
     have HLY3 := Lib.hid (ks_keep (fun q hq => hq.2) HLY.out hbz)
     have HB3 := Lib.hid (HB2.out.trans (hbz.mono HB2.out.size))
     have HLA3 := Lib.hid (HLA2.out.below hbz)
     have HLB3 := Lib.hid (HLB2.out.below hbz)
     have hfz := from_c kz Az cz wa3 (hlz.mono (Q' := (· < wa3.heap.size)) (fun h => h) (fun q hq => hq.2)) (by omega)
     rw [HNX.out] at hfz ⊢
     have HFZ := Lib.hid hfz
     clear hkz hlz hbz hnz hfz HLY
     go_wp2_with fail
     refine HFZ.out.mono ?_
     rintro e wa4 ⟨Aw, cw, he, hlw, hbw⟩
     rw [HNX.out] at he
     subst he
     have HLY4 := Lib.hid (ks_keep (fun q hq => hq) HLY3.out hbw)
     have hsm := same13_c kz Ay Aw cy cw wa4 HLY4.out (hlw.mono (Q' := (· < wa4.heap.size)) (fun h => h) (fun q hq => hq.2))
     rw [HNX.out] at hsm
     have HSM := Lib.hid hsm
     have HB4 := Lib.hid (HB3.out.trans (hbw.mono HB3.out.size))
     have HLA4 := Lib.hid (HLA3.out.below hbw)
     have HLB4 := Lib.hid (HLB3.out.below hbw)
     clear hlw hbw hsm HFZ
     go_wp2_with fail
     refine HSM.out.mono ?_
     rintro e wa5 ⟨rfl, hb5_⟩
     have HB5 := Lib.hid (HB4.out.trans (hb5_.mono HB4.out.size))
     have HLA5 := Lib.hid (HLA4.out.below hb5_)
     have HLB5 := Lib.hid (HLB4.out.below hb5_)
     clear hb5_
     have z0 : wa5.cell? ⟨w.heap.size + 1, 0, none⟩ = some (.int .i64 se) := blk_cell ((HB5.out.block _ LT18).trans HZ8.out) 0
     have z1 : wa5.cell? ⟨w.heap.size + 1, 1, none⟩ = some (.int .i64 sp) := blk_cell ((HB5.out.block _ LT18).trans HZ8.out) 1
     have HBA5 := Lib.hid (HB08.out.trans (HB5.out.mono HB08.out.size))
     have hloc := lock_c L1 b1 yy mm pp ne n1 f1 ⟨(se, sp), HBX.out⟩ wa5 HLA5.out (by unfold maxLen; omega)
     obtain ⟨K, hK⟩ : ∃ K : KK, K = ⟨(se, sp), HBX.out⟩ := ⟨_, rfl⟩
     rw [← hK] at hloc
     have hloc2 : Calls Try.prog 50 #[.pointer (some ⟨L1, 0, none⟩), .int .i64 se, .int .i64 sp] wa5 (LkPost L1 b1 yy mm pp ne (n1 + 1) (lockE pp ne f1 K) (lockF pp ne f1 K) wa5) := by
      rw [hK] at hloc ⊢
      exact hloc
     obtain ⟨r, hr⟩ : ∃ r, lockE pp ne f1 K = r := ⟨_, rfl⟩
     have HR := Lib.hid hr
     rw [hr] at hloc2
     have HLO := Lib.hid hloc2
     have HKE := Lib.hid hK
     clear hloc hloc2 hr hK hn2 hS
     go_wp2_with fail
     refine HLO.out.mono ?_
     rintro e wb ⟨rfl, hkb, hfb, hsb⟩
     have HKB := Lib.hid hkb
     have HFB := Lib.hid hfb
     have HBB := Lib.hid (show Below w.heap.size w wb from ((Fr.ofBelow HBA5.out).trans (hfb.mono (fun q hq => by have := HGE1.out; omega))).below)
     have zb : wb.heap[w.heap.size + 1]? = some (.cells #[.int .i64 se, .int .i64 sp, .bool su] 37 (0, 0)) := (hfb.block _ (fun e => by have h1 := HLA5.out.2.1; obtain ⟨D, ⟨es, clock, hb, _⟩, _⟩ := h1; have h2 := (HB5.out.block _ LT18).trans HZ8.out; rw [e, hb] at h2; cases h2)).trans ((HB5.out.block _ LT18).trans HZ8.out)
     clear hkb hfb hsb HLO z0 z1
     by_cases hr0 : r = 0
     case neg =>
      have hrd : (r != 0) = true := by simpa using hr0
      clear hr0
      go_wp2_with fail
      go_ret
      exact ⟨rfl, HBB.out⟩
     case pos =>
     subst hr0
     have z0 := blk_cell zb 0
     have z1 := blk_cell zb 1
     have hunl : Calls Try.prog 51 #[.pointer (some ⟨L1, 0, none⟩), .int .i64 se, .int .i64 sp] wb (LkPost L1 b1 yy mm pp ne (n1 + 1) (unlockE (lockF pp ne f1 K) K) (unlockF (lockF pp ne f1 K) K) wb) := by
      have h := unlock_c L1 b1 yy mm pp ne (n1 + 1) (lockF pp ne f1 K) K wb HKB.out
      rw [show K = ⟨(se, sp), HBX.out⟩ from HKE.out] at h ⊢
      exact h
     rw [lock_then HR.out] at hunl
     have HUN := Lib.hid hunl
     clear hunl zb
     go_wp2_with fail
     refine HUN.out.mono ?_
     rintro e wc ⟨rfl, hkc, hfc, hsc⟩
     obtain ⟨n3, f3, hn3, hlk3, he3⟩ := lk_other HLA5.out HLB5.out (HFB.out.trans hfc) hkc HEQ.out (fun c => lock_back HR.out c) HN2.out (by omega)
     have HA9 := Lib.hid hkc
     have HB9 := Lib.hid hlk3
     have HBC := Lib.hid (show Below w.heap.size w wc from ((Fr.ofBelow HBB.out).trans (hfc.mono (fun q hq => by have := HGE1.out; omega))).below)
     have HE3 := Lib.hid (show ∀ c, f3 c = unlockF (lockF pp ne f1 K) K c from fun c => (he3 c).trans (lock_back HR.out c).symm)
     clear hkc hfc hsc hlk3 he3 HUN z0 z1 HLA1 HLA2 HLA3 HLA4 HLA5 HLB1 HLB2 HLB3 HLB4 HLB5 HB1 HB2 HB3 HB4 HB5 HKX HNX HLY3 HLY4 HSM HKB
     obtain ⟨f4, hf4⟩ : ∃ f, unlockF (lockF pp ne f1 K) K = f := ⟨_, rfl⟩
     rw [hf4] at HE3 HA9
     clear hf4
     go_wp2_with fail
     refine (listN_c L1 b1 yy mm pp ne _ f4 wc HA9.out (by omega)).mono ?_
     rintro e wd1 ⟨Ax, cx, kx, rfl, hkx, hlx, hbx, hnx⟩
     have HKX := Lib.hid hkx
     have HLX := Lib.hid (hlx.mono (Q' := (· < wd1.heap.size)) (fun h => h) (fun q hq => hq.2))
     have HB1 := Lib.hid (HBC.out.trans (hbx.mono HBC.out.size))
     have HLB1 := Lib.hid (HB9.out.below hbx)
     have HLA1 := Lib.hid (HA9.out.below hbx)
     have hfx := from_c kx Ax cx wd1 HLX.out (by omega)
     obtain ⟨nx, hnxe⟩ : ∃ x, kx.length = x := ⟨_, rfl⟩
     have HNX := Lib.hid hnxe
     rw [hnxe] at hfx ⊢
     have HFX := Lib.hid hfx
     clear hkx hlx hbx hnx hfx hnxe HLX
     go_wp2_with fail
     refine HFX.out.mono ?_
     rintro e wd2 ⟨Ay, cy, he, hly, hby⟩
     rw [HNX.out] at he
     subst he
     have HLY := Lib.hid hly
     have HB2 := Lib.hid (HB1.out.trans (hby.mono HB1.out.size))
     have HLB2 := Lib.hid (HLB1.out.below hby)
     have HLA2 := Lib.hid (HLA1.out.below hby)
     clear hly hby HFX
     go_wp2_with fail
     refine (listN_c L2 b2 yy mm pp ne _ f3 wd2 HLB2.out (by omega)).mono ?_
     rintro e wd3 ⟨Az, cz, kz, rfl, hkz, hlz, hbz, hnz⟩
     obtain rfl : kz = kx := ListK.uniq HE3.out hkz HKX.out
     have HLY3 := Lib.hid (ks_keep (fun q hq => hq.2) HLY.out hbz)
     have HB3 := Lib.hid (HB2.out.trans (hbz.mono HB2.out.size))
     have HLA3 := Lib.hid (HLA2.out.below hbz)
     have HLB3 := Lib.hid (HLB2.out.below hbz)
     have hfz := from_c kz Az cz wd3 (hlz.mono (Q' := (· < wd3.heap.size)) (fun h => h) (fun q hq => hq.2)) (by omega)
     rw [HNX.out] at hfz ⊢
     have HFZ := Lib.hid hfz
     clear hkz hlz hbz hnz hfz HLY
     go_wp2_with fail
     refine HFZ.out.mono ?_
     rintro e wd4 ⟨Aw, cw, he, hlw, hbw⟩
     rw [HNX.out] at he
     subst he
     have HLY4 := Lib.hid (ks_keep (fun q hq => hq) HLY3.out hbw)
     have hsm := same13_c kz Ay Aw cy cw wd4 HLY4.out (hlw.mono (Q' := (· < wd4.heap.size)) (fun h => h) (fun q hq => hq.2))
     rw [HNX.out] at hsm
     have HSM := Lib.hid hsm
     have HB4 := Lib.hid (HB3.out.trans (hbw.mono HB3.out.size))
     have HLA4 := Lib.hid (HLA3.out.below hbw)
     have HLB4 := Lib.hid (HLB3.out.below hbw)
     clear hlw hbw hsm HFZ
     go_wp2_with fail
     refine HSM.out.mono ?_
     rintro e wd5 ⟨rfl, hb5_⟩
     have HB5 := Lib.hid (HB4.out.trans (hb5_.mono HB4.out.size))
     have HLA5 := Lib.hid (HLA4.out.below hb5_)
     have HLB5 := Lib.hid (HLB4.out.below hb5_)
     clear hb5_
     go_wp2_with fail
     go_ret
     exact ⟨rfl, HB5.out⟩
end Go.Proofs.Ytebdajkknkapcaa
