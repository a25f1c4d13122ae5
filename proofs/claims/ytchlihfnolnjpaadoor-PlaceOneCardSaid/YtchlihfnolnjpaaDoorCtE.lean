/- Contracts of functions: what each computes, for whatever memory. -/
import Derived.Test.YtchlihfnolnjpaaDoorCtD
open Go Go.Abs
set_option linter.unusedVariables false
set_option linter.unusedSimpArgs false
namespace Go.Proofs.Tryd
section
open Go.Sort Go.Lib

/-! the order -/
theorem cmpB_refl : ∀ a : Bs, cmpB a a = 0
  | [] => rfl
  | x :: a => by
    have := cmpB_refl a
    simp only [cmpB, compareBytes, UInt8.lt_irrefl, if_false] at this ⊢
    exact this
theorem cmpB_neg : ∀ a b : Bs, cmpB b a = - cmpB a b
  | [], [] => rfl
  | [], _ :: _ => rfl
  | _ :: _, [] => rfl
  | x :: a, y :: b => by
    have ih := cmpB_neg a b
    simp only [cmpB, compareBytes] at ih ⊢
    by_cases h1 : x < y
    · have h2 : ¬ y < x := fun h => UInt8.lt_irrefl _ (UInt8.lt_trans h1 h)
      simp [h1, h2]
    · by_cases h2 : y < x
      · simp [h1, h2]
      · simp only [h1, h2, if_false]; exact ih
theorem cmpB_zero : ∀ a b : Bs, cmpB a b = 0 → a = b
  | [], [], _ => rfl
  | [], _ :: _, h => by simp [cmpB, compareBytes] at h
  | _ :: _, [], h => by simp [cmpB, compareBytes] at h
  | x :: a, y :: b, h => by
    have ih := cmpB_zero a b
    simp only [cmpB, compareBytes] at ih h
    by_cases h1 : x < y
    · simp [h1] at h
    · by_cases h2 : y < x
      · simp [h1, h2] at h
      · simp only [h1, h2, if_false] at h
        rw [ih h, UInt8.le_antisymm (UInt8.not_lt.1 h2) (UInt8.not_lt.1 h1)]
theorem cmpB_trans : ∀ a b c : Bs, cmpB a b < 0 → cmpB b c < 0 → cmpB a c < 0
  | [], [], _, h, _ => by simp [cmpB, compareBytes] at h
  | [], _ :: _, [], _, h => by simp [cmpB, compareBytes] at h
  | [], _ :: _, _ :: _, _, _ => by simp [cmpB, compareBytes]
  | _ :: _, [], _, h, _ => by simp [cmpB, compareBytes] at h
  | _ :: _, _ :: _, [], _, h => by simp [cmpB, compareBytes] at h
  | x :: a, y :: b, z :: c, h, k => by
    have ih := cmpB_trans a b c
    simp only [cmpB, compareBytes] at ih h k ⊢
    by_cases h1 : x < y
    · by_cases k1 : y < z
      · simp [UInt8.lt_trans h1 k1]
      · by_cases k2 : z < y
        · simp [k1, k2] at k
        · have : y = z := UInt8.le_antisymm (UInt8.not_lt.1 k2) (UInt8.not_lt.1 k1)
          subst this; simp [h1]
    · by_cases h2 : y < x
      · simp [h1, h2] at h
      · have : x = y := UInt8.le_antisymm (UInt8.not_lt.1 h2) (UInt8.not_lt.1 h1)
        subst this
        simp only [UInt8.lt_irrefl, if_false] at h
        by_cases k1 : x < z
        · simp [k1]
        · by_cases k2 : z < x
          · simp [k1, k2] at k
          · simp only [k1, k2, if_false] at k ⊢
            exact ih h k
def shC (a b : Bs) : Int := if cmpI a.length b.length = 0 then cmpB a b else cmpI a.length b.length
theorem cmpI_cases (m n : Int) : (m < n ∧ cmpI m n = -1) ∨ (m = n ∧ cmpI m n = 0) ∨ (n < m ∧ cmpI m n = 1) := by
  unfold cmpI
  by_cases h : m < n
  · exact .inl ⟨h, by rw [if_pos h]⟩
  · by_cases k : n < m
    · exact .inr (.inr ⟨k, by rw [if_neg h, if_pos k]⟩)
    · exact .inr (.inl ⟨by omega, by rw [if_neg h, if_neg k]⟩)
theorem shC_lt (a b : Bs) : shC a b < 0 ↔ a.length < b.length ∨ (a.length = b.length ∧ cmpB a b < 0) := by
  unfold shC
  rcases cmpI_cases a.length b.length with ⟨h, e⟩ | ⟨h, e⟩ | ⟨h, e⟩ <;> rw [e]
  · simp; left; omega
  · simp only [if_true]
    constructor
    · intro k; exact .inr ⟨by omega, k⟩
    · rintro (k | ⟨_, k⟩)
      · omega
      · exact k
  · simp; constructor <;> intros <;> omega
theorem cmpB_ntrans (a b c : Bs) (h : ¬ cmpB a b < 0) (k : ¬ cmpB b c < 0) : ¬ cmpB a c < 0 := by
  intro hc
  by_cases h0 : cmpB a b = 0
  · have := cmpB_zero a b h0; subst this; exact k hc
  · have h1 : cmpB b a < 0 := by rw [cmpB_neg a b]; omega
    exact k (cmpB_trans b a c h1 hc)
theorem sh_swo : SWO (ltOf shC) where
  irrefl x := by simp only [ltOf, decide_eq_false_iff_not, shC_lt, cmpB_refl]; omega
  trans x y z h k := by
    simp only [ltOf, decide_eq_true_eq, shC_lt] at h k ⊢
    rcases h with h | ⟨h, h2⟩ <;> rcases k with k | ⟨k, k2⟩
    · left; omega
    · left; omega
    · left; omega
    · exact .inr ⟨by omega, cmpB_trans _ _ _ h2 k2⟩
  ntrans x y z h k := by
    simp only [ltOf, decide_eq_false_iff_not, shC_lt, not_or, not_and] at h k ⊢
    obtain ⟨h, h2⟩ := h
    obtain ⟨k, k2⟩ := k
    exact ⟨by omega, fun e => cmpB_ntrans _ _ _ (h2 (by omega)) (k2 (by omega))⟩

end
theorem c_shorter (a b : Bs) : PureC prog F.place_shorter [.str a, .str b] (.int .i64 (shC a b)) := by
  intro σ Q hq
  refine calls_of_Y e_place_shorter rfl ?_; simp only [tm0_0, tm0_1, tm0_2, tm0_3, tm0_4, tm0_5, tm0_6, wk, wd, UInt8.reduceToNat, reduceIte, reduceCtorEq, Nat.reduceEqDiff, Nat.reduceAdd, Nat.reduceMul, Nat.reduceSub, Nat.reduceLeDiff, Int.reduceNeg, Int.reduceAdd, Int.reduceSub, Int.reduceMul, Int.reduceLT, Int.reduceLE, Int.reduceEq, Int.reduceToNat, Nat.reduceBEq, Nat.reduceLT, Y_unf cc_place_shorter_k0.eq_1, Y_unf cc_place_shorter.eq_1]
  refine Cl_pure0 (c_Compare _ _) ?_; simp only [wk, wd, UInt8.reduceToNat, reduceIte, reduceCtorEq, Nat.reduceEqDiff, Nat.reduceAdd, Nat.reduceMul, Nat.reduceSub, Nat.reduceLeDiff, Int.reduceNeg, Int.reduceAdd, Int.reduceSub, Int.reduceMul, Int.reduceLT, Int.reduceLE, Int.reduceEq, Int.reduceToNat, Nat.reduceBEq, Nat.reduceLT, Y_unf cc_place_shorter_k0.eq_1, Y_unf cc_place_shorter.eq_1]
  refine Cl_pure0 (c_sCompare _ _) ?_; simp only [wk, wd, UInt8.reduceToNat, reduceIte, reduceCtorEq, Nat.reduceEqDiff, Nat.reduceAdd, Nat.reduceMul, Nat.reduceSub, Nat.reduceLeDiff, Int.reduceNeg, Int.reduceAdd, Int.reduceSub, Int.reduceMul, Int.reduceLT, Int.reduceLE, Int.reduceEq, Int.reduceToNat, Nat.reduceBEq, Nat.reduceLT, Y_unf cc_place_shorter_k0.eq_1, Y_unf cc_place_shorter.eq_1]
  refine Cl_pure0 (c_Or2 _ _ _) ?_; simp only [wk, wd, UInt8.reduceToNat, reduceIte, reduceCtorEq, Nat.reduceEqDiff, Nat.reduceAdd, Nat.reduceMul, Nat.reduceSub, Nat.reduceLeDiff, Int.reduceNeg, Int.reduceAdd, Int.reduceSub, Int.reduceMul, Int.reduceLT, Int.reduceLE, Int.reduceEq, Int.reduceToNat, Nat.reduceBEq, Nat.reduceLT, Y_unf cc_place_shorter_k0.eq_1, Y_unf cc_place_shorter.eq_1]
  exact hq

section
open Go.Sort Go.Lib
/-! a call that hands back a plain value: by the machine's own words -/
def C0 (w : World) : Ctx := ⟨w.heap.size, fun _ => none, fun _ => 0, fun _ => 0⟩
def σ0 : St := ⟨fun _ => none, 0⟩
theorem Rel0 (w : World) : Rel (C0 w) σ0 w where
  base := Nat.le_refl _
  fresh := fun _ _ => ⟨rfl, rfl⟩
  inj := fun i j L M h => by simp [C0] at h
  own := fun i L h => by simp [C0] at h
  lim := fun _ _ => rfl
  blk := fun id B h => by simp [σ0] at h
  dom := fun id B h => by simp [σ0] at h
theorem grown_of {w w' : World} {C' : Ctx} (E : Evol (C0 w) w C' w') : ∃ q os, w' = grow (w.drewN q) os := by
  refine ⟨w'.drawn - w.drawn, w'.heap.extract w.heap.size, ?_⟩
  have h1 := E.os; have h2 := E.tape; have h3 := E.output; have h4 := E.drawn; have h5 := E.old; have h6 := E.size
  obtain ⟨H, T, D, O, U⟩ := w
  obtain ⟨H', T', D', O', U'⟩ := w'
  simp only [C0] at *
  subst h1 h2 h3
  simp only [grow, World.drewN]
  have e1 : D + (D' - D) = D' := by omega
  have e2 : H ++ H'.extract H.size = H' := by
    apply Array.ext_getElem?
    intro k
    rw [Array.getElem?_append]
    by_cases hk : k < H.size
    · rw [if_pos hk]; exact (h5 k hk).symm
    · rw [if_neg hk, Array.getElem?_extract]
      simp only [Nat.min_self]
      split
      · congr 1; omega
      · rw [Array.getElem?_eq_none (by omega)]
  rw [e1, e2]
theorem PureC.calls {f : FuncId} {args : List AV} {us : List Value} {n : Int} (h : PureC prog f args (.int .i64 n)) (ha : ∀ C w, VRels C w args us) (w : World) :
    Calls prog f us.toArray w fun e w' => e = .returned (.int .i64 n) ∧ ∃ q os, w' = grow (w.drewN q) os := by
  refine (h σ0 (fun v _ => v = .int .i64 n) rfl (C0 w) w us (Rel0 w) (ha _ _)).mono ?_
  rintro e w' ⟨v, r, σ', C', rfl, rfl, hv, _, E⟩
  simp only [VRel] at hv
  exact ⟨by rw [hv], grown_of E⟩
end
end Go.Proofs.Tryd
open Go Go.Abs
set_option linter.unusedVariables false
set_option linter.unusedSimpArgs false
namespace Go.Proofs.Tryd
section
open Go.Sort Go.Lib
theorem Rel.aheadN {C : Ctx} {σ : St} {w : World} (R : Rel C σ w) (n : Nat) : Rel C σ (Sort.ahead w n) ∧ Evol C w C (Sort.ahead w n) := by
  have E : Evol C w C (Sort.ahead w n) := ⟨rfl, rfl, rfl, Nat.le_add_right _ _, Nat.le_refl _, rfl, fun _ _ => rfl, fun _ => Nat.le_refl _, fun _ _ _ _ h => h, fun _ => Nat.le_refl _, fun _ _ h _ => h⟩
  exact ⟨⟨R.base, R.fresh, R.inj, R.own, R.lim, fun i B hB => BRel.evol E rfl (fun _ _ => ⟨rfl, rfl⟩) B (R.blk i B hB), R.dom⟩, E⟩
theorem grow_at {w : World} {os : Array Obj} {k : Nat} (h : k < w.heap.size) : (grow w os).heap[k]? = w.heap[k]? := by
  show (w.heap ++ os)[k]? = _
  rw [Array.getElem?_append, if_pos h]
theorem Rel.growN {C : Ctx} {σ : St} {w : World} (R : Rel C σ w) (os : Array Obj) : Rel C σ (grow w os) ∧ Evol C w C (grow w os) := by
  have hb := R.base
  have E : Evol C w C (grow w os) := ⟨rfl, rfl, rfl, Nat.le_refl _, by rw [size_grow]; omega, rfl, fun k hk => grow_at (by omega), fun _ => Nat.le_refl _, fun b o u _ h => by
      have := World.block_lt_of_cell? w _ h
      simp only [World.cell?, grow_at this] at h ⊢; exact h, fun _ => Nat.le_refl _, fun _ _ h _ => h⟩
  refine ⟨⟨by rw [size_grow]; omega, R.fresh, R.inj, fun i L hL => ?_, fun b hz => R.lim b (by rw [size_grow] at hz; omega), fun i B hB => BRel.evol E rfl (fun L hL => ⟨grow_at (R.own i L hL).2, rfl⟩) B (R.blk i B hB), R.dom⟩, E⟩
  have := R.own i L hL
  rw [size_grow]; omega
def encS (s : Bs) : Value := .string ⟨s.toArray⟩
theorem strs_enc {C : Ctx} {w : World} : ∀ {xs : List Bs} {us : List Value}, VRels C w (xs.map strA) us → us = xs.map encS
  | [], us, h => by simpa only [List.map_nil, VRels] using h
  | x :: xs, us, h => by
    simp only [List.map_cons, VRels, strA, VRel] at h
    obtain ⟨u, r, rfl, rfl, h⟩ := h
    rw [strs_enc h]; rfl
theorem enc_strs {C : Ctx} {w : World} : ∀ (xs : List Bs), VRels C w (xs.map strA) (xs.map encS)
  | [] => by simp only [List.map_nil, VRels]
  | x :: xs => by
    simp only [List.map_cons, VRels, strA, VRel]
    exact ⟨_, _, rfl, rfl, enc_strs xs⟩
theorem putCells_aput (d : Array Bs) (cs : Array Value) (off : Nat) (h : off + d.size ≤ cs.size) : putCells encS off d cs = aput cs off (d.toList.map encS) := by
  apply Array.ext_getElem?
  intro k
  simp only [putCells, Array.getElem?_mapIdx]
  by_cases h1 : k < off
  · rw [aput_get_lt _ _ _ _ h1]
    cases cs[k]? with
    | none => rfl
    | some y => simp; omega
  · by_cases h2 : k < off + d.size
    · have := aput_get (d.toList.map encS) cs off (k - off) (by simpa using h) (by simp; omega)
      rw [show off + (k - off) = k by omega] at this
      rw [this]
      have hk : k < cs.size := by omega
      rw [Array.getElem?_eq_getElem hk]
      simp only [Option.map_some]
      rw [if_pos ⟨by omega, h2⟩]
      simp only [List.getElem?_map, Array.getElem?_toList]
      rw [getElem!_pos d (k - off) (by omega), Array.getElem?_eq_getElem (by omega)]; rfl
    · rw [aput_get_ge _ _ _ _ (by simp; omega)]
      cases cs[k]? with
      | none => rfl
      | some y => simp; omega
theorem putRow_setBlk {w : World} {b off : Nat} {cs : Array Value} {ty : TypeId} {fr : Nat × Nat} (h : w.heap[b]? = some (.cells cs ty fr)) (d : Array Bs) (hs : off + d.size ≤ cs.size) :
    putRow encS w b off d = World.setBlk w b (.cells (aput cs off (d.toList.map encS)) ty fr) := by
  have hb : b < w.heap.size := (Array.getElem?_eq_some_iff.1 h).1
  unfold putRow mapBlock World.setBlk
  congr 1
  apply Array.ext_getElem?
  intro k
  rw [Array.getElem?_modify, Array.getElem?_setIfInBounds]
  by_cases hk : b = k
  · subst hk
    simp only [if_true, hb, h, Option.map_some, onCells, putCells_aput d cs off hs]
  · simp [hk]
theorem perm_of_permIn {d d' : Array Bs} (h : PermIn 0 d.size d d') : d'.toList.Perm d.toList := by
  obtain ⟨h1, _, h3⟩ := h
  have e1 : d.extract 0 d.size = d := by simp
  have e2 : d'.extract 0 d.size = d' := by rw [← h1]; simp
  rwa [e1, e2] at h3

theorem lput_get {α : Type} : ∀ (ys xs : List α) (o i : Nat), o + ys.length ≤ xs.length → (Abs.lput xs o ys)[i]? = if o ≤ i ∧ i < o + ys.length then ys[i - o]? else xs[i]?
  | [], xs, o, i, h => by simp only [Abs.lput, List.length_nil]; rw [if_neg (by omega)]
  | y :: ys, xs, o, i, h => by
    simp only [Abs.lput, List.length_cons] at h ⊢
    rw [lput_get ys _ _ _ (by simp; omega)]
    by_cases h1 : i < o
    · rw [if_neg (by omega), if_neg (by omega), List.getElem?_set, if_neg (by omega)]
    · by_cases h2 : i = o
      · subst h2
        rw [if_neg (by omega), if_pos (by omega), List.getElem?_set, if_pos rfl, if_pos (by omega)]; simp
      · by_cases h3 : i < o + 1 + ys.length
        · rw [if_pos (by omega), if_pos (by omega), show i - o = (i - (o + 1)) + 1 by omega]; simp
        · rw [if_neg (by omega), if_neg (by omega), List.getElem?_set, if_neg (by omega)]
theorem lput_all {α : Type} (ys xs : List α) (h : ys.length = xs.length) : Abs.lput xs 0 ys = ys := by
  apply List.ext_getElem?
  intro i
  rw [lput_get _ _ _ _ (by omega)]
  split
  · simp
  · rw [List.getElem?_eq_none (by omega), List.getElem?_eq_none (by omega)]
theorem lt_of_toList {d : Array Bs} {j n : Nat} (h : j < d.toList.length) (hs : d.size = n) : j < n := by rw [← hs]; simpa using h
theorem c_SortF {xs : List Bs} {id g : Nat} {σ : St} {Q : AV → St → Prop} (hid : σ.heap id = some (.arr 1 (xs.map strA) g 0)) (hn : xs.length < 1000) (hpos : 0 < xs.length)
    (hq : ∀ ys : List Bs, ys.Perm xs → ys.Pairwise (fun a b => ¬ shC b a < 0) → Q (.tup []) (σ.set id (.arr 1 (ys.map strA) g 0))) : CallsA prog F.slices_SortFunc_Lstring_string [.sl id g 0 xs.length, .fn F.place_shorter []] σ Q := by
  intro C w us R V
  have hB := R.blk id _ hid
  simp only [BRel] at hB
  obtain ⟨h0, L, cs, ty, fr, us', h1, h2, h3, h4, h5, h6, h7, h8, h9, h10⟩ := hB
  simp only [VRels, VRel] at V
  obtain ⟨u, r, rfl, ⟨a, c, rfl, hc1, hc2, hc3⟩, u2, r2, rfl, ⟨us2, rfl, rfl⟩, rfl⟩ := V
  obtain ⟨L', o, hL', rfl, ho, _, _⟩ := hc3 h0
  rw [h1] at hL'; cases hL'
  obtain rfl : o = 0 := by omega
  obtain rfl := strs_enc h10
  simp only [List.length_map] at h6 h8
  have hb := R.own id L h1
  have hH : Holds encS w L.b L.base xs.toArray := by
    intro j hj
    have hj' : j < xs.length := by simpa using hj
    have hc : cs[L.base + j]? = some (encS xs[j]) := h9 j _ (by simp [List.getElem?_eq_getElem hj'])
    have e : xs.toArray[j]! = xs[j] := by rw [getElem!_pos xs.toArray j hj]; simp
    refine ⟨by rw [cell_of h3, hc, e], frozen_of h3 h4 (by omega)⟩
  have hcmp : CmpLays1 prog F.place_shorter #[] encS shC L.b L.base xs.toArray.size w := fun m os dk hs x y =>
    PureC.calls (us := [encS x, encS y]) (c_shorter x y) (fun C w => enc_strs [x, y]) _
  have eg : ∀ args w, (callFunc F.place_shorter args).run prog w = .ok (.enter F.place_shorter args) w := callFunc_run (by kernel_rfl)
  have key := Any.slices_SortFunc laysSort encS (fun _ => rfl) shC sh_swo F.place_shorter #[] L.b L.base c xs.toArray w eg hcmp hH hb.2 (by simp; omega)
  rw [List.size_toArray] at key
  refine Calls.mono (key : Calls prog F.slices_SortFunc_Lstring_string _ w _) ?_
  rintro e w' ⟨rfl, d', n, os, hp, hso, rfl⟩
  have hsz := hp.1
  simp only [List.size_toArray] at hsz
  have hperm := perm_of_permIn (d := xs.toArray) hp
  simp only [] at hperm
  have hpw : d'.toList.Pairwise (fun a b => ¬ shC b a < 0) := by
    rw [List.pairwise_iff_getElem]
    intro i j hi hj hij
    have := hso i j (Nat.zero_le _) hij (lt_of_toList hj hsz)
    rw [getElem!_pos d' i (by simpa using hi), getElem!_pos d' j (by simpa using hj)] at this
    simpa [ltOf] using this
  obtain ⟨R1, E1⟩ := Rel.aheadN R n
  obtain ⟨L2, w2, hL2, _, hrun, R2, E2⟩ := R1.store (ys := d'.toList.map strA) (vs := d'.toList.map encS) (off := 0) hid (Nat.le_refl _) (by simp; omega) (enc_strs _) (by simp [encS, Value.oneCell']) prog
  rw [h1] at hL2; cases hL2
  have hrun2 := run_storeCells prog (d'.toList.map encS) (Sort.ahead w n) L.b (L.base + 0) 0 cs ty fr h3 h4 (by simp [encS, Value.oneCell']) (by simp; omega)
  rw [hrun] at hrun2
  have hne : d'.toList.map encS ≠ [] := by intro h; have := congrArg List.length h; simp at this; simp [this] at hsz; omega
  simp only [hne, if_false] at hrun2
  have hw2 : w2 = putRow encS (Sort.ahead w n) L.b L.base d' := by
    rw [putRow_setBlk (w := Sort.ahead w n) (off := L.base) h3 d' (by omega)]
    injection hrun2
  subst hw2
  obtain ⟨R3, E3⟩ := Rel.growN R2 os
  refine ⟨_, .tup [], _, C, rfl, hq d'.toList hperm hpw, ⟨[], rfl, rfl⟩, ?_, (E1.trans E2).trans E3⟩
  have hl : Abs.lput (xs.map strA) 0 (d'.toList.map strA) = d'.toList.map strA := lput_all _ _ (by simp; omega)
  rw [hl] at R3
  exact R3
end
end Go.Proofs.Tryd
open Go Go.Abs
set_option linter.unusedVariables false
set_option linter.unusedSimpArgs false
namespace Go.Proofs.Tryd

theorem walk_count : ∀ (t : T) (n : Bs), (T.walk n t).length + 1 = 2 * t.labs.length
  | .leaf p, n => by simp [T.walk, T.labs]
  | .node l r, n => by
    have := walk_count l (n ++ [108])
    have := walk_count r (n ++ [114])
    simp [T.walk, T.labs]; omega

def fstA (x : Bs × T) : AV := .str x.1
def InvN (xs : List (Bs × T)) (l' c3 : Nat) (tl : List AV) (lo : Nat) : Nat → List Nat → St → Prop := fun i D σ =>
  (∀ j ∈ D, j < σ.nx) ∧ σ.heap l' = some (.loop .ready none tl cc_place_Nodes_r1_p cc_place_Nodes_r1_x cc_place_Nodes_r1_y) ∧
    ((i = 0 ∧ D = [l', c3] ∧ σ.heap c3 = some (.arr 1 [.snil] 0 0)) ∨
      ∃ id g, 0 < i ∧ i ≤ xs.length ∧ D = [l', c3, id] ∧ lo ≤ id ∧ σ.heap c3 = some (.arr 1 [.sl id g 0 i] 0 0) ∧ σ.heap id = some (.arr 1 ((xs.take i).map fstA) g 0))
def StopN : List Nat → St → Prop := fun D σ => False
theorem owns_N {xs : List (Bs × T)} {l' c3 : Nat} {tl : List AV} {lo : Nat} : Owns (InvN xs l' c3 tl lo) StopN where
  lt := by rintro i D σ ⟨h, _⟩; exact h
  slt := by rintro D σ h; cases h
  stab := by
    rintro i D σ σ' ⟨h, h1, h2⟩ hk hn
    have hl : l' ∈ D := by rcases h2 with ⟨_, rfl, _⟩ | ⟨id, g, _, _, rfl, _⟩ <;> simp
    refine ⟨fun j hj => Nat.lt_of_lt_of_le (h j hj) hn, by rw [hk _ hl]; exact h1, ?_⟩
    rcases h2 with ⟨h2, rfl, h3⟩ | ⟨id, g, h2, h2', rfl, h3, h4, h5⟩
    · exact .inl ⟨h2, rfl, by rw [hk _ (by simp)]; exact h3⟩
    · exact .inr ⟨id, g, h2, h2', rfl, h3, by rw [hk _ (by simp)]; exact h4, by rw [hk _ (by simp)]; exact h5⟩
  stop := by rintro D σ σ' h; cases h

theorem yields_N {xs : List (Bs × T)} {l' c3 lo : Nat} {tl : List AV} (hlen : xs.length < 1000) (htl : tl.length = 19) (h3 : tm0 tl 3 = .ptr c3 0 0) (n1 : l' ≠ c3) (hlo : lo ≤ l' + 1) (hlo3 : c3 < lo) (hlol : l' < lo) :
    YieldRows prog l' (xs.map rowOf) (InvN xs l' c3 tl lo) StopN := by
  rintro i y D σ hy ⟨hlt, hl, hcase⟩ Q hq1 hq2
  obtain ⟨x, hx, rfl⟩ : ∃ x, xs[i]? = some x ∧ rowOf x = y := by
    rw [List.getElem?_map] at hy
    cases hxx : xs[i]? with
    | none => rw [hxx] at hy; simp at hy
    | some x => rw [hxx] at hy; simp at hy; exact ⟨x, rfl, hy⟩
  have hi : i < xs.length := (List.getElem?_eq_some_iff.1 hx).1
  have htk : (xs.take (i + 1)).map fstA = (xs.take i).map fstA ++ [fstA x] := by
    rw [List.take_add_one, hx]; simp
  have e1 : (c3 = l') = False := eq_false (fun h => n1 h.symm)
  have e4 : (l' = c3) = False := eq_false n1
  refine yields_of_Y hl (by rw [htl]; exact cc_place_Nodes_r1_ca) (by rw [htl]; exact cc_place_Nodes_r1_cb) (by rw [cc_place_Nodes_r1_ps, htl]; decide) (by rw [cc_place_Nodes_r1_ps]; rfl) ?_
  rw [cc_place_Nodes_r1_ps] at hl ⊢
  simp only [wk, wd, UInt8.reduceToNat, reduceIte, reduceCtorEq, Nat.reduceEqDiff, Nat.reduceAdd, Nat.reduceMul, Nat.reduceSub, Nat.reduceLeDiff, Int.reduceNeg, Int.reduceAdd, Int.reduceSub, Int.reduceMul, Int.reduceLT, Int.reduceLE, Int.reduceEq, Int.reduceToNat, Nat.reduceBEq, Nat.reduceLT, Y_unf cc_place_Nodes_k0.eq_1, Y_unf cc_place_Nodes_r1_a.eq_1, Y_unf cc_place_Nodes_r1_b.eq_1, Y_unf cc_place_Nodes_k2.eq_1, Y_unf cc_place_Nodes_k3.eq_1, Y_unf cc_place_Nodes_k4.eq_1, Y_unf cc_place_Nodes_k5.eq_1, Y_unf cc_place_Nodes_k6.eq_1, Y_unf cc_place_Nodes.eq_1, putPs, rowOf]
  refine ⟨none, hl, ?_⟩
  rcases hcase with ⟨rfl, rfl, k3⟩ | ⟨id, g, hpos, hle, rfl, hid, k3, kid⟩
  · have b3 := hlt c3 (by simp)
    have b1 := hlt l' (by simp)
    have e5 : (c3 = σ.nx) = False := eq_false (by omega)
    have e6 : (l' = σ.nx) = False := eq_false (by omega)
    simp only [wk, wd, UInt8.reduceToNat, reduceIte, reduceCtorEq, Nat.reduceEqDiff, Nat.reduceAdd, Nat.reduceMul, Nat.reduceSub, Nat.reduceLeDiff, Int.reduceNeg, Int.reduceAdd, Int.reduceSub, Int.reduceMul, Int.reduceLT, Int.reduceLE, Int.reduceEq, Int.reduceToNat, Nat.reduceBEq, Nat.reduceLT, Y_unf cc_place_Nodes_k0.eq_1, Y_unf cc_place_Nodes_r1_a.eq_1, Y_unf cc_place_Nodes_r1_b.eq_1, Y_unf cc_place_Nodes_k2.eq_1, Y_unf cc_place_Nodes_k3.eq_1, Y_unf cc_place_Nodes_k4.eq_1, Y_unf cc_place_Nodes_k5.eq_1, Y_unf cc_place_Nodes_k6.eq_1, Y_unf cc_place_Nodes.eq_1, h3, k3, e1, e4, e5, e6, roundEnd]
    refine hq1 [l', c3, σ.nx] ((((σ.set l' (.loop .busy none tl #[10, 11] cc_place_Nodes_r1_x cc_place_Nodes_r1_y)).new (.arr 1 [.str x.1] 0 0)).set c3 (.arr 1 [.sl σ.nx 0 0 1] 0 0)).set l' (.loop .ready none tl #[10, 11] cc_place_Nodes_r1_x cc_place_Nodes_r1_y))
      ⟨?_, by rw [St.set_heap, if_pos rfl, cc_place_Nodes_r1_ps], .inr ⟨σ.nx, 0, by omega, by omega, rfl, by omega, ?_, ?_⟩⟩ ⟨?_, ?_, ?_⟩
    · intro j hj
      simp only [List.mem_cons, List.not_mem_nil, or_false] at hj
      simp only [St.set_nx, St.new_nx]
      rcases hj with rfl | rfl | rfl <;> omega
    · simp only [St.set_heap, e1, if_true, if_false]
    · rw [htk]
      simp only [St.set_heap, St.new_heap, St.set_nx, if_true]
      rw [if_neg (by omega), if_neg (by omega)]; simp [fstA]
    · simp only [St.set_nx, St.new_nx]; omega
    · intro j hj
      simp only [List.mem_cons, List.not_mem_nil, or_false] at hj ⊢
      rcases hj with rfl | rfl | rfl
      · exact .inl (.inl rfl)
      · exact .inl (.inr rfl)
      · exact .inr (Nat.le_refl _)
    · intro j hj hD
      simp only [List.mem_cons, List.not_mem_nil, or_false, not_or] at hD
      simp only [St.set_heap, St.new_heap, St.set_nx, hD.1, hD.2, if_false]
      rw [if_neg (by omega)]
  · have b3 := hlt c3 (by simp)
    have b1 := hlt l' (by simp)
    have b2 := hlt id (by simp)
    have e5 : (c3 = id) = False := eq_false (by omega)
    have e6 : (l' = id) = False := eq_false (by omega)
    have e7 : (id = c3) = False := eq_false (by omega)
    have e8 : (id = l') = False := eq_false (by omega)
    have tl1 : ((xs.take i).map fstA).length = i := by simp; omega
    have z1 : (i ≤ ((xs.take i).map fstA).length) = True := by rw [tl1]; simp
    have z2 : (i + 1 ≤ 1073741824) = True := eq_true (by omega)
    have z3 : ((xs.take i).map fstA).take i = (xs.take i).map fstA := by rw [List.take_of_length_le (by omega)]
    simp only [wk, wd, UInt8.reduceToNat, reduceIte, reduceCtorEq, Nat.reduceEqDiff, Nat.reduceAdd, Nat.reduceMul, Nat.reduceSub, Nat.reduceLeDiff, Int.reduceNeg, Int.reduceAdd, Int.reduceSub, Int.reduceMul, Int.reduceLT, Int.reduceLE, Int.reduceEq, Int.reduceToNat, Nat.reduceBEq, Nat.reduceLT, Y_unf cc_place_Nodes_k0.eq_1, Y_unf cc_place_Nodes_r1_a.eq_1, Y_unf cc_place_Nodes_r1_b.eq_1, Y_unf cc_place_Nodes_k2.eq_1, Y_unf cc_place_Nodes_k3.eq_1, Y_unf cc_place_Nodes_k4.eq_1, Y_unf cc_place_Nodes_k5.eq_1, Y_unf cc_place_Nodes_k6.eq_1, Y_unf cc_place_Nodes.eq_1, h3, k3, kid, e1, e4, e5, e6, e7, e8, z1, z2, z3, roundEnd]
    refine hq1 [l', c3, id] ((((σ.set l' (.loop .busy none tl #[10, 11] cc_place_Nodes_r1_x cc_place_Nodes_r1_y)).set id (.arr 1 (List.map fstA (List.take i xs) ++ [.str x.1]) (g + 1) 0)).set c3 (.arr 1 [.sl id (g + 1) 0 (i + 1)] 0 0)).set l' (.loop .ready none tl #[10, 11] cc_place_Nodes_r1_x cc_place_Nodes_r1_y))
      ⟨hlt, by rw [St.set_heap, if_pos rfl, cc_place_Nodes_r1_ps], .inr ⟨id, g + 1, by omega, by omega, rfl, hid, ?_, ?_⟩⟩ ⟨Nat.le_refl _, fun j hj => .inl hj, ?_⟩
    · simp only [St.set_heap, e1, if_true, if_false]
    · rw [htk]
      simp only [St.set_heap, if_true, e7, e8, if_false]; simp [fstA]
    · intro j hj hD
      simp only [List.mem_cons, List.not_mem_nil, or_false, not_or] at hD
      simp only [St.set_heap, hD.1, hD.2.1, hD.2.2, if_false]

theorem c_Nodes {t : T} (h : t.Good) {σ : St} {Q : AV → St → Prop} (hq : ∀ (ys : List Bs) (r : AV), ys.Perm ((T.walk [] t).map (·.1)) → ys.Pairwise (fun a b => ¬ shC b a < 0) → Strs ys r → Q r σ) : CallsA prog F.place_Nodes [.str t.text] σ Q := by
  have hl := h.len
  have hlp := T.labs_pos t
  have hwc := walk_count t []
  refine CallsA.forget ?_
  refine CallsA.freeze (R := fun v σ' => Ext σ σ' ∧ ∃ (ys : List Bs) (id g : Nat), v = .sl id g 0 ys.length ∧ σ'.heap id = some (.arr 1 (ys.map strA) g 0) ∧ σ.nx ≤ id ∧ ys.Perm ((T.walk [] t).map (·.1)) ∧ ys.Pairwise (fun a b => ¬ shC b a < 0)) ?_ ?_
  · refine calls_of_Y e_place_Nodes rfl ?_; simp only [tm0_0, tm0_1, tm0_2, tm0_3, tm0_4, tm0_5, tm0_6, wk, wd, UInt8.reduceToNat, reduceIte, reduceCtorEq, Nat.reduceEqDiff, Nat.reduceAdd, Nat.reduceMul, Nat.reduceSub, Nat.reduceLeDiff, Int.reduceNeg, Int.reduceAdd, Int.reduceSub, Int.reduceMul, Int.reduceLT, Int.reduceLE, Int.reduceEq, Int.reduceToNat, Nat.reduceBEq, Nat.reduceLT, Y_unf cc_place_Nodes_k0.eq_1, Y_unf cc_place_Nodes_r1_a.eq_1, Y_unf cc_place_Nodes_r1_b.eq_1, Y_unf cc_place_Nodes_k2.eq_1, Y_unf cc_place_Nodes_k3.eq_1, Y_unf cc_place_Nodes_k4.eq_1, Y_unf cc_place_Nodes_k5.eq_1, Y_unf cc_place_Nodes_k6.eq_1, Y_unf cc_place_Nodes.eq_1]
    refine Cl_pure0 (c_Right h) ?_; simp only [wk, wd, UInt8.reduceToNat, reduceIte, reduceCtorEq, Nat.reduceEqDiff, Nat.reduceAdd, Nat.reduceMul, Nat.reduceSub, Nat.reduceLeDiff, Int.reduceNeg, Int.reduceAdd, Int.reduceSub, Int.reduceMul, Int.reduceLT, Int.reduceLE, Int.reduceEq, Int.reduceToNat, Nat.reduceBEq, Nat.reduceLT, Y_unf cc_place_Nodes_k0.eq_1, Y_unf cc_place_Nodes_r1_a.eq_1, Y_unf cc_place_Nodes_r1_b.eq_1, Y_unf cc_place_Nodes_k2.eq_1, Y_unf cc_place_Nodes_k3.eq_1, Y_unf cc_place_Nodes_k4.eq_1, Y_unf cc_place_Nodes_k5.eq_1, Y_unf cc_place_Nodes_k6.eq_1, Y_unf cc_place_Nodes.eq_1]
    refine c_below ⟨trivial, ?_⟩
    simp only [wk, wd, UInt8.reduceToNat, reduceIte, reduceCtorEq, Nat.reduceEqDiff, Nat.reduceAdd, Nat.reduceMul, Nat.reduceSub, Nat.reduceLeDiff, Int.reduceNeg, Int.reduceAdd, Int.reduceSub, Int.reduceMul, Int.reduceLT, Int.reduceLE, Int.reduceEq, Int.reduceToNat, Nat.reduceBEq, Nat.reduceLT, Y_unf cc_place_Nodes_k0.eq_1, Y_unf cc_place_Nodes_r1_a.eq_1, Y_unf cc_place_Nodes_r1_b.eq_1, Y_unf cc_place_Nodes_k2.eq_1, Y_unf cc_place_Nodes_k3.eq_1, Y_unf cc_place_Nodes_k4.eq_1, Y_unf cc_place_Nodes_k5.eq_1, Y_unf cc_place_Nodes_k6.eq_1, Y_unf cc_place_Nodes.eq_1]
    generalize hσ4 : (((σ.new (.arr 1 [.snil] 0 0)).new (.arr 1 [.str []] 0 0)).new (.arr 1 [.str t.text] 0 0)) = σ4
    have n4 : σ4.nx = σ.nx + 3 := by rw [← hσ4]; simp [St.new_nx]
    have x4 : Ext σ σ4 := by rw [← hσ4]; exact ((((Ext.refl σ).new _).new _).new _)
    have k0 : σ4.heap σ.nx = some (.arr 1 [.snil] 0 0) := by rw [← hσ4]; simp [St.new_heap, St.new_nx, Nat.add_assoc]
    have k3 : σ4.heap (σ.nx + 1) = some (.arr 1 [.str []] 0 0) := by rw [← hσ4]; simp [St.new_heap, St.new_nx, Nat.add_assoc]
    have k4 : σ4.heap (σ.nx + 2) = some (.arr 1 [.str t.text] 0 0) := by rw [← hσ4]; simp [St.new_heap, St.new_nx, Nat.add_assoc]
    refine Rf_fn ⟨callable_below1, ?_⟩
    generalize htm : (upd (upd _ _ _) 9 _ : Tm) = tm
    have tm3 : tm 3 = .ptr σ.nx 0 0 := by rw [← htm]; simp only [upd_at]; rfl
    have tm19 : tm 19 = .tup [] := by rw [← htm]; simp only [upd_at]; rfl
    clear htm
    have x5 : Ext σ4 ((σ4.new .defd).new (.loop .ready none (tmL tm 19) cc_place_Nodes_r1_p cc_place_Nodes_r1_x cc_place_Nodes_r1_y)) := ((Ext.refl σ4).new _).new _
    have hnx : ((σ4.new .defd).new (.loop .ready none (tmL tm 19) cc_place_Nodes_r1_p cc_place_Nodes_r1_x cc_place_Nodes_r1_y)).nx = σ4.nx + 2 := rfl
    have hY := yields_N (xs := T.walk [] t) (l' := σ4.nx + 1) (c3 := σ.nx) (lo := σ4.nx + 2) (by omega) (tmL_length tm 19) (by rw [tm0_tmL (by decide)]; exact tm3)
      (by omega) (by omega) (by omega) (by omega)
    have hm1 : σ4.nx ∉ [σ4.nx + 1, σ.nx] := by simp; omega
    refine c_below1 t h.ok [] (σ4.nx + 1) _ _ owns_N hY (D := [σ4.nx + 1, σ.nx]) ⟨?_, ?_, .inl ⟨rfl, rfl, ?_⟩⟩ (by omega) (by omega) (by simp; omega) (by simp; omega) ?_ ?_ (by simp; omega) _ ?_ ?_
    · intro j hj; rw [hnx]; simp at hj; omega
    · simp [St.new_heap, St.new_nx]
    · rw [x5.heap _ (by omega)]; exact k0
    · rw [x5.heap _ (by omega)]; exact k3
    · rw [x5.heap _ (by omega)]; exact k4
    · rintro D σ6 ⟨g1, g2, g3⟩ hG
      simp only [afterLoop, g2]
      refine ⟨by simp, ?_⟩
      have hd : σ6.heap σ4.nx = some .defd := by rw [hG.keep σ4.nx (by rw [hnx]; omega) hm1]; simp [St.new_heap, St.new_nx]
      have h2 := hG.nx
      rw [hnx] at h2
      have hrl : (rows [] t).length = (T.walk [] t).length := by simp [rows]
      rw [hrl] at g3
      rcases g3 with ⟨hz, _⟩ | ⟨id, g, _, _, rfl, hid, m1, m2⟩
      · omega
      have hidn := g1 id (by simp)
      rw [List.take_of_length_le (Nat.le_refl _)] at m2
      have m3 : ((T.walk [] t).map fstA) = ((T.walk [] t).map (·.1)).map strA := by simp [fstA, strA]
      rw [m3] at m2
      have hxl : ((T.walk [] t).map (·.1)).length = (T.walk [] t).length := by simp
      generalize hxs : (T.walk [] t).map (·.1) = xs at *
      rw [← hxl] at m1
      have b1 : (σ.nx = σ4.nx + 1) = False := eq_false (by omega)
      have b2 : (σ4.nx = σ4.nx + 1) = False := by simp
      have b3 : (id = σ4.nx + 1) = False := eq_false (by omega)
      have b4 : (σ.nx = id) = False := eq_false (by omega)
      have b5 : (σ4.nx = id) = False := eq_false (by omega)
      have b6 : (id = σ4.nx) = False := eq_false (by omega)
      simp only [wk, wd, UInt8.reduceToNat, reduceIte, reduceCtorEq, Nat.reduceEqDiff, Nat.reduceAdd, Nat.reduceMul, Nat.reduceSub, Nat.reduceLeDiff, Int.reduceNeg, Int.reduceAdd, Int.reduceSub, Int.reduceMul, Int.reduceLT, Int.reduceLE, Int.reduceEq, Int.reduceToNat, Nat.reduceBEq, Nat.reduceLT, Y_unf cc_place_Nodes_k0.eq_1, Y_unf cc_place_Nodes_r1_a.eq_1, Y_unf cc_place_Nodes_r1_b.eq_1, Y_unf cc_place_Nodes_k2.eq_1, Y_unf cc_place_Nodes_k3.eq_1, Y_unf cc_place_Nodes_k4.eq_1, Y_unf cc_place_Nodes_k5.eq_1, Y_unf cc_place_Nodes_k6.eq_1, Y_unf cc_place_Nodes.eq_1, pushD, tm19, tm3, m1, hd, b1, b2, b3, b4, b5, b6, aop]
      refine c_SortF (xs := xs) (by simp only [St.set_heap, b3, if_false]; exact m2) (by omega) (by omega) (fun ys hys hpw => ⟨trivial, ?_⟩)
      simp only [wk, wd, UInt8.reduceToNat, reduceIte, reduceCtorEq, Nat.reduceEqDiff, Nat.reduceAdd, Nat.reduceMul, Nat.reduceSub, Nat.reduceLeDiff, Int.reduceNeg, Int.reduceAdd, Int.reduceSub, Int.reduceMul, Int.reduceLT, Int.reduceLE, Int.reduceEq, Int.reduceToNat, Nat.reduceBEq, Nat.reduceLT, Y_unf cc_place_Nodes_k0.eq_1, Y_unf cc_place_Nodes_r1_a.eq_1, Y_unf cc_place_Nodes_r1_b.eq_1, Y_unf cc_place_Nodes_k2.eq_1, Y_unf cc_place_Nodes_k3.eq_1, Y_unf cc_place_Nodes_k4.eq_1, Y_unf cc_place_Nodes_k5.eq_1, Y_unf cc_place_Nodes_k6.eq_1, Y_unf cc_place_Nodes.eq_1, pushD, tm19, tm3, m1, hd, b1, b2, b3, b4, b5, b6, aop]
      have hyl := hys.length_eq
      exact ⟨⟨by simp only [St.set_nx]; omega, fun i hi => by simp only [St.set_heap]; rw [if_neg (by omega), if_neg (by omega), if_neg (by omega), hG.keep i (by rw [hnx]; omega) (by simp; omega), x5.heap i (by omega), x4.heap i hi]⟩, ys, id, g, by rw [hyl], by rw [if_neg (by omega), if_pos rfl], by omega, hys, hpw⟩
    · rintro D σ6 h; cases h
  · rintro v σ' ⟨hE, ys, id, g, rfl, hh, hid, hp, hpw⟩
    refine .inr ⟨id, g, 0, ys.length, 1, ys.map strA, 0, rfl, hh, by simp, ?_, ?_, hE.set hid _⟩
    · refine hq ys _ hp hpw (.inr ⟨ys.length, none, ?_, by simp⟩)
      simp [List.take_of_length_le, strA]
    · simp only [IdsLt]
      rw [List.take_of_length_le (by simp)]; exact IdsLts_strs _
end Go.Proofs.Tryd
open Go Go.Abs
set_option linter.unusedVariables false
set_option linter.unusedSimpArgs false
namespace Go.Proofs.Tryd

def beside (n : Bs) : Bs := match n.reverse with
  | [] => []
  | x :: r => r.reverse ++ [if x = 108 then 114 else 108]
theorem toNat_ne {x : UInt8} (hx : ¬ x = 108) : ¬ (x.toNat : Int) = 108 := fun h => hx (UInt8.toNat_inj.1 (by rw [show (108 : UInt8).toNat = 108 from rfl]; omega))
theorem c_Beside (n : Bs) (hn : n.length < 1000000) : PureC prog F.place_Beside [.str n] (.str (beside n)) := by
  intro σ Q hq
  by_cases h0 : n = []
  · subst h0
    refine calls_of_Y e_place_Beside rfl ?_; simp only [tm0_0, tm0_1, tm0_2, tm0_3, tm0_4, tm0_5, tm0_6, wk, wd, UInt8.reduceToNat, reduceIte, reduceCtorEq, Nat.reduceEqDiff, Nat.reduceAdd, Nat.reduceMul, Nat.reduceSub, Nat.reduceLeDiff, Int.reduceNeg, Int.reduceAdd, Int.reduceSub, Int.reduceMul, Int.reduceLT, Int.reduceLE, Int.reduceEq, Int.reduceToNat, Nat.reduceBEq, Nat.reduceLT, Y_unf cc_place_Beside_k0.eq_1, Y_unf cc_place_Beside_c1.eq_1, Y_unf cc_place_Beside_k2.eq_1, Y_unf cc_place_Beside_k3.eq_1, Y_unf cc_place_Beside_k4.eq_1, Y_unf cc_place_Beside_k5.eq_1, Y_unf cc_place_Beside_k6.eq_1, Y_unf cc_place_Beside.eq_1]
    exact hq
  · obtain ⟨m, x, rfl⟩ : ∃ m x, n = m ++ [x] := ⟨n.dropLast, n.getLast h0, (List.dropLast_concat_getLast h0).symm⟩
    have hb : beside (m ++ [x]) = m ++ [if x = 108 then 114 else 108] := by simp [beside]
    rw [hb] at hq
    simp at hn
    have w1 : IntKind.i64.wrap (((m ++ [x]).length : Int) - 1) = ((m.length : Nat) : Int) := by rw [wrap_i64 (by simp <;> omega) (by simp <;> omega)]; simp
    have hml : (m.length ≤ 4611686018427387903) = True := eq_true (by omega)
    have s1 : evSubstr (m ++ [x]) (some 0) (some ((m.length : Nat) : Int)) = some (.str m) := by
      have := evSub_nat (s := m ++ [x]) (a := 0) (b := m.length) (by omega) (by simp)
      rw [show ((0 : Nat) : Int) = 0 from rfl] at this
      simpa using this
    have g1 : (m ++ [x])[m.length]? = some x := by simp
    have hne : (m ++ [x] = []) = False := eq_false h0
    by_cases hx : x = 108
    · have hxn : ((x.toNat : Int) = 108) = True := eq_true (by subst hx; rfl)
      refine calls_of_Y e_place_Beside rfl ?_; simp only [tm0_0, tm0_1, tm0_2, tm0_3, tm0_4, tm0_5, tm0_6, wk, wd, UInt8.reduceToNat, reduceIte, reduceCtorEq, Nat.reduceEqDiff, Nat.reduceAdd, Nat.reduceMul, Nat.reduceSub, Nat.reduceLeDiff, Int.reduceNeg, Int.reduceAdd, Int.reduceSub, Int.reduceMul, Int.reduceLT, Int.reduceLE, Int.reduceEq, Int.reduceToNat, Nat.reduceBEq, Nat.reduceLT, Y_unf cc_place_Beside_k0.eq_1, Y_unf cc_place_Beside_c1.eq_1, Y_unf cc_place_Beside_k2.eq_1, Y_unf cc_place_Beside_k3.eq_1, Y_unf cc_place_Beside_k4.eq_1, Y_unf cc_place_Beside_k5.eq_1, Y_unf cc_place_Beside_k6.eq_1, Y_unf cc_place_Beside.eq_1, w1, s1, g1, hne, hxn, hml]
      simpa only [hx, if_true] using hq
    · have hxn : ((x.toNat : Int) = 108) = False := eq_false (toNat_ne hx)
      refine calls_of_Y e_place_Beside rfl ?_; simp only [tm0_0, tm0_1, tm0_2, tm0_3, tm0_4, tm0_5, tm0_6, wk, wd, UInt8.reduceToNat, reduceIte, reduceCtorEq, Nat.reduceEqDiff, Nat.reduceAdd, Nat.reduceMul, Nat.reduceSub, Nat.reduceLeDiff, Int.reduceNeg, Int.reduceAdd, Int.reduceSub, Int.reduceMul, Int.reduceLT, Int.reduceLE, Int.reduceEq, Int.reduceToNat, Nat.reduceBEq, Nat.reduceLT, Y_unf cc_place_Beside_k0.eq_1, Y_unf cc_place_Beside_c1.eq_1, Y_unf cc_place_Beside_k2.eq_1, Y_unf cc_place_Beside_k3.eq_1, Y_unf cc_place_Beside_k4.eq_1, Y_unf cc_place_Beside_k5.eq_1, Y_unf cc_place_Beside_k6.eq_1, Y_unf cc_place_Beside.eq_1, w1, s1, g1, hne, hxn, hml]
      simpa only [hx, if_false] using hq

theorem c_same {a b : List Bs} {va vb : AV} (ha : Strs a va) (hb : Strs b vb) (hl : a.length < 1000000) : PureC prog F.gemotlaw14_same [va, vb] (.bool (decide (a = b))) := by
  intro σ Q hq
  have len0 : ∀ {l : List Bs} {v : AV}, Strs l v → l = [] → v = .snil ∨ ∃ cap, v = .list [] 0 cap := by
    rintro l v (⟨rfl, _⟩ | ⟨n, cap, rfl, h⟩) rfl
    · exact .inl rfl
    · simp at h; subst h; exact .inr ⟨cap, rfl⟩
  have lenN : ∀ {l : List Bs} {v : AV}, Strs l v → l ≠ [] → ∃ cap, v = .list (l.map strA) l.length cap := by
    rintro l v (⟨rfl, h⟩ | ⟨n, cap, rfl, h⟩) hne
    · exact absurd (by simpa using h) hne
    · simp at h; subst h; exact ⟨cap, rfl⟩
  by_cases ha0 : a = []
  · by_cases hb0 : b = []
    · have hq' : Q (.bool true) σ := by simpa [ha0, hb0] using hq
      rcases len0 ha ha0 with rfl | ⟨c, rfl⟩ <;> rcases len0 hb hb0 with rfl | ⟨c', rfl⟩
      all_goals
        refine calls_of_Y e_gemotlaw14_same rfl ?_; simp only [tm0_0, tm0_1, tm0_2, tm0_3, tm0_4, tm0_5, tm0_6, wk, wd, UInt8.reduceToNat, reduceIte, reduceCtorEq, Nat.reduceEqDiff, Nat.reduceAdd, Nat.reduceMul, Nat.reduceSub, Nat.reduceLeDiff, Int.reduceNeg, Int.reduceAdd, Int.reduceSub, Int.reduceMul, Int.reduceLT, Int.reduceLE, Int.reduceEq, Int.reduceToNat, Nat.reduceBEq, Nat.reduceLT, Y_unf cc_gemotlaw14_same_k0.eq_1, Y_unf cc_gemotlaw14_same_k1.eq_1, Y_unf cc_gemotlaw14_same_k2.eq_1, Y_unf cc_gemotlaw14_same_k3.eq_1, Y_unf cc_gemotlaw14_same_l4.eq_1, Y_unf cc_gemotlaw14_same_k5.eq_1, Y_unf cc_gemotlaw14_same_k6.eq_1, Y_unf cc_gemotlaw14_same_k7.eq_1, Y_unf cc_gemotlaw14_same_k8.eq_1, Y_unf cc_gemotlaw14_same.eq_1]
        refine Lp_unroll 1 ?_
        simp only [wk, wd, UInt8.reduceToNat, reduceIte, reduceCtorEq, Nat.reduceEqDiff, Nat.reduceAdd, Nat.reduceMul, Nat.reduceSub, Nat.reduceLeDiff, Int.reduceNeg, Int.reduceAdd, Int.reduceSub, Int.reduceMul, Int.reduceLT, Int.reduceLE, Int.reduceEq, Int.reduceToNat, Nat.reduceBEq, Nat.reduceLT, Y_unf cc_gemotlaw14_same_k0.eq_1, Y_unf cc_gemotlaw14_same_k1.eq_1, Y_unf cc_gemotlaw14_same_k2.eq_1, Y_unf cc_gemotlaw14_same_k3.eq_1, Y_unf cc_gemotlaw14_same_l4.eq_1, Y_unf cc_gemotlaw14_same_k5.eq_1, Y_unf cc_gemotlaw14_same_k6.eq_1, Y_unf cc_gemotlaw14_same_k7.eq_1, Y_unf cc_gemotlaw14_same_k8.eq_1, Y_unf cc_gemotlaw14_same.eq_1]
        exact hq'
    · have hq' : Q (.bool false) σ := by
        have : a ≠ b := by rw [ha0]; exact fun h => hb0 h.symm
        simpa [this] using hq
      obtain ⟨c', rfl⟩ := lenN hb hb0
      have hz : ((0 : Int) = (b.length : Int)) = False := eq_false (by have := List.length_pos_iff.2 hb0; omega)
      rcases len0 ha ha0 with rfl | ⟨c, rfl⟩
      all_goals
        refine calls_of_Y e_gemotlaw14_same rfl ?_; simp only [tm0_0, tm0_1, tm0_2, tm0_3, tm0_4, tm0_5, tm0_6, wk, wd, UInt8.reduceToNat, reduceIte, reduceCtorEq, Nat.reduceEqDiff, Nat.reduceAdd, Nat.reduceMul, Nat.reduceSub, Nat.reduceLeDiff, Int.reduceNeg, Int.reduceAdd, Int.reduceSub, Int.reduceMul, Int.reduceLT, Int.reduceLE, Int.reduceEq, Int.reduceToNat, Nat.reduceBEq, Nat.reduceLT, Y_unf cc_gemotlaw14_same_k0.eq_1, Y_unf cc_gemotlaw14_same_k1.eq_1, Y_unf cc_gemotlaw14_same_k2.eq_1, Y_unf cc_gemotlaw14_same_k3.eq_1, Y_unf cc_gemotlaw14_same_l4.eq_1, Y_unf cc_gemotlaw14_same_k5.eq_1, Y_unf cc_gemotlaw14_same_k6.eq_1, Y_unf cc_gemotlaw14_same_k7.eq_1, Y_unf cc_gemotlaw14_same_k8.eq_1, Y_unf cc_gemotlaw14_same.eq_1, hz]
        exact hq'
  · obtain ⟨c, rfl⟩ := lenN ha ha0
    by_cases hb0 : b = []
    · have hq' : Q (.bool false) σ := by
        have : a ≠ b := by rw [hb0]; exact ha0
        simpa [this] using hq
      have hz : ((a.length : Int) = 0) = False := eq_false (by have := List.length_pos_iff.2 ha0; omega)
      rcases len0 hb hb0 with rfl | ⟨c', rfl⟩
      all_goals
        refine calls_of_Y e_gemotlaw14_same rfl ?_; simp only [tm0_0, tm0_1, tm0_2, tm0_3, tm0_4, tm0_5, tm0_6, wk, wd, UInt8.reduceToNat, reduceIte, reduceCtorEq, Nat.reduceEqDiff, Nat.reduceAdd, Nat.reduceMul, Nat.reduceSub, Nat.reduceLeDiff, Int.reduceNeg, Int.reduceAdd, Int.reduceSub, Int.reduceMul, Int.reduceLT, Int.reduceLE, Int.reduceEq, Int.reduceToNat, Nat.reduceBEq, Nat.reduceLT, Y_unf cc_gemotlaw14_same_k0.eq_1, Y_unf cc_gemotlaw14_same_k1.eq_1, Y_unf cc_gemotlaw14_same_k2.eq_1, Y_unf cc_gemotlaw14_same_k3.eq_1, Y_unf cc_gemotlaw14_same_l4.eq_1, Y_unf cc_gemotlaw14_same_k5.eq_1, Y_unf cc_gemotlaw14_same_k6.eq_1, Y_unf cc_gemotlaw14_same_k7.eq_1, Y_unf cc_gemotlaw14_same_k8.eq_1, Y_unf cc_gemotlaw14_same.eq_1, hz]
        exact hq'
    · obtain ⟨c', rfl⟩ := lenN hb hb0
      by_cases hlen : a.length = b.length
      · have hz : ((a.length : Int) = (b.length : Int)) = True := eq_true (by omega)
        refine calls_of_Y e_gemotlaw14_same rfl ?_; simp only [tm0_0, tm0_1, tm0_2, tm0_3, tm0_4, tm0_5, tm0_6, wk, wd, UInt8.reduceToNat, reduceIte, reduceCtorEq, Nat.reduceEqDiff, Nat.reduceAdd, Nat.reduceMul, Nat.reduceSub, Nat.reduceLeDiff, Int.reduceNeg, Int.reduceAdd, Int.reduceSub, Int.reduceMul, Int.reduceLT, Int.reduceLE, Int.reduceEq, Int.reduceToNat, Nat.reduceBEq, Nat.reduceLT, Y_unf cc_gemotlaw14_same_k0.eq_1, Y_unf cc_gemotlaw14_same_k1.eq_1, Y_unf cc_gemotlaw14_same_k2.eq_1, Y_unf cc_gemotlaw14_same_k3.eq_1, Y_unf cc_gemotlaw14_same_l4.eq_1, Y_unf cc_gemotlaw14_same_k5.eq_1, Y_unf cc_gemotlaw14_same_k6.eq_1, Y_unf cc_gemotlaw14_same_k7.eq_1, Y_unf cc_gemotlaw14_same_k8.eq_1, Y_unf cc_gemotlaw14_same.eq_1, hz]
        refine Lp_of (α := Nat × List Bs × List Bs) (fun x tm σ' => σ' = σ ∧ a.drop x.1 = x.2.1 ∧ b.drop x.1 = x.2.2 ∧ x.1 ≤ a.length ∧ (x.2.1 = x.2.2 ↔ a = b) ∧ tm 0 = .list (a.map strA) a.length c ∧ tm 1 = .list (b.map strA) b.length c' ∧ tm 5 = .int .i64 x.1 ∧ tm 26 = .tup [])
          (fun x => x.2.1.length) (a := (0, a, b)) ⟨rfl, rfl, rfl, by simp, Iff.rfl, rfl, rfl, rfl, rfl⟩ ?_
        rintro J hJ ⟨i, ra, rb⟩ tm σ' ⟨rfl, hd, hd', hi, hr, h0, h1, h5, h26⟩
        simp only at hd hd' hi hr h5
        cases ra with
        | nil =>
          have := drop_nil hd hi
          have hlt : ((i : Int) < a.length) = False := eq_false (by omega)
          simp only [wk, wd, UInt8.reduceToNat, reduceIte, reduceCtorEq, Nat.reduceEqDiff, Nat.reduceAdd, Nat.reduceMul, Nat.reduceSub, Nat.reduceLeDiff, Int.reduceNeg, Int.reduceAdd, Int.reduceSub, Int.reduceMul, Int.reduceLT, Int.reduceLE, Int.reduceEq, Int.reduceToNat, Nat.reduceBEq, Nat.reduceLT, Y_unf cc_gemotlaw14_same_k0.eq_1, Y_unf cc_gemotlaw14_same_k1.eq_1, Y_unf cc_gemotlaw14_same_k2.eq_1, Y_unf cc_gemotlaw14_same_k3.eq_1, Y_unf cc_gemotlaw14_same_l4.eq_1, Y_unf cc_gemotlaw14_same_k5.eq_1, Y_unf cc_gemotlaw14_same_k6.eq_1, Y_unf cc_gemotlaw14_same_k7.eq_1, Y_unf cc_gemotlaw14_same_k8.eq_1, Y_unf cc_gemotlaw14_same.eq_1, h0, h1, h5, h26, hlt]
          have hb' : rb = [] := by rw [← hd', List.drop_eq_nil_iff]; omega
          have hab := hr.1 hb'.symm
          simpa [hab] using hq
        | cons x r =>
          obtain ⟨h1', h2, h4⟩ := drop_cons hd
          cases rb with
          | nil =>
            have := drop_nil hd' (by omega)
            omega
          | cons y r' =>
            obtain ⟨h1'', h2', h4'⟩ := drop_cons hd'
            have hlt : ((i : Int) < a.length) = True := eq_true (by omega)
            have hlt' : ((i : Int) < b.length) = True := eq_true (by omega)
            have hle : (i ≤ a.length) = True := eq_true (by omega)
            have hle' : (i ≤ b.length) = True := eq_true (by omega)
            have hdm : (a.map strA).drop i = .str x :: r.map strA := by rw [← List.map_drop, hd]; rfl
            have hdm' : (b.map strA).drop i = .str y :: r'.map strA := by rw [← List.map_drop, hd']; rfl
            have hw : IntKind.i64.wrap ((i : Int) + 1) = ((i + 1 : Nat) : Int) := by rw [wrap_i64 (by omega) (by omega)]; omega
            by_cases hp : x = y
            · simp only [wk, wd, UInt8.reduceToNat, reduceIte, reduceCtorEq, Nat.reduceEqDiff, Nat.reduceAdd, Nat.reduceMul, Nat.reduceSub, Nat.reduceLeDiff, Int.reduceNeg, Int.reduceAdd, Int.reduceSub, Int.reduceMul, Int.reduceLT, Int.reduceLE, Int.reduceEq, Int.reduceToNat, Nat.reduceBEq, Nat.reduceLT, Y_unf cc_gemotlaw14_same_k0.eq_1, Y_unf cc_gemotlaw14_same_k1.eq_1, Y_unf cc_gemotlaw14_same_k2.eq_1, Y_unf cc_gemotlaw14_same_k3.eq_1, Y_unf cc_gemotlaw14_same_l4.eq_1, Y_unf cc_gemotlaw14_same_k5.eq_1, Y_unf cc_gemotlaw14_same_k6.eq_1, Y_unf cc_gemotlaw14_same_k7.eq_1, Y_unf cc_gemotlaw14_same_k8.eq_1, Y_unf cc_gemotlaw14_same.eq_1, h0, h1, h5, h26, hlt, hlt', hle, hle', hdm, hdm', List.length_map, hp, hw]
              exact ⟨(i + 1, r, r'), hJ _ _ _ ⟨rfl, h4, h4', h1', by rw [← hr, hp]; simp, h0, h1, rfl, h26⟩, Nat.lt_succ_self _⟩
            · simp only [wk, wd, UInt8.reduceToNat, reduceIte, reduceCtorEq, Nat.reduceEqDiff, Nat.reduceAdd, Nat.reduceMul, Nat.reduceSub, Nat.reduceLeDiff, Int.reduceNeg, Int.reduceAdd, Int.reduceSub, Int.reduceMul, Int.reduceLT, Int.reduceLE, Int.reduceEq, Int.reduceToNat, Nat.reduceBEq, Nat.reduceLT, Y_unf cc_gemotlaw14_same_k0.eq_1, Y_unf cc_gemotlaw14_same_k1.eq_1, Y_unf cc_gemotlaw14_same_k2.eq_1, Y_unf cc_gemotlaw14_same_k3.eq_1, Y_unf cc_gemotlaw14_same_l4.eq_1, Y_unf cc_gemotlaw14_same_k5.eq_1, Y_unf cc_gemotlaw14_same_k6.eq_1, Y_unf cc_gemotlaw14_same_k7.eq_1, Y_unf cc_gemotlaw14_same_k8.eq_1, Y_unf cc_gemotlaw14_same.eq_1, h0, h1, h5, h26, hlt, hlt', hle, hle', hdm, hdm', List.length_map, hp]
              have hab : a ≠ b := fun h => hp (by have := hr.2 h; injection this)
              simpa [hab] using hq
      · have hq' : Q (.bool false) σ := by
          have : a ≠ b := fun h => hlen (by rw [h])
          simpa [this] using hq
        have hz : ((a.length : Int) = (b.length : Int)) = False := eq_false (by omega)
        refine calls_of_Y e_gemotlaw14_same rfl ?_; simp only [tm0_0, tm0_1, tm0_2, tm0_3, tm0_4, tm0_5, tm0_6, wk, wd, UInt8.reduceToNat, reduceIte, reduceCtorEq, Nat.reduceEqDiff, Nat.reduceAdd, Nat.reduceMul, Nat.reduceSub, Nat.reduceLeDiff, Int.reduceNeg, Int.reduceAdd, Int.reduceSub, Int.reduceMul, Int.reduceLT, Int.reduceLE, Int.reduceEq, Int.reduceToNat, Nat.reduceBEq, Nat.reduceLT, Y_unf cc_gemotlaw14_same_k0.eq_1, Y_unf cc_gemotlaw14_same_k1.eq_1, Y_unf cc_gemotlaw14_same_k2.eq_1, Y_unf cc_gemotlaw14_same_k3.eq_1, Y_unf cc_gemotlaw14_same_l4.eq_1, Y_unf cc_gemotlaw14_same_k5.eq_1, Y_unf cc_gemotlaw14_same_k6.eq_1, Y_unf cc_gemotlaw14_same_k7.eq_1, Y_unf cc_gemotlaw14_same_k8.eq_1, Y_unf cc_gemotlaw14_same.eq_1, hz]
        exact hq'
end Go.Proofs.Tryd
open Go Go.Abs
set_option linter.unusedVariables false
set_option linter.unusedSimpArgs false
namespace Go.Proofs.Tryd

theorem c_Has10 {l : List Int} {v : AV} (hv : Ints l v) (p : Int) (hl : l.length < 1000000) : PureC prog F.gemotref10_Has [v, .int .i64 p] (.bool (decide (p ∈ l))) := by
  intro σ Q h
  rcases hv with ⟨rfl, hn⟩ | ⟨n, cap, rfl, hn⟩
  · obtain rfl : l = [] := by simpa using hn
    refine calls_of_Y e_gemotref10_Has rfl ?_; simp only [tm0_0, tm0_1, tm0_2, tm0_3, tm0_4, tm0_5, tm0_6, wk, wd, UInt8.reduceToNat, reduceIte, reduceCtorEq, Nat.reduceEqDiff, Nat.reduceAdd, Nat.reduceMul, Nat.reduceSub, Nat.reduceLeDiff, Int.reduceNeg, Int.reduceAdd, Int.reduceSub, Int.reduceMul, Int.reduceLT, Int.reduceLE, Int.reduceEq, Int.reduceToNat, Nat.reduceBEq, Nat.reduceLT, Y_unf cc_gemotref10_Has_k0.eq_1, Y_unf cc_gemotref10_Has_k1.eq_1, Y_unf cc_gemotref10_Has_k2.eq_1, Y_unf cc_gemotref10_Has_k3.eq_1, Y_unf cc_gemotref10_Has_l4.eq_1, Y_unf cc_gemotref10_Has_k5.eq_1, Y_unf cc_gemotref10_Has_k6.eq_1, Y_unf cc_gemotref10_Has.eq_1]
    refine Lp_unroll 1 ?_
    simp only [wk, wd, UInt8.reduceToNat, reduceIte, reduceCtorEq, Nat.reduceEqDiff, Nat.reduceAdd, Nat.reduceMul, Nat.reduceSub, Nat.reduceLeDiff, Int.reduceNeg, Int.reduceAdd, Int.reduceSub, Int.reduceMul, Int.reduceLT, Int.reduceLE, Int.reduceEq, Int.reduceToNat, Nat.reduceBEq, Nat.reduceLT, Y_unf cc_gemotref10_Has_k0.eq_1, Y_unf cc_gemotref10_Has_k1.eq_1, Y_unf cc_gemotref10_Has_k2.eq_1, Y_unf cc_gemotref10_Has_k3.eq_1, Y_unf cc_gemotref10_Has_l4.eq_1, Y_unf cc_gemotref10_Has_k5.eq_1, Y_unf cc_gemotref10_Has_k6.eq_1, Y_unf cc_gemotref10_Has.eq_1]
    simpa using h
  · simp only [List.length_map, Nat.mul_one] at hn
    subst hn
    refine calls_of_Y e_gemotref10_Has rfl ?_; simp only [tm0_0, tm0_1, tm0_2, tm0_3, tm0_4, tm0_5, tm0_6, wk, wd, UInt8.reduceToNat, reduceIte, reduceCtorEq, Nat.reduceEqDiff, Nat.reduceAdd, Nat.reduceMul, Nat.reduceSub, Nat.reduceLeDiff, Int.reduceNeg, Int.reduceAdd, Int.reduceSub, Int.reduceMul, Int.reduceLT, Int.reduceLE, Int.reduceEq, Int.reduceToNat, Nat.reduceBEq, Nat.reduceLT, Y_unf cc_gemotref10_Has_k0.eq_1, Y_unf cc_gemotref10_Has_k1.eq_1, Y_unf cc_gemotref10_Has_k2.eq_1, Y_unf cc_gemotref10_Has_k3.eq_1, Y_unf cc_gemotref10_Has_l4.eq_1, Y_unf cc_gemotref10_Has_k5.eq_1, Y_unf cc_gemotref10_Has_k6.eq_1, Y_unf cc_gemotref10_Has.eq_1]
    refine Lp_of (α := Nat × List Int) (fun a tm σ' => σ' = σ ∧ l.drop a.1 = a.2 ∧ a.1 ≤ l.length ∧ (p ∈ a.2 ↔ p ∈ l) ∧ tm 0 = .list (l.map aI) l.length cap ∧ tm 1 = .int .i64 p ∧ tm 5 = .int .i64 a.1 ∧ tm 18 = .tup [])
      (fun a => a.2.length) (a := (0, l)) ⟨rfl, by simp, by simp, Iff.rfl, rfl, rfl, rfl, rfl⟩ ?_
    rintro J hJ ⟨i, rest⟩ tm σ' ⟨rfl, hd, hi, hr, h0, h1, h5, h18⟩
    simp only at hd hi hr h5
    cases rest with
    | nil =>
      have := drop_nil hd hi
      have hlt : ((i : Int) < l.length) = False := eq_false (by omega)
      simp only [wk, wd, UInt8.reduceToNat, reduceIte, reduceCtorEq, Nat.reduceEqDiff, Nat.reduceAdd, Nat.reduceMul, Nat.reduceSub, Nat.reduceLeDiff, Int.reduceNeg, Int.reduceAdd, Int.reduceSub, Int.reduceMul, Int.reduceLT, Int.reduceLE, Int.reduceEq, Int.reduceToNat, Nat.reduceBEq, Nat.reduceLT, Y_unf cc_gemotref10_Has_k0.eq_1, Y_unf cc_gemotref10_Has_k1.eq_1, Y_unf cc_gemotref10_Has_k2.eq_1, Y_unf cc_gemotref10_Has_k3.eq_1, Y_unf cc_gemotref10_Has_l4.eq_1, Y_unf cc_gemotref10_Has_k5.eq_1, Y_unf cc_gemotref10_Has_k6.eq_1, Y_unf cc_gemotref10_Has.eq_1, h0, h1, h5, h18, hlt]
      have : p ∉ l := fun h => by simpa using hr.2 h
      simpa [this] using h
    | cons x r =>
      obtain ⟨h1', h2, h4⟩ := drop_cons hd
      have hlt : ((i : Int) < l.length) = True := eq_true (by omega)
      have hle : (i ≤ l.length) = True := eq_true (by omega)
      have hdm : (l.map aI).drop i = .int .i64 x :: r.map aI := by rw [← List.map_drop, hd]; rfl
      have hw : IntKind.i64.wrap ((i : Int) + 1) = ((i + 1 : Nat) : Int) := by rw [wrap_i64 (by omega) (by omega)]; omega
      by_cases hp : x = p
      · simp only [wk, wd, UInt8.reduceToNat, reduceIte, reduceCtorEq, Nat.reduceEqDiff, Nat.reduceAdd, Nat.reduceMul, Nat.reduceSub, Nat.reduceLeDiff, Int.reduceNeg, Int.reduceAdd, Int.reduceSub, Int.reduceMul, Int.reduceLT, Int.reduceLE, Int.reduceEq, Int.reduceToNat, Nat.reduceBEq, Nat.reduceLT, Y_unf cc_gemotref10_Has_k0.eq_1, Y_unf cc_gemotref10_Has_k1.eq_1, Y_unf cc_gemotref10_Has_k2.eq_1, Y_unf cc_gemotref10_Has_k3.eq_1, Y_unf cc_gemotref10_Has_l4.eq_1, Y_unf cc_gemotref10_Has_k5.eq_1, Y_unf cc_gemotref10_Has_k6.eq_1, Y_unf cc_gemotref10_Has.eq_1, h0, h1, h5, h18, hlt, hle, hdm, List.length_map, hp]
        have : p ∈ l := hr.1 (by simp [hp])
        simpa [this] using h
      · simp only [wk, wd, UInt8.reduceToNat, reduceIte, reduceCtorEq, Nat.reduceEqDiff, Nat.reduceAdd, Nat.reduceMul, Nat.reduceSub, Nat.reduceLeDiff, Int.reduceNeg, Int.reduceAdd, Int.reduceSub, Int.reduceMul, Int.reduceLT, Int.reduceLE, Int.reduceEq, Int.reduceToNat, Nat.reduceBEq, Nat.reduceLT, Y_unf cc_gemotref10_Has_k0.eq_1, Y_unf cc_gemotref10_Has_k1.eq_1, Y_unf cc_gemotref10_Has_k2.eq_1, Y_unf cc_gemotref10_Has_k3.eq_1, Y_unf cc_gemotref10_Has_l4.eq_1, Y_unf cc_gemotref10_Has_k5.eq_1, Y_unf cc_gemotref10_Has_k6.eq_1, Y_unf cc_gemotref10_Has.eq_1, h0, h1, h5, h18, hlt, hle, hdm, List.length_map, hp, hw]
        exact ⟨(i + 1, r), hJ _ _ _ ⟨rfl, h4, h1', by rw [← hr]; simp [Ne.symm hp], h0, h1, rfl, h18⟩, Nat.lt_succ_self _⟩

def spon (t : T) (node : Bs) : Int := match atL t node with
  | some x => x.mem.headD 0
  | none => 0
theorem atL_good {t x : T} {node : Bs} (h : t.Good) (hx : atL t node = some x) : x.Good := by
  simp only [atL, Option.map_eq_some_iff] at hx
  obtain ⟨y, hy, rfl⟩ := hx
  exact walk_good t [] h y (List.mem_of_find?_eq_some hy)
theorem c_Sponsor {t : T} (h : t.Good) (node : Bs) : PureC prog F.place_Sponsor [.str t.text, .str node] (.int .i64 (spon t node)) := by
  intro σ Q hq
  refine calls_of_Y e_place_Sponsor rfl ?_; simp only [tm0_0, tm0_1, tm0_2, tm0_3, tm0_4, tm0_5, tm0_6, wk, wd, UInt8.reduceToNat, reduceIte, reduceCtorEq, Nat.reduceEqDiff, Nat.reduceAdd, Nat.reduceMul, Nat.reduceSub, Nat.reduceLeDiff, Int.reduceNeg, Int.reduceAdd, Int.reduceSub, Int.reduceMul, Int.reduceLT, Int.reduceLE, Int.reduceEq, Int.reduceToNat, Nat.reduceBEq, Nat.reduceLT, Y_unf cc_place_Sponsor_k0.eq_1, Y_unf cc_place_Sponsor_k1.eq_1, Y_unf cc_place_Sponsor_k2.eq_1, Y_unf cc_place_Sponsor_k3.eq_1, Y_unf cc_place_Sponsor.eq_1]
  refine Cl_pure0 (c_At h node) ?_; simp only [wk, wd, UInt8.reduceToNat, reduceIte, reduceCtorEq, Nat.reduceEqDiff, Nat.reduceAdd, Nat.reduceMul, Nat.reduceSub, Nat.reduceLeDiff, Int.reduceNeg, Int.reduceAdd, Int.reduceSub, Int.reduceMul, Int.reduceLT, Int.reduceLE, Int.reduceEq, Int.reduceToNat, Nat.reduceBEq, Nat.reduceLT, Y_unf cc_place_Sponsor_k0.eq_1, Y_unf cc_place_Sponsor_k1.eq_1, Y_unf cc_place_Sponsor_k2.eq_1, Y_unf cc_place_Sponsor_k3.eq_1, Y_unf cc_place_Sponsor.eq_1]
  cases hx : atL t node with
  | none =>
    have hs : spon t node = 0 := by simp [spon, hx]
    rw [hs] at hq
    simp only [wk, wd, UInt8.reduceToNat, reduceIte, reduceCtorEq, Nat.reduceEqDiff, Nat.reduceAdd, Nat.reduceMul, Nat.reduceSub, Nat.reduceLeDiff, Int.reduceNeg, Int.reduceAdd, Int.reduceSub, Int.reduceMul, Int.reduceLT, Int.reduceLE, Int.reduceEq, Int.reduceToNat, Nat.reduceBEq, Nat.reduceLT, Y_unf cc_place_Sponsor_k0.eq_1, Y_unf cc_place_Sponsor_k1.eq_1, Y_unf cc_place_Sponsor_k2.eq_1, Y_unf cc_place_Sponsor_k3.eq_1, Y_unf cc_place_Sponsor.eq_1, hx, atV]
    exact hq
  | some x =>
    have hg := atL_good h hx
    simp only [wk, wd, UInt8.reduceToNat, reduceIte, reduceCtorEq, Nat.reduceEqDiff, Nat.reduceAdd, Nat.reduceMul, Nat.reduceSub, Nat.reduceLeDiff, Int.reduceNeg, Int.reduceAdd, Int.reduceSub, Int.reduceMul, Int.reduceLT, Int.reduceLE, Int.reduceEq, Int.reduceToNat, Nat.reduceBEq, Nat.reduceLT, Y_unf cc_place_Sponsor_k0.eq_1, Y_unf cc_place_Sponsor_k1.eq_1, Y_unf cc_place_Sponsor_k2.eq_1, Y_unf cc_place_Sponsor_k3.eq_1, Y_unf cc_place_Sponsor.eq_1, hx, atV]
    refine c_Members hg (fun r hr => ⟨trivial, ?_⟩)
    obtain ⟨y, m, cap, hm, rfl⟩ := mem_shape hr
    have hs : spon t node = y := by simp [spon, hx, hm]
    have hpos := T.labs_pos x
    have p0 : ((0 : Int) < x.labs.length) = True := eq_true (by omega)
    rw [hs] at hq
    simp only [wk, wd, UInt8.reduceToNat, reduceIte, reduceCtorEq, Nat.reduceEqDiff, Nat.reduceAdd, Nat.reduceMul, Nat.reduceSub, Nat.reduceLeDiff, Int.reduceNeg, Int.reduceAdd, Int.reduceSub, Int.reduceMul, Int.reduceLT, Int.reduceLE, Int.reduceEq, Int.reduceToNat, Nat.reduceBEq, Nat.reduceLT, Y_unf cc_place_Sponsor_k0.eq_1, Y_unf cc_place_Sponsor_k1.eq_1, Y_unf cc_place_Sponsor_k2.eq_1, Y_unf cc_place_Sponsor_k3.eq_1, Y_unf cc_place_Sponsor.eq_1, p0, List.map_cons, aI]
    exact hq

theorem upK_len : ∀ (k : Nat) (n : Bs), (upK k n).length = k + 1
  | 0, n => rfl
  | k + 1, n => by simp [upK, upK_len k]
theorem upK_all : ∀ (k : Nat) (n : Bs), ∀ m ∈ upK k n, m.length ≤ n.length
  | 0, n, m, h => by simp [upK] at h; subst h; exact Nat.le_refl _
  | k + 1, n, m, h => by
    simp only [upK, List.mem_cons] at h
    rcases h with rfl | h
    · exact Nat.le_refl _
    · have := upK_all k _ m h; simp at this; omega
theorem pathL_len {t : T} (h : t.Good) (p : Int) : (pathL t p).length ≤ 1001 ∧ ∀ m ∈ pathL t p, m.length ≤ 1000 := by
  have hl := h.len
  unfold pathL
  cases hx : pathX t p with
  | none => simp
  | some x =>
    have := walk_len t [] x (List.mem_of_find?_eq_some hx)
    simp only [List.length_nil] at this
    simp only [up]
    refine ⟨by rw [upK_len]; omega, fun m hm => ?_⟩
    have := upK_all _ _ m hm
    omega

/-- What was gathered so far. -/
def AccV (σ : St) (acc : List Bs) (v : AV) (σ' : St) : Prop :=
  (acc = [] ∧ v = .snil) ∨ ∃ id g, v = .sl id g 0 acc.length ∧ σ'.heap id = some (.arr 1 (acc.map strA) g 0) ∧ σ.nx ≤ id ∧ id < σ'.nx ∧ 0 < acc.length
theorem accV_end {f : FuncId} {args : List AV} {σ : St} {Q : AV → St → Prop} (xs : List Bs) (hq : ∀ r, Strs xs r → Q r σ) (h : CallsA prog f args σ fun v σ' => Ext σ σ' ∧ AccV σ xs v σ') : CallsA prog f args σ Q := by
  refine CallsA.forget (CallsA.freeze h ?_)
  rintro v σ' ⟨hE, ⟨h0, rfl⟩ | ⟨id, g, rfl, hh, hid, _, _⟩⟩
  · exact .inl ⟨hq _ (.inl ⟨rfl, by simp [h0]⟩), trivial, hE⟩
  · refine .inr ⟨id, g, 0, xs.length, 1, xs.map strA, 0, rfl, hh, by simp, ?_, ?_, hE.set hid _⟩
    · refine hq _ (.inr ⟨xs.length, none, ?_, by simp⟩)
      simp [List.take_of_length_le, strA]
    · simp only [IdsLt]
      rw [List.take_of_length_le (by simp)]; exact IdsLts_strs _

def coOf (l : List Bs) : List Bs := (l.filter (fun n => decide (n ≠ []))).map beside
def coL (t : T) (p : Int) : List Bs := coOf (pathL t p)
theorem c_Co {t : T} (h : t.Good) (p : Int) {σ : St} {Q : AV → St → Prop} (hq : ∀ r, Strs (coL t p) r → Q r σ) : CallsA prog F.place_Co [.str t.text, .int .i64 p] σ Q := by
  obtain ⟨hpl, hpm⟩ := pathL_len h p
  refine accV_end _ hq ?_
  refine calls_of_Y e_place_Co rfl ?_; simp only [tm0_0, tm0_1, tm0_2, tm0_3, tm0_4, tm0_5, tm0_6, wk, wd, UInt8.reduceToNat, reduceIte, reduceCtorEq, Nat.reduceEqDiff, Nat.reduceAdd, Nat.reduceMul, Nat.reduceSub, Nat.reduceLeDiff, Int.reduceNeg, Int.reduceAdd, Int.reduceSub, Int.reduceMul, Int.reduceLT, Int.reduceLE, Int.reduceEq, Int.reduceToNat, Nat.reduceBEq, Nat.reduceLT, Y_unf cc_place_Co_k0.eq_1, Y_unf cc_place_Co_c1.eq_1, Y_unf cc_place_Co_k2.eq_1, Y_unf cc_place_Co_k3.eq_1, Y_unf cc_place_Co_k4.eq_1, Y_unf cc_place_Co_k5.eq_1, Y_unf cc_place_Co_l6.eq_1, Y_unf cc_place_Co_k7.eq_1, Y_unf cc_place_Co_k8.eq_1, Y_unf cc_place_Co_k9.eq_1, Y_unf cc_place_Co.eq_1]
  refine c_Path h p (fun r hr => ⟨trivial, ?_⟩)
  rcases hr with ⟨rfl, h0⟩ | ⟨n, cap, rfl, hn⟩
  · have h0' : pathL t p = [] := by simpa using h0
    simp only [wk, wd, UInt8.reduceToNat, reduceIte, reduceCtorEq, Nat.reduceEqDiff, Nat.reduceAdd, Nat.reduceMul, Nat.reduceSub, Nat.reduceLeDiff, Int.reduceNeg, Int.reduceAdd, Int.reduceSub, Int.reduceMul, Int.reduceLT, Int.reduceLE, Int.reduceEq, Int.reduceToNat, Nat.reduceBEq, Nat.reduceLT, Y_unf cc_place_Co_k0.eq_1, Y_unf cc_place_Co_c1.eq_1, Y_unf cc_place_Co_k2.eq_1, Y_unf cc_place_Co_k3.eq_1, Y_unf cc_place_Co_k4.eq_1, Y_unf cc_place_Co_k5.eq_1, Y_unf cc_place_Co_l6.eq_1, Y_unf cc_place_Co_k7.eq_1, Y_unf cc_place_Co_k8.eq_1, Y_unf cc_place_Co_k9.eq_1, Y_unf cc_place_Co.eq_1]
    refine Lp_unroll 1 ?_
    simp only [wk, wd, UInt8.reduceToNat, reduceIte, reduceCtorEq, Nat.reduceEqDiff, Nat.reduceAdd, Nat.reduceMul, Nat.reduceSub, Nat.reduceLeDiff, Int.reduceNeg, Int.reduceAdd, Int.reduceSub, Int.reduceMul, Int.reduceLT, Int.reduceLE, Int.reduceEq, Int.reduceToNat, Nat.reduceBEq, Nat.reduceLT, Y_unf cc_place_Co_k0.eq_1, Y_unf cc_place_Co_c1.eq_1, Y_unf cc_place_Co_k2.eq_1, Y_unf cc_place_Co_k3.eq_1, Y_unf cc_place_Co_k4.eq_1, Y_unf cc_place_Co_k5.eq_1, Y_unf cc_place_Co_l6.eq_1, Y_unf cc_place_Co_k7.eq_1, Y_unf cc_place_Co_k8.eq_1, Y_unf cc_place_Co_k9.eq_1, Y_unf cc_place_Co.eq_1]
    exact ⟨Ext.refl _, .inl ⟨by simp [coL, coOf, h0'], rfl⟩⟩
  · simp only [List.length_map, Nat.mul_one] at hn
    subst hn
    unfold coL
    generalize pathL t p = l at *
    simp only [wk, wd, UInt8.reduceToNat, reduceIte, reduceCtorEq, Nat.reduceEqDiff, Nat.reduceAdd, Nat.reduceMul, Nat.reduceSub, Nat.reduceLeDiff, Int.reduceNeg, Int.reduceAdd, Int.reduceSub, Int.reduceMul, Int.reduceLT, Int.reduceLE, Int.reduceEq, Int.reduceToNat, Nat.reduceBEq, Nat.reduceLT, Y_unf cc_place_Co_k0.eq_1, Y_unf cc_place_Co_c1.eq_1, Y_unf cc_place_Co_k2.eq_1, Y_unf cc_place_Co_k3.eq_1, Y_unf cc_place_Co_k4.eq_1, Y_unf cc_place_Co_k5.eq_1, Y_unf cc_place_Co_l6.eq_1, Y_unf cc_place_Co_k7.eq_1, Y_unf cc_place_Co_k8.eq_1, Y_unf cc_place_Co_k9.eq_1, Y_unf cc_place_Co.eq_1]
    refine Lp_of (α := Nat × List Bs × List Bs × AV) (fun a tm σ' => Ext σ σ' ∧ AccV σ a.2.2.1 a.2.2.2 σ' ∧ l.drop a.1 = a.2.1 ∧ a.1 ≤ l.length ∧ a.2.2.1 ++ coOf a.2.1 = coOf l ∧ a.2.2.1.length ≤ a.1 ∧
        tm 10 = .list (l.map .str) l.length cap ∧ tm 11 = .int .i64 l.length ∧ tm 12 = .int .i64 a.1 ∧ tm 5 = a.2.2.2 ∧ tm 25 = .tup [])
      (fun a => a.2.1.length) (a := (0, l, [], .snil)) ⟨Ext.refl _, .inl ⟨rfl, rfl⟩, rfl, by simp, rfl, by simp, rfl, rfl, rfl, rfl, rfl⟩ ?_
    rintro J hJ ⟨i, rest, acc, v⟩ tm σ' ⟨hE, hA, hd, hi, hr, hai, h10, h11, h12, h5, h25⟩
    simp only at hA hd hi hr hai h12 h5
    cases rest with
    | nil =>
      have := drop_nil hd hi
      have hlt : ((i : Int) < l.length) = False := eq_false (by omega)
      simp only [wk, wd, UInt8.reduceToNat, reduceIte, reduceCtorEq, Nat.reduceEqDiff, Nat.reduceAdd, Nat.reduceMul, Nat.reduceSub, Nat.reduceLeDiff, Int.reduceNeg, Int.reduceAdd, Int.reduceSub, Int.reduceMul, Int.reduceLT, Int.reduceLE, Int.reduceEq, Int.reduceToNat, Nat.reduceBEq, Nat.reduceLT, Y_unf cc_place_Co_k0.eq_1, Y_unf cc_place_Co_c1.eq_1, Y_unf cc_place_Co_k2.eq_1, Y_unf cc_place_Co_k3.eq_1, Y_unf cc_place_Co_k4.eq_1, Y_unf cc_place_Co_k5.eq_1, Y_unf cc_place_Co_l6.eq_1, Y_unf cc_place_Co_k7.eq_1, Y_unf cc_place_Co_k8.eq_1, Y_unf cc_place_Co_k9.eq_1, Y_unf cc_place_Co.eq_1, h10, h11, h12, h5, h25, hlt]
      simp only [coOf, List.filter_nil, List.map_nil, List.append_nil] at hr
      rw [hr] at hA
      exact ⟨hE, hA⟩
    | cons x r =>
      obtain ⟨h1', h2, h4⟩ := drop_cons hd
      have hlt : ((i : Int) < l.length) = True := eq_true (by omega)
      have hle : (i ≤ l.length) = True := eq_true (by omega)
      have hdm : (l.map AV.str).drop i = .str x :: r.map .str := by rw [← List.map_drop, hd]; rfl
      have hw : IntKind.i64.wrap ((i : Int) + 1) = ((i + 1 : Nat) : Int) := by rw [wrap_i64 (by omega) (by omega)]; omega
      have hxl := hpm x (List.mem_of_getElem? h2)
      by_cases hx : x = []
      · simp only [wk, wd, UInt8.reduceToNat, reduceIte, reduceCtorEq, Nat.reduceEqDiff, Nat.reduceAdd, Nat.reduceMul, Nat.reduceSub, Nat.reduceLeDiff, Int.reduceNeg, Int.reduceAdd, Int.reduceSub, Int.reduceMul, Int.reduceLT, Int.reduceLE, Int.reduceEq, Int.reduceToNat, Nat.reduceBEq, Nat.reduceLT, Y_unf cc_place_Co_k0.eq_1, Y_unf cc_place_Co_c1.eq_1, Y_unf cc_place_Co_k2.eq_1, Y_unf cc_place_Co_k3.eq_1, Y_unf cc_place_Co_k4.eq_1, Y_unf cc_place_Co_k5.eq_1, Y_unf cc_place_Co_l6.eq_1, Y_unf cc_place_Co_k7.eq_1, Y_unf cc_place_Co_k8.eq_1, Y_unf cc_place_Co_k9.eq_1, Y_unf cc_place_Co.eq_1, h10, h11, h12, h5, h25, hlt, hle, hdm, List.length_map, hx, hw]
        exact ⟨(i + 1, r, acc, v), hJ _ _ _ ⟨hE, hA, h4, h1', by rw [← hr]; simp [coOf, hx], by simp only []; omega, h10, h11, rfl, h5, h25⟩, Nat.lt_succ_self _⟩
      · simp only [wk, wd, UInt8.reduceToNat, reduceIte, reduceCtorEq, Nat.reduceEqDiff, Nat.reduceAdd, Nat.reduceMul, Nat.reduceSub, Nat.reduceLeDiff, Int.reduceNeg, Int.reduceAdd, Int.reduceSub, Int.reduceMul, Int.reduceLT, Int.reduceLE, Int.reduceEq, Int.reduceToNat, Nat.reduceBEq, Nat.reduceLT, Y_unf cc_place_Co_k0.eq_1, Y_unf cc_place_Co_c1.eq_1, Y_unf cc_place_Co_k2.eq_1, Y_unf cc_place_Co_k3.eq_1, Y_unf cc_place_Co_k4.eq_1, Y_unf cc_place_Co_k5.eq_1, Y_unf cc_place_Co_l6.eq_1, Y_unf cc_place_Co_k7.eq_1, Y_unf cc_place_Co_k8.eq_1, Y_unf cc_place_Co_k9.eq_1, Y_unf cc_place_Co.eq_1, h10, h11, h12, h5, h25, hlt, hle, hdm, List.length_map, hx, hw]
        refine Cl_pure0 (c_Beside x (by omega)) ?_; simp only [wk, wd, UInt8.reduceToNat, reduceIte, reduceCtorEq, Nat.reduceEqDiff, Nat.reduceAdd, Nat.reduceMul, Nat.reduceSub, Nat.reduceLeDiff, Int.reduceNeg, Int.reduceAdd, Int.reduceSub, Int.reduceMul, Int.reduceLT, Int.reduceLE, Int.reduceEq, Int.reduceToNat, Nat.reduceBEq, Nat.reduceLT, Y_unf cc_place_Co_k0.eq_1, Y_unf cc_place_Co_c1.eq_1, Y_unf cc_place_Co_k2.eq_1, Y_unf cc_place_Co_k3.eq_1, Y_unf cc_place_Co_k4.eq_1, Y_unf cc_place_Co_k5.eq_1, Y_unf cc_place_Co_l6.eq_1, Y_unf cc_place_Co_k7.eq_1, Y_unf cc_place_Co_k8.eq_1, Y_unf cc_place_Co_k9.eq_1, Y_unf cc_place_Co.eq_1]
        have hr' : (acc ++ [beside x]) ++ coOf r = coOf l := by rw [← hr]; simp [coOf, hx]
        rcases hA with ⟨rfl, rfl⟩ | ⟨id, g, rfl, hid, hid1, hid2, hpos⟩
        · simp only [wk, wd, UInt8.reduceToNat, reduceIte, reduceCtorEq, Nat.reduceEqDiff, Nat.reduceAdd, Nat.reduceMul, Nat.reduceSub, Nat.reduceLeDiff, Int.reduceNeg, Int.reduceAdd, Int.reduceSub, Int.reduceMul, Int.reduceLT, Int.reduceLE, Int.reduceEq, Int.reduceToNat, Nat.reduceBEq, Nat.reduceLT, Y_unf cc_place_Co_k0.eq_1, Y_unf cc_place_Co_c1.eq_1, Y_unf cc_place_Co_k2.eq_1, Y_unf cc_place_Co_k3.eq_1, Y_unf cc_place_Co_k4.eq_1, Y_unf cc_place_Co_k5.eq_1, Y_unf cc_place_Co_l6.eq_1, Y_unf cc_place_Co_k7.eq_1, Y_unf cc_place_Co_k8.eq_1, Y_unf cc_place_Co_k9.eq_1, Y_unf cc_place_Co.eq_1, h10, h11, h12, h5, h25, hlt, hle, hdm, List.length_map, hx, hw]
          exact ⟨(i + 1, r, [beside x], .sl σ'.nx 0 0 1), hJ _ _ _ ⟨hE.new _, .inr ⟨σ'.nx, 0, rfl, by simp [St.new_heap, strA], hE.nx, by simp only [St.new_nx]; omega, by simp⟩, h4, h1', hr', by simp, h10, h11, rfl, rfl, h25⟩, Nat.lt_succ_self _⟩
        · have z1 : (acc.length ≤ (acc.map strA).length) = True := by simp
          have z2 : (acc.length ≤ 1073741823) = True := eq_true (by omega)
          have z3 : (acc.map strA).take acc.length = acc.map strA := by rw [List.take_of_length_le (by simp)]
          simp only [wk, wd, UInt8.reduceToNat, reduceIte, reduceCtorEq, Nat.reduceEqDiff, Nat.reduceAdd, Nat.reduceMul, Nat.reduceSub, Nat.reduceLeDiff, Int.reduceNeg, Int.reduceAdd, Int.reduceSub, Int.reduceMul, Int.reduceLT, Int.reduceLE, Int.reduceEq, Int.reduceToNat, Nat.reduceBEq, Nat.reduceLT, Y_unf cc_place_Co_k0.eq_1, Y_unf cc_place_Co_c1.eq_1, Y_unf cc_place_Co_k2.eq_1, Y_unf cc_place_Co_k3.eq_1, Y_unf cc_place_Co_k4.eq_1, Y_unf cc_place_Co_k5.eq_1, Y_unf cc_place_Co_l6.eq_1, Y_unf cc_place_Co_k7.eq_1, Y_unf cc_place_Co_k8.eq_1, Y_unf cc_place_Co_k9.eq_1, Y_unf cc_place_Co.eq_1, h10, h11, h12, h5, h25, hlt, hle, hdm, List.length_map, hx, hw, hid, z1, z2, z3]
          exact ⟨(i + 1, r, acc ++ [beside x], .sl id (g + 1) 0 (acc.length + 1)), hJ _ _ _ ⟨hE.set hid1 _, .inr ⟨id, g + 1, by simp, by simp [St.set_heap, strA], hid1, by simp only [St.set_nx]; exact hid2, by simp⟩, h4, h1', hr', by simp; omega, h10, h11, rfl, rfl, h25⟩, Nat.lt_succ_self _⟩
end Go.Proofs.Tryd
open Go Go.Abs
set_option linter.unusedVariables false
set_option linter.unusedSimpArgs false
namespace Go.Proofs.Tryd
def duOf (t : T) (p : Int) (l : List Bs) : List Bs := l.filter (fun n => decide (n ≠ [] ∧ spon t n = p))
def duL (t : T) (p : Int) : List Bs := duOf t p (pathL t p)
theorem c_Duties {t : T} (h : t.Good) (p : Int) {σ : St} {Q : AV → St → Prop} (hq : ∀ r, Strs (duL t p) r → Q r σ) : CallsA prog F.place_Duties [.str t.text, .int .i64 p] σ Q := by
  obtain ⟨hpl, hpm⟩ := pathL_len h p
  refine accV_end _ hq ?_
  refine calls_of_Y e_place_Duties rfl ?_; simp only [tm0_0, tm0_1, tm0_2, tm0_3, tm0_4, tm0_5, tm0_6, wk, wd, UInt8.reduceToNat, reduceIte, reduceCtorEq, Nat.reduceEqDiff, Nat.reduceAdd, Nat.reduceMul, Nat.reduceSub, Nat.reduceLeDiff, Int.reduceNeg, Int.reduceAdd, Int.reduceSub, Int.reduceMul, Int.reduceLT, Int.reduceLE, Int.reduceEq, Int.reduceToNat, Nat.reduceBEq, Nat.reduceLT, Y_unf cc_place_Duties_k0.eq_1, Y_unf cc_place_Duties_c1.eq_1, Y_unf cc_place_Duties_k2.eq_1, Y_unf cc_place_Duties_k3.eq_1, Y_unf cc_place_Duties_k4.eq_1, Y_unf cc_place_Duties_k5.eq_1, Y_unf cc_place_Duties_l6.eq_1, Y_unf cc_place_Duties_k7.eq_1, Y_unf cc_place_Duties_k8.eq_1, Y_unf cc_place_Duties_k9.eq_1, Y_unf cc_place_Duties.eq_1]
  refine c_Path h p (fun r hr => ⟨trivial, ?_⟩)
  rcases hr with ⟨rfl, h0⟩ | ⟨n, cap, rfl, hn⟩
  · have h0' : pathL t p = [] := by simpa using h0
    simp only [wk, wd, UInt8.reduceToNat, reduceIte, reduceCtorEq, Nat.reduceEqDiff, Nat.reduceAdd, Nat.reduceMul, Nat.reduceSub, Nat.reduceLeDiff, Int.reduceNeg, Int.reduceAdd, Int.reduceSub, Int.reduceMul, Int.reduceLT, Int.reduceLE, Int.reduceEq, Int.reduceToNat, Nat.reduceBEq, Nat.reduceLT, Y_unf cc_place_Duties_k0.eq_1, Y_unf cc_place_Duties_c1.eq_1, Y_unf cc_place_Duties_k2.eq_1, Y_unf cc_place_Duties_k3.eq_1, Y_unf cc_place_Duties_k4.eq_1, Y_unf cc_place_Duties_k5.eq_1, Y_unf cc_place_Duties_l6.eq_1, Y_unf cc_place_Duties_k7.eq_1, Y_unf cc_place_Duties_k8.eq_1, Y_unf cc_place_Duties_k9.eq_1, Y_unf cc_place_Duties.eq_1]
    refine Lp_unroll 1 ?_
    simp only [wk, wd, UInt8.reduceToNat, reduceIte, reduceCtorEq, Nat.reduceEqDiff, Nat.reduceAdd, Nat.reduceMul, Nat.reduceSub, Nat.reduceLeDiff, Int.reduceNeg, Int.reduceAdd, Int.reduceSub, Int.reduceMul, Int.reduceLT, Int.reduceLE, Int.reduceEq, Int.reduceToNat, Nat.reduceBEq, Nat.reduceLT, Y_unf cc_place_Duties_k0.eq_1, Y_unf cc_place_Duties_c1.eq_1, Y_unf cc_place_Duties_k2.eq_1, Y_unf cc_place_Duties_k3.eq_1, Y_unf cc_place_Duties_k4.eq_1, Y_unf cc_place_Duties_k5.eq_1, Y_unf cc_place_Duties_l6.eq_1, Y_unf cc_place_Duties_k7.eq_1, Y_unf cc_place_Duties_k8.eq_1, Y_unf cc_place_Duties_k9.eq_1, Y_unf cc_place_Duties.eq_1]
    exact ⟨Ext.refl _, .inl ⟨by simp [duL, duOf, h0'], rfl⟩⟩
  · simp only [List.length_map, Nat.mul_one] at hn
    subst hn
    have duE : duL t p = duOf t p (pathL t p) := rfl
    rw [duE]
    generalize pathL t p = l at *
    simp only [wk, wd, UInt8.reduceToNat, reduceIte, reduceCtorEq, Nat.reduceEqDiff, Nat.reduceAdd, Nat.reduceMul, Nat.reduceSub, Nat.reduceLeDiff, Int.reduceNeg, Int.reduceAdd, Int.reduceSub, Int.reduceMul, Int.reduceLT, Int.reduceLE, Int.reduceEq, Int.reduceToNat, Nat.reduceBEq, Nat.reduceLT, Y_unf cc_place_Duties_k0.eq_1, Y_unf cc_place_Duties_c1.eq_1, Y_unf cc_place_Duties_k2.eq_1, Y_unf cc_place_Duties_k3.eq_1, Y_unf cc_place_Duties_k4.eq_1, Y_unf cc_place_Duties_k5.eq_1, Y_unf cc_place_Duties_l6.eq_1, Y_unf cc_place_Duties_k7.eq_1, Y_unf cc_place_Duties_k8.eq_1, Y_unf cc_place_Duties_k9.eq_1, Y_unf cc_place_Duties.eq_1]
    refine Lp_of (α := Nat × List Bs × List Bs × AV) (fun a tm σ' => Ext σ σ' ∧ AccV σ a.2.2.1 a.2.2.2 σ' ∧ l.drop a.1 = a.2.1 ∧ a.1 ≤ l.length ∧ a.2.2.1 ++ duOf t p a.2.1 = duOf t p l ∧ a.2.2.1.length ≤ a.1 ∧
        tm 0 = .str t.text ∧ tm 1 = .int .i64 p ∧ tm 10 = .list (l.map .str) l.length cap ∧ tm 11 = .int .i64 l.length ∧ tm 12 = .int .i64 a.1 ∧ tm 5 = a.2.2.2 ∧ tm 31 = .tup [])
      (fun a => a.2.1.length) (a := (0, l, [], .snil)) ⟨Ext.refl _, .inl ⟨rfl, rfl⟩, rfl, by simp, rfl, by simp, rfl, rfl, rfl, rfl, rfl, rfl, rfl⟩ ?_
    rintro J hJ ⟨i, rest, acc, v⟩ tm σ' ⟨hE, hA, hd, hi, hr, hai, u0, u1, h10, h11, h12, h5, h31⟩
    simp only at hA hd hi hr hai h12 h5
    cases rest with
    | nil =>
      have := drop_nil hd hi
      have hlt : ((i : Int) < l.length) = False := eq_false (by omega)
      simp only [wk, wd, UInt8.reduceToNat, reduceIte, reduceCtorEq, Nat.reduceEqDiff, Nat.reduceAdd, Nat.reduceMul, Nat.reduceSub, Nat.reduceLeDiff, Int.reduceNeg, Int.reduceAdd, Int.reduceSub, Int.reduceMul, Int.reduceLT, Int.reduceLE, Int.reduceEq, Int.reduceToNat, Nat.reduceBEq, Nat.reduceLT, Y_unf cc_place_Duties_k0.eq_1, Y_unf cc_place_Duties_c1.eq_1, Y_unf cc_place_Duties_k2.eq_1, Y_unf cc_place_Duties_k3.eq_1, Y_unf cc_place_Duties_k4.eq_1, Y_unf cc_place_Duties_k5.eq_1, Y_unf cc_place_Duties_l6.eq_1, Y_unf cc_place_Duties_k7.eq_1, Y_unf cc_place_Duties_k8.eq_1, Y_unf cc_place_Duties_k9.eq_1, Y_unf cc_place_Duties.eq_1, u0, u1, h10, h11, h12, h5, h31, hlt]
      simp only [duOf, List.filter_nil, List.append_nil] at hr
      rw [hr] at hA
      exact ⟨hE, hA⟩
    | cons x r =>
      obtain ⟨h1', h2, h4⟩ := drop_cons hd
      have hlt : ((i : Int) < l.length) = True := eq_true (by omega)
      have hle : (i ≤ l.length) = True := eq_true (by omega)
      have hdm : (l.map AV.str).drop i = .str x :: r.map .str := by rw [← List.map_drop, hd]; rfl
      have hw : IntKind.i64.wrap ((i : Int) + 1) = ((i + 1 : Nat) : Int) := by rw [wrap_i64 (by omega) (by omega)]; omega
      have hxl := hpm x (List.mem_of_getElem? h2)
      by_cases hx : x = []
      · simp only [wk, wd, UInt8.reduceToNat, reduceIte, reduceCtorEq, Nat.reduceEqDiff, Nat.reduceAdd, Nat.reduceMul, Nat.reduceSub, Nat.reduceLeDiff, Int.reduceNeg, Int.reduceAdd, Int.reduceSub, Int.reduceMul, Int.reduceLT, Int.reduceLE, Int.reduceEq, Int.reduceToNat, Nat.reduceBEq, Nat.reduceLT, Y_unf cc_place_Duties_k0.eq_1, Y_unf cc_place_Duties_c1.eq_1, Y_unf cc_place_Duties_k2.eq_1, Y_unf cc_place_Duties_k3.eq_1, Y_unf cc_place_Duties_k4.eq_1, Y_unf cc_place_Duties_k5.eq_1, Y_unf cc_place_Duties_l6.eq_1, Y_unf cc_place_Duties_k7.eq_1, Y_unf cc_place_Duties_k8.eq_1, Y_unf cc_place_Duties_k9.eq_1, Y_unf cc_place_Duties.eq_1, u0, u1, h10, h11, h12, h5, h31, hlt, hle, hdm, List.length_map, hx, hw]
        exact ⟨(i + 1, r, acc, v), hJ _ _ _ ⟨hE, hA, h4, h1', by rw [← hr]; simp [duOf, hx], by simp only []; omega, u0, u1, h10, h11, rfl, h5, h31⟩, Nat.lt_succ_self _⟩
      · simp only [wk, wd, UInt8.reduceToNat, reduceIte, reduceCtorEq, Nat.reduceEqDiff, Nat.reduceAdd, Nat.reduceMul, Nat.reduceSub, Nat.reduceLeDiff, Int.reduceNeg, Int.reduceAdd, Int.reduceSub, Int.reduceMul, Int.reduceLT, Int.reduceLE, Int.reduceEq, Int.reduceToNat, Nat.reduceBEq, Nat.reduceLT, Y_unf cc_place_Duties_k0.eq_1, Y_unf cc_place_Duties_c1.eq_1, Y_unf cc_place_Duties_k2.eq_1, Y_unf cc_place_Duties_k3.eq_1, Y_unf cc_place_Duties_k4.eq_1, Y_unf cc_place_Duties_k5.eq_1, Y_unf cc_place_Duties_l6.eq_1, Y_unf cc_place_Duties_k7.eq_1, Y_unf cc_place_Duties_k8.eq_1, Y_unf cc_place_Duties_k9.eq_1, Y_unf cc_place_Duties.eq_1, u0, u1, h10, h11, h12, h5, h31, hlt, hle, hdm, List.length_map, hx, hw]
        refine Cl_pure0 (c_Sponsor h x) ?_; simp only [wk, wd, UInt8.reduceToNat, reduceIte, reduceCtorEq, Nat.reduceEqDiff, Nat.reduceAdd, Nat.reduceMul, Nat.reduceSub, Nat.reduceLeDiff, Int.reduceNeg, Int.reduceAdd, Int.reduceSub, Int.reduceMul, Int.reduceLT, Int.reduceLE, Int.reduceEq, Int.reduceToNat, Nat.reduceBEq, Nat.reduceLT, Y_unf cc_place_Duties_k0.eq_1, Y_unf cc_place_Duties_c1.eq_1, Y_unf cc_place_Duties_k2.eq_1, Y_unf cc_place_Duties_k3.eq_1, Y_unf cc_place_Duties_k4.eq_1, Y_unf cc_place_Duties_k5.eq_1, Y_unf cc_place_Duties_l6.eq_1, Y_unf cc_place_Duties_k7.eq_1, Y_unf cc_place_Duties_k8.eq_1, Y_unf cc_place_Duties_k9.eq_1, Y_unf cc_place_Duties.eq_1]
        by_cases hs : spon t x = p
        rotate_left
        · simp only [wk, wd, UInt8.reduceToNat, reduceIte, reduceCtorEq, Nat.reduceEqDiff, Nat.reduceAdd, Nat.reduceMul, Nat.reduceSub, Nat.reduceLeDiff, Int.reduceNeg, Int.reduceAdd, Int.reduceSub, Int.reduceMul, Int.reduceLT, Int.reduceLE, Int.reduceEq, Int.reduceToNat, Nat.reduceBEq, Nat.reduceLT, Y_unf cc_place_Duties_k0.eq_1, Y_unf cc_place_Duties_c1.eq_1, Y_unf cc_place_Duties_k2.eq_1, Y_unf cc_place_Duties_k3.eq_1, Y_unf cc_place_Duties_k4.eq_1, Y_unf cc_place_Duties_k5.eq_1, Y_unf cc_place_Duties_l6.eq_1, Y_unf cc_place_Duties_k7.eq_1, Y_unf cc_place_Duties_k8.eq_1, Y_unf cc_place_Duties_k9.eq_1, Y_unf cc_place_Duties.eq_1, u0, u1, h10, h11, h12, h5, h31, hlt, hle, hdm, List.length_map, hx, hw, hs]
          exact ⟨(i + 1, r, acc, v), hJ _ _ _ ⟨hE, hA, h4, h1', by rw [← hr]; simp [duOf, hs], by simp only []; omega, u0, u1, h10, h11, rfl, h5, h31⟩, Nat.lt_succ_self _⟩
        have hr' : (acc ++ [x]) ++ duOf t p r = duOf t p l := by rw [← hr]; simp [duOf, hx, hs]
        rcases hA with ⟨rfl, rfl⟩ | ⟨id, g, rfl, hid, hid1, hid2, hpos⟩
        · simp only [wk, wd, UInt8.reduceToNat, reduceIte, reduceCtorEq, Nat.reduceEqDiff, Nat.reduceAdd, Nat.reduceMul, Nat.reduceSub, Nat.reduceLeDiff, Int.reduceNeg, Int.reduceAdd, Int.reduceSub, Int.reduceMul, Int.reduceLT, Int.reduceLE, Int.reduceEq, Int.reduceToNat, Nat.reduceBEq, Nat.reduceLT, Y_unf cc_place_Duties_k0.eq_1, Y_unf cc_place_Duties_c1.eq_1, Y_unf cc_place_Duties_k2.eq_1, Y_unf cc_place_Duties_k3.eq_1, Y_unf cc_place_Duties_k4.eq_1, Y_unf cc_place_Duties_k5.eq_1, Y_unf cc_place_Duties_l6.eq_1, Y_unf cc_place_Duties_k7.eq_1, Y_unf cc_place_Duties_k8.eq_1, Y_unf cc_place_Duties_k9.eq_1, Y_unf cc_place_Duties.eq_1, u0, u1, h10, h11, h12, h5, h31, hlt, hle, hdm, List.length_map, hx, hw, hs]
          exact ⟨(i + 1, r, [x], .sl σ'.nx 0 0 1), hJ _ _ _ ⟨hE.new _, .inr ⟨σ'.nx, 0, rfl, by simp [St.new_heap, strA], hE.nx, by simp only [St.new_nx]; omega, by simp⟩, h4, h1', hr', by simp, u0, u1, h10, h11, rfl, rfl, h31⟩, Nat.lt_succ_self _⟩
        · have z1 : (acc.length ≤ (acc.map strA).length) = True := by simp
          have z2 : (acc.length ≤ 1073741823) = True := eq_true (by omega)
          have z3 : (acc.map strA).take acc.length = acc.map strA := by rw [List.take_of_length_le (by simp)]
          simp only [wk, wd, UInt8.reduceToNat, reduceIte, reduceCtorEq, Nat.reduceEqDiff, Nat.reduceAdd, Nat.reduceMul, Nat.reduceSub, Nat.reduceLeDiff, Int.reduceNeg, Int.reduceAdd, Int.reduceSub, Int.reduceMul, Int.reduceLT, Int.reduceLE, Int.reduceEq, Int.reduceToNat, Nat.reduceBEq, Nat.reduceLT, Y_unf cc_place_Duties_k0.eq_1, Y_unf cc_place_Duties_c1.eq_1, Y_unf cc_place_Duties_k2.eq_1, Y_unf cc_place_Duties_k3.eq_1, Y_unf cc_place_Duties_k4.eq_1, Y_unf cc_place_Duties_k5.eq_1, Y_unf cc_place_Duties_l6.eq_1, Y_unf cc_place_Duties_k7.eq_1, Y_unf cc_place_Duties_k8.eq_1, Y_unf cc_place_Duties_k9.eq_1, Y_unf cc_place_Duties.eq_1, u0, u1, h10, h11, h12, h5, h31, hlt, hle, hdm, List.length_map, hx, hw, hs, hid, z1, z2, z3]
          exact ⟨(i + 1, r, acc ++ [x], .sl id (g + 1) 0 (acc.length + 1)), hJ _ _ _ ⟨hE.set hid1 _, .inr ⟨id, g + 1, by simp, by simp [St.set_heap, strA], hid1, by simp only [St.set_nx]; exact hid2, by simp⟩, h4, h1', hr', by simp; omega, u0, u1, h10, h11, rfl, rfl, h31⟩, Nat.lt_succ_self _⟩
end Go.Proofs.Tryd
