/- Contracts of functions: what each computes, for whatever memory. -/
import Derived.Test.YtchlihfnolnjpaaDoorCtA
open Go Go.Abs
set_option linter.unusedVariables false
set_option linter.unusedSimpArgs false
namespace Go.Proofs.Tryd

theorem T.text_pos : ∀ t : T, 0 < t.text.length
  | .leaf p => by simp [T.text]
  | .node l r => by simp [T.text]
/-- Few leaves, few letters. -/
theorem T.text_len : ∀ t : T, t.text.length + 2 = 3 * t.labs.length
  | .leaf p => by simp [T.text, T.labs]
  | .node l r => by
    have := T.text_len l
    have := T.text_len r
    simp [T.text, T.labs]; omega
def T.depth : T → Nat
  | .leaf _ => 0
  | .node l r => 1 + max l.depth r.depth
theorem T.labs_pos : ∀ t : T, 0 < t.labs.length
  | .leaf p => by simp [T.labs]
  | .node l r => by have := T.labs_pos l; simp [T.labs]; omega
theorem T.depth_lt : ∀ t : T, t.depth < t.labs.length
  | .leaf p => by simp [T.labs, T.depth]
  | .node l r => by
    have := T.depth_lt l
    have := T.depth_lt r
    simp only [T.labs, T.depth, List.length_append]
    omega

theorem c_text (t : T) : ∀ (ht : t.Ok) (hs : t.labs.length ≤ 100) {σ : St} {v : AV} {W : List Nat} (h : TreeAt σ v t W) {Q : AV → St → Prop}, Q (.str t.text) σ → CallsA prog F.tree_node_text [v] σ Q := by
  induction t with
  | leaf p =>
    intro ht hs σ v W h Q hq
    obtain ⟨id, rfl, rfl, hh⟩ := h
    have hp := ht p (by simp [T.labs])
    refine calls_of_Y e_tree_node_text rfl ?_; simp only [tm0_0, tm0_1, tm0_2, tm0_3, tm0_4, tm0_5, tm0_6, wk, wd, UInt8.reduceToNat, reduceIte, reduceCtorEq, Nat.reduceEqDiff, Nat.reduceAdd, Nat.reduceMul, Nat.reduceSub, Nat.reduceLeDiff, Int.reduceNeg, Int.reduceAdd, Int.reduceSub, Int.reduceMul, Int.reduceLT, Int.reduceLE, Int.reduceEq, Int.reduceToNat, Nat.reduceBEq, Nat.reduceLT, Y_unf cc_tree_node_text_k0.eq_1, Y_unf cc_tree_node_text_c1.eq_1, Y_unf cc_tree_node_text_k2.eq_1, Y_unf cc_tree_node_text_k3.eq_1, Y_unf cc_tree_node_text.eq_1, hh]
    refine Cl_pure0 (c_Itoa (by omega)) ?_; simp only [wk, wd, UInt8.reduceToNat, reduceIte, reduceCtorEq, Nat.reduceEqDiff, Nat.reduceAdd, Nat.reduceMul, Nat.reduceSub, Nat.reduceLeDiff, Int.reduceNeg, Int.reduceAdd, Int.reduceSub, Int.reduceMul, Int.reduceLT, Int.reduceLE, Int.reduceEq, Int.reduceToNat, Nat.reduceBEq, Nat.reduceLT, Y_unf cc_tree_node_text_k0.eq_1, Y_unf cc_tree_node_text_c1.eq_1, Y_unf cc_tree_node_text_k2.eq_1, Y_unf cc_tree_node_text_k3.eq_1, Y_unf cc_tree_node_text.eq_1]
    exact hq
  | node l r ihl ihr =>
    intro ht hs σ v W h Q hq
    obtain ⟨id, vl, vr, Fl, Fr, rfl, rfl, hh, h1, h2⟩ := h
    obtain ⟨il, rfl, _⟩ := h1.ptr
    obtain ⟨ir, rfl, _⟩ := h2.ptr
    simp only [T.labs, List.length_append] at hs
    have e1 := T.text_len l
    have e2 := T.text_len r
    refine calls_of_Y e_tree_node_text rfl ?_; simp only [tm0_0, tm0_1, tm0_2, tm0_3, tm0_4, tm0_5, tm0_6, wk, wd, UInt8.reduceToNat, reduceIte, reduceCtorEq, Nat.reduceEqDiff, Nat.reduceAdd, Nat.reduceMul, Nat.reduceSub, Nat.reduceLeDiff, Int.reduceNeg, Int.reduceAdd, Int.reduceSub, Int.reduceMul, Int.reduceLT, Int.reduceLE, Int.reduceEq, Int.reduceToNat, Nat.reduceBEq, Nat.reduceLT, Y_unf cc_tree_node_text_k0.eq_1, Y_unf cc_tree_node_text_c1.eq_1, Y_unf cc_tree_node_text_k2.eq_1, Y_unf cc_tree_node_text_k3.eq_1, Y_unf cc_tree_node_text.eq_1, hh]
    refine ihl ht.l (by omega) h1 ⟨by simp only [wk, wd, UInt8.reduceToNat, reduceIte, reduceCtorEq, Nat.reduceEqDiff, Nat.reduceAdd, Nat.reduceMul, Nat.reduceSub, Nat.reduceLeDiff, Int.reduceNeg, Int.reduceAdd, Int.reduceSub, Int.reduceMul, Int.reduceLT, Int.reduceLE, Int.reduceEq, Int.reduceToNat, Nat.reduceBEq, Nat.reduceLT, Y_unf cc_tree_node_text_k0.eq_1, Y_unf cc_tree_node_text_c1.eq_1, Y_unf cc_tree_node_text_k2.eq_1, Y_unf cc_tree_node_text_k3.eq_1, Y_unf cc_tree_node_text.eq_1, hh], ?_⟩
    have g1 : ([40] : Bs).length + l.text.length ≤ 4611686018427387904 := by simp; omega
    have g2 : (1 + l.text.length ≤ 4611686018427387904) = True := eq_true (by omega)
    simp only [wk, wd, UInt8.reduceToNat, reduceIte, reduceCtorEq, Nat.reduceEqDiff, Nat.reduceAdd, Nat.reduceMul, Nat.reduceSub, Nat.reduceLeDiff, Int.reduceNeg, Int.reduceAdd, Int.reduceSub, Int.reduceMul, Int.reduceLT, Int.reduceLE, Int.reduceEq, Int.reduceToNat, Nat.reduceBEq, Nat.reduceLT, Y_unf cc_tree_node_text_k0.eq_1, Y_unf cc_tree_node_text_c1.eq_1, Y_unf cc_tree_node_text_k2.eq_1, Y_unf cc_tree_node_text_k3.eq_1, Y_unf cc_tree_node_text.eq_1, g2, List.singleton_append]
    refine ihr ht.r (by omega) h2 ⟨trivial, ?_⟩
    have g3 : (l.text.length + 1 + r.text.length ≤ 4611686018427387904) = True := eq_true (by omega)
    have g4 : (l.text.length + r.text.length + 1 + 1 ≤ 4611686018427387904) = True := eq_true (by omega)
    simp only [wk, wd, UInt8.reduceToNat, reduceIte, reduceCtorEq, Nat.reduceEqDiff, Nat.reduceAdd, Nat.reduceMul, Nat.reduceSub, Nat.reduceLeDiff, Int.reduceNeg, Int.reduceAdd, Int.reduceSub, Int.reduceMul, Int.reduceLT, Int.reduceLE, Int.reduceEq, Int.reduceToNat, Nat.reduceBEq, Nat.reduceLT, Y_unf cc_tree_node_text_k0.eq_1, Y_unf cc_tree_node_text_c1.eq_1, Y_unf cc_tree_node_text_k2.eq_1, Y_unf cc_tree_node_text_k3.eq_1, Y_unf cc_tree_node_text.eq_1, g3, g4, List.length_append]
    have : 40 :: (l.text ++ r.text ++ [41]) = (T.node l r).text := by simp [T.text]
    rw [this]; exact hq

theorem c_depth (t : T) : ∀ (hs : t.labs.length ≤ 100) {σ : St} {v : AV} {W : List Nat} (h : TreeAt σ v t W) {Q : AV → St → Prop}, Q (.int .i64 t.depth) σ → CallsA prog F.tree_node_depth [v] σ Q := by
  induction t with
  | leaf p =>
    intro hs σ v W h Q hq
    obtain ⟨id, rfl, rfl, hh⟩ := h
    refine calls_of_Y e_tree_node_depth rfl ?_; simp only [tm0_0, tm0_1, tm0_2, tm0_3, tm0_4, tm0_5, tm0_6, wk, wd, UInt8.reduceToNat, reduceIte, reduceCtorEq, Nat.reduceEqDiff, Nat.reduceAdd, Nat.reduceMul, Nat.reduceSub, Nat.reduceLeDiff, Int.reduceNeg, Int.reduceAdd, Int.reduceSub, Int.reduceMul, Int.reduceLT, Int.reduceLE, Int.reduceEq, Int.reduceToNat, Nat.reduceBEq, Nat.reduceLT, Y_unf cc_tree_node_depth_k0.eq_1, Y_unf cc_tree_node_depth_k1.eq_1, Y_unf cc_tree_node_depth_k2.eq_1, Y_unf cc_tree_node_depth.eq_1, hh]
    exact hq
  | node l r ihl ihr =>
    intro hs σ v W h Q hq
    obtain ⟨id, vl, vr, Fl, Fr, rfl, rfl, hh, h1, h2⟩ := h
    obtain ⟨il, rfl, _⟩ := h1.ptr
    obtain ⟨ir, rfl, _⟩ := h2.ptr
    simp only [T.labs, List.length_append] at hs
    have e1 := T.depth_lt l
    have e2 := T.depth_lt r
    refine calls_of_Y e_tree_node_depth rfl ?_; simp only [tm0_0, tm0_1, tm0_2, tm0_3, tm0_4, tm0_5, tm0_6, wk, wd, UInt8.reduceToNat, reduceIte, reduceCtorEq, Nat.reduceEqDiff, Nat.reduceAdd, Nat.reduceMul, Nat.reduceSub, Nat.reduceLeDiff, Int.reduceNeg, Int.reduceAdd, Int.reduceSub, Int.reduceMul, Int.reduceLT, Int.reduceLE, Int.reduceEq, Int.reduceToNat, Nat.reduceBEq, Nat.reduceLT, Y_unf cc_tree_node_depth_k0.eq_1, Y_unf cc_tree_node_depth_k1.eq_1, Y_unf cc_tree_node_depth_k2.eq_1, Y_unf cc_tree_node_depth.eq_1, hh]
    refine ihl (by omega) h1 ⟨by simp only [wk, wd, UInt8.reduceToNat, reduceIte, reduceCtorEq, Nat.reduceEqDiff, Nat.reduceAdd, Nat.reduceMul, Nat.reduceSub, Nat.reduceLeDiff, Int.reduceNeg, Int.reduceAdd, Int.reduceSub, Int.reduceMul, Int.reduceLT, Int.reduceLE, Int.reduceEq, Int.reduceToNat, Nat.reduceBEq, Nat.reduceLT, Y_unf cc_tree_node_depth_k0.eq_1, Y_unf cc_tree_node_depth_k1.eq_1, Y_unf cc_tree_node_depth_k2.eq_1, Y_unf cc_tree_node_depth.eq_1, hh], ?_⟩
    simp only [wk, wd, UInt8.reduceToNat, reduceIte, reduceCtorEq, Nat.reduceEqDiff, Nat.reduceAdd, Nat.reduceMul, Nat.reduceSub, Nat.reduceLeDiff, Int.reduceNeg, Int.reduceAdd, Int.reduceSub, Int.reduceMul, Int.reduceLT, Int.reduceLE, Int.reduceEq, Int.reduceToNat, Nat.reduceBEq, Nat.reduceLT, Y_unf cc_tree_node_depth_k0.eq_1, Y_unf cc_tree_node_depth_k1.eq_1, Y_unf cc_tree_node_depth_k2.eq_1, Y_unf cc_tree_node_depth.eq_1]
    refine ihr (by omega) h2 ⟨trivial, ?_⟩
    have g : IntKind.i64.wrap (1 + (if (r.depth : Int) > l.depth then (r.depth : Int) else l.depth)) = ((T.node l r).depth : Int) := by
      have : (T.node l r).depth = 1 + max l.depth r.depth := rfl
      split <;> rw [wrap_i64 (by omega) (by omega)] <;> omega
    simp only [wk, wd, UInt8.reduceToNat, reduceIte, reduceCtorEq, Nat.reduceEqDiff, Nat.reduceAdd, Nat.reduceMul, Nat.reduceSub, Nat.reduceLeDiff, Int.reduceNeg, Int.reduceAdd, Int.reduceSub, Int.reduceMul, Int.reduceLT, Int.reduceLE, Int.reduceEq, Int.reduceToNat, Nat.reduceBEq, Nat.reduceLT, Y_unf cc_tree_node_depth_k0.eq_1, Y_unf cc_tree_node_depth_k1.eq_1, Y_unf cc_tree_node_depth_k2.eq_1, Y_unf cc_tree_node_depth.eq_1, g]
    exact hq

section
variable {α : Type} (step : α → T → α × Bool)
def walkF : α → T → α
  | s, .leaf p => (step s (.leaf p)).1
  | s, .node l r => if (step s (.node l r)).2 = true then walkF (walkF (step s (.node l r)).1 r) l else (step s (.node l r)).1
end
theorem walkF_sz {α : Type} {step : α → T → α × Bool} {sz : α → Nat} (h1 : ∀ s p, sz (step s (.leaf p)).1 ≤ sz s + 1) (h2 : ∀ s l r, sz (step s (.node l r)).1 ≤ sz s) : ∀ (t : T) (s : α), sz (walkF step s t) ≤ sz s + t.labs.length
  | .leaf p, s => by simp only [walkF, T.labs]; exact h1 s p
  | .node l r, s => by
    have a := h2 s l r
    simp only [walkF, T.labs, List.length_append]
    split
    · have b := walkF_sz h1 h2 r (step s (.node l r)).1
      have c := walkF_sz h1 h2 l (walkF step (step s (.node l r)).1 r)
      omega
    · omega
theorem callable_each1 : callable prog F.tree_node_each__1 = true := by kernel_rfl

theorem c_walk {α : Type} {step : α → T → α × Bool} {Inv : α → St → Prop} {g : FuncId} {caps : List AV} {c1 c2 : Nat} {G U : List Nat} (hU : ∀ i ∈ U, i ∈ G) (hc1 : c1 ∈ G) (hc2 : c2 ∈ G) (hg : callable prog g = true)
    {sz : α → Nat} {B : Nat} (h1' : ∀ s p, sz (step s (.leaf p)).1 ≤ sz s + 1) (h2' : ∀ s l r, sz (step s (.node l r)).1 ≤ sz s)
    (hcb : ∀ s t v W σ, sz s + t.labs.length ≤ B → (∀ i ∈ W, i ∈ U) → Inv s σ → TreeAt σ v t W → ∀ Q : AV → St → Prop, (∀ σ', Inv (step s t).1 σ' → (∀ i ∈ G, σ'.heap i = σ.heap i) → Q (.bool (step s t).2) σ') → CallsA prog g ([v] ++ caps) σ Q)
    (t : T) : ∀ {v : AV} {W : List Nat} {σ : St} {s : α}, sz s + t.labs.length ≤ B → (∀ i ∈ W, i ∈ U) → Inv s σ → TreeAt σ v t W → σ.heap c1 = some (.arr 1 [.fn g caps] 0 0) →
      σ.heap c2 = some (.arr 1 [.fn F.tree_node_each__1 [.ptr c1 0 0, .ptr c2 0 0]] 0 0) → ∀ {Q : AV → St → Prop}, (∀ σ', Inv (walkF step s t) σ' → (∀ i ∈ G, σ'.heap i = σ.heap i) → Q (.tup []) σ') →
      CallsA prog F.tree_node_each__1 [v, .ptr c1 0 0, .ptr c2 0 0] σ Q := by
  induction t with
  | leaf p =>
    intro v W σ s hB hF hI ht h1 h2 Q hq
    refine calls_of_Y e_tree_node_each__1 rfl ?_; simp only [tm0_0, tm0_1, tm0_2, tm0_3, tm0_4, tm0_5, tm0_6, wk, wd, UInt8.reduceToNat, reduceIte, reduceCtorEq, Nat.reduceEqDiff, Nat.reduceAdd, Nat.reduceMul, Nat.reduceSub, Nat.reduceLeDiff, Int.reduceNeg, Int.reduceAdd, Int.reduceSub, Int.reduceMul, Int.reduceLT, Int.reduceLE, Int.reduceEq, Int.reduceToNat, Nat.reduceBEq, Nat.reduceLT, Y_unf cc_tree_node_each__1_k0.eq_1, Y_unf cc_tree_node_each__1_c1.eq_1, Y_unf cc_tree_node_each__1_k2.eq_1, Y_unf cc_tree_node_each__1.eq_1, h1]
    refine ⟨hg, ?_⟩
    refine hcb s _ v W σ hB hF hI ht _ (fun σ1 hI1 hk => ⟨trivial, ?_⟩)
    obtain ⟨id, rfl, rfl, hh⟩ := ht
    have hh1 : σ1.heap id = some (.arr 3 [.int .i64 p, .pnil, .pnil] 0 0) := by rw [hk id (hU _ (hF id (by simp)))]; exact hh
    cases hb : (step s (.leaf p)).2
    · simp only [wk, wd, UInt8.reduceToNat, reduceIte, reduceCtorEq, Nat.reduceEqDiff, Nat.reduceAdd, Nat.reduceMul, Nat.reduceSub, Nat.reduceLeDiff, Int.reduceNeg, Int.reduceAdd, Int.reduceSub, Int.reduceMul, Int.reduceLT, Int.reduceLE, Int.reduceEq, Int.reduceToNat, Nat.reduceBEq, Nat.reduceLT, Y_unf cc_tree_node_each__1_k0.eq_1, Y_unf cc_tree_node_each__1_c1.eq_1, Y_unf cc_tree_node_each__1_k2.eq_1, Y_unf cc_tree_node_each__1.eq_1, hb]
      exact hq _ hI1 hk
    · simp only [wk, wd, UInt8.reduceToNat, reduceIte, reduceCtorEq, Nat.reduceEqDiff, Nat.reduceAdd, Nat.reduceMul, Nat.reduceSub, Nat.reduceLeDiff, Int.reduceNeg, Int.reduceAdd, Int.reduceSub, Int.reduceMul, Int.reduceLT, Int.reduceLE, Int.reduceEq, Int.reduceToNat, Nat.reduceBEq, Nat.reduceLT, Y_unf cc_tree_node_each__1_k0.eq_1, Y_unf cc_tree_node_each__1_c1.eq_1, Y_unf cc_tree_node_each__1_k2.eq_1, Y_unf cc_tree_node_each__1.eq_1, hb, hh1]
      exact hq _ hI1 hk
  | node l r ihl ihr =>
    intro v W σ s hB hF hI ht h1 h2 Q hq
    have z0 := h2' s l r
    have z1 := walkF_sz h1' h2' r (step s (.node l r)).1
    have hB' := hB
    simp only [T.labs, List.length_append] at hB'
    refine calls_of_Y e_tree_node_each__1 rfl ?_; simp only [tm0_0, tm0_1, tm0_2, tm0_3, tm0_4, tm0_5, tm0_6, wk, wd, UInt8.reduceToNat, reduceIte, reduceCtorEq, Nat.reduceEqDiff, Nat.reduceAdd, Nat.reduceMul, Nat.reduceSub, Nat.reduceLeDiff, Int.reduceNeg, Int.reduceAdd, Int.reduceSub, Int.reduceMul, Int.reduceLT, Int.reduceLE, Int.reduceEq, Int.reduceToNat, Nat.reduceBEq, Nat.reduceLT, Y_unf cc_tree_node_each__1_k0.eq_1, Y_unf cc_tree_node_each__1_c1.eq_1, Y_unf cc_tree_node_each__1_k2.eq_1, Y_unf cc_tree_node_each__1.eq_1, h1]
    refine ⟨hg, ?_⟩
    refine hcb s _ v W σ hB hF hI ht _ (fun σ1 hI1 hk => ⟨trivial, ?_⟩)
    obtain ⟨id, vl, vr, Fl, Fr, rfl, rfl, hh, hl, hr⟩ := ht
    obtain ⟨il, rfl, _⟩ := hl.ptr
    obtain ⟨ir, rfl, _⟩ := hr.ptr
    have hFl : ∀ i ∈ Fl, i ∈ U := fun i hi => hF i (by simp [hi])
    have hFr : ∀ i ∈ Fr, i ∈ U := fun i hi => hF i (by simp [hi])
    have hidG : id ∈ G := hU _ (hF id (by simp))
    have hh1 := hk id hidG
    rw [hh] at hh1
    have h12 := hk c2 hc2
    rw [h2] at h12
    cases hb : (step s (.node l r)).2
    · simp only [wk, wd, UInt8.reduceToNat, reduceIte, reduceCtorEq, Nat.reduceEqDiff, Nat.reduceAdd, Nat.reduceMul, Nat.reduceSub, Nat.reduceLeDiff, Int.reduceNeg, Int.reduceAdd, Int.reduceSub, Int.reduceMul, Int.reduceLT, Int.reduceLE, Int.reduceEq, Int.reduceToNat, Nat.reduceBEq, Nat.reduceLT, Y_unf cc_tree_node_each__1_k0.eq_1, Y_unf cc_tree_node_each__1_c1.eq_1, Y_unf cc_tree_node_each__1_k2.eq_1, Y_unf cc_tree_node_each__1.eq_1, hb]
      refine hq _ ?_ hk
      simp only [walkF, hb]; exact hI1
    · simp only [wk, wd, UInt8.reduceToNat, reduceIte, reduceCtorEq, Nat.reduceEqDiff, Nat.reduceAdd, Nat.reduceMul, Nat.reduceSub, Nat.reduceLeDiff, Int.reduceNeg, Int.reduceAdd, Int.reduceSub, Int.reduceMul, Int.reduceLT, Int.reduceLE, Int.reduceEq, Int.reduceToNat, Nat.reduceBEq, Nat.reduceLT, Y_unf cc_tree_node_each__1_k0.eq_1, Y_unf cc_tree_node_each__1_c1.eq_1, Y_unf cc_tree_node_each__1_k2.eq_1, Y_unf cc_tree_node_each__1.eq_1, hb, hh1, h12]
      refine ⟨callable_each1, ?_⟩
      refine ihr (by omega) hFr hI1 (hr.keep fun i hi => hk i (hU _ (hFr i hi))) (by rw [hk c1 hc1]; exact h1) h12 (fun σ2 hI2 hk2 => ⟨trivial, ?_⟩)
      have hh2 := hk2 id hidG
      rw [hh1] at hh2
      have h22 := hk2 c2 hc2
      rw [h12] at h22
      simp only [wk, wd, UInt8.reduceToNat, reduceIte, reduceCtorEq, Nat.reduceEqDiff, Nat.reduceAdd, Nat.reduceMul, Nat.reduceSub, Nat.reduceLeDiff, Int.reduceNeg, Int.reduceAdd, Int.reduceSub, Int.reduceMul, Int.reduceLT, Int.reduceLE, Int.reduceEq, Int.reduceToNat, Nat.reduceBEq, Nat.reduceLT, Y_unf cc_tree_node_each__1_k0.eq_1, Y_unf cc_tree_node_each__1_c1.eq_1, Y_unf cc_tree_node_each__1_k2.eq_1, Y_unf cc_tree_node_each__1.eq_1, hh2, h22]
      refine ⟨callable_each1, ?_⟩
      refine ihl (by omega) hFl hI2 (hl.keep fun i hi => (hk2 i (hU _ (hFl i hi))).trans (hk i (hU _ (hFl i hi)))) (by rw [hk2 c1 hc1, hk c1 hc1]; exact h1) h22 (fun σ3 hI3 hk3 => ⟨trivial, ?_⟩)
      simp only [wk, wd, UInt8.reduceToNat, reduceIte, reduceCtorEq, Nat.reduceEqDiff, Nat.reduceAdd, Nat.reduceMul, Nat.reduceSub, Nat.reduceLeDiff, Int.reduceNeg, Int.reduceAdd, Int.reduceSub, Int.reduceMul, Int.reduceLT, Int.reduceLE, Int.reduceEq, Int.reduceToNat, Nat.reduceBEq, Nat.reduceLT, Y_unf cc_tree_node_each__1_k0.eq_1, Y_unf cc_tree_node_each__1_c1.eq_1, Y_unf cc_tree_node_each__1_k2.eq_1, Y_unf cc_tree_node_each__1.eq_1]
      refine hq _ ?_ fun i hi => (hk3 i hi).trans ((hk2 i hi).trans (hk i hi))
      simp only [walkF, hb, if_true]; exact hI3

theorem c_each {α : Type} {step : α → T → α × Bool} {g : FuncId} {caps : List AV} {t : T} {v : AV} {W : List Nat} {σ : St} {s : α} (Inv : α → St → Prop) (hg : callable prog g = true)
    (ht : TreeAt σ v t W) (hF : ∀ i ∈ W, i < σ.nx) (hi : ∀ σ', Ext σ σ' → σ'.nx = σ.nx + 2 → Inv s σ')
    {sz : α → Nat} {B : Nat} (h1' : ∀ s p, sz (step s (.leaf p)).1 ≤ sz s + 1) (h2' : ∀ s l r, sz (step s (.node l r)).1 ≤ sz s) (hB : sz s + t.labs.length ≤ B)
    (hcb : ∀ s t v W' σ', sz s + t.labs.length ≤ B → (∀ i ∈ W', i ∈ W) → Inv s σ' → TreeAt σ' v t W' → ∀ Q : AV → St → Prop, (∀ σ2, Inv (step s t).1 σ2 → (∀ i ∈ W ++ [σ.nx, σ.nx + 1], σ2.heap i = σ'.heap i) → Q (.bool (step s t).2) σ2) → CallsA prog g ([v] ++ caps) σ' Q)
    {Q : AV → St → Prop} (hq : ∀ σ', Inv (walkF step s t) σ' → (∀ i ∈ W, σ'.heap i = σ.heap i) → Q (.tup []) σ') : CallsA prog F.tree_node_each [v, .fn g caps] σ Q := by
  have hne : (σ.nx = σ.nx + 1) = False := by simp
  have hne' : (σ.nx + 1 = σ.nx) = False := by simp
  refine calls_of_Y e_tree_node_each rfl ?_; simp only [tm0_0, tm0_1, tm0_2, tm0_3, tm0_4, tm0_5, tm0_6, wk, wd, UInt8.reduceToNat, reduceIte, reduceCtorEq, Nat.reduceEqDiff, Nat.reduceAdd, Nat.reduceMul, Nat.reduceSub, Nat.reduceLeDiff, Int.reduceNeg, Int.reduceAdd, Int.reduceSub, Int.reduceMul, Int.reduceLT, Int.reduceLE, Int.reduceEq, Int.reduceToNat, Nat.reduceBEq, Nat.reduceLT, Y_unf cc_tree_node_each_k0.eq_1, Y_unf cc_tree_node_each_k1.eq_1, Y_unf cc_tree_node_each_k2.eq_1, Y_unf cc_tree_node_each.eq_1, hne, hne']
  refine ⟨callable_each1, ?_⟩
  have hE : Ext σ (((σ.new (.arr 1 [.fn g caps] 0 0)).new (.arr 1 [.fnil] 0 0)).set (σ.nx + 1) (.arr 1 [.fn F.tree_node_each__1 [.ptr σ.nx 0 0, .ptr (σ.nx + 1) 0 0]] 0 0)) :=
    (((Ext.refl σ).new _).new _).set (by omega) _
  refine c_walk (step := step) (Inv := Inv) (G := W ++ [σ.nx, σ.nx + 1]) (U := W) (g := g) (caps := caps) (fun i hi => by simp [hi]) (by simp) (by simp) hg (sz := sz) (B := B) h1' h2' hcb t (s := s) (W := W) hB (fun i hi => hi) (hi _ hE rfl) (ht.keep fun i hi => hE.heap i (hF i hi)) ?_ ?_ (fun σ' hI hk => ⟨trivial, ?_⟩)
  · simp [St.set_heap, St.new_heap, St.new_nx]
  · simp [St.set_heap]
  · simp only [wk, wd, UInt8.reduceToNat, reduceIte, reduceCtorEq, Nat.reduceEqDiff, Nat.reduceAdd, Nat.reduceMul, Nat.reduceSub, Nat.reduceLeDiff, Int.reduceNeg, Int.reduceAdd, Int.reduceSub, Int.reduceMul, Int.reduceLT, Int.reduceLE, Int.reduceEq, Int.reduceToNat, Nat.reduceBEq, Nat.reduceLT, Y_unf cc_tree_node_each_k0.eq_1, Y_unf cc_tree_node_each_k1.eq_1, Y_unf cc_tree_node_each_k2.eq_1, Y_unf cc_tree_node_each.eq_1]
    exact hq _ hI fun i hi => (hk i (by simp [hi])).trans (hE.heap i (hF i hi))
end Go.Proofs.Tryd
open Go Go.Abs
set_option linter.unusedVariables false
set_option linter.unusedSimpArgs false
namespace Go.Proofs.Tryd

theorem callable_mem1 : callable prog F.tree_node_members__1 = true := by kernel_rfl

def accStep (acc : List Int) (t : T) : List Int × Bool := (match t with | .leaf p => acc ++ [(p : Int)] | .node _ _ => acc, true)
/-- Numbers gathered at a variable. -/
def AccAt (lo : Nat) (σ : St) (c : Nat) (G : List Nat) (acc : List Int) : Prop :=
  lo ≤ σ.nx ∧ c ∉ G ∧ c < σ.nx ∧ (∀ i ∈ G, i < σ.nx) ∧ ((acc = [] ∧ σ.heap c = some (.arr 1 [.snil] 0 0)) ∨
    ∃ id g, σ.heap c = some (.arr 1 [.sl id g 0 acc.length] 0 0) ∧ σ.heap id = some (.arr 1 (acc.map aI) g 0) ∧ id ≠ c ∧ id ∉ G ∧ id < σ.nx ∧ acc ≠ [] ∧ lo ≤ id)

theorem c_mem1 {lo c : Nat} {G : List Nat} {acc : List Int} {t : T} {v : AV} {W : List Nat} {σ : St} (hb : acc.length < 1000000) (hW : ∀ i ∈ W, i ∈ G) (hA : AccAt lo σ c G acc) (ht : TreeAt σ v t W) {Q : AV → St → Prop}
    (hq : ∀ σ', AccAt lo σ' c G (accStep acc t).1 → (∀ i ∈ G, σ'.heap i = σ.heap i) → (∀ i, i < σ.nx → i < lo → i ≠ c → σ'.heap i = σ.heap i) → σ.nx ≤ σ'.nx → Q (.bool true) σ') :
    CallsA prog F.tree_node_members__1 [v, .ptr c 0 0] σ Q := by
  obtain ⟨hlo, hcG, hcn, hGn, hA⟩ := hA
  cases t with
  | node l r =>
    obtain ⟨id, vl, vr, Fl, Fr, rfl, rfl, hh, hl, hr⟩ := ht
    obtain ⟨il, rfl, _⟩ := hl.ptr
    refine calls_of_Y e_tree_node_members__1 rfl ?_; simp only [tm0_0, tm0_1, tm0_2, tm0_3, tm0_4, tm0_5, tm0_6, wk, wd, UInt8.reduceToNat, reduceIte, reduceCtorEq, Nat.reduceEqDiff, Nat.reduceAdd, Nat.reduceMul, Nat.reduceSub, Nat.reduceLeDiff, Int.reduceNeg, Int.reduceAdd, Int.reduceSub, Int.reduceMul, Int.reduceLT, Int.reduceLE, Int.reduceEq, Int.reduceToNat, Nat.reduceBEq, Nat.reduceLT, Y_unf cc_tree_node_members__1_c0.eq_1, Y_unf cc_tree_node_members__1_k1.eq_1, Y_unf cc_tree_node_members__1_k2.eq_1, Y_unf cc_tree_node_members__1.eq_1, hh]
    exact hq σ ⟨hlo, hcG, hcn, hGn, hA⟩ (fun _ _ => rfl) (fun _ _ _ _ => rfl) (Nat.le_refl _)
  | leaf p =>
    obtain ⟨id, rfl, rfl, hh⟩ := ht
    rcases hA with ⟨rfl, hc⟩ | ⟨a, g, hc, ha, hac, haG, han, hne, hal⟩
    · have hcn' : (c = σ.nx) = False := by simp; omega
      refine calls_of_Y e_tree_node_members__1 rfl ?_; simp only [tm0_0, tm0_1, tm0_2, tm0_3, tm0_4, tm0_5, tm0_6, wk, wd, UInt8.reduceToNat, reduceIte, reduceCtorEq, Nat.reduceEqDiff, Nat.reduceAdd, Nat.reduceMul, Nat.reduceSub, Nat.reduceLeDiff, Int.reduceNeg, Int.reduceAdd, Int.reduceSub, Int.reduceMul, Int.reduceLT, Int.reduceLE, Int.reduceEq, Int.reduceToNat, Nat.reduceBEq, Nat.reduceLT, Y_unf cc_tree_node_members__1_c0.eq_1, Y_unf cc_tree_node_members__1_k1.eq_1, Y_unf cc_tree_node_members__1_k2.eq_1, Y_unf cc_tree_node_members__1.eq_1, hh, hc, hcn']
      refine hq _ ⟨by simp only [St.set_nx, St.new_nx]; omega, hcG, by simp only [St.set_nx, St.new_nx]; omega, fun i hi => by have := hGn i hi; simp only [St.set_nx, St.new_nx]; omega, .inr ⟨σ.nx, 0, ?_, ?_, by omega, ?_, by simp [St.set_nx, St.new_nx], by simp [accStep], hlo⟩⟩ ?_ ?_ ?_
      · simp [St.set_heap, accStep]
      · simp only [St.set_heap, St.new_heap]; rw [if_neg (by omega)]; simp [aI, accStep]
      · intro hm; have := hGn _ hm; omega
      · intro i hi
        have := hGn i hi
        simp only [St.set_heap, St.new_heap]; rw [if_neg (fun he : i = c => hcG (by rw [← he]; exact hi)), if_neg (by omega)]
      · intro i hi hil hic
        simp only [St.set_heap, St.new_heap]; rw [if_neg hic, if_neg (by omega)]
      · simp only [St.set_nx, St.new_nx]; omega
    · have h1 : (c = a) = False := by simp; exact fun h => hac h.symm
      have h2 : (a = c) = False := by simp; exact hac
      have h3 : (acc.length ≤ (acc.map aI).length) = True := by simp
      have h4 : (acc.length + 1 ≤ 1073741824) = True := eq_true (by omega)
      have h5 : (acc.map aI).take acc.length = acc.map aI := by rw [List.take_of_length_le (by simp)]
      refine calls_of_Y e_tree_node_members__1 rfl ?_; simp only [tm0_0, tm0_1, tm0_2, tm0_3, tm0_4, tm0_5, tm0_6, wk, wd, UInt8.reduceToNat, reduceIte, reduceCtorEq, Nat.reduceEqDiff, Nat.reduceAdd, Nat.reduceMul, Nat.reduceSub, Nat.reduceLeDiff, Int.reduceNeg, Int.reduceAdd, Int.reduceSub, Int.reduceMul, Int.reduceLT, Int.reduceLE, Int.reduceEq, Int.reduceToNat, Nat.reduceBEq, Nat.reduceLT, Y_unf cc_tree_node_members__1_c0.eq_1, Y_unf cc_tree_node_members__1_k1.eq_1, Y_unf cc_tree_node_members__1_k2.eq_1, Y_unf cc_tree_node_members__1.eq_1, hh, hc, ha, h1, h2, h3, h4, h5]
      refine hq _ ⟨by simp only [St.set_nx]; omega, hcG, by simp only [St.set_nx]; omega, fun i hi => by have := hGn i hi; simp only [St.set_nx]; omega, .inr ⟨a, g + 1, ?_, ?_, hac, haG, han, by simp [accStep], hal⟩⟩ ?_ ?_ ?_
      · simp [St.set_heap, accStep]
      · simp only [St.set_heap]; rw [if_neg hac]; simp [aI, accStep]
      · intro i hi
        simp only [St.set_heap]; rw [if_neg (fun he : i = c => hcG (by rw [← he]; exact hi)), if_neg (fun he : i = a => haG (by rw [← he]; exact hi))]
      · intro i hi hil hic
        simp only [St.set_heap]; rw [if_neg hic, if_neg (by omega)]
      · exact Nat.le_refl _

def T.rlabs : T → List Int
  | .leaf p => [(p : Int)]
  | .node l r => r.rlabs ++ l.rlabs
theorem walk_acc : ∀ (t : T) (acc : List Int), walkF accStep acc t = acc ++ t.rlabs
  | .leaf p, acc => by simp [walkF, accStep, T.rlabs]
  | .node l r, acc => by
    simp only [walkF, accStep, T.rlabs, if_true]
    rw [walk_acc r, walk_acc l]; simp
theorem T.rlabs_len : ∀ t : T, t.rlabs.length = t.labs.length
  | .leaf p => rfl
  | .node l r => by simp [T.rlabs, T.labs, T.rlabs_len l, T.rlabs_len r]; omega
def T.mem (t : T) : List Int := isort t.rlabs
theorem isortFrom_length : ∀ (k i : Nat) (a : List Int), (isortFrom k i a).length = a.length
  | 0, i, a => rfl
  | k + 1, i, a => by simp only [isortFrom]; rw [isortFrom_length, sink_length]
theorem isort_length (l : List Int) : (isort l).length = l.length := isortFrom_length _ _ _
theorem T.mem_len (t : T) : t.mem.length = t.labs.length := by rw [T.mem, isort_length, T.rlabs_len]
theorem IdsLts_ints {n : Nat} (l : List Int) : IdsLts n (l.map aI) := IdsLts_map (fun a => by simp [aI, IdsLt]) l

theorem c_members {t : T} {v : AV} {W : List Nat} {σ : St} (ht : TreeAt σ v t W) (hW : ∀ i ∈ W, i < σ.nx) (hn : t.labs.length ≤ 12) {Q : AV → St → Prop} (hq : ∀ r, Ints t.mem r → Q r σ) : CallsA prog F.tree_node_members [v] σ Q := by
  have hpos := T.labs_pos t
  refine CallsA.forget ?_
  refine CallsA.freeze (R := fun v σ' => ∃ id g, v = .sl id g 0 t.labs.length ∧ σ'.heap id = some (.arr 1 (t.mem.map aI) g 0) ∧ Ext σ σ' ∧ σ.nx ≤ id) ?_ ?_
  · refine calls_of_Y e_tree_node_members rfl ?_; simp only [tm0_0, tm0_1, tm0_2, tm0_3, tm0_4, tm0_5, tm0_6, wk, wd, UInt8.reduceToNat, reduceIte, reduceCtorEq, Nat.reduceEqDiff, Nat.reduceAdd, Nat.reduceMul, Nat.reduceSub, Nat.reduceLeDiff, Int.reduceNeg, Int.reduceAdd, Int.reduceSub, Int.reduceMul, Int.reduceLT, Int.reduceLE, Int.reduceEq, Int.reduceToNat, Nat.reduceBEq, Nat.reduceLT, Y_unf cc_tree_node_members_k0.eq_1, Y_unf cc_tree_node_members_k1.eq_1, Y_unf cc_tree_node_members_k2.eq_1, Y_unf cc_tree_node_members.eq_1]
    have hx : Ext σ (σ.new (.arr 1 [.snil] 0 0)) := (Ext.refl σ).new _
    refine c_each (step := accStep) (s := []) (sz := List.length) (B := 12) (fun acc σ' => AccAt (σ.nx + 1) σ' σ.nx (W ++ [σ.nx + 1, σ.nx + 2]) acc ∧ Ext σ σ') callable_mem1
      (ht.keep fun i hi => hx.heap i (hW i hi)) (fun i hi => Nat.lt_succ_of_lt (hW i hi)) ?_ (fun s p => by simp [accStep]) (fun s l r => by simp [accStep]) (by simpa using hn) ?_ (fun σ' hI hk => ⟨trivial, ?_⟩)
    · intro σ' hE hnx
      have h0 : σ'.heap σ.nx = some (.arr 1 [.snil] 0 0) := by rw [hE.heap _ (by simp [St.new_nx])]; simp [St.new_heap]
      refine ⟨⟨by rw [hnx]; simp only [St.new_nx]; omega, ?_, by rw [hnx]; simp only [St.new_nx]; omega, ?_, .inl ⟨rfl, h0⟩⟩, hx.trans hE⟩
      · intro hm
        rcases List.mem_append.1 hm with hm | hm
        · have := hW _ hm; omega
        · simp at hm
      · intro i hi
        rw [hnx]; simp only [St.new_nx]
        rcases List.mem_append.1 hi with hi | hi
        · have := hW _ hi; omega
        · simp at hi; omega
    · intro acc t' v' W' σ' hB' hW' hI hT Q' hQ'
      obtain ⟨hA, hE⟩ := hI
      refine c_mem1 (by omega) (fun i hi => by simp [hW' i hi]) hA hT (fun σ2 hA2 hk2 hk3 hnx2 => ?_)
      refine hQ' σ2 ⟨hA2, ⟨Nat.le_trans hE.nx hnx2, fun i hi => ?_⟩⟩ hk2
      rw [hk3 i (Nat.lt_of_lt_of_le hi hE.nx) (by omega) (by omega)]
      exact hE.heap i hi
    · obtain ⟨⟨_, _, _, _, hA⟩, hE⟩ := hI
      rw [walk_acc] at hA
      simp only [List.nil_append] at hA
      have hl := T.rlabs_len t
      rcases hA with ⟨h0, _⟩ | ⟨id, g, hc, ha, hic, hiG, hin, _, hlo⟩
      · rw [h0] at hl; simp at hl; omega
      · rw [hl] at hc
        simp only [wk, wd, UInt8.reduceToNat, reduceIte, reduceCtorEq, Nat.reduceEqDiff, Nat.reduceAdd, Nat.reduceMul, Nat.reduceSub, Nat.reduceLeDiff, Int.reduceNeg, Int.reduceAdd, Int.reduceSub, Int.reduceMul, Int.reduceLT, Int.reduceLE, Int.reduceEq, Int.reduceToNat, Nat.reduceBEq, Nat.reduceLT, Y_unf cc_tree_node_members_k0.eq_1, Y_unf cc_tree_node_members_k1.eq_1, Y_unf cc_tree_node_members_k2.eq_1, Y_unf cc_tree_node_members.eq_1, hc]
        refine c_Sort hl hpos hn ha ⟨trivial, ?_⟩
        have hni : (σ.nx = id) = False := eq_false (by omega)
        simp only [wk, wd, UInt8.reduceToNat, reduceIte, reduceCtorEq, Nat.reduceEqDiff, Nat.reduceAdd, Nat.reduceMul, Nat.reduceSub, Nat.reduceLeDiff, Int.reduceNeg, Int.reduceAdd, Int.reduceSub, Int.reduceMul, Int.reduceLT, Int.reduceLE, Int.reduceEq, Int.reduceToNat, Nat.reduceBEq, Nat.reduceLT, Y_unf cc_tree_node_members_k0.eq_1, Y_unf cc_tree_node_members_k1.eq_1, Y_unf cc_tree_node_members_k2.eq_1, Y_unf cc_tree_node_members.eq_1, hc, hni]
        refine ⟨id, g, rfl, ?_, hE.set (by omega) _, by omega⟩
        rw [if_pos rfl]; rfl
  · rintro v σ' ⟨id, g, rfl, hh, hE, hid⟩
    have hml := T.mem_len t
    refine .inr ⟨id, g, 0, t.labs.length, 1, t.mem.map aI, 0, rfl, hh, by simp [hml], ?_, ?_, hE.set hid _⟩
    · refine hq _ (.inr ⟨t.labs.length, none, ?_, by simp [hml]⟩)
      simp [hml, List.take_of_length_le]
    · simp only [IdsLt]
      rw [List.take_of_length_le (by simp [hml])]; exact IdsLts_ints _

/-- full -/
theorem c_full {t : T} {v : AV} {W : List Nat} {σ : St} (ht : TreeAt σ v t W) (hW : ∀ i ∈ W, i < σ.nx) (hn : t.labs.length ≤ 12) {Q : AV → St → Prop} (hq : Q (.bool (decide (t.labs.length = 2 ^ t.depth))) σ) :
    CallsA prog F.tree_node_full [v] σ Q := by
  have hd := T.depth_lt t
  refine calls_of_Y e_tree_node_full rfl ?_; simp only [tm0_0, tm0_1, tm0_2, tm0_3, tm0_4, tm0_5, tm0_6, wk, wd, UInt8.reduceToNat, reduceIte, reduceCtorEq, Nat.reduceEqDiff, Nat.reduceAdd, Nat.reduceMul, Nat.reduceSub, Nat.reduceLeDiff, Int.reduceNeg, Int.reduceAdd, Int.reduceSub, Int.reduceMul, Int.reduceLT, Int.reduceLE, Int.reduceEq, Int.reduceToNat, Nat.reduceBEq, Nat.reduceLT, Y_unf cc_tree_node_full_k0.eq_1, Y_unf cc_tree_node_full.eq_1]
  refine c_members ht hW hn (fun r hr => ⟨trivial, ?_⟩)
  have hml := T.mem_len t
  have hlen : ∃ x, r = .list (t.mem.map aI) t.labs.length x := by
    rcases hr with ⟨_, h⟩ | ⟨n, cap, rfl, h⟩
    · have := T.labs_pos t
      simp at h; rw [h] at hml; simp at hml; omega
    · simp [hml] at h; subst h; exact ⟨cap, rfl⟩
  obtain ⟨x, rfl⟩ := hlen
  simp only [wk, wd, UInt8.reduceToNat, reduceIte, reduceCtorEq, Nat.reduceEqDiff, Nat.reduceAdd, Nat.reduceMul, Nat.reduceSub, Nat.reduceLeDiff, Int.reduceNeg, Int.reduceAdd, Int.reduceSub, Int.reduceMul, Int.reduceLT, Int.reduceLE, Int.reduceEq, Int.reduceToNat, Nat.reduceBEq, Nat.reduceLT, Y_unf cc_tree_node_full_k0.eq_1, Y_unf cc_tree_node_full.eq_1]
  refine c_depth t (by omega) ht ⟨trivial, ?_⟩
  have hs : binA .shl (.int .i64 1) (.int .i64 t.depth) = some (.int .i64 ((2 ^ t.depth : Nat) : Int)) := by
    have hp : 2 ^ t.depth ≤ 2 ^ 12 := Nat.pow_le_pow_right (by decide) (by omega)
    have h1 : ¬ ((t.depth : Int) < 0) := by omega
    have h2 : Nat.min t.depth IntKind.i64.bits = t.depth := by
      have : IntKind.i64.bits = 64 := rfl
      rw [this]; exact Nat.min_eq_left (by omega)
    simp only [binA]
    rw [if_pos (Or.inl trivial), if_neg h1]
    simp only [Int.toNat_natCast, h2, Int.one_mul]
    have h3 : ((2 : Int) ^ t.depth) = ((2 ^ t.depth : Nat) : Int) := by simp
    rw [h3]
    generalize 2 ^ t.depth = m at hp ⊢
    rw [wrap_i64 (by omega) (by omega)]
  simp only [wk, wd, UInt8.reduceToNat, reduceIte, reduceCtorEq, Nat.reduceEqDiff, Nat.reduceAdd, Nat.reduceMul, Nat.reduceSub, Nat.reduceLeDiff, Int.reduceNeg, Int.reduceAdd, Int.reduceSub, Int.reduceMul, Int.reduceLT, Int.reduceLE, Int.reduceEq, Int.reduceToNat, Nat.reduceBEq, Nat.reduceLT, Y_unf cc_tree_node_full_k0.eq_1, Y_unf cc_tree_node_full.eq_1, hs]
  have : decide ((t.labs.length : Int) = ((2 ^ t.depth : Nat) : Int)) = decide (t.labs.length = 2 ^ t.depth) := by
    rw [Bool.eq_iff_iff]; simp only [decide_eq_true_eq]; exact Int.ofNat_inj
  rw [this]; exact hq
end Go.Proofs.Tryd
open Go Go.Abs
set_option linter.unusedVariables false
set_option linter.unusedSimpArgs false
namespace Go.Proofs.Tryd

theorem getD_set {a : List Int} {i j : Nat} {x : Int} (hi : i < a.length) : (a.set i x).getD j 0 = if j = i then x else a.getD j 0 := by
  simp only [List.getD_eq_getElem?_getD, List.getElem?_set]
  by_cases h : j = i
  · subst h; simp [hi]
  · rw [if_neg (fun he => h he.symm), if_neg h]
theorem swap_perm {a : List Int} {i j : Nat} (hi : i < a.length) (hj : j < a.length) (hij : i ≠ j) : ((a.set i (a.getD j 0)).set j (a.getD i 0)).Perm a := by
  rw [List.perm_iff_count]
  intro b
  have e1 : a.getD i 0 = a[i] := by simp [List.getD_eq_getElem?_getD, hi]
  have e2 : a.getD j 0 = a[j] := by simp [List.getD_eq_getElem?_getD, hj]
  rw [e1, e2, List.count_set (by simpa using hj), List.count_set hi]
  have h3 : (a.set i a[j])[j]'(by simpa using hj) = a[j] := by rw [List.getElem_set_ne hij]
  rw [h3]
  have c1 : a[i] = b → 0 < a.count b := fun h => by rw [List.count_pos_iff]; exact h ▸ List.getElem_mem hi
  have c2 : a[j] = b → 0 < a.count b := fun h => by rw [List.count_pos_iff]; exact h ▸ List.getElem_mem hj
  by_cases h1 : a[i] = b <;> by_cases h2 : a[j] = b <;> simp [h1, h2]
  · have := c1 h1; omega
  · have := c1 h1; omega
theorem sink_perm : ∀ (j : Nat) (a : List Int), j < a.length → (sink j a).Perm a
  | 0, a, h => by simp only [sink]; exact List.Perm.refl _
  | j + 1, a, h => by
    simp only [sink]
    split
    · refine (sink_perm j _ (by simp; omega)).trans ?_
      exact swap_perm h (by omega) (by omega)
    · exact List.Perm.refl _
theorem isortFrom_perm : ∀ (k i : Nat) (a : List Int), i + k ≤ a.length → (isortFrom k i a).Perm a
  | 0, i, a, h => List.Perm.refl _
  | k + 1, i, a, h => by
    simp only [isortFrom]
    exact (isortFrom_perm k (i + 1) _ (by rw [sink_length]; omega)).trans (sink_perm i a (by omega))
theorem isort_perm (l : List Int) : (isort l).Perm l := by
  cases l with
  | nil => exact List.Perm.refl _
  | cons x l => exact isortFrom_perm _ _ _ (by simp; omega)
def SortedTo (k : Nat) (a : List Int) : Prop := ∀ p q, p < q → q < k → a.getD p 0 ≤ a.getD q 0
theorem sink_sorted : ∀ (j i : Nat) (a : List Int), i < a.length → j ≤ i → (∀ p q, p < q → q ≤ i → q ≠ j → p ≠ j → a.getD p 0 ≤ a.getD q 0) → (∀ q, j < q → q ≤ i → a.getD j 0 ≤ a.getD q 0) → SortedTo (i + 1) (sink j a)
  | 0, i, a, hi, hj, h1, h2 => by
    intro p q hpq hq
    simp only [sink]
    rcases Nat.eq_zero_or_pos p with rfl | hp
    · exact h2 q hpq (by omega)
    · exact h1 p q hpq (by omega) (by omega) (by omega)
  | j + 1, i, a, hi, hj, h1, h2 => by
    simp only [sink]
    split
    · rename_i hlt
      refine sink_sorted j i _ (by simp; exact hi) (by omega) ?_ ?_
      · intro p q hpq hq hqj hpj
        rw [getD_set (by simp; omega), getD_set (by omega), getD_set (by simp; omega), getD_set (by omega)]
        rw [if_neg hpj, if_neg hqj]
        by_cases hp : p = j + 1
        · rw [if_pos hp, if_neg (by omega)]; exact h1 j q (by omega) hq (by omega) (by omega)
        · rw [if_neg hp]
          by_cases hq' : q = j + 1
          · rw [if_pos hq']; exact h1 p j (by omega) (by omega) (by omega) hp
          · rw [if_neg hq']; exact h1 p q hpq hq hq' hp
      · intro q hq hqi
        rw [getD_set (by simp; omega), getD_set (by omega), getD_set (by simp; omega), getD_set (by omega)]
        rw [if_pos rfl, if_neg (by omega)]
        by_cases hq' : q = j + 1
        · rw [if_pos hq']; omega
        · rw [if_neg hq']; exact h2 q (by omega) hqi
    · rename_i hge
      intro p q hpq hq
      by_cases hq' : q = j + 1
      · subst hq'
        by_cases hp : p = j
        · subst hp; omega
        · have := h1 p j (by omega) (by omega) (by omega) (by omega); omega
      · by_cases hp : p = j + 1
        · subst hp; exact h2 q hpq (by omega)
        · exact h1 p q hpq (by omega) hq' hp
theorem isortFrom_sorted : ∀ (k i : Nat) (a : List Int), i + k ≤ a.length → SortedTo i a → SortedTo (i + k) (isortFrom k i a)
  | 0, i, a, h, hs => hs
  | k + 1, i, a, h, hs => by
    simp only [isortFrom]
    rw [show i + (k + 1) = (i + 1) + k from by omega]
    refine isortFrom_sorted k (i + 1) _ (by rw [sink_length]; omega) (sink_sorted i i a (by omega) (Nat.le_refl _) ?_ ?_)
    · intro p q hpq hq hqi hpi; exact hs p q hpq (by omega)
    · intro q hq hqi; omega
theorem isort_sorted (l : List Int) : (isort l).Pairwise (· ≤ ·) := by
  rw [List.pairwise_iff_getElem]
  intro i j hi hj hij
  have hl := isort_length l
  have : SortedTo (1 + (l.length - 1)) (isort l) := isortFrom_sorted _ _ _ (by omega) (by intro p q hpq hq; omega)
  have := this i j hij (by omega)
  simpa [List.getD_eq_getElem?_getD, hi, hj] using this
theorem isort_strict {l : List Int} (h : l.Nodup) : (isort l).Pairwise (· < ·) := by
  have hn : (isort l).Nodup := (isort_perm l).nodup_iff.2 h
  have := (isort_sorted l).and hn
  exact this.imp fun ⟨h1, h2⟩ => by omega
theorem rowGo_true : ∀ (l : List Int) (last : Int), l.Pairwise (· < ·) → (∀ x ∈ l, last < x ∧ x ≤ 8) → (0 < last ∨ (0 ≤ last ∧ l ≠ [])) → rowGo last l = true
  | [], last, hp, hx, h => by simp [rowGo]; simp at h; exact h
  | p :: r, last, hp, hx, h => by
    simp only [rowGo]
    have h1 := hx p (by simp)
    rw [if_neg (by omega)]
    rw [List.pairwise_cons] at hp
    exact rowGo_true r p hp.2 (fun x hxr => ⟨hp.1 x hxr, (hx x (by simp [hxr])).2⟩) (.inl (by rcases h with h | h <;> omega))

/-- A right tree. -/
structure T.Good (t : T) : Prop where
  ok : t.Ok
  nodup : t.labs.Nodup
theorem T.Good.l {l r : T} (h : (T.node l r).Good) : l.Good := ⟨h.ok.l, by have := h.nodup; simp only [T.labs, List.nodup_append] at this; exact this.1⟩
theorem T.Good.r {l r : T} (h : (T.node l r).Good) : r.Good := ⟨h.ok.r, by have := h.nodup; simp only [T.labs, List.nodup_append] at this; exact this.2.1⟩
theorem T.rlabs_perm : ∀ t : T, t.rlabs.Perm (t.labs.map fun p : Nat => (p : Int))
  | .leaf p => by simp [T.rlabs, T.labs]
  | .node l r => by
    simp only [T.rlabs, T.labs, List.map_append]
    exact (List.perm_append_comm).trans ((T.rlabs_perm l).append (T.rlabs_perm r))
theorem T.mem_perm (t : T) : t.mem.Perm (t.labs.map fun p : Nat => (p : Int)) := (isort_perm _).trans t.rlabs_perm
theorem T.mem_iff {t : T} {x : Int} : x ∈ t.mem ↔ ∃ p ∈ t.labs, x = (p : Int) := by
  rw [t.mem_perm.mem_iff, List.mem_map]
  constructor
  · rintro ⟨p, hp, rfl⟩; exact ⟨p, hp, rfl⟩
  · rintro ⟨p, hp, rfl⟩; exact ⟨p, hp, rfl⟩
theorem T.mem_strict {t : T} (h : t.labs.Nodup) : t.mem.Pairwise (· < ·) := by
  refine isort_strict (t.rlabs_perm.nodup_iff.2 ?_)
  rw [List.nodup_iff_pairwise_ne] at *
  rw [List.pairwise_map]
  exact h.imp fun hne he => hne (by omega)
theorem nodup_le {α : Type} [BEq α] [LawfulBEq α] : ∀ {l m : List α}, l.Nodup → (∀ x ∈ l, x ∈ m) → l.length ≤ m.length
  | [], m, _, _ => by simp
  | x :: l, m, hn, h => by
    rw [List.nodup_cons] at hn
    have hx := h x (by simp)
    have := nodup_le (m := m.erase x) hn.2 (fun y hy => by
      rw [List.mem_erase_of_ne (fun he : y = x => hn.1 (by rw [← he]; exact hy))]
      exact h y (by simp [hy]))
    rw [List.length_erase_of_mem hx] at this
    have := List.length_pos_of_mem hx
    simp; omega
theorem nodup_len {l : List Nat} (hn : l.Nodup) (h : ∀ p ∈ l, 1 ≤ p ∧ p ≤ 8) : l.length ≤ 8 := by
  have := nodup_le (m := List.range' 1 8) hn (fun p hp => by have := h p hp; simp [List.mem_range']; exact ⟨p - 1, by omega, by omega⟩)
  simpa using this
theorem T.Good.len {t : T} (h : t.Good) : t.labs.length ≤ 8 := nodup_len h.nodup h.ok
theorem T.Good.row {t : T} (h : t.Good) : rowGo 0 t.mem = true := by
  refine rowGo_true _ _ (T.mem_strict h.nodup) ?_ (.inr ⟨by omega, ?_⟩)
  · intro x hx
    obtain ⟨p, hp, rfl⟩ := T.mem_iff.1 hx
    have := h.ok p hp; omega
  · intro he
    have := T.mem_len t
    have := T.labs_pos t
    rw [he] at *; simp at *; omega

/-- of -/
theorem c_of {t : T} (h : t.Good) {σ : St} {Q : AV → St → Prop} (hq : ∀ v W σ', TreeAt σ' v t W → W.Nodup → (∀ i ∈ W, σ.nx ≤ i ∧ i < σ'.nx) → Ext σ σ' → Q v σ') : CallsA prog F.tree_of [.str t.text] σ Q := by
  refine calls_of_Y e_tree_of rfl ?_; simp only [tm0_0, tm0_1, tm0_2, tm0_3, tm0_4, tm0_5, tm0_6, wk, wd, UInt8.reduceToNat, reduceIte, reduceCtorEq, Nat.reduceEqDiff, Nat.reduceAdd, Nat.reduceMul, Nat.reduceSub, Nat.reduceLeDiff, Int.reduceNeg, Int.reduceAdd, Int.reduceSub, Int.reduceMul, Int.reduceLT, Int.reduceLE, Int.reduceEq, Int.reduceToNat, Nat.reduceBEq, Nat.reduceLT, Y_unf cc_tree_of_k0.eq_1, Y_unf cc_tree_of_k1.eq_1, Y_unf cc_tree_of_k2.eq_1, Y_unf cc_tree_of.eq_1]
  have hr := c_read t h.ok [] σ
  rw [List.append_nil] at hr
  refine Cl_of0 hr ?_
  rintro _ σ1 ⟨p, W, rfl, hT, hn, hb, hE⟩
  obtain ⟨id, rfl, _⟩ := hT.ptr
  have hl := h.len
  simp only [wk, wd, UInt8.reduceToNat, reduceIte, reduceCtorEq, Nat.reduceEqDiff, Nat.reduceAdd, Nat.reduceMul, Nat.reduceSub, Nat.reduceLeDiff, Int.reduceNeg, Int.reduceAdd, Int.reduceSub, Int.reduceMul, Int.reduceLT, Int.reduceLE, Int.reduceEq, Int.reduceToNat, Nat.reduceBEq, Nat.reduceLT, Y_unf cc_tree_of_k0.eq_1, Y_unf cc_tree_of_k1.eq_1, Y_unf cc_tree_of_k2.eq_1, Y_unf cc_tree_of.eq_1]
  refine c_members hT (fun i hi => (hb i hi).2) (by omega) (fun r hr => ⟨trivial, ?_⟩)
  simp only [wk, wd, UInt8.reduceToNat, reduceIte, reduceCtorEq, Nat.reduceEqDiff, Nat.reduceAdd, Nat.reduceMul, Nat.reduceSub, Nat.reduceLeDiff, Int.reduceNeg, Int.reduceAdd, Int.reduceSub, Int.reduceMul, Int.reduceLT, Int.reduceLE, Int.reduceEq, Int.reduceToNat, Nat.reduceBEq, Nat.reduceLT, Y_unf cc_tree_of_k0.eq_1, Y_unf cc_tree_of_k1.eq_1, Y_unf cc_tree_of_k2.eq_1, Y_unf cc_tree_of.eq_1]
  have hml := T.mem_len t
  refine Cl_pure0 (c_Row hr (by omega)) ?_; simp only [wk, wd, UInt8.reduceToNat, reduceIte, reduceCtorEq, Nat.reduceEqDiff, Nat.reduceAdd, Nat.reduceMul, Nat.reduceSub, Nat.reduceLeDiff, Int.reduceNeg, Int.reduceAdd, Int.reduceSub, Int.reduceMul, Int.reduceLT, Int.reduceLE, Int.reduceEq, Int.reduceToNat, Nat.reduceBEq, Nat.reduceLT, Y_unf cc_tree_of_k0.eq_1, Y_unf cc_tree_of_k1.eq_1, Y_unf cc_tree_of_k2.eq_1, Y_unf cc_tree_of.eq_1]
  simp only [wk, wd, UInt8.reduceToNat, reduceIte, reduceCtorEq, Nat.reduceEqDiff, Nat.reduceAdd, Nat.reduceMul, Nat.reduceSub, Nat.reduceLeDiff, Int.reduceNeg, Int.reduceAdd, Int.reduceSub, Int.reduceMul, Int.reduceLT, Int.reduceLE, Int.reduceEq, Int.reduceToNat, Nat.reduceBEq, Nat.reduceLT, Y_unf cc_tree_of_k0.eq_1, Y_unf cc_tree_of_k1.eq_1, Y_unf cc_tree_of_k2.eq_1, Y_unf cc_tree_of.eq_1, h.row]
  exact hq _ _ _ hT hn hb hE
theorem c_of_nil {σ : St} {Q : AV → St → Prop} (hq : Q .pnil σ) : CallsA prog F.tree_of [.str []] σ Q := by
  refine calls_of_Y e_tree_of rfl ?_; simp only [tm0_0, tm0_1, tm0_2, tm0_3, tm0_4, tm0_5, tm0_6, wk, wd, UInt8.reduceToNat, reduceIte, reduceCtorEq, Nat.reduceEqDiff, Nat.reduceAdd, Nat.reduceMul, Nat.reduceSub, Nat.reduceLeDiff, Int.reduceNeg, Int.reduceAdd, Int.reduceSub, Int.reduceMul, Int.reduceLT, Int.reduceLE, Int.reduceEq, Int.reduceToNat, Nat.reduceBEq, Nat.reduceLT, Y_unf cc_tree_of_k0.eq_1, Y_unf cc_tree_of_k1.eq_1, Y_unf cc_tree_of_k2.eq_1, Y_unf cc_tree_of.eq_1]
  have hr : CallsA prog F.tree_read [.str []] σ fun v σ' => v = .tup [.pnil, .str []] ∧ σ' = σ := by
    refine calls_of_Y e_tree_read rfl ?_; simp only [tm0_0, tm0_1, tm0_2, tm0_3, tm0_4, tm0_5, tm0_6, wk, wd, UInt8.reduceToNat, reduceIte, reduceCtorEq, Nat.reduceEqDiff, Nat.reduceAdd, Nat.reduceMul, Nat.reduceSub, Nat.reduceLeDiff, Int.reduceNeg, Int.reduceAdd, Int.reduceSub, Int.reduceMul, Int.reduceLT, Int.reduceLE, Int.reduceEq, Int.reduceToNat, Nat.reduceBEq, Nat.reduceLT, Y_unf cc_tree_read_k0.eq_1, Y_unf cc_tree_read_k1.eq_1, Y_unf cc_tree_read_k2.eq_1, Y_unf cc_tree_read_k3.eq_1, Y_unf cc_tree_read_k4.eq_1, Y_unf cc_tree_read_k5.eq_1, Y_unf cc_tree_read_k6.eq_1, Y_unf cc_tree_read_k7.eq_1, Y_unf cc_tree_read_c8.eq_1, Y_unf cc_tree_read_k9.eq_1, Y_unf cc_tree_read_c10.eq_1, Y_unf cc_tree_read_k11.eq_1, Y_unf cc_tree_read_c12.eq_1, Y_unf cc_tree_read_k13.eq_1, Y_unf cc_tree_read_k14.eq_1, Y_unf cc_tree_read.eq_1]
  refine Cl_of0 hr ?_
  rintro _ _ ⟨rfl, rfl⟩
  simp only [wk, wd, UInt8.reduceToNat, reduceIte, reduceCtorEq, Nat.reduceEqDiff, Nat.reduceAdd, Nat.reduceMul, Nat.reduceSub, Nat.reduceLeDiff, Int.reduceNeg, Int.reduceAdd, Int.reduceSub, Int.reduceMul, Int.reduceLT, Int.reduceLE, Int.reduceEq, Int.reduceToNat, Nat.reduceBEq, Nat.reduceLT, Y_unf cc_tree_of_k0.eq_1, Y_unf cc_tree_of_k1.eq_1, Y_unf cc_tree_of_k2.eq_1, Y_unf cc_tree_of.eq_1]
  exact hq
theorem c_Members {t : T} (h : t.Good) {σ : St} {Q : AV → St → Prop} (hq : ∀ r, Ints t.mem r → Q r σ) : CallsA prog F.tree_Members [.str t.text] σ Q := by
  have hl := h.len
  refine CallsA.forget ?_
  refine calls_of_Y e_tree_Members rfl ?_; simp only [tm0_0, tm0_1, tm0_2, tm0_3, tm0_4, tm0_5, tm0_6, wk, wd, UInt8.reduceToNat, reduceIte, reduceCtorEq, Nat.reduceEqDiff, Nat.reduceAdd, Nat.reduceMul, Nat.reduceSub, Nat.reduceLeDiff, Int.reduceNeg, Int.reduceAdd, Int.reduceSub, Int.reduceMul, Int.reduceLT, Int.reduceLE, Int.reduceEq, Int.reduceToNat, Nat.reduceBEq, Nat.reduceLT, Y_unf cc_tree_Members_c0.eq_1, Y_unf cc_tree_Members_k1.eq_1, Y_unf cc_tree_Members_k2.eq_1, Y_unf cc_tree_Members_k3.eq_1, Y_unf cc_tree_Members.eq_1]
  refine c_of h (fun v W σ' hT hn hb hE => ⟨trivial, ?_⟩)
  obtain ⟨id, rfl, _⟩ := hT.ptr
  simp only [wk, wd, UInt8.reduceToNat, reduceIte, reduceCtorEq, Nat.reduceEqDiff, Nat.reduceAdd, Nat.reduceMul, Nat.reduceSub, Nat.reduceLeDiff, Int.reduceNeg, Int.reduceAdd, Int.reduceSub, Int.reduceMul, Int.reduceLT, Int.reduceLE, Int.reduceEq, Int.reduceToNat, Nat.reduceBEq, Nat.reduceLT, Y_unf cc_tree_Members_c0.eq_1, Y_unf cc_tree_Members_k1.eq_1, Y_unf cc_tree_Members_k2.eq_1, Y_unf cc_tree_Members_k3.eq_1, Y_unf cc_tree_Members.eq_1]
  refine c_members hT (fun i hi => (hb i hi).2) (by omega) (fun r hr => ⟨trivial, ?_⟩)
  simp only [wk, wd, UInt8.reduceToNat, reduceIte, reduceCtorEq, Nat.reduceEqDiff, Nat.reduceAdd, Nat.reduceMul, Nat.reduceSub, Nat.reduceLeDiff, Int.reduceNeg, Int.reduceAdd, Int.reduceSub, Int.reduceMul, Int.reduceLT, Int.reduceLE, Int.reduceEq, Int.reduceToNat, Nat.reduceBEq, Nat.reduceLT, Y_unf cc_tree_Members_c0.eq_1, Y_unf cc_tree_Members_k1.eq_1, Y_unf cc_tree_Members_k2.eq_1, Y_unf cc_tree_Members_k3.eq_1, Y_unf cc_tree_Members.eq_1]
  refine ⟨hq r hr, ?_, hE⟩
  rcases hr with ⟨rfl, _⟩ | ⟨n, cap, rfl, _⟩
  · trivial
  · exact IdsLts_ints _
theorem c_Members_nil {σ : St} {Q : AV → St → Prop} (hq : Q .snil σ) : CallsA prog F.tree_Members [.str []] σ Q := by
  refine calls_of_Y e_tree_Members rfl ?_; simp only [tm0_0, tm0_1, tm0_2, tm0_3, tm0_4, tm0_5, tm0_6, wk, wd, UInt8.reduceToNat, reduceIte, reduceCtorEq, Nat.reduceEqDiff, Nat.reduceAdd, Nat.reduceMul, Nat.reduceSub, Nat.reduceLeDiff, Int.reduceNeg, Int.reduceAdd, Int.reduceSub, Int.reduceMul, Int.reduceLT, Int.reduceLE, Int.reduceEq, Int.reduceToNat, Nat.reduceBEq, Nat.reduceLT, Y_unf cc_tree_Members_c0.eq_1, Y_unf cc_tree_Members_k1.eq_1, Y_unf cc_tree_Members_k2.eq_1, Y_unf cc_tree_Members_k3.eq_1, Y_unf cc_tree_Members.eq_1]
  refine c_of_nil ⟨trivial, ?_⟩
  simp only [wk, wd, UInt8.reduceToNat, reduceIte, reduceCtorEq, Nat.reduceEqDiff, Nat.reduceAdd, Nat.reduceMul, Nat.reduceSub, Nat.reduceLeDiff, Int.reduceNeg, Int.reduceAdd, Int.reduceSub, Int.reduceMul, Int.reduceLT, Int.reduceLE, Int.reduceEq, Int.reduceToNat, Nat.reduceBEq, Nat.reduceLT, Y_unf cc_tree_Members_c0.eq_1, Y_unf cc_tree_Members_k1.eq_1, Y_unf cc_tree_Members_k2.eq_1, Y_unf cc_tree_Members_k3.eq_1, Y_unf cc_tree_Members.eq_1]
  exact hq
theorem c_Right {t : T} (h : t.Good) : PureC prog F.tree_Right [.str t.text] (.bool true) := by
  refine PureC.of trivial fun σ => ?_
  refine calls_of_Y e_tree_Right rfl ?_; simp only [tm0_0, tm0_1, tm0_2, tm0_3, tm0_4, tm0_5, tm0_6, wk, wd, UInt8.reduceToNat, reduceIte, reduceCtorEq, Nat.reduceEqDiff, Nat.reduceAdd, Nat.reduceMul, Nat.reduceSub, Nat.reduceLeDiff, Int.reduceNeg, Int.reduceAdd, Int.reduceSub, Int.reduceMul, Int.reduceLT, Int.reduceLE, Int.reduceEq, Int.reduceToNat, Nat.reduceBEq, Nat.reduceLT, Y_unf cc_tree_Right_k0.eq_1, Y_unf cc_tree_Right.eq_1]
  refine c_of h (fun v W σ' hT hn hb hE => ⟨trivial, ?_⟩)
  obtain ⟨id, rfl, _⟩ := hT.ptr
  simp only [wk, wd, UInt8.reduceToNat, reduceIte, reduceCtorEq, Nat.reduceEqDiff, Nat.reduceAdd, Nat.reduceMul, Nat.reduceSub, Nat.reduceLeDiff, Int.reduceNeg, Int.reduceAdd, Int.reduceSub, Int.reduceMul, Int.reduceLT, Int.reduceLE, Int.reduceEq, Int.reduceToNat, Nat.reduceBEq, Nat.reduceLT, Y_unf cc_tree_Right_k0.eq_1, Y_unf cc_tree_Right.eq_1]
  exact hE
theorem c_Leaf {p : Nat} (h1 : 1 ≤ p) (h8 : p ≤ 8) : PureC prog F.tree_Leaf [.int .i64 p] (.tup [.str (T.leaf p).text, .int .i64 0]) := by
  intro σ Q hq
  have g1 : ((p : Int) < 1) = False := eq_false (by omega)
  have g2 : ((8 : Int) < (p : Int)) = False := eq_false (by omega)
  refine calls_of_Y e_tree_Leaf rfl ?_; simp only [tm0_0, tm0_1, tm0_2, tm0_3, tm0_4, tm0_5, tm0_6, wk, wd, UInt8.reduceToNat, reduceIte, reduceCtorEq, Nat.reduceEqDiff, Nat.reduceAdd, Nat.reduceMul, Nat.reduceSub, Nat.reduceLeDiff, Int.reduceNeg, Int.reduceAdd, Int.reduceSub, Int.reduceMul, Int.reduceLT, Int.reduceLE, Int.reduceEq, Int.reduceToNat, Nat.reduceBEq, Nat.reduceLT, Y_unf cc_tree_Leaf_k0.eq_1, Y_unf cc_tree_Leaf_k1.eq_1, Y_unf cc_tree_Leaf_k2.eq_1, Y_unf cc_tree_Leaf.eq_1, g1, g2]
  refine Cl_pure0 (c_Itoa (by omega)) ?_; simp only [wk, wd, UInt8.reduceToNat, reduceIte, reduceCtorEq, Nat.reduceEqDiff, Nat.reduceAdd, Nat.reduceMul, Nat.reduceSub, Nat.reduceLeDiff, Int.reduceNeg, Int.reduceAdd, Int.reduceSub, Int.reduceMul, Int.reduceLT, Int.reduceLE, Int.reduceEq, Int.reduceToNat, Nat.reduceBEq, Nat.reduceLT, Y_unf cc_tree_Leaf_k0.eq_1, Y_unf cc_tree_Leaf_k1.eq_1, Y_unf cc_tree_Leaf_k2.eq_1, Y_unf cc_tree_Leaf.eq_1]
  exact hq
end Go.Proofs.Tryd
open Go Go.Abs
set_option linter.unusedVariables false
set_option linter.unusedSimpArgs false
namespace Go.Proofs.Tryd

/-- A function value that tells of a number whether it is one, and changes nothing. -/
def PredA (gf : FuncId) (caps : List AV) (del : Int → Bool) (σ : St) : Prop := callable prog gf = true ∧ ∀ x Q, Q (.bool (del x)) σ → CallsA prog gf ([.int .i64 x] ++ caps) σ Q
def findGo (del : Int → Bool) (i : Nat) : List Int → Int
  | [] => -1
  | x :: r => if del x = true then i else findGo del (i + 1) r

theorem map_get {l : List Int} {i : Nat} {x : Int} (h : l[i]? = some x) : (l.map aI)[i]? = some (.int .i64 x) := by simp [h, aI]
theorem map_set {l : List Int} {i : Nat} {x : Int} : (l.map aI).set i (.int .i64 x) = (l.set i x).map aI := by rw [List.map_set]; rfl

theorem c_IndexFunc {id g n : Nat} {l : List Int} {gf : FuncId} {caps : List AV} {del : Int → Bool} {σ : St} (hn : l.length = n) (hb : n < 4294967296) (hh : σ.heap id = some (.arr 1 (l.map aI) g 0)) (hp : PredA gf caps del σ)
    {Q : AV → St → Prop} (hq : Q (.int .i64 (findGo del 0 l)) σ) : CallsA prog F.slices_IndexFunc_Lint_int [.sl id g 0 n, .fn gf caps] σ Q := by
  refine calls_of_Y e_slices_IndexFunc_Lint_int rfl ?_; simp only [tm0_0, tm0_1, tm0_2, tm0_3, tm0_4, tm0_5, tm0_6, wk, wd, UInt8.reduceToNat, reduceIte, reduceCtorEq, Nat.reduceEqDiff, Nat.reduceAdd, Nat.reduceMul, Nat.reduceSub, Nat.reduceLeDiff, Int.reduceNeg, Int.reduceAdd, Int.reduceSub, Int.reduceMul, Int.reduceLT, Int.reduceLE, Int.reduceEq, Int.reduceToNat, Nat.reduceBEq, Nat.reduceLT, Y_unf cc_slices_IndexFunc_Lint_int_k0.eq_1, Y_unf cc_slices_IndexFunc_Lint_int_k1.eq_1, Y_unf cc_slices_IndexFunc_Lint_int_k2.eq_1, Y_unf cc_slices_IndexFunc_Lint_int_k3.eq_1, Y_unf cc_slices_IndexFunc_Lint_int_k4.eq_1, Y_unf cc_slices_IndexFunc_Lint_int_l5.eq_1, Y_unf cc_slices_IndexFunc_Lint_int_k6.eq_1, Y_unf cc_slices_IndexFunc_Lint_int_k7.eq_1, Y_unf cc_slices_IndexFunc_Lint_int.eq_1]
  refine Lp_of (α := Nat × List Int) (fun a tm σ' => σ' = σ ∧ l.drop a.1 = a.2 ∧ a.1 ≤ n ∧ findGo del a.1 a.2 = findGo del 0 l ∧ tm 0 = .sl id g 0 n ∧ tm 1 = .fn gf caps ∧ tm 7 = .int .i64 n ∧ tm 8 = .int .i64 a.1 ∧ tm 19 = .tup [])
    (fun a => a.2.length) (a := (0, l)) ⟨rfl, by simp, by simp, rfl, rfl, rfl, rfl, rfl, rfl⟩ ?_
  rintro J hJ ⟨i, rest⟩ tm σ' ⟨rfl, hd, hi, hr, h0, h1, h7, h8, h19⟩
  simp only at hd hi hr h8
  cases rest with
  | nil =>
    have := drop_nil hd (by omega)
    have hlt : ((i : Int) < n) = False := eq_false (by omega)
    simp only [wk, wd, UInt8.reduceToNat, reduceIte, reduceCtorEq, Nat.reduceEqDiff, Nat.reduceAdd, Nat.reduceMul, Nat.reduceSub, Nat.reduceLeDiff, Int.reduceNeg, Int.reduceAdd, Int.reduceSub, Int.reduceMul, Int.reduceLT, Int.reduceLE, Int.reduceEq, Int.reduceToNat, Nat.reduceBEq, Nat.reduceLT, Y_unf cc_slices_IndexFunc_Lint_int_k0.eq_1, Y_unf cc_slices_IndexFunc_Lint_int_k1.eq_1, Y_unf cc_slices_IndexFunc_Lint_int_k2.eq_1, Y_unf cc_slices_IndexFunc_Lint_int_k3.eq_1, Y_unf cc_slices_IndexFunc_Lint_int_k4.eq_1, Y_unf cc_slices_IndexFunc_Lint_int_l5.eq_1, Y_unf cc_slices_IndexFunc_Lint_int_k6.eq_1, Y_unf cc_slices_IndexFunc_Lint_int_k7.eq_1, Y_unf cc_slices_IndexFunc_Lint_int.eq_1, h0, h1, h7, h8, h19, hlt]
    rw [← hr] at hq
    exact hq
  | cons x r =>
    obtain ⟨h1', h2, h4⟩ := drop_cons hd
    have hlt : ((i : Int) < n) = True := eq_true (by omega)
    have hw : IntKind.i64.wrap ((i : Int) + 1) = ((i + 1 : Nat) : Int) := by rw [wrap_i64 (by omega) (by omega)]; omega
    simp only [wk, wd, UInt8.reduceToNat, reduceIte, reduceCtorEq, Nat.reduceEqDiff, Nat.reduceAdd, Nat.reduceMul, Nat.reduceSub, Nat.reduceLeDiff, Int.reduceNeg, Int.reduceAdd, Int.reduceSub, Int.reduceMul, Int.reduceLT, Int.reduceLE, Int.reduceEq, Int.reduceToNat, Nat.reduceBEq, Nat.reduceLT, Y_unf cc_slices_IndexFunc_Lint_int_k0.eq_1, Y_unf cc_slices_IndexFunc_Lint_int_k1.eq_1, Y_unf cc_slices_IndexFunc_Lint_int_k2.eq_1, Y_unf cc_slices_IndexFunc_Lint_int_k3.eq_1, Y_unf cc_slices_IndexFunc_Lint_int_k4.eq_1, Y_unf cc_slices_IndexFunc_Lint_int_l5.eq_1, Y_unf cc_slices_IndexFunc_Lint_int_k6.eq_1, Y_unf cc_slices_IndexFunc_Lint_int_k7.eq_1, Y_unf cc_slices_IndexFunc_Lint_int.eq_1, h0, h1, h7, h8, h19, hlt, hh, map_get h2]
    refine ⟨hp.1, hp.2 x _ ⟨trivial, ?_⟩⟩
    cases hc : del x
    · simp only [wk, wd, UInt8.reduceToNat, reduceIte, reduceCtorEq, Nat.reduceEqDiff, Nat.reduceAdd, Nat.reduceMul, Nat.reduceSub, Nat.reduceLeDiff, Int.reduceNeg, Int.reduceAdd, Int.reduceSub, Int.reduceMul, Int.reduceLT, Int.reduceLE, Int.reduceEq, Int.reduceToNat, Nat.reduceBEq, Nat.reduceLT, Y_unf cc_slices_IndexFunc_Lint_int_k0.eq_1, Y_unf cc_slices_IndexFunc_Lint_int_k1.eq_1, Y_unf cc_slices_IndexFunc_Lint_int_k2.eq_1, Y_unf cc_slices_IndexFunc_Lint_int_k3.eq_1, Y_unf cc_slices_IndexFunc_Lint_int_k4.eq_1, Y_unf cc_slices_IndexFunc_Lint_int_l5.eq_1, Y_unf cc_slices_IndexFunc_Lint_int_k6.eq_1, Y_unf cc_slices_IndexFunc_Lint_int_k7.eq_1, Y_unf cc_slices_IndexFunc_Lint_int.eq_1, h0, h1, h7, h8, h19, hc, hw]
      simp only [findGo, hc, Bool.false_eq_true, if_false] at hr
      exact ⟨(i + 1, r), hJ _ _ _ ⟨rfl, h4, by omega, hr, by simp only [upd_at]; exact h0, by simp only [upd_at]; exact h1, by simp only [upd_at]; exact h7, rfl, by simp only [upd_at]; exact h19⟩, Nat.lt_succ_self _⟩
    · simp only [wk, wd, UInt8.reduceToNat, reduceIte, reduceCtorEq, Nat.reduceEqDiff, Nat.reduceAdd, Nat.reduceMul, Nat.reduceSub, Nat.reduceLeDiff, Int.reduceNeg, Int.reduceAdd, Int.reduceSub, Int.reduceMul, Int.reduceLT, Int.reduceLE, Int.reduceEq, Int.reduceToNat, Nat.reduceBEq, Nat.reduceLT, Y_unf cc_slices_IndexFunc_Lint_int_k0.eq_1, Y_unf cc_slices_IndexFunc_Lint_int_k1.eq_1, Y_unf cc_slices_IndexFunc_Lint_int_k2.eq_1, Y_unf cc_slices_IndexFunc_Lint_int_k3.eq_1, Y_unf cc_slices_IndexFunc_Lint_int_k4.eq_1, Y_unf cc_slices_IndexFunc_Lint_int_l5.eq_1, Y_unf cc_slices_IndexFunc_Lint_int_k6.eq_1, Y_unf cc_slices_IndexFunc_Lint_int_k7.eq_1, Y_unf cc_slices_IndexFunc_Lint_int.eq_1, h0, h1, h7, h8, h19, hc]
      simp only [findGo, hc, if_true] at hr
      rw [← hr] at hq; exact hq

theorem findGo_spec {del : Int → Bool} : ∀ (l : List Int) (i : Nat), (findGo del i l = -1 ∧ l.filter (fun x => !del x) = l) ∨ (∃ k, findGo del i l = ((i + k : Nat) : Int) ∧ k < l.length ∧ (l.take (k + 1)).filter (fun x => !del x) = l.take k)
  | [], i => .inl ⟨rfl, rfl⟩
  | x :: r, i => by
    simp only [findGo]
    cases hc : del x
    · simp only [Bool.false_eq_true, if_false]
      rcases findGo_spec r (i + 1) with ⟨h1, h2⟩ | ⟨k, h1, h2, h3⟩
      · exact .inl ⟨h1, by simp [hc]; simpa using h2⟩
      · refine .inr ⟨k + 1, by rw [h1]; omega, by simpa using h2, ?_⟩
        simp only [List.take_succ_cons, List.filter_cons, hc]
        simp only [Bool.not_false, if_true]
        rw [h3]
    · simp only [if_true]
      exact .inr ⟨0, by simp, by simp, by simp [hc]⟩

theorem c_DeleteFunc {id g n : Nat} {l : List Int} {gf : FuncId} {caps : List AV} {del : Int → Bool} {σ : St} (hn : l.length = n) (hb : n < 4294967296) (hh : σ.heap id = some (.arr 1 (l.map aI) g 0)) (hp : ∀ l' : List Int, PredA gf caps del (σ.set id (.arr 1 (l'.map aI) g 0)))
    {Q : AV → St → Prop} (hq : ∀ l' : List Int, l'.length = n → l'.take (l.filter (fun x => !del x)).length = l.filter (fun x => !del x) → Q (.sl id g 0 (l.filter (fun x => !del x)).length) (σ.set id (.arr 1 (l'.map aI) g 0))) : CallsA prog F.slices_DeleteFunc_Lint_int [.sl id g 0 n, .fn gf caps] σ Q := by
  have hp0 : PredA gf caps del σ := by have := hp l; rwa [St.set_self hh] at this
  have hfl : (l.filter (fun x => !del x)).length ≤ n := by rw [← hn]; exact List.length_filter_le _ _
  refine calls_of_Y e_slices_DeleteFunc_Lint_int rfl ?_; simp only [tm0_0, tm0_1, tm0_2, tm0_3, tm0_4, tm0_5, tm0_6, wk, wd, UInt8.reduceToNat, reduceIte, reduceCtorEq, Nat.reduceEqDiff, Nat.reduceAdd, Nat.reduceMul, Nat.reduceSub, Nat.reduceLeDiff, Int.reduceNeg, Int.reduceAdd, Int.reduceSub, Int.reduceMul, Int.reduceLT, Int.reduceLE, Int.reduceEq, Int.reduceToNat, Nat.reduceBEq, Nat.reduceLT, Y_unf cc_slices_DeleteFunc_Lint_int_k0.eq_1, Y_unf cc_slices_DeleteFunc_Lint_int_k1.eq_1, Y_unf cc_slices_DeleteFunc_Lint_int_k2.eq_1, Y_unf cc_slices_DeleteFunc_Lint_int_k3.eq_1, Y_unf cc_slices_DeleteFunc_Lint_int_c4.eq_1, Y_unf cc_slices_DeleteFunc_Lint_int_k5.eq_1, Y_unf cc_slices_DeleteFunc_Lint_int_k6.eq_1, Y_unf cc_slices_DeleteFunc_Lint_int_k7.eq_1, Y_unf cc_slices_DeleteFunc_Lint_int_k8.eq_1, Y_unf cc_slices_DeleteFunc_Lint_int_l9.eq_1, Y_unf cc_slices_DeleteFunc_Lint_int_k10.eq_1, Y_unf cc_slices_DeleteFunc_Lint_int_k11.eq_1, Y_unf cc_slices_DeleteFunc_Lint_int_k12.eq_1, Y_unf cc_slices_DeleteFunc_Lint_int_k13.eq_1, Y_unf cc_slices_DeleteFunc_Lint_int_k14.eq_1, Y_unf cc_slices_DeleteFunc_Lint_int.eq_1]
  refine c_IndexFunc hn hb hh hp0 ⟨trivial, ?_⟩
  rcases findGo_spec (del := del) l 0 with ⟨h1, h2⟩ | ⟨k, h1, h2, h3⟩
  · simp only [wk, wd, UInt8.reduceToNat, reduceIte, reduceCtorEq, Nat.reduceEqDiff, Nat.reduceAdd, Nat.reduceMul, Nat.reduceSub, Nat.reduceLeDiff, Int.reduceNeg, Int.reduceAdd, Int.reduceSub, Int.reduceMul, Int.reduceLT, Int.reduceLE, Int.reduceEq, Int.reduceToNat, Nat.reduceBEq, Nat.reduceLT, Y_unf cc_slices_DeleteFunc_Lint_int_k0.eq_1, Y_unf cc_slices_DeleteFunc_Lint_int_k1.eq_1, Y_unf cc_slices_DeleteFunc_Lint_int_k2.eq_1, Y_unf cc_slices_DeleteFunc_Lint_int_k3.eq_1, Y_unf cc_slices_DeleteFunc_Lint_int_c4.eq_1, Y_unf cc_slices_DeleteFunc_Lint_int_k5.eq_1, Y_unf cc_slices_DeleteFunc_Lint_int_k6.eq_1, Y_unf cc_slices_DeleteFunc_Lint_int_k7.eq_1, Y_unf cc_slices_DeleteFunc_Lint_int_k8.eq_1, Y_unf cc_slices_DeleteFunc_Lint_int_l9.eq_1, Y_unf cc_slices_DeleteFunc_Lint_int_k10.eq_1, Y_unf cc_slices_DeleteFunc_Lint_int_k11.eq_1, Y_unf cc_slices_DeleteFunc_Lint_int_k12.eq_1, Y_unf cc_slices_DeleteFunc_Lint_int_k13.eq_1, Y_unf cc_slices_DeleteFunc_Lint_int_k14.eq_1, Y_unf cc_slices_DeleteFunc_Lint_int.eq_1, h1]
    have := hq l hn (by rw [h2]; simp)
    rw [St.set_self hh, h2, hn] at this
    exact this
  · have e1 : (((0 + k : Nat) : Int) = -1) = False := eq_false (by omega)
    have hw : IntKind.i64.wrap (((0 + k : Nat) : Int) + 1) = ((k + 1 : Nat) : Int) := by rw [wrap_i64 (by omega) (by omega)]; omega
    simp only [Nat.zero_add] at h1 e1 hw
    simp only [wk, wd, UInt8.reduceToNat, reduceIte, reduceCtorEq, Nat.reduceEqDiff, Nat.reduceAdd, Nat.reduceMul, Nat.reduceSub, Nat.reduceLeDiff, Int.reduceNeg, Int.reduceAdd, Int.reduceSub, Int.reduceMul, Int.reduceLT, Int.reduceLE, Int.reduceEq, Int.reduceToNat, Nat.reduceBEq, Nat.reduceLT, Y_unf cc_slices_DeleteFunc_Lint_int_k0.eq_1, Y_unf cc_slices_DeleteFunc_Lint_int_k1.eq_1, Y_unf cc_slices_DeleteFunc_Lint_int_k2.eq_1, Y_unf cc_slices_DeleteFunc_Lint_int_k3.eq_1, Y_unf cc_slices_DeleteFunc_Lint_int_c4.eq_1, Y_unf cc_slices_DeleteFunc_Lint_int_k5.eq_1, Y_unf cc_slices_DeleteFunc_Lint_int_k6.eq_1, Y_unf cc_slices_DeleteFunc_Lint_int_k7.eq_1, Y_unf cc_slices_DeleteFunc_Lint_int_k8.eq_1, Y_unf cc_slices_DeleteFunc_Lint_int_l9.eq_1, Y_unf cc_slices_DeleteFunc_Lint_int_k10.eq_1, Y_unf cc_slices_DeleteFunc_Lint_int_k11.eq_1, Y_unf cc_slices_DeleteFunc_Lint_int_k12.eq_1, Y_unf cc_slices_DeleteFunc_Lint_int_k13.eq_1, Y_unf cc_slices_DeleteFunc_Lint_int_k14.eq_1, Y_unf cc_slices_DeleteFunc_Lint_int.eq_1, h1, e1, hw]
    refine Lp_of (α := Nat × Nat × List Int) (fun a tm σ' => σ' = σ.set id (.arr 1 (a.2.2.map aI) g 0) ∧ a.1 < a.2.1 ∧ a.2.1 ≤ n ∧ a.2.2.length = n ∧ a.2.2.drop a.2.1 = l.drop a.2.1 ∧ a.2.2.take a.1 = (l.take a.2.1).filter (fun x => !del x) ∧
        tm 0 = .sl id g 0 n ∧ tm 1 = .fn gf caps ∧ tm 5 = .int .i64 a.1 ∧ tm 6 = .int .i64 a.2.1 ∧ tm 42 = .tup [])
      (fun a => n - a.2.1) (a := (k, k + 1, l)) ⟨(St.set_self hh).symm, by simp, by simp only []; omega, hn, rfl, h3.symm, rfl, rfl, rfl, rfl, rfl⟩ ?_
    rintro J hJ ⟨i, j, b⟩ tm σ' ⟨rfl, hij, hjn, hbl, hd, ht, u0, u1, u5, u6, u42⟩
    simp only at hij hjn hbl hd ht u5 u6
    by_cases hlt : j < n
    · have hlt' : ((j : Int) < n) = True := eq_true (by omega)
      have hin : ((i : Int) < n) = True := eq_true (by omega)
      have hw1 : IntKind.i64.wrap ((j : Int) + 1) = ((j + 1 : Nat) : Int) := by rw [wrap_i64 (by omega) (by omega)]; omega
      have hw2 : IntKind.i64.wrap ((i : Int) + 1) = ((i + 1 : Nat) : Int) := by rw [wrap_i64 (by omega) (by omega)]; omega
      obtain ⟨x, hx⟩ : ∃ x, b[j]? = some x := ⟨b[j], List.getElem?_eq_getElem (by omega)⟩
      have hxl : l[j]? = some x := by
        have e1 := congrArg (fun m : List Int => m[0]?) hd
        simp only [List.getElem?_drop, Nat.add_zero] at e1
        rw [← e1]; exact hx
      have htk : (l.take (j + 1)).filter (fun x => !del x) = (l.take j).filter (fun x => !del x) ++ (if del x = true then [] else [x]) := by
        rw [List.take_add_one, hxl, List.filter_append]
        congr 1
        cases hc : del x <;> simp [hc]
      have hdr : b.drop (j + 1) = l.drop (j + 1) := by
        have := congrArg (List.drop 1) hd
        simpa [List.drop_drop, Nat.add_comm] using this
      simp only [wk, wd, UInt8.reduceToNat, reduceIte, reduceCtorEq, Nat.reduceEqDiff, Nat.reduceAdd, Nat.reduceMul, Nat.reduceSub, Nat.reduceLeDiff, Int.reduceNeg, Int.reduceAdd, Int.reduceSub, Int.reduceMul, Int.reduceLT, Int.reduceLE, Int.reduceEq, Int.reduceToNat, Nat.reduceBEq, Nat.reduceLT, Y_unf cc_slices_DeleteFunc_Lint_int_k0.eq_1, Y_unf cc_slices_DeleteFunc_Lint_int_k1.eq_1, Y_unf cc_slices_DeleteFunc_Lint_int_k2.eq_1, Y_unf cc_slices_DeleteFunc_Lint_int_k3.eq_1, Y_unf cc_slices_DeleteFunc_Lint_int_c4.eq_1, Y_unf cc_slices_DeleteFunc_Lint_int_k5.eq_1, Y_unf cc_slices_DeleteFunc_Lint_int_k6.eq_1, Y_unf cc_slices_DeleteFunc_Lint_int_k7.eq_1, Y_unf cc_slices_DeleteFunc_Lint_int_k8.eq_1, Y_unf cc_slices_DeleteFunc_Lint_int_l9.eq_1, Y_unf cc_slices_DeleteFunc_Lint_int_k10.eq_1, Y_unf cc_slices_DeleteFunc_Lint_int_k11.eq_1, Y_unf cc_slices_DeleteFunc_Lint_int_k12.eq_1, Y_unf cc_slices_DeleteFunc_Lint_int_k13.eq_1, Y_unf cc_slices_DeleteFunc_Lint_int_k14.eq_1, Y_unf cc_slices_DeleteFunc_Lint_int.eq_1, u0, u1, u5, u6, u42, hlt', map_get hx]
      refine ⟨(hp b).1, (hp b).2 x _ ⟨trivial, ?_⟩⟩
      cases hc : del x
      · have hle : (i + 1 ≤ n) = True := eq_true (by omega)
        simp only [wk, wd, UInt8.reduceToNat, reduceIte, reduceCtorEq, Nat.reduceEqDiff, Nat.reduceAdd, Nat.reduceMul, Nat.reduceSub, Nat.reduceLeDiff, Int.reduceNeg, Int.reduceAdd, Int.reduceSub, Int.reduceMul, Int.reduceLT, Int.reduceLE, Int.reduceEq, Int.reduceToNat, Nat.reduceBEq, Nat.reduceLT, Y_unf cc_slices_DeleteFunc_Lint_int_k0.eq_1, Y_unf cc_slices_DeleteFunc_Lint_int_k1.eq_1, Y_unf cc_slices_DeleteFunc_Lint_int_k2.eq_1, Y_unf cc_slices_DeleteFunc_Lint_int_k3.eq_1, Y_unf cc_slices_DeleteFunc_Lint_int_c4.eq_1, Y_unf cc_slices_DeleteFunc_Lint_int_k5.eq_1, Y_unf cc_slices_DeleteFunc_Lint_int_k6.eq_1, Y_unf cc_slices_DeleteFunc_Lint_int_k7.eq_1, Y_unf cc_slices_DeleteFunc_Lint_int_k8.eq_1, Y_unf cc_slices_DeleteFunc_Lint_int_l9.eq_1, Y_unf cc_slices_DeleteFunc_Lint_int_k10.eq_1, Y_unf cc_slices_DeleteFunc_Lint_int_k11.eq_1, Y_unf cc_slices_DeleteFunc_Lint_int_k12.eq_1, Y_unf cc_slices_DeleteFunc_Lint_int_k13.eq_1, Y_unf cc_slices_DeleteFunc_Lint_int_k14.eq_1, Y_unf cc_slices_DeleteFunc_Lint_int.eq_1, u0, u1, u5, u6, u42, hc, hin, hle, hw1, hw2, List.length_map, hbl, map_set, St.set_set]
        refine ⟨(i + 1, j + 1, _), hJ _ _ _ ⟨rfl, by simp only []; omega, by simp only []; omega, by simp [hbl], ?_, ?_, by simp only [upd_at]; exact u0, by simp only [upd_at]; exact u1, rfl, rfl, by simp only [upd_at]; exact u42⟩, by simp only []; omega⟩
        · simp only []
          rw [List.drop_set, if_pos (by omega)]; exact hdr
        · simp only []
          rw [htk, hc, ← ht]
          simp only [Bool.false_eq_true, if_false]
          rw [List.take_add_one, List.getElem?_set, if_pos rfl, if_pos (by omega), List.take_set_of_le (Nat.le_refl _)]; rfl
      · simp only [wk, wd, UInt8.reduceToNat, reduceIte, reduceCtorEq, Nat.reduceEqDiff, Nat.reduceAdd, Nat.reduceMul, Nat.reduceSub, Nat.reduceLeDiff, Int.reduceNeg, Int.reduceAdd, Int.reduceSub, Int.reduceMul, Int.reduceLT, Int.reduceLE, Int.reduceEq, Int.reduceToNat, Nat.reduceBEq, Nat.reduceLT, Y_unf cc_slices_DeleteFunc_Lint_int_k0.eq_1, Y_unf cc_slices_DeleteFunc_Lint_int_k1.eq_1, Y_unf cc_slices_DeleteFunc_Lint_int_k2.eq_1, Y_unf cc_slices_DeleteFunc_Lint_int_k3.eq_1, Y_unf cc_slices_DeleteFunc_Lint_int_c4.eq_1, Y_unf cc_slices_DeleteFunc_Lint_int_k5.eq_1, Y_unf cc_slices_DeleteFunc_Lint_int_k6.eq_1, Y_unf cc_slices_DeleteFunc_Lint_int_k7.eq_1, Y_unf cc_slices_DeleteFunc_Lint_int_k8.eq_1, Y_unf cc_slices_DeleteFunc_Lint_int_l9.eq_1, Y_unf cc_slices_DeleteFunc_Lint_int_k10.eq_1, Y_unf cc_slices_DeleteFunc_Lint_int_k11.eq_1, Y_unf cc_slices_DeleteFunc_Lint_int_k12.eq_1, Y_unf cc_slices_DeleteFunc_Lint_int_k13.eq_1, Y_unf cc_slices_DeleteFunc_Lint_int_k14.eq_1, Y_unf cc_slices_DeleteFunc_Lint_int.eq_1, u0, u1, u5, u6, u42, hc, hw1]
        refine ⟨(i, j + 1, b), hJ _ _ _ ⟨rfl, by simp only []; omega, by simp only []; omega, hbl, hdr, ?_, by simp only [upd_at]; exact u0, by simp only [upd_at]; exact u1, by simp only [upd_at]; exact u5, rfl, by simp only [upd_at]; exact u42⟩, by simp only []; omega⟩
        simp only []
        rw [htk, hc, ← ht]; simp
    · have hlt' : ((j : Int) < n) = False := eq_false (by omega)
      have hjn' : j = n := by omega
      subst hjn'
      rw [List.take_of_length_le (l := l) (i := j) (by omega)] at ht
      have hil : (l.filter (fun x => !del x)).length = i := by rw [← ht]; simp; omega
      have s1 : evSubSl 1 id g 0 j (some (.arr 1 (b.map aI) g 0)) (some (i : Int)) (some (j : Int)) = some (.sl id g i (j - i)) := by
        rw [evSubSl, if_pos ⟨by omega, by omega, by omega, rfl, rfl, by omega⟩]
        simp
      have s2 : ∀ B, evSubSl 1 id g 0 j (some (.arr 1 B g 0)) (some 0) (some (i : Int)) = some (.sl id g 0 i) := by
        intro B
        rw [evSubSl, if_pos ⟨by omega, by omega, by omega, rfl, rfl, by omega⟩]
        simp
      have s3 : (i + (j - i) * 1 ≤ (b.map aI).length) = True := eq_true (by simp; omega)
      have s4 : (j - i = 0) = False := eq_false (by omega)
      have s5 : (i + (j - i) ≤ j) = True := eq_true (by omega)
      simp only [wk, wd, UInt8.reduceToNat, reduceIte, reduceCtorEq, Nat.reduceEqDiff, Nat.reduceAdd, Nat.reduceMul, Nat.reduceSub, Nat.reduceLeDiff, Int.reduceNeg, Int.reduceAdd, Int.reduceSub, Int.reduceMul, Int.reduceLT, Int.reduceLE, Int.reduceEq, Int.reduceToNat, Nat.reduceBEq, Nat.reduceLT, Y_unf cc_slices_DeleteFunc_Lint_int_k0.eq_1, Y_unf cc_slices_DeleteFunc_Lint_int_k1.eq_1, Y_unf cc_slices_DeleteFunc_Lint_int_k2.eq_1, Y_unf cc_slices_DeleteFunc_Lint_int_k3.eq_1, Y_unf cc_slices_DeleteFunc_Lint_int_c4.eq_1, Y_unf cc_slices_DeleteFunc_Lint_int_k5.eq_1, Y_unf cc_slices_DeleteFunc_Lint_int_k6.eq_1, Y_unf cc_slices_DeleteFunc_Lint_int_k7.eq_1, Y_unf cc_slices_DeleteFunc_Lint_int_k8.eq_1, Y_unf cc_slices_DeleteFunc_Lint_int_l9.eq_1, Y_unf cc_slices_DeleteFunc_Lint_int_k10.eq_1, Y_unf cc_slices_DeleteFunc_Lint_int_k11.eq_1, Y_unf cc_slices_DeleteFunc_Lint_int_k12.eq_1, Y_unf cc_slices_DeleteFunc_Lint_int_k13.eq_1, Y_unf cc_slices_DeleteFunc_Lint_int_k14.eq_1, Y_unf cc_slices_DeleteFunc_Lint_int.eq_1, u0, u1, u5, u6, u42, hlt', s1, s2, s4, s5, List.length_map, hbl, St.set_set]
      have hz : ∀ m : Nat, reps [AV.int .i64 0] m = (List.replicate m (0 : Int)).map aI := by
        intro m; induction m with
        | zero => rfl
        | succ m ih => simp only [reps, ih, List.replicate_succ, List.map_cons]; rfl
      have hlp : ∀ (c : List Int) (o : Nat) (ys : List Int), lput (c.map aI) o (ys.map aI) = (lput c o ys).map aI := by
        intro c o ys
        induction ys generalizing c o with
        | nil => rfl
        | cons y ys ih => simp only [List.map_cons, lput]; rw [← ih (c.set o y) (o + 1), List.map_set]
      have hlt2 : ∀ (ys c : List Int) (o : Nat), (lput c o ys).take o = c.take o := by
        intro ys
        induction ys with
        | nil => intro c o; rfl
        | cons y ys ih =>
          intro c o
          simp only [lput]
          have := congrArg (List.take o) (ih (c.set o y) (o + 1))
          simp only [List.take_take] at this
          rw [show min o (o + 1) = o from by omega] at this
          rw [this, List.take_set_of_le (Nat.le_refl _)]
      have := hq (lput b i (List.replicate (j - i) 0)) (by rw [lput_length]; exact hbl) (by rw [hil, hlt2, ht])
      rw [hil] at this
      rw [hz, hlp]
      exact this

theorem c_Clone {l : List Int} {cap : Option Nat} {n : Nat} (hn : l.length = n) (h0 : 0 < n) (hb : n < 1000000) {σ : St} {Q : AV → St → Prop} (hq : Q (.sl σ.nx 0 0 n) (σ.new (.arr 1 (l.map aI) 0 0))) :
    CallsA prog F.slices_Clone_Lint_int [.list (l.map aI) n cap] σ Q := by
  have e1 : (n = 0) = False := eq_false (by omega)
  have e2 : (n ≤ 1073741824) = True := eq_true (by omega)
  have e3 : (l.map aI).all AV.one = true := by simp [aI, AV.one]
  refine calls_of_Y e_slices_Clone_Lint_int rfl ?_; simp only [tm0_0, tm0_1, tm0_2, tm0_3, tm0_4, tm0_5, tm0_6, wk, wd, UInt8.reduceToNat, reduceIte, reduceCtorEq, Nat.reduceEqDiff, Nat.reduceAdd, Nat.reduceMul, Nat.reduceSub, Nat.reduceLeDiff, Int.reduceNeg, Int.reduceAdd, Int.reduceSub, Int.reduceMul, Int.reduceLT, Int.reduceLE, Int.reduceEq, Int.reduceToNat, Nat.reduceBEq, Nat.reduceLT, Y_unf cc_slices_Clone_Lint_int_k0.eq_1, Y_unf cc_slices_Clone_Lint_int_k1.eq_1, Y_unf cc_slices_Clone_Lint_int_k2.eq_1, Y_unf cc_slices_Clone_Lint_int.eq_1, e1, e2, e3, List.length_map, hn]
  exact hq
theorem callable_Both1 : callable prog F.view_Both__1 = true := by kernel_rfl
theorem c_Both {l m : List Int} {v u : AV} (hl : Ints l v) (hm : Ints m u) (h0 : 0 < l.length) (hb : l.length < 1000000) (hbm : m.length < 1000000) {σ : St} {Q : AV → St → Prop}
    (hq : ∀ w, Ints (l.filter fun x => decide (x ∈ m)) w → Q w σ) : CallsA prog F.view_Both [v, u] σ Q := by
  rcases hl with ⟨_, h⟩ | ⟨n, cap, rfl, hn⟩
  · simp at h; subst h; simp at h0
  simp only [List.length_map, Nat.mul_one] at hn
  refine CallsA.forget (CallsA.freeze (R := fun w σ' => Ext σ σ' ∧ ∃ (id g : Nat) (l' : List Int), w = .sl id g 0 (l.filter fun x => decide (x ∈ m)).length ∧ σ.nx ≤ id ∧ σ'.heap id = some (.arr 1 (l'.map aI) g 0) ∧ l'.length = l.length ∧ l'.take (l.filter fun x => decide (x ∈ m)).length = l.filter fun x => decide (x ∈ m)) ?_ ?_)
  · refine calls_of_Y e_view_Both rfl ?_; simp only [tm0_0, tm0_1, tm0_2, tm0_3, tm0_4, tm0_5, tm0_6, wk, wd, UInt8.reduceToNat, reduceIte, reduceCtorEq, Nat.reduceEqDiff, Nat.reduceAdd, Nat.reduceMul, Nat.reduceSub, Nat.reduceLeDiff, Int.reduceNeg, Int.reduceAdd, Int.reduceSub, Int.reduceMul, Int.reduceLT, Int.reduceLE, Int.reduceEq, Int.reduceToNat, Nat.reduceBEq, Nat.reduceLT, Y_unf cc_view_Both_k0.eq_1, Y_unf cc_view_Both.eq_1]
    have hx : ∀ B : Blk, (σ.new B).nx = σ.nx + 1 := fun _ => rfl
    rcases hm with ⟨rfl, hmn⟩ | ⟨k, cap2, rfl, hk⟩
    · have hm0 : m = [] := by simpa using hmn
      subst hm0
      simp only [wk, wd, UInt8.reduceToNat, reduceIte, reduceCtorEq, Nat.reduceEqDiff, Nat.reduceAdd, Nat.reduceMul, Nat.reduceSub, Nat.reduceLeDiff, Int.reduceNeg, Int.reduceAdd, Int.reduceSub, Int.reduceMul, Int.reduceLT, Int.reduceLE, Int.reduceEq, Int.reduceToNat, Nat.reduceBEq, Nat.reduceLT, Y_unf cc_view_Both_k0.eq_1, Y_unf cc_view_Both.eq_1]
      refine c_Clone hn (by omega) (by omega) ⟨trivial, ?_⟩
      simp only [wk, wd, UInt8.reduceToNat, reduceIte, reduceCtorEq, Nat.reduceEqDiff, Nat.reduceAdd, Nat.reduceMul, Nat.reduceSub, Nat.reduceLeDiff, Int.reduceNeg, Int.reduceAdd, Int.reduceSub, Int.reduceMul, Int.reduceLT, Int.reduceLE, Int.reduceEq, Int.reduceToNat, Nat.reduceBEq, Nat.reduceLT, Y_unf cc_view_Both_k0.eq_1, Y_unf cc_view_Both.eq_1]
      refine c_DeleteFunc (l := l) (g := 0) (del := fun x => !decide (x ∈ ([] : List Int))) hn (by omega) (by simp [St.new_heap, St.new_nx]) ?_ ?_
      · intro l'
        refine ⟨callable_Both1, fun x Q hQ => ?_⟩
        have e4 : (σ.nx = σ.nx + 1) = False := by simp
        refine calls_of_Y e_view_Both__1 rfl ?_; simp only [tm0_0, tm0_1, tm0_2, tm0_3, tm0_4, tm0_5, tm0_6, wk, wd, UInt8.reduceToNat, reduceIte, reduceCtorEq, Nat.reduceEqDiff, Nat.reduceAdd, Nat.reduceMul, Nat.reduceSub, Nat.reduceLeDiff, Int.reduceNeg, Int.reduceAdd, Int.reduceSub, Int.reduceMul, Int.reduceLT, Int.reduceLE, Int.reduceEq, Int.reduceToNat, Nat.reduceBEq, Nat.reduceLT, Y_unf cc_view_Both__1_k0.eq_1, Y_unf cc_view_Both__1.eq_1, e4]
        have hn0 : Ints ([] : List Int) .snil := .inl ⟨rfl, rfl⟩
        refine Cl_pure0 (c_Has hn0 _ (by simp)) ?_; simp only [wk, wd, UInt8.reduceToNat, reduceIte, reduceCtorEq, Nat.reduceEqDiff, Nat.reduceAdd, Nat.reduceMul, Nat.reduceSub, Nat.reduceLeDiff, Int.reduceNeg, Int.reduceAdd, Int.reduceSub, Int.reduceMul, Int.reduceLT, Int.reduceLE, Int.reduceEq, Int.reduceToNat, Nat.reduceBEq, Nat.reduceLT, Y_unf cc_view_Both__1_k0.eq_1, Y_unf cc_view_Both__1.eq_1]
        exact hQ
      · intro l' hl' ht
        refine ⟨trivial, ?_⟩
        simp only [Bool.not_not] at ht ⊢
        simp only [wk, wd, UInt8.reduceToNat, reduceIte, reduceCtorEq, Nat.reduceEqDiff, Nat.reduceAdd, Nat.reduceMul, Nat.reduceSub, Nat.reduceLeDiff, Int.reduceNeg, Int.reduceAdd, Int.reduceSub, Int.reduceMul, Int.reduceLT, Int.reduceLE, Int.reduceEq, Int.reduceToNat, Nat.reduceBEq, Nat.reduceLT, Y_unf cc_view_Both_k0.eq_1, Y_unf cc_view_Both.eq_1]
        refine ⟨((((Ext.refl σ).new _).new _).set (by simp [St.new_nx]) _), _, _, l', rfl, by omega, by rw [if_pos rfl], hl'.trans hn.symm, ht⟩
    · simp only [wk, wd, UInt8.reduceToNat, reduceIte, reduceCtorEq, Nat.reduceEqDiff, Nat.reduceAdd, Nat.reduceMul, Nat.reduceSub, Nat.reduceLeDiff, Int.reduceNeg, Int.reduceAdd, Int.reduceSub, Int.reduceMul, Int.reduceLT, Int.reduceLE, Int.reduceEq, Int.reduceToNat, Nat.reduceBEq, Nat.reduceLT, Y_unf cc_view_Both_k0.eq_1, Y_unf cc_view_Both.eq_1]
      refine c_Clone hn (by omega) (by omega) ⟨trivial, ?_⟩
      simp only [wk, wd, UInt8.reduceToNat, reduceIte, reduceCtorEq, Nat.reduceEqDiff, Nat.reduceAdd, Nat.reduceMul, Nat.reduceSub, Nat.reduceLeDiff, Int.reduceNeg, Int.reduceAdd, Int.reduceSub, Int.reduceMul, Int.reduceLT, Int.reduceLE, Int.reduceEq, Int.reduceToNat, Nat.reduceBEq, Nat.reduceLT, Y_unf cc_view_Both_k0.eq_1, Y_unf cc_view_Both.eq_1]
      refine c_DeleteFunc (l := l) (g := 0) (del := fun x => !decide (x ∈ m)) hn (by omega) (by simp [St.new_heap, St.new_nx]) ?_ ?_
      · intro l'
        refine ⟨callable_Both1, fun x Q hQ => ?_⟩
        have e4 : (σ.nx = σ.nx + 1) = False := by simp
        refine calls_of_Y e_view_Both__1 rfl ?_; simp only [tm0_0, tm0_1, tm0_2, tm0_3, tm0_4, tm0_5, tm0_6, wk, wd, UInt8.reduceToNat, reduceIte, reduceCtorEq, Nat.reduceEqDiff, Nat.reduceAdd, Nat.reduceMul, Nat.reduceSub, Nat.reduceLeDiff, Int.reduceNeg, Int.reduceAdd, Int.reduceSub, Int.reduceMul, Int.reduceLT, Int.reduceLE, Int.reduceEq, Int.reduceToNat, Nat.reduceBEq, Nat.reduceLT, Y_unf cc_view_Both__1_k0.eq_1, Y_unf cc_view_Both__1.eq_1, e4]
        refine Cl_pure0 (c_Has (.inr ⟨k, cap2, rfl, hk⟩) _ (by omega)) ?_; simp only [wk, wd, UInt8.reduceToNat, reduceIte, reduceCtorEq, Nat.reduceEqDiff, Nat.reduceAdd, Nat.reduceMul, Nat.reduceSub, Nat.reduceLeDiff, Int.reduceNeg, Int.reduceAdd, Int.reduceSub, Int.reduceMul, Int.reduceLT, Int.reduceLE, Int.reduceEq, Int.reduceToNat, Nat.reduceBEq, Nat.reduceLT, Y_unf cc_view_Both__1_k0.eq_1, Y_unf cc_view_Both__1.eq_1]
        exact hQ
      · intro l' hl' ht
        refine ⟨trivial, ?_⟩
        simp only [Bool.not_not] at ht ⊢
        simp only [wk, wd, UInt8.reduceToNat, reduceIte, reduceCtorEq, Nat.reduceEqDiff, Nat.reduceAdd, Nat.reduceMul, Nat.reduceSub, Nat.reduceLeDiff, Int.reduceNeg, Int.reduceAdd, Int.reduceSub, Int.reduceMul, Int.reduceLT, Int.reduceLE, Int.reduceEq, Int.reduceToNat, Nat.reduceBEq, Nat.reduceLT, Y_unf cc_view_Both_k0.eq_1, Y_unf cc_view_Both.eq_1]
        refine ⟨((((Ext.refl σ).new _).new _).set (by simp [St.new_nx]) _), _, _, l', rfl, by omega, by rw [if_pos rfl], hl'.trans hn.symm, ht⟩
  · rintro w σ' ⟨hE, id, g, l', rfl, hid, hh, hl', ht⟩
    have hle : (l.filter fun x => decide (x ∈ m)).length ≤ l.length := List.length_filter_le _ _
    have hc : ((l'.map aI).drop 0).take ((l.filter fun x => decide (x ∈ m)).length * 1) = (l.filter fun x => decide (x ∈ m)).map aI := by
      rw [List.drop_zero, Nat.mul_one, ← List.map_take, ht]
    refine .inr ⟨id, g, 0, _, 1, _, 0, rfl, hh, by simp; omega, ?_, ?_, hE.set hid _⟩
    · rw [hc]; exact hq _ (.inr ⟨_, none, rfl, by simp⟩)
    · rw [hc]; simp only [IdsLt]; exact IdsLts_ints _
end Go.Proofs.Tryd
