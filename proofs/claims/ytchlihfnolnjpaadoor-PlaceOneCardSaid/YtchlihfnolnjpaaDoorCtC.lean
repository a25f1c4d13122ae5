/- Contracts of functions: what each computes, for whatever memory. -/
import Derived.Test.YtchlihfnolnjpaaDoorCtB
open Go Go.Abs
set_option linter.unusedVariables false
set_option linter.unusedSimpArgs false
namespace Go.Proofs.Tryd

theorem c_walkR {Inv : Bool → St → Prop} {g : FuncId} {caps : List AV} {c1 c2 : Nat} {G U : List Nat} (hU : ∀ i ∈ U, i ∈ G) (hc1 : c1 ∈ G) (hc2 : c2 ∈ G) (hg : callable prog g = true)
    {B : Nat} (hcb : ∀ s t v W σ, t.labs.length ≤ B → (∀ i ∈ W, i ∈ U) → Inv s σ → TreeAt σ v t W → ∀ Q : AV → St → Prop,
      (∀ r s' σ', Inv s' σ' → (r = false → s' = true) → (∀ p, t = .leaf p → s' = true) → (∀ i ∈ G, σ'.heap i = σ.heap i) → Q (.bool r) σ') → CallsA prog g ([v] ++ caps) σ Q)
    (t : T) : ∀ {v : AV} {W : List Nat} {σ : St} {s : Bool}, t.labs.length ≤ B → (∀ i ∈ W, i ∈ U) → Inv s σ → TreeAt σ v t W → σ.heap c1 = some (.arr 1 [.fn g caps] 0 0) →
      σ.heap c2 = some (.arr 1 [.fn F.tree_node_each__1 [.ptr c1 0 0, .ptr c2 0 0]] 0 0) → ∀ {Q : AV → St → Prop}, (∀ σ', Inv true σ' → (∀ i ∈ G, σ'.heap i = σ.heap i) → Q (.tup []) σ') →
      CallsA prog F.tree_node_each__1 [v, .ptr c1 0 0, .ptr c2 0 0] σ Q := by
  induction t with
  | leaf p =>
    intro v W σ s hB hF hI ht h1 h2 Q hq
    refine calls_of_Y e_tree_node_each__1 rfl ?_; simp only [tm0_0, tm0_1, tm0_2, tm0_3, tm0_4, tm0_5, tm0_6, wk, wd, UInt8.reduceToNat, reduceIte, reduceCtorEq, Nat.reduceEqDiff, Nat.reduceAdd, Nat.reduceMul, Nat.reduceSub, Nat.reduceLeDiff, Int.reduceNeg, Int.reduceAdd, Int.reduceSub, Int.reduceMul, Int.reduceLT, Int.reduceLE, Int.reduceEq, Int.reduceToNat, Nat.reduceBEq, Nat.reduceLT, Y_unf cc_tree_node_each__1_k0.eq_1, Y_unf cc_tree_node_each__1_c1.eq_1, Y_unf cc_tree_node_each__1_k2.eq_1, Y_unf cc_tree_node_each__1.eq_1, h1]
    refine ⟨hg, ?_⟩
    refine hcb s _ v W σ hB hF hI ht _ (fun rb s1 σ1 hI1 hrf hlf hk => ⟨trivial, ?_⟩)
    obtain ⟨id, rfl, rfl, hh⟩ := ht
    have hh1 : σ1.heap id = some (.arr 3 [.int .i64 p, .pnil, .pnil] 0 0) := by rw [hk id (hU _ (hF id (by simp)))]; exact hh
    obtain rfl := hlf p rfl
    cases rb
    · simp only [wk, wd, UInt8.reduceToNat, reduceIte, reduceCtorEq, Nat.reduceEqDiff, Nat.reduceAdd, Nat.reduceMul, Nat.reduceSub, Nat.reduceLeDiff, Int.reduceNeg, Int.reduceAdd, Int.reduceSub, Int.reduceMul, Int.reduceLT, Int.reduceLE, Int.reduceEq, Int.reduceToNat, Nat.reduceBEq, Nat.reduceLT, Y_unf cc_tree_node_each__1_k0.eq_1, Y_unf cc_tree_node_each__1_c1.eq_1, Y_unf cc_tree_node_each__1_k2.eq_1, Y_unf cc_tree_node_each__1.eq_1]
      exact hq _ hI1 hk
    · simp only [wk, wd, UInt8.reduceToNat, reduceIte, reduceCtorEq, Nat.reduceEqDiff, Nat.reduceAdd, Nat.reduceMul, Nat.reduceSub, Nat.reduceLeDiff, Int.reduceNeg, Int.reduceAdd, Int.reduceSub, Int.reduceMul, Int.reduceLT, Int.reduceLE, Int.reduceEq, Int.reduceToNat, Nat.reduceBEq, Nat.reduceLT, Y_unf cc_tree_node_each__1_k0.eq_1, Y_unf cc_tree_node_each__1_c1.eq_1, Y_unf cc_tree_node_each__1_k2.eq_1, Y_unf cc_tree_node_each__1.eq_1, hh1]
      exact hq _ hI1 hk
  | node l r ihl ihr =>
    intro v W σ s hB hF hI ht h1 h2 Q hq
    have hB' := hB
    simp only [T.labs, List.length_append] at hB'
    refine calls_of_Y e_tree_node_each__1 rfl ?_; simp only [tm0_0, tm0_1, tm0_2, tm0_3, tm0_4, tm0_5, tm0_6, wk, wd, UInt8.reduceToNat, reduceIte, reduceCtorEq, Nat.reduceEqDiff, Nat.reduceAdd, Nat.reduceMul, Nat.reduceSub, Nat.reduceLeDiff, Int.reduceNeg, Int.reduceAdd, Int.reduceSub, Int.reduceMul, Int.reduceLT, Int.reduceLE, Int.reduceEq, Int.reduceToNat, Nat.reduceBEq, Nat.reduceLT, Y_unf cc_tree_node_each__1_k0.eq_1, Y_unf cc_tree_node_each__1_c1.eq_1, Y_unf cc_tree_node_each__1_k2.eq_1, Y_unf cc_tree_node_each__1.eq_1, h1]
    refine ⟨hg, ?_⟩
    refine hcb s _ v W σ hB hF hI ht _ (fun rb s1 σ1 hI1 hrf hlf hk => ⟨trivial, ?_⟩)
    obtain ⟨id, vl, vr, Fl, Fr, rfl, rfl, hh, hl, hr⟩ := ht
    obtain ⟨il, rfl, _⟩ := hl.ptr
    obtain ⟨ir, rfl, _⟩ := hr.ptr
    have hFl : ∀ i ∈ Fl, i ∈ U := fun i hi => hF i (by simp [hi])
    have hFr : ∀ i ∈ Fr, i ∈ U := fun i hi => hF i (by simp [hi])
    have hidG : id ∈ G := hU _ (hF id (by simp))
    have hh1 := hk id hidG
    rw [hh] at hh1
    have h12 := hk c2 hc2
    rw [h2] at h12
    cases rb
    · obtain rfl := hrf rfl
      simp only [wk, wd, UInt8.reduceToNat, reduceIte, reduceCtorEq, Nat.reduceEqDiff, Nat.reduceAdd, Nat.reduceMul, Nat.reduceSub, Nat.reduceLeDiff, Int.reduceNeg, Int.reduceAdd, Int.reduceSub, Int.reduceMul, Int.reduceLT, Int.reduceLE, Int.reduceEq, Int.reduceToNat, Nat.reduceBEq, Nat.reduceLT, Y_unf cc_tree_node_each__1_k0.eq_1, Y_unf cc_tree_node_each__1_c1.eq_1, Y_unf cc_tree_node_each__1_k2.eq_1, Y_unf cc_tree_node_each__1.eq_1]
      exact hq _ hI1 hk
    · simp only [wk, wd, UInt8.reduceToNat, reduceIte, reduceCtorEq, Nat.reduceEqDiff, Nat.reduceAdd, Nat.reduceMul, Nat.reduceSub, Nat.reduceLeDiff, Int.reduceNeg, Int.reduceAdd, Int.reduceSub, Int.reduceMul, Int.reduceLT, Int.reduceLE, Int.reduceEq, Int.reduceToNat, Nat.reduceBEq, Nat.reduceLT, Y_unf cc_tree_node_each__1_k0.eq_1, Y_unf cc_tree_node_each__1_c1.eq_1, Y_unf cc_tree_node_each__1_k2.eq_1, Y_unf cc_tree_node_each__1.eq_1, hh1, h12]
      refine ⟨callable_each1, ?_⟩
      refine ihr (by omega) hFr hI1 (hr.keep fun i hi => hk i (hU _ (hFr i hi))) (by rw [hk c1 hc1]; exact h1) h12 (fun σ2 hI2 hk2 => ⟨trivial, ?_⟩)
      have hh2 := hk2 id hidG
      rw [hh1] at hh2
      have h22 := hk2 c2 hc2
      rw [h12] at h22
      simp only [wk, wd, UInt8.reduceToNat, reduceIte, reduceCtorEq, Nat.reduceEqDiff, Nat.reduceAdd, Nat.reduceMul, Nat.reduceSub, Nat.reduceLeDiff, Int.reduceNeg, Int.reduceAdd, Int.reduceSub, Int.reduceMul, Int.reduceLT, Int.reduceLE, Int.reduceEq, Int.reduceToNat, Nat.reduceBEq, Nat.reduceLT, Y_unf cc_tree_node_each__1_k0.eq_1, Y_unf cc_tree_node_each__1_c1.eq_1, Y_unf cc_tree_node_each__1_k2.eq_1, Y_unf cc_tree_node_each__1.eq_1, hh2, h22]
      refine ⟨callable_each1, ?_⟩
      refine ihl (by omega) hFl hI2 (hl.keep fun i hi => (hk2 i (hU _ (hFl i hi))).trans (hk i (hU _ (hFl i hi)))) (by rw [hk2 c1 hc1, hk c1 hc1]; exact h1) h22 (fun σ3 hI3 hk3 => ⟨trivial, ?_⟩)
      simp only [wk, wd, UInt8.reduceToNat, reduceIte, reduceCtorEq, Nat.reduceEqDiff, Nat.reduceAdd, Nat.reduceMul, Nat.reduceSub, Nat.reduceLeDiff, Int.reduceNeg, Int.reduceAdd, Int.reduceSub, Int.reduceMul, Int.reduceLT, Int.reduceLE, Int.reduceEq, Int.reduceToNat, Nat.reduceBEq, Nat.reduceLT, Y_unf cc_tree_node_each__1_k0.eq_1, Y_unf cc_tree_node_each__1_c1.eq_1, Y_unf cc_tree_node_each__1_k2.eq_1, Y_unf cc_tree_node_each__1.eq_1]
      exact hq _ hI3 fun i hi => (hk3 i hi).trans ((hk2 i hi).trans (hk i hi))

theorem c_eachR {g : FuncId} {caps : List AV} {t : T} {v : AV} {W : List Nat} {σ : St} {s : Bool} (Inv : Bool → St → Prop) (hg : callable prog g = true)
    (ht : TreeAt σ v t W) (hF : ∀ i ∈ W, i < σ.nx) (hi : ∀ σ', Ext σ σ' → σ'.nx = σ.nx + 2 → Inv s σ')
    {B : Nat} (hB : t.labs.length ≤ B)
    (hcb : ∀ s t v W' σ', t.labs.length ≤ B → (∀ i ∈ W', i ∈ W) → Inv s σ' → TreeAt σ' v t W' → ∀ Q : AV → St → Prop,
      (∀ r s' σ2, Inv s' σ2 → (r = false → s' = true) → (∀ p, t = .leaf p → s' = true) → (∀ i ∈ W ++ [σ.nx, σ.nx + 1], σ2.heap i = σ'.heap i) → Q (.bool r) σ2) → CallsA prog g ([v] ++ caps) σ' Q)
    {Q : AV → St → Prop} (hq : ∀ σ', Inv true σ' → (∀ i ∈ W, σ'.heap i = σ.heap i) → Q (.tup []) σ') : CallsA prog F.tree_node_each [v, .fn g caps] σ Q := by
  have hne : (σ.nx = σ.nx + 1) = False := by simp
  have hne' : (σ.nx + 1 = σ.nx) = False := by simp
  refine calls_of_Y e_tree_node_each rfl ?_; simp only [tm0_0, tm0_1, tm0_2, tm0_3, tm0_4, tm0_5, tm0_6, wk, wd, UInt8.reduceToNat, reduceIte, reduceCtorEq, Nat.reduceEqDiff, Nat.reduceAdd, Nat.reduceMul, Nat.reduceSub, Nat.reduceLeDiff, Int.reduceNeg, Int.reduceAdd, Int.reduceSub, Int.reduceMul, Int.reduceLT, Int.reduceLE, Int.reduceEq, Int.reduceToNat, Nat.reduceBEq, Nat.reduceLT, Y_unf cc_tree_node_each_k0.eq_1, Y_unf cc_tree_node_each_k1.eq_1, Y_unf cc_tree_node_each_k2.eq_1, Y_unf cc_tree_node_each.eq_1, hne, hne']
  refine ⟨callable_each1, ?_⟩
  have hE : Ext σ (((σ.new (.arr 1 [.fn g caps] 0 0)).new (.arr 1 [.fnil] 0 0)).set (σ.nx + 1) (.arr 1 [.fn F.tree_node_each__1 [.ptr σ.nx 0 0, .ptr (σ.nx + 1) 0 0]] 0 0)) :=
    (((Ext.refl σ).new _).new _).set (by omega) _
  refine c_walkR (Inv := Inv) (G := W ++ [σ.nx, σ.nx + 1]) (U := W) (g := g) (caps := caps) (fun i hi => by simp [hi]) (by simp) (by simp) hg (B := B) hcb t (s := s) (W := W) hB (fun i hi => hi) (hi _ hE rfl) (ht.keep fun i hi => hE.heap i (hF i hi)) ?_ ?_ (fun σ' hI hk => ⟨trivial, ?_⟩)
  · simp [St.set_heap, St.new_heap, St.new_nx]
  · simp [St.set_heap]
  · simp only [wk, wd, UInt8.reduceToNat, reduceIte, reduceCtorEq, Nat.reduceEqDiff, Nat.reduceAdd, Nat.reduceMul, Nat.reduceSub, Nat.reduceLeDiff, Int.reduceNeg, Int.reduceAdd, Int.reduceSub, Int.reduceMul, Int.reduceLT, Int.reduceLE, Int.reduceEq, Int.reduceToNat, Nat.reduceBEq, Nat.reduceLT, Y_unf cc_tree_node_each_k0.eq_1, Y_unf cc_tree_node_each_k1.eq_1, Y_unf cc_tree_node_each_k2.eq_1, Y_unf cc_tree_node_each.eq_1]
    exact hq _ hI fun i hi => (hk i (by simp [hi])).trans (hE.heap i (hF i hi))

theorem TreeAt.sub {σ : St} {t : T} : ∀ {v : AV} {W : List Nat} {id : Nat}, TreeAt σ v t W → id ∈ W → ∃ x Wx, TreeAt σ (.ptr id 0 0) x Wx ∧ (∀ i ∈ Wx, i ∈ W) ∧ x.labs.length ≤ t.labs.length := by
  induction t with
  | leaf p =>
    intro v W id h hid
    have h' := h
    obtain ⟨i, rfl, rfl, hh⟩ := h'
    obtain rfl : id = i := by simpa using hid
    exact ⟨_, _, h, fun i hi => hi, Nat.le_refl _⟩
  | node l r ihl ihr =>
    intro v W id h hid
    have h' := h
    obtain ⟨i, vl, vr, Fl, Fr, rfl, rfl, hh, hl, hr⟩ := h'
    rcases List.mem_cons.1 hid with rfl | hid
    · exact ⟨_, _, h, fun i hi => hi, Nat.le_refl _⟩
    · rcases List.mem_append.1 hid with hid | hid
      · obtain ⟨x, Wx, h1, h2, h3⟩ := ihl hl hid
        exact ⟨x, Wx, h1, fun i hi => by simp [h2 i hi], by simp [T.labs]; omega⟩
      · obtain ⟨x, Wx, h1, h2, h3⟩ := ihr hr hid
        exact ⟨x, Wx, h1, fun i hi => by simp [h2 i hi], by simp [T.labs]; omega⟩

theorem callable_Join1 : callable prog F.tree_Join__1 = true := by kernel_rfl
/-- A variable that is nil, or one of a tree's nodes. -/
def PlaceAt (W : List Nat) (c : Nat) (b : Bool) (σ : St) : Prop := (b = false ∧ σ.heap c = some (.arr 1 [.pnil] 0 0)) ∨ (b = true ∧ ∃ id ∈ W, σ.heap c = some (.arr 1 [.ptr id 0 0] 0 0))

theorem c_Join1 {c : Nat} {W : List Nat} {t0 t : T} {v0 v : AV} {W' : List Nat} {b : Bool} {σ : St} (hW : ∀ i ∈ W, i < σ.nx) (hcW : c ∉ W) (hn0 : t0.labs.length ≤ 12) (h0 : TreeAt σ v0 t0 W) (hn : t.labs.length ≤ 12) (hW' : ∀ i ∈ W', i ∈ W) (ht : TreeAt σ v t W') (hP : PlaceAt W c b σ)
    {Q : AV → St → Prop} (hq : ∀ r b' σ', PlaceAt W c b' σ' → (r = false → b' = true) → (∀ p, t = .leaf p → b' = true) → σ'.nx = σ.nx → (∀ i, i ≠ c → σ'.heap i = σ.heap i) → Q (.bool r) σ') : CallsA prog F.tree_Join__1 [v, .ptr c 0 0] σ Q := by
  have hid := ht.ptr
  obtain ⟨id, rfl, hidW⟩ := hid
  refine calls_of_Y e_tree_Join__1 rfl ?_; simp only [tm0_0, tm0_1, tm0_2, tm0_3, tm0_4, tm0_5, tm0_6, wk, wd, UInt8.reduceToNat, reduceIte, reduceCtorEq, Nat.reduceEqDiff, Nat.reduceAdd, Nat.reduceMul, Nat.reduceSub, Nat.reduceLeDiff, Int.reduceNeg, Int.reduceAdd, Int.reduceSub, Int.reduceMul, Int.reduceLT, Int.reduceLE, Int.reduceEq, Int.reduceToNat, Nat.reduceBEq, Nat.reduceLT, Y_unf cc_tree_Join__1_c0.eq_1, Y_unf cc_tree_Join__1_k1.eq_1, Y_unf cc_tree_Join__1_k2.eq_1, Y_unf cc_tree_Join__1_k3.eq_1, Y_unf cc_tree_Join__1_k4.eq_1, Y_unf cc_tree_Join__1.eq_1]
  refine c_full ht (fun i hi => hW i (hW' i hi)) hn ⟨trivial, ?_⟩
  by_cases hf : t.labs.length = 2 ^ t.depth
  · simp only [wk, wd, UInt8.reduceToNat, reduceIte, reduceCtorEq, Nat.reduceEqDiff, Nat.reduceAdd, Nat.reduceMul, Nat.reduceSub, Nat.reduceLeDiff, Int.reduceNeg, Int.reduceAdd, Int.reduceSub, Int.reduceMul, Int.reduceLT, Int.reduceLE, Int.reduceEq, Int.reduceToNat, Nat.reduceBEq, Nat.reduceLT, Y_unf cc_tree_Join__1_c0.eq_1, Y_unf cc_tree_Join__1_k1.eq_1, Y_unf cc_tree_Join__1_k2.eq_1, Y_unf cc_tree_Join__1_k3.eq_1, Y_unf cc_tree_Join__1_k4.eq_1, Y_unf cc_tree_Join__1.eq_1, hf]
    rcases hP with ⟨rfl, hc⟩ | ⟨rfl, id2, hid2, hc⟩
    · simp only [wk, wd, UInt8.reduceToNat, reduceIte, reduceCtorEq, Nat.reduceEqDiff, Nat.reduceAdd, Nat.reduceMul, Nat.reduceSub, Nat.reduceLeDiff, Int.reduceNeg, Int.reduceAdd, Int.reduceSub, Int.reduceMul, Int.reduceLT, Int.reduceLE, Int.reduceEq, Int.reduceToNat, Nat.reduceBEq, Nat.reduceLT, Y_unf cc_tree_Join__1_c0.eq_1, Y_unf cc_tree_Join__1_k1.eq_1, Y_unf cc_tree_Join__1_k2.eq_1, Y_unf cc_tree_Join__1_k3.eq_1, Y_unf cc_tree_Join__1_k4.eq_1, Y_unf cc_tree_Join__1.eq_1, hc]
      refine hq false true (σ.set c (.arr 1 [.ptr id 0 0] 0 0)) (.inr ⟨rfl, id, hW' _ hidW, by simp [St.set_heap]⟩) (fun _ => rfl) (fun _ _ => rfl) rfl (fun i hi => by simp [St.set_heap, hi])
    · obtain ⟨x, Wx, hx, hWx, hxl⟩ := h0.sub hid2
      have d1 := T.depth_lt t
      have d2 := T.depth_lt x
      simp only [wk, wd, UInt8.reduceToNat, reduceIte, reduceCtorEq, Nat.reduceEqDiff, Nat.reduceAdd, Nat.reduceMul, Nat.reduceSub, Nat.reduceLeDiff, Int.reduceNeg, Int.reduceAdd, Int.reduceSub, Int.reduceMul, Int.reduceLT, Int.reduceLE, Int.reduceEq, Int.reduceToNat, Nat.reduceBEq, Nat.reduceLT, Y_unf cc_tree_Join__1_c0.eq_1, Y_unf cc_tree_Join__1_k1.eq_1, Y_unf cc_tree_Join__1_k2.eq_1, Y_unf cc_tree_Join__1_k3.eq_1, Y_unf cc_tree_Join__1_k4.eq_1, Y_unf cc_tree_Join__1.eq_1, hc]
      refine c_depth t (by omega) ht ⟨by simp only [wk, wd, UInt8.reduceToNat, reduceIte, reduceCtorEq, Nat.reduceEqDiff, Nat.reduceAdd, Nat.reduceMul, Nat.reduceSub, Nat.reduceLeDiff, Int.reduceNeg, Int.reduceAdd, Int.reduceSub, Int.reduceMul, Int.reduceLT, Int.reduceLE, Int.reduceEq, Int.reduceToNat, Nat.reduceBEq, Nat.reduceLT, Y_unf cc_tree_Join__1_c0.eq_1, Y_unf cc_tree_Join__1_k1.eq_1, Y_unf cc_tree_Join__1_k2.eq_1, Y_unf cc_tree_Join__1_k3.eq_1, Y_unf cc_tree_Join__1_k4.eq_1, Y_unf cc_tree_Join__1.eq_1, hc], ?_⟩
      simp only [wk, wd, UInt8.reduceToNat, reduceIte, reduceCtorEq, Nat.reduceEqDiff, Nat.reduceAdd, Nat.reduceMul, Nat.reduceSub, Nat.reduceLeDiff, Int.reduceNeg, Int.reduceAdd, Int.reduceSub, Int.reduceMul, Int.reduceLT, Int.reduceLE, Int.reduceEq, Int.reduceToNat, Nat.reduceBEq, Nat.reduceLT, Y_unf cc_tree_Join__1_c0.eq_1, Y_unf cc_tree_Join__1_k1.eq_1, Y_unf cc_tree_Join__1_k2.eq_1, Y_unf cc_tree_Join__1_k3.eq_1, Y_unf cc_tree_Join__1_k4.eq_1, Y_unf cc_tree_Join__1.eq_1]
      refine c_depth x (by omega) hx ⟨trivial, ?_⟩
      by_cases hlt : (t.depth : Int) < x.depth
      · simp only [wk, wd, UInt8.reduceToNat, reduceIte, reduceCtorEq, Nat.reduceEqDiff, Nat.reduceAdd, Nat.reduceMul, Nat.reduceSub, Nat.reduceLeDiff, Int.reduceNeg, Int.reduceAdd, Int.reduceSub, Int.reduceMul, Int.reduceLT, Int.reduceLE, Int.reduceEq, Int.reduceToNat, Nat.reduceBEq, Nat.reduceLT, Y_unf cc_tree_Join__1_c0.eq_1, Y_unf cc_tree_Join__1_k1.eq_1, Y_unf cc_tree_Join__1_k2.eq_1, Y_unf cc_tree_Join__1_k3.eq_1, Y_unf cc_tree_Join__1_k4.eq_1, Y_unf cc_tree_Join__1.eq_1, hlt, hc]
        refine hq false true (σ.set c (.arr 1 [.ptr id 0 0] 0 0)) (.inr ⟨rfl, id, hW' _ hidW, by simp [St.set_heap]⟩) (fun _ => rfl) (fun _ _ => rfl) rfl (fun i hi => by simp [St.set_heap, hi])
      · simp only [wk, wd, UInt8.reduceToNat, reduceIte, reduceCtorEq, Nat.reduceEqDiff, Nat.reduceAdd, Nat.reduceMul, Nat.reduceSub, Nat.reduceLeDiff, Int.reduceNeg, Int.reduceAdd, Int.reduceSub, Int.reduceMul, Int.reduceLT, Int.reduceLE, Int.reduceEq, Int.reduceToNat, Nat.reduceBEq, Nat.reduceLT, Y_unf cc_tree_Join__1_c0.eq_1, Y_unf cc_tree_Join__1_k1.eq_1, Y_unf cc_tree_Join__1_k2.eq_1, Y_unf cc_tree_Join__1_k3.eq_1, Y_unf cc_tree_Join__1_k4.eq_1, Y_unf cc_tree_Join__1.eq_1, hlt]
        exact hq false true _ (.inr ⟨rfl, id2, hid2, hc⟩) (fun _ => rfl) (fun _ _ => rfl) rfl (fun i hi => rfl)
  · simp only [wk, wd, UInt8.reduceToNat, reduceIte, reduceCtorEq, Nat.reduceEqDiff, Nat.reduceAdd, Nat.reduceMul, Nat.reduceSub, Nat.reduceLeDiff, Int.reduceNeg, Int.reduceAdd, Int.reduceSub, Int.reduceMul, Int.reduceLT, Int.reduceLE, Int.reduceEq, Int.reduceToNat, Nat.reduceBEq, Nat.reduceLT, Y_unf cc_tree_Join__1_c0.eq_1, Y_unf cc_tree_Join__1_k1.eq_1, Y_unf cc_tree_Join__1_k2.eq_1, Y_unf cc_tree_Join__1_k3.eq_1, Y_unf cc_tree_Join__1_k4.eq_1, Y_unf cc_tree_Join__1.eq_1, hf]
    refine hq true b _ hP (by simp) (fun p hp => ?_) rfl (fun i hi => rfl)
    subst hp; exact absurd rfl hf

theorem TreeAt.replace {σ : St} {t : T} : ∀ {v : AV} {W : List Nat} {id : Nat}, TreeAt σ v t W → W.Nodup → id ∈ W → ∃ x Wx A B, TreeAt σ (.ptr id 0 0) x Wx ∧ t.labs = A ++ x.labs ++ B ∧ (∀ i ∈ Wx, i ∈ W) ∧ Wx.Nodup ∧
    ∀ σ' y Wy, TreeAt σ' (.ptr id 0 0) y Wy → (∀ i ∈ W, i ∉ Wx → σ'.heap i = σ.heap i) → ∃ t' W', TreeAt σ' v t' W' ∧ t'.labs = A ++ y.labs ++ B ∧ ∀ i ∈ W', i ∈ W ∨ i ∈ Wy := by
  induction t with
  | leaf p =>
    intro v W id h hn hid
    have h' := h
    obtain ⟨i, rfl, rfl, hh⟩ := h'
    obtain rfl : id = i := by simpa using hid
    exact ⟨_, _, [], [], h, by simp, fun i hi => hi, hn, fun σ' y Wy hy _ => ⟨y, Wy, hy, by simp, fun i hi => .inr hi⟩⟩
  | node l r ihl ihr =>
    intro v W id h hn hid
    have h' := h
    obtain ⟨i, vl, vr, Fl, Fr, rfl, rfl, hh, hl, hr⟩ := h'
    rcases List.mem_cons.1 hid with rfl | hid
    · exact ⟨_, _, [], [], h, by simp, fun i hi => hi, hn, fun σ' y Wy hy _ => ⟨y, Wy, hy, by simp, fun i hi => .inr hi⟩⟩
    · rw [List.nodup_cons, List.nodup_append] at hn
      obtain ⟨hi0, hnl, hnr, hlr⟩ := hn
      rcases List.mem_append.1 hid with hid | hid
      · obtain ⟨x, Wx, A, B, h1, h2, h3, h4, h5⟩ := ihl hl hnl hid
        refine ⟨x, Wx, A, B ++ r.labs, h1, by simp [T.labs, h2], fun j hj => by simp [h3 j hj], h4, fun σ' y Wy hy hk => ?_⟩
        obtain ⟨t', W', g1, g2, g3⟩ := h5 σ' y Wy hy (fun j hj hjx => hk j (by simp [hj]) hjx)
        refine ⟨.node t' r, i :: (W' ++ Fr), ⟨i, vl, vr, W', Fr, rfl, rfl, ?_, g1, hr.keep fun j hj => hk j (by simp [hj]) fun hx => hlr j (h3 j hx) j hj rfl⟩, by simp [T.labs, g2], ?_⟩
        · rw [hk i (by simp) fun hx => hi0 (by simp [h3 i hx])]; exact hh
        · intro j hj
          rcases List.mem_cons.1 hj with rfl | hj
          · exact .inl (by simp)
          · rcases List.mem_append.1 hj with hj | hj
            · rcases g3 j hj with hj | hj
              · exact .inl (by simp [hj])
              · exact .inr hj
            · exact .inl (by simp [hj])
      · obtain ⟨x, Wx, A, B, h1, h2, h3, h4, h5⟩ := ihr hr hnr hid
        refine ⟨x, Wx, l.labs ++ A, B, h1, by simp [T.labs, h2], fun j hj => by simp [h3 j hj], h4, fun σ' y Wy hy hk => ?_⟩
        obtain ⟨t', W', g1, g2, g3⟩ := h5 σ' y Wy hy (fun j hj hjx => hk j (by simp [hj]) hjx)
        refine ⟨.node l t', i :: (Fl ++ W'), ⟨i, vl, vr, Fl, W', rfl, rfl, ?_, hl.keep fun j hj => hk j (by simp [hj]) fun hx => hlr j hj j (h3 j hx) rfl, g1⟩, by simp [T.labs, g2], ?_⟩
        · rw [hk i (by simp) fun hx => hi0 (by simp [h3 i hx])]; exact hh
        · intro j hj
          rcases List.mem_cons.1 hj with rfl | hj
          · exact .inl (by simp)
          · rcases List.mem_append.1 hj with hj | hj
            · exact .inl (by simp [hj])
            · rcases g3 j hj with hj | hj
              · exact .inl (by simp [hj])
              · exact .inr hj

theorem TreeAt.copy {σ σ' : St} {x : T} {id a : Nat} {Wx : List Nat} (h : TreeAt σ (.ptr id 0 0) x Wx) (hn : Wx.Nodup) (hk : ∀ i ∈ Wx, i ≠ id → σ'.heap i = σ.heap i) (ha : σ'.heap a = σ.heap id) :
    ∃ Wa, TreeAt σ' (.ptr a 0 0) x Wa ∧ ∀ i ∈ Wa, i = a ∨ i ∈ Wx := by
  cases x with
  | leaf p =>
    obtain ⟨i, he, rfl, hh⟩ := h
    cases he
    exact ⟨[a], ⟨a, rfl, rfl, by rw [ha]; exact hh⟩, by simp⟩
  | node l r =>
    obtain ⟨i, vl, vr, Fl, Fr, he, rfl, hh, hl, hr⟩ := h
    cases he
    rw [List.nodup_cons] at hn
    refine ⟨a :: (Fl ++ Fr), ⟨a, vl, vr, Fl, Fr, rfl, rfl, by rw [ha]; exact hh, hl.keep fun j hj => hk j (by simp [hj]) fun he => hn.1 (by rw [← he]; simp [hj]), hr.keep fun j hj => hk j (by simp [hj]) fun he => hn.1 (by rw [← he]; simp [hj])⟩, ?_⟩
    intro j hj
    rcases List.mem_cons.1 hj with rfl | hj
    · exact .inl rfl
    · exact .inr (by simp only [List.mem_cons]; exact .inr hj)
theorem TreeAt.cells {σ : St} {x : T} {id : Nat} {Wx : List Nat} (h : TreeAt σ (.ptr id 0 0) x Wx) : ∃ a b c, σ.heap id = some (.arr 3 [a, b, c] 0 0) ∧ a.one = true ∧ b.one = true ∧ c.one = true := by
  cases x with
  | leaf p =>
    obtain ⟨i, he, rfl, hh⟩ := h
    cases he
    exact ⟨_, _, _, hh, rfl, rfl, rfl⟩
  | node l r =>
    obtain ⟨i, vl, vr, Fl, Fr, he, rfl, hh, hl, hr⟩ := h
    cases he
    obtain ⟨_, rfl, _⟩ := hl.ptr
    obtain ⟨_, rfl, _⟩ := hr.ptr
    exact ⟨_, _, _, hh, rfl, rfl, rfl⟩

/-- Join -/
theorem c_Join {t : T} (h : t.Good) {p : Nat} (h1 : 1 ≤ p) (h8 : p ≤ 8) {σ : St} {Q : AV → St → Prop} (hq0 : p ∈ t.labs → Q (.tup [.str [], .int .i64 1]) σ)
    (hq : ∀ t' : T, p ∉ t.labs → t'.Good → t'.labs.Perm (p :: t.labs) → (∀ a, t.labs = [a] → t'.labs = [a, p]) → Q (.tup [.str t'.text, .int .i64 0]) σ) : CallsA prog F.tree_Join [.str t.text, .int .i64 p] σ Q := by
  have hl := h.len
  have hml := T.mem_len t
  refine CallsA.forget ?_
  refine calls_of_Y e_tree_Join rfl ?_; simp only [tm0_0, tm0_1, tm0_2, tm0_3, tm0_4, tm0_5, tm0_6, wk, wd, UInt8.reduceToNat, reduceIte, reduceCtorEq, Nat.reduceEqDiff, Nat.reduceAdd, Nat.reduceMul, Nat.reduceSub, Nat.reduceLeDiff, Int.reduceNeg, Int.reduceAdd, Int.reduceSub, Int.reduceMul, Int.reduceLT, Int.reduceLE, Int.reduceEq, Int.reduceToNat, Nat.reduceBEq, Nat.reduceLT, Y_unf cc_tree_Join_k0.eq_1, Y_unf cc_tree_Join_k1.eq_1, Y_unf cc_tree_Join_k2.eq_1, Y_unf cc_tree_Join_k3.eq_1, Y_unf cc_tree_Join_k4.eq_1, Y_unf cc_tree_Join_k5.eq_1, Y_unf cc_tree_Join_k6.eq_1, Y_unf cc_tree_Join_k7.eq_1, Y_unf cc_tree_Join_k8.eq_1, Y_unf cc_tree_Join.eq_1]
  refine c_of h (fun v W σ1 hT hn hb hE => ⟨trivial, ?_⟩)
  obtain ⟨id0, rfl, _⟩ := hT.ptr
  simp only [wk, wd, UInt8.reduceToNat, reduceIte, reduceCtorEq, Nat.reduceEqDiff, Nat.reduceAdd, Nat.reduceMul, Nat.reduceSub, Nat.reduceLeDiff, Int.reduceNeg, Int.reduceAdd, Int.reduceSub, Int.reduceMul, Int.reduceLT, Int.reduceLE, Int.reduceEq, Int.reduceToNat, Nat.reduceBEq, Nat.reduceLT, Y_unf cc_tree_Join_k0.eq_1, Y_unf cc_tree_Join_k1.eq_1, Y_unf cc_tree_Join_k2.eq_1, Y_unf cc_tree_Join_k3.eq_1, Y_unf cc_tree_Join_k4.eq_1, Y_unf cc_tree_Join_k5.eq_1, Y_unf cc_tree_Join_k6.eq_1, Y_unf cc_tree_Join_k7.eq_1, Y_unf cc_tree_Join_k8.eq_1, Y_unf cc_tree_Join.eq_1]
  refine Cl_pure0 (c_Leaf h1 h8) ?_; simp only [wk, wd, UInt8.reduceToNat, reduceIte, reduceCtorEq, Nat.reduceEqDiff, Nat.reduceAdd, Nat.reduceMul, Nat.reduceSub, Nat.reduceLeDiff, Int.reduceNeg, Int.reduceAdd, Int.reduceSub, Int.reduceMul, Int.reduceLT, Int.reduceLE, Int.reduceEq, Int.reduceToNat, Nat.reduceBEq, Nat.reduceLT, Y_unf cc_tree_Join_k0.eq_1, Y_unf cc_tree_Join_k1.eq_1, Y_unf cc_tree_Join_k2.eq_1, Y_unf cc_tree_Join_k3.eq_1, Y_unf cc_tree_Join_k4.eq_1, Y_unf cc_tree_Join_k5.eq_1, Y_unf cc_tree_Join_k6.eq_1, Y_unf cc_tree_Join_k7.eq_1, Y_unf cc_tree_Join_k8.eq_1, Y_unf cc_tree_Join.eq_1]
  refine c_members hT (fun i hi => (hb i hi).2) (by omega) (fun r hr => ⟨trivial, ?_⟩)
  simp only [wk, wd, UInt8.reduceToNat, reduceIte, reduceCtorEq, Nat.reduceEqDiff, Nat.reduceAdd, Nat.reduceMul, Nat.reduceSub, Nat.reduceLeDiff, Int.reduceNeg, Int.reduceAdd, Int.reduceSub, Int.reduceMul, Int.reduceLT, Int.reduceLE, Int.reduceEq, Int.reduceToNat, Nat.reduceBEq, Nat.reduceLT, Y_unf cc_tree_Join_k0.eq_1, Y_unf cc_tree_Join_k1.eq_1, Y_unf cc_tree_Join_k2.eq_1, Y_unf cc_tree_Join_k3.eq_1, Y_unf cc_tree_Join_k4.eq_1, Y_unf cc_tree_Join_k5.eq_1, Y_unf cc_tree_Join_k6.eq_1, Y_unf cc_tree_Join_k7.eq_1, Y_unf cc_tree_Join_k8.eq_1, Y_unf cc_tree_Join.eq_1]
  refine Cl_pure0 (c_Has hr _ (by omega)) ?_; simp only [wk, wd, UInt8.reduceToNat, reduceIte, reduceCtorEq, Nat.reduceEqDiff, Nat.reduceAdd, Nat.reduceMul, Nat.reduceSub, Nat.reduceLeDiff, Int.reduceNeg, Int.reduceAdd, Int.reduceSub, Int.reduceMul, Int.reduceLT, Int.reduceLE, Int.reduceEq, Int.reduceToNat, Nat.reduceBEq, Nat.reduceLT, Y_unf cc_tree_Join_k0.eq_1, Y_unf cc_tree_Join_k1.eq_1, Y_unf cc_tree_Join_k2.eq_1, Y_unf cc_tree_Join_k3.eq_1, Y_unf cc_tree_Join_k4.eq_1, Y_unf cc_tree_Join_k5.eq_1, Y_unf cc_tree_Join_k6.eq_1, Y_unf cc_tree_Join_k7.eq_1, Y_unf cc_tree_Join_k8.eq_1, Y_unf cc_tree_Join.eq_1]
  by_cases hp : p ∈ t.labs
  · have hpm : ((p : Int) ∈ t.mem) = True := eq_true (T.mem_iff.2 ⟨p, hp, rfl⟩)
    simp only [wk, wd, UInt8.reduceToNat, reduceIte, reduceCtorEq, Nat.reduceEqDiff, Nat.reduceAdd, Nat.reduceMul, Nat.reduceSub, Nat.reduceLeDiff, Int.reduceNeg, Int.reduceAdd, Int.reduceSub, Int.reduceMul, Int.reduceLT, Int.reduceLE, Int.reduceEq, Int.reduceToNat, Nat.reduceBEq, Nat.reduceLT, Y_unf cc_tree_Join_k0.eq_1, Y_unf cc_tree_Join_k1.eq_1, Y_unf cc_tree_Join_k2.eq_1, Y_unf cc_tree_Join_k3.eq_1, Y_unf cc_tree_Join_k4.eq_1, Y_unf cc_tree_Join_k5.eq_1, Y_unf cc_tree_Join_k6.eq_1, Y_unf cc_tree_Join_k7.eq_1, Y_unf cc_tree_Join_k8.eq_1, Y_unf cc_tree_Join.eq_1, hpm]
    exact ⟨hq0 hp, by simp [IdsLt, IdsLts], hE⟩
  · have hpm : ((p : Int) ∈ t.mem) = False := eq_false fun hm => by
      obtain ⟨q, hq', he⟩ := T.mem_iff.1 hm
      have : p = q := by omega
      exact hp (by rw [this]; exact hq')
    simp only [wk, wd, UInt8.reduceToNat, reduceIte, reduceCtorEq, Nat.reduceEqDiff, Nat.reduceAdd, Nat.reduceMul, Nat.reduceSub, Nat.reduceLeDiff, Int.reduceNeg, Int.reduceAdd, Int.reduceSub, Int.reduceMul, Int.reduceLT, Int.reduceLE, Int.reduceEq, Int.reduceToNat, Nat.reduceBEq, Nat.reduceLT, Y_unf cc_tree_Join_k0.eq_1, Y_unf cc_tree_Join_k1.eq_1, Y_unf cc_tree_Join_k2.eq_1, Y_unf cc_tree_Join_k3.eq_1, Y_unf cc_tree_Join_k4.eq_1, Y_unf cc_tree_Join_k5.eq_1, Y_unf cc_tree_Join_k6.eq_1, Y_unf cc_tree_Join_k7.eq_1, Y_unf cc_tree_Join_k8.eq_1, Y_unf cc_tree_Join.eq_1, hpm]
    have hx : Ext σ1 (σ1.new (.arr 1 [.pnil] 0 0)) := (Ext.refl σ1).new _
    refine c_eachR (W := W) (B := 12) (s := false) (fun b σ' => PlaceAt W σ1.nx b σ' ∧ Ext σ1 σ' ∧ TreeAt σ' (.ptr id0 0 0) t W ∧ σ1.nx + 1 ≤ σ'.nx) callable_Join1 (hT.keep fun i hi => hx.heap i (hb i hi).2) (fun i hi => Nat.lt_succ_of_lt (hb i hi).2) ?_ (by omega) ?_ (fun σ2 hI hk => ⟨trivial, ?_⟩)
    · intro σ' hE' hnx
      have h0 : σ'.heap σ1.nx = some (.arr 1 [.pnil] 0 0) := by rw [hE'.heap _ (by simp [St.new_nx])]; simp [St.new_heap]
      exact ⟨.inl ⟨rfl, h0⟩, hx.trans hE', (hT.keep fun i hi => (hx.trans hE').heap i (hb i hi).2), hE'.nx⟩
    · intro b t' v' W' σ' hB' hW' hI hT' Q' hQ'
      obtain ⟨hP, hE', hT0, hnn⟩ := hI
      refine c_Join1 (t0 := t) (v0 := .ptr id0 0 0) (W := W) (fun i hi => Nat.lt_of_lt_of_le (hb i hi).2 hE'.nx) (fun hm => by have := (hb _ hm).2; omega) (by omega) hT0 hB' hW' hT' hP (fun r b' σ2 hP2 hrf hlf hnx hk2 => ?_)
      refine hQ' r b' σ2 ⟨hP2, ⟨by rw [hnx]; exact hE'.nx, fun i hi => by rw [hk2 i (by omega)]; exact hE'.heap i hi⟩, hT0.keep fun i hi => hk2 i (by have := (hb i hi).2; omega), by rw [hnx]; exact hnn⟩ hrf hlf (fun i hi => hk2 i ?_)
      rcases List.mem_append.1 hi with hi | hi
      · have := (hb i hi).2; omega
      · simp [St.new_nx] at hi; omega
    · obtain ⟨hP, hE2, hT2, hnn⟩ := hI
      rcases hP with ⟨hf, _⟩ | ⟨_, id, hid, hc⟩
      · cases hf
      obtain ⟨x, Wx, A, B, hxT, hlab, hWx, hnx, hrep⟩ := hT2.replace hn hid
      obtain ⟨ca, cb, cc, hcell, o1', o2, o3⟩ := hxT.cells
      have hidn := (hb id hid).2
      have hE2n := hE2.nx
      have e1 : (id = σ2.nx) = False := eq_false (by omega)
      have e2 : (σ2.nx = id) = False := eq_false (by omega)
      have e3 : (σ1.nx = σ2.nx) = False := eq_false (by omega)
      have e4 : (id = σ2.nx + 1) = False := eq_false (by omega)
      simp only [wk, wd, UInt8.reduceToNat, reduceIte, reduceCtorEq, Nat.reduceEqDiff, Nat.reduceAdd, Nat.reduceMul, Nat.reduceSub, Nat.reduceLeDiff, Int.reduceNeg, Int.reduceAdd, Int.reduceSub, Int.reduceMul, Int.reduceLT, Int.reduceLE, Int.reduceEq, Int.reduceToNat, Nat.reduceBEq, Nat.reduceLT, Y_unf cc_tree_Join_k0.eq_1, Y_unf cc_tree_Join_k1.eq_1, Y_unf cc_tree_Join_k2.eq_1, Y_unf cc_tree_Join_k3.eq_1, Y_unf cc_tree_Join_k4.eq_1, Y_unf cc_tree_Join_k5.eq_1, Y_unf cc_tree_Join_k6.eq_1, Y_unf cc_tree_Join_k7.eq_1, Y_unf cc_tree_Join_k8.eq_1, Y_unf cc_tree_Join.eq_1, hc, hcell, e1, e2, e3, e4, o1', o2, o3]
      generalize hσ3 : ((((σ2.new (.arr 3 [.int .i64 0, .pnil, .pnil] 0 0)).set σ2.nx (.arr 3 [ca, cb, cc] 0 0)).new (.arr 3 [.int .i64 p, .pnil, .pnil] 0 0)).set id (.arr 3 [.int .i64 0, .ptr σ2.nx 0 0, .ptr (σ2.nx + 1) 0 0] 0 0)) = σ3
      have k1 : σ3.heap id = some (.arr 3 [.int .i64 0, .ptr σ2.nx 0 0, .ptr (σ2.nx + 1) 0 0] 0 0) := by rw [← hσ3, St.set_heap, if_pos rfl]
      have k2 : σ3.heap σ2.nx = some (.arr 3 [ca, cb, cc] 0 0) := by
        rw [← hσ3]; simp only [St.set_heap, St.new_heap, St.set_nx, St.new_nx]; rw [if_neg (by omega), if_neg (by omega), if_pos trivial]
      have k3 : σ3.heap (σ2.nx + 1) = some (.arr 3 [.int .i64 p, .pnil, .pnil] 0 0) := by
        rw [← hσ3]; simp only [St.set_heap, St.new_heap, St.set_nx, St.new_nx]; rw [if_neg (by omega), if_pos trivial]
      have k4 : ∀ i, i < σ2.nx → i ≠ id → σ3.heap i = σ2.heap i := by
        intro i hi hne
        rw [← hσ3]; simp only [St.set_heap, St.new_heap, St.set_nx, St.new_nx, hne, show ¬ i = σ2.nx by omega, show ¬ i = σ2.nx + 1 by omega, if_false]
      have k5 : σ2.nx ≤ σ3.nx := by rw [← hσ3]; simp only [St.set_nx, St.new_nx]; omega
      obtain ⟨Wa, ha, _⟩ := hxT.copy (σ' := σ3) (a := σ2.nx) hnx (fun i hi hne => k4 i (by have := (hb i (hWx i hi)).2; omega) hne) (by rw [k2, hcell])
      have hy : TreeAt σ3 (.ptr id 0 0) (.node x (.leaf p)) (id :: (Wa ++ [σ2.nx + 1])) := ⟨id, _, _, Wa, [σ2.nx + 1], rfl, rfl, k1, ha, _, rfl, rfl, k3⟩
      have hidx : id ∈ Wx := by
        obtain ⟨i, he, hi⟩ := hxT.ptr
        cases he; exact hi
      obtain ⟨t', W', ht', hlab', _⟩ := hrep σ3 _ _ hy (fun i hi hix => k4 i (by have := (hb i hi).2; omega) (fun he => hix (by rw [he]; exact hidx)))
      have hlab2 : t'.labs = A ++ (x.labs ++ [p]) ++ B := by rw [hlab']; rfl
      have hperm : t'.labs.Perm (p :: t.labs) := by
        rw [hlab2, hlab]
        simp only [List.append_assoc]
        refine List.Perm.trans ?_ (List.perm_middle (l₁ := A ++ x.labs) (a := p) (l₂ := B) |>.trans (by simp))
        simp
      have hgood : t'.Good := by
        refine ⟨fun q hq' => ?_, ?_⟩
        · rcases List.mem_cons.1 (hperm.mem_iff.1 hq') with rfl | hq'
          · exact ⟨h1, h8⟩
          · exact h.ok q hq'
        · rw [hperm.nodup_iff, List.nodup_cons]; exact ⟨hp, h.nodup⟩
      have hl' := hgood.len
      refine c_text t' hgood.ok (by omega) ht' ⟨trivial, ?_⟩
      simp only [wk, wd, UInt8.reduceToNat, reduceIte, reduceCtorEq, Nat.reduceEqDiff, Nat.reduceAdd, Nat.reduceMul, Nat.reduceSub, Nat.reduceLeDiff, Int.reduceNeg, Int.reduceAdd, Int.reduceSub, Int.reduceMul, Int.reduceLT, Int.reduceLE, Int.reduceEq, Int.reduceToNat, Nat.reduceBEq, Nat.reduceLT, Y_unf cc_tree_Join_k0.eq_1, Y_unf cc_tree_Join_k1.eq_1, Y_unf cc_tree_Join_k2.eq_1, Y_unf cc_tree_Join_k3.eq_1, Y_unf cc_tree_Join_k4.eq_1, Y_unf cc_tree_Join_k5.eq_1, Y_unf cc_tree_Join_k6.eq_1, Y_unf cc_tree_Join_k7.eq_1, Y_unf cc_tree_Join_k8.eq_1, Y_unf cc_tree_Join.eq_1]
      have hone : ∀ a, t.labs = [a] → t'.labs = [a, p] := by
        intro a ha
        have hxp := T.labs_pos x
        rw [ha] at hlab
        have hle := congrArg List.length hlab
        simp only [List.length_cons, List.length_nil, List.length_append] at hle
        have hA : A = [] := List.eq_nil_of_length_eq_zero (by omega)
        have hB : B = [] := List.eq_nil_of_length_eq_zero (by omega)
        rw [hA, hB] at hlab hlab2
        simp only [List.nil_append, List.append_nil] at hlab hlab2
        rw [hlab2, ← hlab]; rfl
      refine ⟨hq t' hp hgood hperm hone, by simp [IdsLt, IdsLts], ⟨by have := hE.nx; omega, fun i hi => ?_⟩⟩
      have := hE.nx
      have := (hb id hid).1
      rw [k4 i (by omega) (by omega), hE2.heap i (by omega), hE.heap i hi]
end Go.Proofs.Tryd
open Go Go.Abs
set_option linter.unusedVariables false
set_option linter.unusedSimpArgs false
namespace Go.Proofs.Tryd

def T.val : T → Int
  | .leaf p => (p : Int)
  | .node _ _ => 0
/-- A tree without a process. -/
def T.rem (p : Nat) : T → T
  | .leaf q => .leaf q
  | .node l r => if l.val = p then r else if r.val = p then l else .node (l.rem p) (r.rem p)
theorem TreeAt.cells3 {σ : St} {x : T} {id : Nat} {Wx : List Nat} (h : TreeAt σ (.ptr id 0 0) x Wx) : ∃ b c, σ.heap id = some (.arr 3 [.int .i64 x.val, b, c] 0 0) ∧ b.one = true ∧ c.one = true := by
  cases x with
  | leaf p =>
    obtain ⟨i, he, rfl, hh⟩ := h
    cases he
    exact ⟨_, _, hh, rfl, rfl⟩
  | node l r =>
    obtain ⟨i, vl, vr, Fl, Fr, he, rfl, hh, hl, hr⟩ := h
    cases he
    obtain ⟨_, rfl, _⟩ := hl.ptr
    obtain ⟨_, rfl, _⟩ := hr.ptr
    exact ⟨_, _, hh, rfl, rfl⟩
theorem TreeAt.copy2 {σ σ' : St} {x : T} {id a : Nat} {Wx : List Nat} (h : TreeAt σ (.ptr id 0 0) x Wx) (hn : Wx.Nodup) (haW : a ∉ Wx) (hk : ∀ i ∈ Wx, σ'.heap i = σ.heap i) (ha : σ'.heap a = σ.heap id) :
    ∃ Wa, TreeAt σ' (.ptr a 0 0) x Wa ∧ (∀ i ∈ Wa, i = a ∨ i ∈ Wx) ∧ Wa.Nodup := by
  cases x with
  | leaf p =>
    obtain ⟨i, he, rfl, hh⟩ := h
    cases he
    exact ⟨[a], ⟨a, rfl, rfl, by rw [ha]; exact hh⟩, by simp, by simp⟩
  | node l r =>
    obtain ⟨i, vl, vr, Fl, Fr, he, rfl, hh, hl, hr⟩ := h
    cases he
    rw [List.nodup_cons] at hn
    refine ⟨a :: (Fl ++ Fr), ⟨a, vl, vr, Fl, Fr, rfl, rfl, by rw [ha]; exact hh, hl.keep fun j hj => hk j (by simp [hj]), hr.keep fun j hj => hk j (by simp [hj])⟩, ?_, ?_⟩
    · intro j hj
      rcases List.mem_cons.1 hj with rfl | hj
      · exact .inl rfl
      · exact .inr (by simp only [List.mem_cons]; exact .inr hj)
    · rw [List.nodup_cons]; exact ⟨fun hm => haW (by simp only [List.mem_cons]; exact .inr hm), hn.2⟩
theorem callable_Leave1 : callable prog F.tree_Leave__1 = true := by kernel_rfl

theorem c_Leave1 {t : T} {v : AV} {W : List Nat} {cp p : Nat} {σ : St} (ht : TreeAt σ v t W) (hn : W.Nodup) (hcp : σ.heap cp = some (.arr 1 [.int .i64 p] 0 0)) {Q : AV → St → Prop}
    (h1 : (∀ l r, t = .node l r → ¬ l.val = p ∧ ¬ r.val = p) → Q (.bool true) σ)
    (h2 : ∀ σ' W', TreeAt σ' v (t.rem p) W' → (∀ i ∈ W', i ∈ W) → W'.Nodup → (∀ i, i ∉ W → σ'.heap i = σ.heap i) → σ'.nx = σ.nx → Q (.bool false) σ') : CallsA prog F.tree_Leave__1 [v, .ptr cp 0 0] σ Q := by
  cases t with
  | leaf q =>
    obtain ⟨id, rfl, rfl, hh⟩ := ht
    refine calls_of_Y e_tree_Leave__1 rfl ?_; simp only [tm0_0, tm0_1, tm0_2, tm0_3, tm0_4, tm0_5, tm0_6, wk, wd, UInt8.reduceToNat, reduceIte, reduceCtorEq, Nat.reduceEqDiff, Nat.reduceAdd, Nat.reduceMul, Nat.reduceSub, Nat.reduceLeDiff, Int.reduceNeg, Int.reduceAdd, Int.reduceSub, Int.reduceMul, Int.reduceLT, Int.reduceLE, Int.reduceEq, Int.reduceToNat, Nat.reduceBEq, Nat.reduceLT, Y_unf cc_tree_Leave__1_c0.eq_1, Y_unf cc_tree_Leave__1_c1.eq_1, Y_unf cc_tree_Leave__1_k2.eq_1, Y_unf cc_tree_Leave__1_c3.eq_1, Y_unf cc_tree_Leave__1_k4.eq_1, Y_unf cc_tree_Leave__1_c5.eq_1, Y_unf cc_tree_Leave__1_k6.eq_1, Y_unf cc_tree_Leave__1_k7.eq_1, Y_unf cc_tree_Leave__1.eq_1, hh]
    exact h1 (fun l r he => by cases he)
  | node l r =>
    have ht0 := ht
    obtain ⟨id, vl, vr, Fl, Fr, rfl, rfl, hh, hl, hr⟩ := ht
    obtain ⟨il, rfl, hil⟩ := hl.ptr
    obtain ⟨ir, rfl, hir⟩ := hr.ptr
    obtain ⟨lb, lc, hlc, lo1, lo2⟩ := hl.cells3
    obtain ⟨rb, rc, hrc, ro1, ro2⟩ := hr.cells3
    rw [List.nodup_cons, List.nodup_append] at hn
    obtain ⟨hid, hnl, hnr, hlr⟩ := hn
    by_cases e1 : l.val = p
    · refine calls_of_Y e_tree_Leave__1 rfl ?_; simp only [tm0_0, tm0_1, tm0_2, tm0_3, tm0_4, tm0_5, tm0_6, wk, wd, UInt8.reduceToNat, reduceIte, reduceCtorEq, Nat.reduceEqDiff, Nat.reduceAdd, Nat.reduceMul, Nat.reduceSub, Nat.reduceLeDiff, Int.reduceNeg, Int.reduceAdd, Int.reduceSub, Int.reduceMul, Int.reduceLT, Int.reduceLE, Int.reduceEq, Int.reduceToNat, Nat.reduceBEq, Nat.reduceLT, Y_unf cc_tree_Leave__1_c0.eq_1, Y_unf cc_tree_Leave__1_c1.eq_1, Y_unf cc_tree_Leave__1_k2.eq_1, Y_unf cc_tree_Leave__1_c3.eq_1, Y_unf cc_tree_Leave__1_k4.eq_1, Y_unf cc_tree_Leave__1_c5.eq_1, Y_unf cc_tree_Leave__1_k6.eq_1, Y_unf cc_tree_Leave__1_k7.eq_1, Y_unf cc_tree_Leave__1.eq_1, hh, hlc, hrc, hcp, e1, ro1, ro2]
      obtain ⟨Wa, ha, hWa, hna⟩ := hr.copy2 (σ' := σ.set id (.arr 3 [.int .i64 r.val, rb, rc] 0 0)) (a := id) hnr (fun hm => hid (by simp [hm])) (fun i hi => by rw [St.set_heap, if_neg (fun he => hid (by rw [← he]; simp [hi]))]) (by rw [St.set_heap, if_pos rfl, hrc])
      refine h2 _ Wa (by simp only [T.rem, e1, if_true]; exact ha) (fun i hi => by rcases hWa i hi with rfl | h <;> simp [*]) hna (fun i hi => ?_) rfl
      rw [St.set_heap, if_neg (fun he => hi (by simp [he]))]
    · by_cases e2 : r.val = p
      · refine calls_of_Y e_tree_Leave__1 rfl ?_; simp only [tm0_0, tm0_1, tm0_2, tm0_3, tm0_4, tm0_5, tm0_6, wk, wd, UInt8.reduceToNat, reduceIte, reduceCtorEq, Nat.reduceEqDiff, Nat.reduceAdd, Nat.reduceMul, Nat.reduceSub, Nat.reduceLeDiff, Int.reduceNeg, Int.reduceAdd, Int.reduceSub, Int.reduceMul, Int.reduceLT, Int.reduceLE, Int.reduceEq, Int.reduceToNat, Nat.reduceBEq, Nat.reduceLT, Y_unf cc_tree_Leave__1_c0.eq_1, Y_unf cc_tree_Leave__1_c1.eq_1, Y_unf cc_tree_Leave__1_k2.eq_1, Y_unf cc_tree_Leave__1_c3.eq_1, Y_unf cc_tree_Leave__1_k4.eq_1, Y_unf cc_tree_Leave__1_c5.eq_1, Y_unf cc_tree_Leave__1_k6.eq_1, Y_unf cc_tree_Leave__1_k7.eq_1, Y_unf cc_tree_Leave__1.eq_1, hh, hlc, hrc, hcp, e1, e2, lo1, lo2]
        obtain ⟨Wa, ha, hWa, hna⟩ := hl.copy2 (σ' := σ.set id (.arr 3 [.int .i64 l.val, lb, lc] 0 0)) (a := id) hnl (fun hm => hid (by simp [hm])) (fun i hi => by rw [St.set_heap, if_neg (fun he => hid (by rw [← he]; simp [hi]))]) (by rw [St.set_heap, if_pos rfl, hlc])
        refine h2 _ Wa (by simp only [T.rem, e1, e2, if_true, if_false]; exact ha) (fun i hi => by rcases hWa i hi with rfl | h <;> simp [*]) hna (fun i hi => ?_) rfl
        rw [St.set_heap, if_neg (fun he => hi (by simp [he]))]
      · refine calls_of_Y e_tree_Leave__1 rfl ?_; simp only [tm0_0, tm0_1, tm0_2, tm0_3, tm0_4, tm0_5, tm0_6, wk, wd, UInt8.reduceToNat, reduceIte, reduceCtorEq, Nat.reduceEqDiff, Nat.reduceAdd, Nat.reduceMul, Nat.reduceSub, Nat.reduceLeDiff, Int.reduceNeg, Int.reduceAdd, Int.reduceSub, Int.reduceMul, Int.reduceLT, Int.reduceLE, Int.reduceEq, Int.reduceToNat, Nat.reduceBEq, Nat.reduceLT, Y_unf cc_tree_Leave__1_c0.eq_1, Y_unf cc_tree_Leave__1_c1.eq_1, Y_unf cc_tree_Leave__1_k2.eq_1, Y_unf cc_tree_Leave__1_c3.eq_1, Y_unf cc_tree_Leave__1_k4.eq_1, Y_unf cc_tree_Leave__1_c5.eq_1, Y_unf cc_tree_Leave__1_k6.eq_1, Y_unf cc_tree_Leave__1_k7.eq_1, Y_unf cc_tree_Leave__1.eq_1, hh, hlc, hrc, hcp, e1, e2]
        exact h1 (fun l' r' he => by cases he; exact ⟨e1, e2⟩)

theorem c_leaveWalk {c1 c2 cp p : Nat} (t : T) : ∀ {v : AV} {W : List Nat} {σ : St}, TreeAt σ v t W → W.Nodup → c1 ∉ W → c2 ∉ W → cp ∉ W → σ.heap c1 = some (.arr 1 [.fn F.tree_Leave__1 [.ptr cp 0 0]] 0 0) →
    σ.heap c2 = some (.arr 1 [.fn F.tree_node_each__1 [.ptr c1 0 0, .ptr c2 0 0]] 0 0) → σ.heap cp = some (.arr 1 [.int .i64 p] 0 0) →
    ∀ {Q : AV → St → Prop}, (∀ σ' W', TreeAt σ' v (t.rem p) W' → (∀ i ∈ W', i ∈ W) → W'.Nodup → (∀ i, i ∉ W → σ'.heap i = σ.heap i) → σ'.nx = σ.nx → Q (.tup []) σ') →
      CallsA prog F.tree_node_each__1 [v, .ptr c1 0 0, .ptr c2 0 0] σ Q := by
  induction t with
  | leaf q =>
    intro v W σ ht hn n1 n2 n3 k1 k2 k3 Q hq
    refine calls_of_Y e_tree_node_each__1 rfl ?_; simp only [tm0_0, tm0_1, tm0_2, tm0_3, tm0_4, tm0_5, tm0_6, wk, wd, UInt8.reduceToNat, reduceIte, reduceCtorEq, Nat.reduceEqDiff, Nat.reduceAdd, Nat.reduceMul, Nat.reduceSub, Nat.reduceLeDiff, Int.reduceNeg, Int.reduceAdd, Int.reduceSub, Int.reduceMul, Int.reduceLT, Int.reduceLE, Int.reduceEq, Int.reduceToNat, Nat.reduceBEq, Nat.reduceLT, Y_unf cc_tree_node_each__1_k0.eq_1, Y_unf cc_tree_node_each__1_c1.eq_1, Y_unf cc_tree_node_each__1_k2.eq_1, Y_unf cc_tree_node_each__1.eq_1, k1]
    refine ⟨callable_Leave1, ?_⟩
    refine c_Leave1 ht hn k3 (fun _ => ⟨trivial, ?_⟩) (fun σ' W' h1 h2 h3 h4 h5 => ⟨trivial, ?_⟩)
    · have ht0 := ht
      obtain ⟨id, rfl, rfl, hh⟩ := ht
      simp only [wk, wd, UInt8.reduceToNat, reduceIte, reduceCtorEq, Nat.reduceEqDiff, Nat.reduceAdd, Nat.reduceMul, Nat.reduceSub, Nat.reduceLeDiff, Int.reduceNeg, Int.reduceAdd, Int.reduceSub, Int.reduceMul, Int.reduceLT, Int.reduceLE, Int.reduceEq, Int.reduceToNat, Nat.reduceBEq, Nat.reduceLT, Y_unf cc_tree_node_each__1_k0.eq_1, Y_unf cc_tree_node_each__1_c1.eq_1, Y_unf cc_tree_node_each__1_k2.eq_1, Y_unf cc_tree_node_each__1.eq_1, hh]
      exact hq σ _ ht0 (fun i hi => hi) hn (fun i hi => rfl) rfl
    · simp only [wk, wd, UInt8.reduceToNat, reduceIte, reduceCtorEq, Nat.reduceEqDiff, Nat.reduceAdd, Nat.reduceMul, Nat.reduceSub, Nat.reduceLeDiff, Int.reduceNeg, Int.reduceAdd, Int.reduceSub, Int.reduceMul, Int.reduceLT, Int.reduceLE, Int.reduceEq, Int.reduceToNat, Nat.reduceBEq, Nat.reduceLT, Y_unf cc_tree_node_each__1_k0.eq_1, Y_unf cc_tree_node_each__1_c1.eq_1, Y_unf cc_tree_node_each__1_k2.eq_1, Y_unf cc_tree_node_each__1.eq_1]
      exact hq σ' W' h1 h2 h3 h4 h5
  | node l r ihl ihr =>
    intro v W σ ht hn n1 n2 n3 k1 k2 k3 Q hq
    refine calls_of_Y e_tree_node_each__1 rfl ?_; simp only [tm0_0, tm0_1, tm0_2, tm0_3, tm0_4, tm0_5, tm0_6, wk, wd, UInt8.reduceToNat, reduceIte, reduceCtorEq, Nat.reduceEqDiff, Nat.reduceAdd, Nat.reduceMul, Nat.reduceSub, Nat.reduceLeDiff, Int.reduceNeg, Int.reduceAdd, Int.reduceSub, Int.reduceMul, Int.reduceLT, Int.reduceLE, Int.reduceEq, Int.reduceToNat, Nat.reduceBEq, Nat.reduceLT, Y_unf cc_tree_node_each__1_k0.eq_1, Y_unf cc_tree_node_each__1_c1.eq_1, Y_unf cc_tree_node_each__1_k2.eq_1, Y_unf cc_tree_node_each__1.eq_1, k1]
    refine ⟨callable_Leave1, ?_⟩
    refine c_Leave1 ht hn k3 (fun hne => ⟨trivial, ?_⟩) (fun σ' W' h1 h2 h3 h4 h5 => ⟨trivial, ?_⟩)
    · obtain ⟨id, vl, vr, Fl, Fr, rfl, rfl, hh, hl, hr⟩ := ht
      obtain ⟨il, rfl, hil⟩ := hl.ptr
      obtain ⟨ir, rfl, hir⟩ := hr.ptr
      obtain ⟨e1, e2⟩ := hne l r rfl
      simp only [List.mem_cons, List.mem_append, not_or] at n1 n2 n3
      rw [List.nodup_cons, List.nodup_append] at hn
      obtain ⟨hid, hnl, hnr, hlr⟩ := hn
      simp only [List.mem_append, not_or] at hid
      simp only [wk, wd, UInt8.reduceToNat, reduceIte, reduceCtorEq, Nat.reduceEqDiff, Nat.reduceAdd, Nat.reduceMul, Nat.reduceSub, Nat.reduceLeDiff, Int.reduceNeg, Int.reduceAdd, Int.reduceSub, Int.reduceMul, Int.reduceLT, Int.reduceLE, Int.reduceEq, Int.reduceToNat, Nat.reduceBEq, Nat.reduceLT, Y_unf cc_tree_node_each__1_k0.eq_1, Y_unf cc_tree_node_each__1_c1.eq_1, Y_unf cc_tree_node_each__1_k2.eq_1, Y_unf cc_tree_node_each__1.eq_1, hh, k2]
      refine ⟨callable_each1, ?_⟩
      refine ihr hr hnr n1.2.2 n2.2.2 n3.2.2 k1 k2 k3 (fun σ1 Wr g1 g2 g3 g4 g5 => ⟨trivial, ?_⟩)
      have hh1 : σ1.heap id = some (.arr 3 [.int .i64 0, .ptr il 0 0, .ptr ir 0 0] 0 0) := by rw [g4 id hid.2]; exact hh
      have k21 : σ1.heap c2 = some (.arr 1 [.fn F.tree_node_each__1 [.ptr c1 0 0, .ptr c2 0 0]] 0 0) := by rw [g4 c2 n2.2.2]; exact k2
      simp only [wk, wd, UInt8.reduceToNat, reduceIte, reduceCtorEq, Nat.reduceEqDiff, Nat.reduceAdd, Nat.reduceMul, Nat.reduceSub, Nat.reduceLeDiff, Int.reduceNeg, Int.reduceAdd, Int.reduceSub, Int.reduceMul, Int.reduceLT, Int.reduceLE, Int.reduceEq, Int.reduceToNat, Nat.reduceBEq, Nat.reduceLT, Y_unf cc_tree_node_each__1_k0.eq_1, Y_unf cc_tree_node_each__1_c1.eq_1, Y_unf cc_tree_node_each__1_k2.eq_1, Y_unf cc_tree_node_each__1.eq_1, hh1, k21]
      refine ⟨callable_each1, ?_⟩
      have hl1 := hl.keep (σ' := σ1) (fun i hi => g4 i (fun hm => hlr i hi i hm rfl))
      refine ihl hl1 hnl n1.2.1 n2.2.1 n3.2.1 (by rw [g4 c1 n1.2.2]; exact k1) k21 (by rw [g4 cp n3.2.2]; exact k3) (fun σ2 Wl f1 f2 f3 f4 f5 => ⟨trivial, ?_⟩)
      simp only [wk, wd, UInt8.reduceToNat, reduceIte, reduceCtorEq, Nat.reduceEqDiff, Nat.reduceAdd, Nat.reduceMul, Nat.reduceSub, Nat.reduceLeDiff, Int.reduceNeg, Int.reduceAdd, Int.reduceSub, Int.reduceMul, Int.reduceLT, Int.reduceLE, Int.reduceEq, Int.reduceToNat, Nat.reduceBEq, Nat.reduceLT, Y_unf cc_tree_node_each__1_k0.eq_1, Y_unf cc_tree_node_each__1_c1.eq_1, Y_unf cc_tree_node_each__1_k2.eq_1, Y_unf cc_tree_node_each__1.eq_1]
      refine hq σ2 (id :: (Wl ++ Wr)) ?_ ?_ ?_ (fun i hi => ?_) (f5.trans g5)
      · simp only [T.rem, e1, e2, if_false]
        refine ⟨id, _, _, Wl, Wr, rfl, rfl, by rw [f4 id hid.1]; exact hh1, f1, g1.keep fun i hi => f4 i (fun hm => hlr i hm i (g2 i hi) rfl)⟩
      · intro i hi
        rcases List.mem_cons.1 hi with rfl | hi
        · simp
        · rcases List.mem_append.1 hi with hi | hi
          · simp [f2 i hi]
          · simp [g2 i hi]
      · rw [List.nodup_cons, List.nodup_append]
        refine ⟨fun hm => ?_, f3, g3, fun a ha b hb he => hlr a (f2 a ha) b (g2 b hb) he⟩
        rcases List.mem_append.1 hm with hm | hm
        · exact hid.1 (f2 _ hm)
        · exact hid.2 (g2 _ hm)
      · simp only [List.mem_cons, List.mem_append, not_or] at hi
        rw [f4 i hi.2.1, g4 i hi.2.2]
    · simp only [wk, wd, UInt8.reduceToNat, reduceIte, reduceCtorEq, Nat.reduceEqDiff, Nat.reduceAdd, Nat.reduceMul, Nat.reduceSub, Nat.reduceLeDiff, Int.reduceNeg, Int.reduceAdd, Int.reduceSub, Int.reduceMul, Int.reduceLT, Int.reduceLE, Int.reduceEq, Int.reduceToNat, Nat.reduceBEq, Nat.reduceLT, Y_unf cc_tree_node_each__1_k0.eq_1, Y_unf cc_tree_node_each__1_c1.eq_1, Y_unf cc_tree_node_each__1_k2.eq_1, Y_unf cc_tree_node_each__1.eq_1]
      exact hq σ' W' h1 h2 h3 h4 h5
end Go.Proofs.Tryd
open Go Go.Abs
set_option linter.unusedVariables false
set_option linter.unusedSimpArgs false
namespace Go.Proofs.Tryd

theorem T.rem_sub (p : Nat) : ∀ t : T, (t.rem p).labs.Sublist t.labs
  | .leaf q => List.Sublist.refl _
  | .node l r => by
    simp only [T.rem, T.labs]
    split
    · exact List.sublist_append_right _ _
    · split
      · exact List.sublist_append_left _ _
      · simp only [T.labs]; exact (T.rem_sub p l).append (T.rem_sub p r)
theorem T.Good.rem {t : T} (h : t.Good) (p : Nat) : (t.rem p).Good := ⟨fun q hq => h.ok q ((t.rem_sub p).subset hq), h.nodup.sublist (t.rem_sub p)⟩

theorem c_Leave {t : T} (h : t.Good) {p : Nat} (h1 : 1 ≤ p) (h8 : p ≤ 8) {σ : St} {Q : AV → St → Prop}
    (hq : ∀ s e, (e = 0 → ∃ t' : T, t'.Good ∧ s = t'.text) → Q (.tup [.str s, .int .i64 e]) σ) : CallsA prog F.tree_Leave [.str t.text, .int .i64 p] σ Q := by
  have hl := h.len
  have hml := T.mem_len t
  refine CallsA.forget ?_
  refine calls_of_Y e_tree_Leave rfl ?_; simp only [tm0_0, tm0_1, tm0_2, tm0_3, tm0_4, tm0_5, tm0_6, wk, wd, UInt8.reduceToNat, reduceIte, reduceCtorEq, Nat.reduceEqDiff, Nat.reduceAdd, Nat.reduceMul, Nat.reduceSub, Nat.reduceLeDiff, Int.reduceNeg, Int.reduceAdd, Int.reduceSub, Int.reduceMul, Int.reduceLT, Int.reduceLE, Int.reduceEq, Int.reduceToNat, Nat.reduceBEq, Nat.reduceLT, Y_unf cc_tree_Leave_k0.eq_1, Y_unf cc_tree_Leave_k1.eq_1, Y_unf cc_tree_Leave_k2.eq_1, Y_unf cc_tree_Leave_c3.eq_1, Y_unf cc_tree_Leave_k4.eq_1, Y_unf cc_tree_Leave_k5.eq_1, Y_unf cc_tree_Leave_k6.eq_1, Y_unf cc_tree_Leave.eq_1]
  have hx : Ext σ (σ.new (.arr 1 [.int .i64 p] 0 0)) := (Ext.refl σ).new _
  refine c_of h (fun v W σ1 hT hn hb hE => ⟨trivial, ?_⟩)
  have hE0 : Ext σ σ1 := hx.trans hE
  have hcp : σ1.heap σ.nx = some (.arr 1 [.int .i64 p] 0 0) := by rw [hE.heap _ (by simp [St.new_nx])]; simp [St.new_heap]
  have hcpn : σ.nx < σ1.nx := hE.nx
  have hcpW : σ.nx ∉ W := fun hm => by have := (hb _ hm).1; simp [St.new_nx] at this; omega
  cases t with
  | leaf q =>
    have hT0 := hT
    obtain ⟨id, rfl, rfl, hh⟩ := hT
    simp only [wk, wd, UInt8.reduceToNat, reduceIte, reduceCtorEq, Nat.reduceEqDiff, Nat.reduceAdd, Nat.reduceMul, Nat.reduceSub, Nat.reduceLeDiff, Int.reduceNeg, Int.reduceAdd, Int.reduceSub, Int.reduceMul, Int.reduceLT, Int.reduceLE, Int.reduceEq, Int.reduceToNat, Nat.reduceBEq, Nat.reduceLT, Y_unf cc_tree_Leave_k0.eq_1, Y_unf cc_tree_Leave_k1.eq_1, Y_unf cc_tree_Leave_k2.eq_1, Y_unf cc_tree_Leave_c3.eq_1, Y_unf cc_tree_Leave_k4.eq_1, Y_unf cc_tree_Leave_k5.eq_1, Y_unf cc_tree_Leave_k6.eq_1, Y_unf cc_tree_Leave.eq_1, hh]
    exact ⟨hq [] 8 (by simp), by simp [IdsLt, IdsLts], hE0⟩
  | node l r =>
    have hT0 := hT
    obtain ⟨id, vl, vr, Fl, Fr, rfl, rfl, hh, hl', hr'⟩ := hT
    obtain ⟨il, rfl, hil⟩ := hl'.ptr
    simp only [wk, wd, UInt8.reduceToNat, reduceIte, reduceCtorEq, Nat.reduceEqDiff, Nat.reduceAdd, Nat.reduceMul, Nat.reduceSub, Nat.reduceLeDiff, Int.reduceNeg, Int.reduceAdd, Int.reduceSub, Int.reduceMul, Int.reduceLT, Int.reduceLE, Int.reduceEq, Int.reduceToNat, Nat.reduceBEq, Nat.reduceLT, Y_unf cc_tree_Leave_k0.eq_1, Y_unf cc_tree_Leave_k1.eq_1, Y_unf cc_tree_Leave_k2.eq_1, Y_unf cc_tree_Leave_c3.eq_1, Y_unf cc_tree_Leave_k4.eq_1, Y_unf cc_tree_Leave_k5.eq_1, Y_unf cc_tree_Leave_k6.eq_1, Y_unf cc_tree_Leave.eq_1, hh, hcp]
    refine c_members hT0 (fun i hi => (hb i hi).2) (by omega) (fun w hr => ⟨by simp only [wk, wd, UInt8.reduceToNat, reduceIte, reduceCtorEq, Nat.reduceEqDiff, Nat.reduceAdd, Nat.reduceMul, Nat.reduceSub, Nat.reduceLeDiff, Int.reduceNeg, Int.reduceAdd, Int.reduceSub, Int.reduceMul, Int.reduceLT, Int.reduceLE, Int.reduceEq, Int.reduceToNat, Nat.reduceBEq, Nat.reduceLT, Y_unf cc_tree_Leave_k0.eq_1, Y_unf cc_tree_Leave_k1.eq_1, Y_unf cc_tree_Leave_k2.eq_1, Y_unf cc_tree_Leave_c3.eq_1, Y_unf cc_tree_Leave_k4.eq_1, Y_unf cc_tree_Leave_k5.eq_1, Y_unf cc_tree_Leave_k6.eq_1, Y_unf cc_tree_Leave.eq_1, hcp], ?_⟩)
    simp only [wk, wd, UInt8.reduceToNat, reduceIte, reduceCtorEq, Nat.reduceEqDiff, Nat.reduceAdd, Nat.reduceMul, Nat.reduceSub, Nat.reduceLeDiff, Int.reduceNeg, Int.reduceAdd, Int.reduceSub, Int.reduceMul, Int.reduceLT, Int.reduceLE, Int.reduceEq, Int.reduceToNat, Nat.reduceBEq, Nat.reduceLT, Y_unf cc_tree_Leave_k0.eq_1, Y_unf cc_tree_Leave_k1.eq_1, Y_unf cc_tree_Leave_k2.eq_1, Y_unf cc_tree_Leave_c3.eq_1, Y_unf cc_tree_Leave_k4.eq_1, Y_unf cc_tree_Leave_k5.eq_1, Y_unf cc_tree_Leave_k6.eq_1, Y_unf cc_tree_Leave.eq_1]
    refine Cl_pure0 (c_Has hr _ (by omega)) ?_; simp only [wk, wd, UInt8.reduceToNat, reduceIte, reduceCtorEq, Nat.reduceEqDiff, Nat.reduceAdd, Nat.reduceMul, Nat.reduceSub, Nat.reduceLeDiff, Int.reduceNeg, Int.reduceAdd, Int.reduceSub, Int.reduceMul, Int.reduceLT, Int.reduceLE, Int.reduceEq, Int.reduceToNat, Nat.reduceBEq, Nat.reduceLT, Y_unf cc_tree_Leave_k0.eq_1, Y_unf cc_tree_Leave_k1.eq_1, Y_unf cc_tree_Leave_k2.eq_1, Y_unf cc_tree_Leave_c3.eq_1, Y_unf cc_tree_Leave_k4.eq_1, Y_unf cc_tree_Leave_k5.eq_1, Y_unf cc_tree_Leave_k6.eq_1, Y_unf cc_tree_Leave.eq_1]
    by_cases hp : (p : Int) ∈ (T.node l r).mem
    · have hne : (σ1.nx = σ1.nx + 1) = False := by simp
      have hne' : (σ1.nx + 1 = σ1.nx) = False := by simp
      simp only [wk, wd, UInt8.reduceToNat, reduceIte, reduceCtorEq, Nat.reduceEqDiff, Nat.reduceAdd, Nat.reduceMul, Nat.reduceSub, Nat.reduceLeDiff, Int.reduceNeg, Int.reduceAdd, Int.reduceSub, Int.reduceMul, Int.reduceLT, Int.reduceLE, Int.reduceEq, Int.reduceToNat, Nat.reduceBEq, Nat.reduceLT, Y_unf cc_tree_Leave_k0.eq_1, Y_unf cc_tree_Leave_k1.eq_1, Y_unf cc_tree_Leave_k2.eq_1, Y_unf cc_tree_Leave_c3.eq_1, Y_unf cc_tree_Leave_k4.eq_1, Y_unf cc_tree_Leave_k5.eq_1, Y_unf cc_tree_Leave_k6.eq_1, Y_unf cc_tree_Leave.eq_1, hp]
      refine calls_of_Y e_tree_node_each rfl ?_; simp only [tm0_0, tm0_1, tm0_2, tm0_3, tm0_4, tm0_5, tm0_6, wk, wd, UInt8.reduceToNat, reduceIte, reduceCtorEq, Nat.reduceEqDiff, Nat.reduceAdd, Nat.reduceMul, Nat.reduceSub, Nat.reduceLeDiff, Int.reduceNeg, Int.reduceAdd, Int.reduceSub, Int.reduceMul, Int.reduceLT, Int.reduceLE, Int.reduceEq, Int.reduceToNat, Nat.reduceBEq, Nat.reduceLT, Y_unf cc_tree_node_each_k0.eq_1, Y_unf cc_tree_node_each_k1.eq_1, Y_unf cc_tree_node_each_k2.eq_1, Y_unf cc_tree_node_each.eq_1, hne, hne']
      refine ⟨callable_each1, ?_⟩
      generalize hσ2 : ((σ1.new (.arr 1 [.fn F.tree_Leave__1 [.ptr σ.nx 0 0]] 0 0)).new (.arr 1 [.fnil] 0 0)).set (σ1.nx + 1) (.arr 1 [.fn F.tree_node_each__1 [.ptr σ1.nx 0 0, .ptr (σ1.nx + 1) 0 0]] 0 0) = σ2
      have hE2 : Ext σ1 σ2 := by rw [← hσ2]; exact (((Ext.refl σ1).new _).new _).set (by omega) _
      have hn2 : σ2.nx = σ1.nx + 2 := by rw [← hσ2]; simp [St.set_nx, St.new_nx]
      have hWn : ∀ j, σ1.nx ≤ j → j ∉ id :: (Fl ++ Fr) := fun j hj hm => by have := (hb j hm).2; omega
      refine c_leaveWalk (c1 := σ1.nx) (c2 := σ1.nx + 1) (cp := σ.nx) (p := p) (.node l r) (hT0.keep fun i hi => hE2.heap i (hb i hi).2) hn (hWn _ (Nat.le_refl _)) (hWn _ (by omega)) hcpW ?_ ?_ ?_ (fun σ3 W' g1 g2 g3 g4 g5 => ⟨trivial, ?_⟩)
      · rw [← hσ2]; simp [St.set_heap, St.new_heap, St.new_nx]
      · rw [← hσ2]; simp [St.set_heap]
      · rw [hE2.heap _ hcpn]; exact hcp
      · have hg := h.rem p
        have hgl := hg.len
        simp only [wk, wd, UInt8.reduceToNat, reduceIte, reduceCtorEq, Nat.reduceEqDiff, Nat.reduceAdd, Nat.reduceMul, Nat.reduceSub, Nat.reduceLeDiff, Int.reduceNeg, Int.reduceAdd, Int.reduceSub, Int.reduceMul, Int.reduceLT, Int.reduceLE, Int.reduceEq, Int.reduceToNat, Nat.reduceBEq, Nat.reduceLT, Y_unf cc_tree_node_each_k0.eq_1, Y_unf cc_tree_node_each_k1.eq_1, Y_unf cc_tree_node_each_k2.eq_1, Y_unf cc_tree_node_each.eq_1]
        simp only [wk, wd, UInt8.reduceToNat, reduceIte, reduceCtorEq, Nat.reduceEqDiff, Nat.reduceAdd, Nat.reduceMul, Nat.reduceSub, Nat.reduceLeDiff, Int.reduceNeg, Int.reduceAdd, Int.reduceSub, Int.reduceMul, Int.reduceLT, Int.reduceLE, Int.reduceEq, Int.reduceToNat, Nat.reduceBEq, Nat.reduceLT, Y_unf cc_tree_Leave_k0.eq_1, Y_unf cc_tree_Leave_k1.eq_1, Y_unf cc_tree_Leave_k2.eq_1, Y_unf cc_tree_Leave_c3.eq_1, Y_unf cc_tree_Leave_k4.eq_1, Y_unf cc_tree_Leave_k5.eq_1, Y_unf cc_tree_Leave_k6.eq_1, Y_unf cc_tree_Leave.eq_1]
        refine c_text _ hg.ok (by omega) g1 ⟨trivial, ?_⟩
        simp only [wk, wd, UInt8.reduceToNat, reduceIte, reduceCtorEq, Nat.reduceEqDiff, Nat.reduceAdd, Nat.reduceMul, Nat.reduceSub, Nat.reduceLeDiff, Int.reduceNeg, Int.reduceAdd, Int.reduceSub, Int.reduceMul, Int.reduceLT, Int.reduceLE, Int.reduceEq, Int.reduceToNat, Nat.reduceBEq, Nat.reduceLT, Y_unf cc_tree_Leave_k0.eq_1, Y_unf cc_tree_Leave_k1.eq_1, Y_unf cc_tree_Leave_k2.eq_1, Y_unf cc_tree_Leave_c3.eq_1, Y_unf cc_tree_Leave_k4.eq_1, Y_unf cc_tree_Leave_k5.eq_1, Y_unf cc_tree_Leave_k6.eq_1, Y_unf cc_tree_Leave.eq_1]
        refine ⟨hq _ 0 (fun _ => ⟨_, hg, rfl⟩), by simp [IdsLt, IdsLts], ⟨by have := hE0.nx; omega, fun i hi => ?_⟩⟩
        have := hE0.nx
        rw [g4 i (fun hm => by have := (hb i hm).1; simp [St.new_nx] at this; omega), hE2.heap i (by omega), hE0.heap i hi]
    · simp only [wk, wd, UInt8.reduceToNat, reduceIte, reduceCtorEq, Nat.reduceEqDiff, Nat.reduceAdd, Nat.reduceMul, Nat.reduceSub, Nat.reduceLeDiff, Int.reduceNeg, Int.reduceAdd, Int.reduceSub, Int.reduceMul, Int.reduceLT, Int.reduceLE, Int.reduceEq, Int.reduceToNat, Nat.reduceBEq, Nat.reduceLT, Y_unf cc_tree_Leave_k0.eq_1, Y_unf cc_tree_Leave_k1.eq_1, Y_unf cc_tree_Leave_k2.eq_1, Y_unf cc_tree_Leave_c3.eq_1, Y_unf cc_tree_Leave_k4.eq_1, Y_unf cc_tree_Leave_k5.eq_1, Y_unf cc_tree_Leave_k6.eq_1, Y_unf cc_tree_Leave.eq_1, hp]
      exact ⟨hq [] 8 (by simp), by simp [IdsLt, IdsLts], hE0⟩

theorem c_greater {t u : T} {v w : AV} {V W : List Nat} {σ : St} (ht : TreeAt σ v t V) (hu : TreeAt σ w u W) (hV : ∀ i ∈ V, i < σ.nx) (hW : ∀ i ∈ W, i < σ.nx) (hl : t.labs.length ≤ 12) (hl2 : u.labs.length ≤ 12)
    {Q : AV → St → Prop} (hq : ∀ b, Q (.bool b) σ) : CallsA prog F.tree_node_greater [v, w] σ Q := by
  have e1 := T.labs_pos t
  have e2 := T.labs_pos u
  have m1 := T.mem_len t
  have m2 := T.mem_len u
  have shape : ∀ (t : T) r, 0 < t.labs.length → t.mem.length = t.labs.length → Ints t.mem r → ∃ x m cap, t.mem = x :: m ∧ r = .list ((x :: m).map aI) t.labs.length cap := by
    intro t r h1 h2 hr
    rcases hr with ⟨_, h⟩ | ⟨n, cap, rfl, h⟩
    · simp at h; rw [h] at h2; simp at h2; omega
    · cases hm : t.mem with
      | nil => rw [hm] at h2; simp at h2; omega
      | cons x m => rw [hm] at h h2; simp at h h2; exact ⟨x, m, cap, rfl, by rw [← h2, h]⟩
  refine calls_of_Y e_tree_node_greater rfl ?_; simp only [tm0_0, tm0_1, tm0_2, tm0_3, tm0_4, tm0_5, tm0_6, wk, wd, UInt8.reduceToNat, reduceIte, reduceCtorEq, Nat.reduceEqDiff, Nat.reduceAdd, Nat.reduceMul, Nat.reduceSub, Nat.reduceLeDiff, Int.reduceNeg, Int.reduceAdd, Int.reduceSub, Int.reduceMul, Int.reduceLT, Int.reduceLE, Int.reduceEq, Int.reduceToNat, Nat.reduceBEq, Nat.reduceLT, Y_unf cc_tree_node_greater_k0.eq_1, Y_unf cc_tree_node_greater_c1.eq_1, Y_unf cc_tree_node_greater_c2.eq_1, Y_unf cc_tree_node_greater_k3.eq_1, Y_unf cc_tree_node_greater_c4.eq_1, Y_unf cc_tree_node_greater_k5.eq_1, Y_unf cc_tree_node_greater_k6.eq_1, Y_unf cc_tree_node_greater_k7.eq_1, Y_unf cc_tree_node_greater.eq_1]
  refine c_members ht hV hl (fun r hr => ⟨trivial, ?_⟩)
  obtain ⟨x, mx, cx, hx, rfl⟩ := shape t r e1 m1 hr
  simp only [wk, wd, UInt8.reduceToNat, reduceIte, reduceCtorEq, Nat.reduceEqDiff, Nat.reduceAdd, Nat.reduceMul, Nat.reduceSub, Nat.reduceLeDiff, Int.reduceNeg, Int.reduceAdd, Int.reduceSub, Int.reduceMul, Int.reduceLT, Int.reduceLE, Int.reduceEq, Int.reduceToNat, Nat.reduceBEq, Nat.reduceLT, Y_unf cc_tree_node_greater_k0.eq_1, Y_unf cc_tree_node_greater_c1.eq_1, Y_unf cc_tree_node_greater_c2.eq_1, Y_unf cc_tree_node_greater_k3.eq_1, Y_unf cc_tree_node_greater_c4.eq_1, Y_unf cc_tree_node_greater_k5.eq_1, Y_unf cc_tree_node_greater_k6.eq_1, Y_unf cc_tree_node_greater_k7.eq_1, Y_unf cc_tree_node_greater.eq_1]
  refine c_members hu hW hl2 (fun r hr => ⟨trivial, ?_⟩)
  obtain ⟨y, my, cy, hy, rfl⟩ := shape u r e2 m2 hr
  simp only [wk, wd, UInt8.reduceToNat, reduceIte, reduceCtorEq, Nat.reduceEqDiff, Nat.reduceAdd, Nat.reduceMul, Nat.reduceSub, Nat.reduceLeDiff, Int.reduceNeg, Int.reduceAdd, Int.reduceSub, Int.reduceMul, Int.reduceLT, Int.reduceLE, Int.reduceEq, Int.reduceToNat, Nat.reduceBEq, Nat.reduceLT, Y_unf cc_tree_node_greater_k0.eq_1, Y_unf cc_tree_node_greater_c1.eq_1, Y_unf cc_tree_node_greater_c2.eq_1, Y_unf cc_tree_node_greater_k3.eq_1, Y_unf cc_tree_node_greater_c4.eq_1, Y_unf cc_tree_node_greater_k5.eq_1, Y_unf cc_tree_node_greater_k6.eq_1, Y_unf cc_tree_node_greater_k7.eq_1, Y_unf cc_tree_node_greater.eq_1]
  refine c_depth t (by omega) ht ⟨trivial, ?_⟩
  simp only [wk, wd, UInt8.reduceToNat, reduceIte, reduceCtorEq, Nat.reduceEqDiff, Nat.reduceAdd, Nat.reduceMul, Nat.reduceSub, Nat.reduceLeDiff, Int.reduceNeg, Int.reduceAdd, Int.reduceSub, Int.reduceMul, Int.reduceLT, Int.reduceLE, Int.reduceEq, Int.reduceToNat, Nat.reduceBEq, Nat.reduceLT, Y_unf cc_tree_node_greater_k0.eq_1, Y_unf cc_tree_node_greater_c1.eq_1, Y_unf cc_tree_node_greater_c2.eq_1, Y_unf cc_tree_node_greater_k3.eq_1, Y_unf cc_tree_node_greater_c4.eq_1, Y_unf cc_tree_node_greater_k5.eq_1, Y_unf cc_tree_node_greater_k6.eq_1, Y_unf cc_tree_node_greater_k7.eq_1, Y_unf cc_tree_node_greater.eq_1]
  refine c_depth u (by omega) hu ⟨trivial, ?_⟩
  by_cases hd : (t.depth : Int) = u.depth
  · simp only [wk, wd, UInt8.reduceToNat, reduceIte, reduceCtorEq, Nat.reduceEqDiff, Nat.reduceAdd, Nat.reduceMul, Nat.reduceSub, Nat.reduceLeDiff, Int.reduceNeg, Int.reduceAdd, Int.reduceSub, Int.reduceMul, Int.reduceLT, Int.reduceLE, Int.reduceEq, Int.reduceToNat, Nat.reduceBEq, Nat.reduceLT, Y_unf cc_tree_node_greater_k0.eq_1, Y_unf cc_tree_node_greater_c1.eq_1, Y_unf cc_tree_node_greater_c2.eq_1, Y_unf cc_tree_node_greater_k3.eq_1, Y_unf cc_tree_node_greater_c4.eq_1, Y_unf cc_tree_node_greater_k5.eq_1, Y_unf cc_tree_node_greater_k6.eq_1, Y_unf cc_tree_node_greater_k7.eq_1, Y_unf cc_tree_node_greater.eq_1, hd]
    by_cases hll : (t.labs.length : Int) = u.labs.length
    · have p1 : ((0 : Int) < t.labs.length) = True := eq_true (by omega)
      have p2 : ((0 : Int) < u.labs.length) = True := eq_true (by omega)
      simp only [wk, wd, UInt8.reduceToNat, reduceIte, reduceCtorEq, Nat.reduceEqDiff, Nat.reduceAdd, Nat.reduceMul, Nat.reduceSub, Nat.reduceLeDiff, Int.reduceNeg, Int.reduceAdd, Int.reduceSub, Int.reduceMul, Int.reduceLT, Int.reduceLE, Int.reduceEq, Int.reduceToNat, Nat.reduceBEq, Nat.reduceLT, Y_unf cc_tree_node_greater_k0.eq_1, Y_unf cc_tree_node_greater_c1.eq_1, Y_unf cc_tree_node_greater_c2.eq_1, Y_unf cc_tree_node_greater_k3.eq_1, Y_unf cc_tree_node_greater_c4.eq_1, Y_unf cc_tree_node_greater_k5.eq_1, Y_unf cc_tree_node_greater_k6.eq_1, Y_unf cc_tree_node_greater_k7.eq_1, Y_unf cc_tree_node_greater.eq_1, hll, p1, p2, List.map_cons, aI]
      exact hq _
    · simp only [wk, wd, UInt8.reduceToNat, reduceIte, reduceCtorEq, Nat.reduceEqDiff, Nat.reduceAdd, Nat.reduceMul, Nat.reduceSub, Nat.reduceLeDiff, Int.reduceNeg, Int.reduceAdd, Int.reduceSub, Int.reduceMul, Int.reduceLT, Int.reduceLE, Int.reduceEq, Int.reduceToNat, Nat.reduceBEq, Nat.reduceLT, Y_unf cc_tree_node_greater_k0.eq_1, Y_unf cc_tree_node_greater_c1.eq_1, Y_unf cc_tree_node_greater_c2.eq_1, Y_unf cc_tree_node_greater_k3.eq_1, Y_unf cc_tree_node_greater_c4.eq_1, Y_unf cc_tree_node_greater_k5.eq_1, Y_unf cc_tree_node_greater_k6.eq_1, Y_unf cc_tree_node_greater_k7.eq_1, Y_unf cc_tree_node_greater.eq_1, hll]
      exact hq _
  · simp only [wk, wd, UInt8.reduceToNat, reduceIte, reduceCtorEq, Nat.reduceEqDiff, Nat.reduceAdd, Nat.reduceMul, Nat.reduceSub, Nat.reduceLeDiff, Int.reduceNeg, Int.reduceAdd, Int.reduceSub, Int.reduceMul, Int.reduceLT, Int.reduceLE, Int.reduceEq, Int.reduceToNat, Nat.reduceBEq, Nat.reduceLT, Y_unf cc_tree_node_greater_k0.eq_1, Y_unf cc_tree_node_greater_c1.eq_1, Y_unf cc_tree_node_greater_c2.eq_1, Y_unf cc_tree_node_greater_k3.eq_1, Y_unf cc_tree_node_greater_c4.eq_1, Y_unf cc_tree_node_greater_k5.eq_1, Y_unf cc_tree_node_greater_k6.eq_1, Y_unf cc_tree_node_greater_k7.eq_1, Y_unf cc_tree_node_greater.eq_1, hd]
    refine c_depth t (by omega) ht ⟨trivial, ?_⟩
    simp only [wk, wd, UInt8.reduceToNat, reduceIte, reduceCtorEq, Nat.reduceEqDiff, Nat.reduceAdd, Nat.reduceMul, Nat.reduceSub, Nat.reduceLeDiff, Int.reduceNeg, Int.reduceAdd, Int.reduceSub, Int.reduceMul, Int.reduceLT, Int.reduceLE, Int.reduceEq, Int.reduceToNat, Nat.reduceBEq, Nat.reduceLT, Y_unf cc_tree_node_greater_k0.eq_1, Y_unf cc_tree_node_greater_c1.eq_1, Y_unf cc_tree_node_greater_c2.eq_1, Y_unf cc_tree_node_greater_k3.eq_1, Y_unf cc_tree_node_greater_c4.eq_1, Y_unf cc_tree_node_greater_k5.eq_1, Y_unf cc_tree_node_greater_k6.eq_1, Y_unf cc_tree_node_greater_k7.eq_1, Y_unf cc_tree_node_greater.eq_1]
    refine c_depth u (by omega) hu ⟨trivial, ?_⟩
    simp only [wk, wd, UInt8.reduceToNat, reduceIte, reduceCtorEq, Nat.reduceEqDiff, Nat.reduceAdd, Nat.reduceMul, Nat.reduceSub, Nat.reduceLeDiff, Int.reduceNeg, Int.reduceAdd, Int.reduceSub, Int.reduceMul, Int.reduceLT, Int.reduceLE, Int.reduceEq, Int.reduceToNat, Nat.reduceBEq, Nat.reduceLT, Y_unf cc_tree_node_greater_k0.eq_1, Y_unf cc_tree_node_greater_c1.eq_1, Y_unf cc_tree_node_greater_c2.eq_1, Y_unf cc_tree_node_greater_k3.eq_1, Y_unf cc_tree_node_greater_c4.eq_1, Y_unf cc_tree_node_greater_k5.eq_1, Y_unf cc_tree_node_greater_k6.eq_1, Y_unf cc_tree_node_greater_k7.eq_1, Y_unf cc_tree_node_greater.eq_1]
    exact hq _

theorem c_Merge {t u : T} (h : t.Good) (hu : u.Good) {σ : St} {Q : AV → St → Prop}
    (hq : ∀ s e, (e = 0 → ∃ t' : T, t'.Good ∧ s = t'.text) → Q (.tup [.str s, .int .i64 e]) σ) : CallsA prog F.tree_Merge [.str t.text, .str u.text] σ Q := by
  have l1 := h.len
  have l2 := hu.len
  have m1 := T.mem_len t
  have m2 := T.mem_len u
  have p1 := T.labs_pos t
  have x1 := T.text_len t
  have x2 := T.text_len u
  refine CallsA.forget ?_
  refine calls_of_Y e_tree_Merge rfl ?_; simp only [tm0_0, tm0_1, tm0_2, tm0_3, tm0_4, tm0_5, tm0_6, wk, wd, UInt8.reduceToNat, reduceIte, reduceCtorEq, Nat.reduceEqDiff, Nat.reduceAdd, Nat.reduceMul, Nat.reduceSub, Nat.reduceLeDiff, Int.reduceNeg, Int.reduceAdd, Int.reduceSub, Int.reduceMul, Int.reduceLT, Int.reduceLE, Int.reduceEq, Int.reduceToNat, Nat.reduceBEq, Nat.reduceLT, Y_unf cc_tree_Merge_k0.eq_1, Y_unf cc_tree_Merge_c1.eq_1, Y_unf cc_tree_Merge_k2.eq_1, Y_unf cc_tree_Merge_k3.eq_1, Y_unf cc_tree_Merge_k4.eq_1, Y_unf cc_tree_Merge_k5.eq_1, Y_unf cc_tree_Merge_k6.eq_1, Y_unf cc_tree_Merge.eq_1]
  refine c_of h (fun v V σ1 hT hn hb hE => ⟨trivial, ?_⟩)
  obtain ⟨i1, rfl, _⟩ := hT.ptr
  simp only [wk, wd, UInt8.reduceToNat, reduceIte, reduceCtorEq, Nat.reduceEqDiff, Nat.reduceAdd, Nat.reduceMul, Nat.reduceSub, Nat.reduceLeDiff, Int.reduceNeg, Int.reduceAdd, Int.reduceSub, Int.reduceMul, Int.reduceLT, Int.reduceLE, Int.reduceEq, Int.reduceToNat, Nat.reduceBEq, Nat.reduceLT, Y_unf cc_tree_Merge_k0.eq_1, Y_unf cc_tree_Merge_c1.eq_1, Y_unf cc_tree_Merge_k2.eq_1, Y_unf cc_tree_Merge_k3.eq_1, Y_unf cc_tree_Merge_k4.eq_1, Y_unf cc_tree_Merge_k5.eq_1, Y_unf cc_tree_Merge_k6.eq_1, Y_unf cc_tree_Merge.eq_1]
  refine c_of hu (fun v W σ2 hU hn2 hb2 hE2 => ⟨trivial, ?_⟩)
  obtain ⟨i2, rfl, _⟩ := hU.ptr
  have hT2 := hT.keep (σ' := σ2) fun i hi => hE2.heap i (hb i hi).2
  have hV2 : ∀ i ∈ V, i < σ2.nx := fun i hi => Nat.lt_of_lt_of_le (hb i hi).2 hE2.nx
  have hEE := hE.trans hE2
  simp only [wk, wd, UInt8.reduceToNat, reduceIte, reduceCtorEq, Nat.reduceEqDiff, Nat.reduceAdd, Nat.reduceMul, Nat.reduceSub, Nat.reduceLeDiff, Int.reduceNeg, Int.reduceAdd, Int.reduceSub, Int.reduceMul, Int.reduceLT, Int.reduceLE, Int.reduceEq, Int.reduceToNat, Nat.reduceBEq, Nat.reduceLT, Y_unf cc_tree_Merge_k0.eq_1, Y_unf cc_tree_Merge_c1.eq_1, Y_unf cc_tree_Merge_k2.eq_1, Y_unf cc_tree_Merge_k3.eq_1, Y_unf cc_tree_Merge_k4.eq_1, Y_unf cc_tree_Merge_k5.eq_1, Y_unf cc_tree_Merge_k6.eq_1, Y_unf cc_tree_Merge.eq_1]
  refine c_members hT2 hV2 (by omega) (fun r hr => ⟨trivial, ?_⟩)
  simp only [wk, wd, UInt8.reduceToNat, reduceIte, reduceCtorEq, Nat.reduceEqDiff, Nat.reduceAdd, Nat.reduceMul, Nat.reduceSub, Nat.reduceLeDiff, Int.reduceNeg, Int.reduceAdd, Int.reduceSub, Int.reduceMul, Int.reduceLT, Int.reduceLE, Int.reduceEq, Int.reduceToNat, Nat.reduceBEq, Nat.reduceLT, Y_unf cc_tree_Merge_k0.eq_1, Y_unf cc_tree_Merge_c1.eq_1, Y_unf cc_tree_Merge_k2.eq_1, Y_unf cc_tree_Merge_k3.eq_1, Y_unf cc_tree_Merge_k4.eq_1, Y_unf cc_tree_Merge_k5.eq_1, Y_unf cc_tree_Merge_k6.eq_1, Y_unf cc_tree_Merge.eq_1]
  refine c_members hU (fun i hi => (hb2 i hi).2) (by omega) (fun r2 hr2 => ⟨trivial, ?_⟩)
  simp only [wk, wd, UInt8.reduceToNat, reduceIte, reduceCtorEq, Nat.reduceEqDiff, Nat.reduceAdd, Nat.reduceMul, Nat.reduceSub, Nat.reduceLeDiff, Int.reduceNeg, Int.reduceAdd, Int.reduceSub, Int.reduceMul, Int.reduceLT, Int.reduceLE, Int.reduceEq, Int.reduceToNat, Nat.reduceBEq, Nat.reduceLT, Y_unf cc_tree_Merge_k0.eq_1, Y_unf cc_tree_Merge_c1.eq_1, Y_unf cc_tree_Merge_k2.eq_1, Y_unf cc_tree_Merge_k3.eq_1, Y_unf cc_tree_Merge_k4.eq_1, Y_unf cc_tree_Merge_k5.eq_1, Y_unf cc_tree_Merge_k6.eq_1, Y_unf cc_tree_Merge.eq_1]
  refine c_Both hr hr2 (by omega) (by omega) (by omega) (fun w hw => ⟨trivial, ?_⟩)
  have hwl : evLenL w = some (.int .i64 ((t.mem.filter fun x => decide (x ∈ u.mem)).length : Nat)) := by
    rcases hw with ⟨rfl, hh⟩ | ⟨n, cap, rfl, hh⟩
    · have : (t.mem.filter fun x => decide (x ∈ u.mem)) = [] := by simpa using hh
      rw [this]; rfl
    · simp only [List.length_map, Nat.mul_one] at hh
      rw [hh]; rfl
  by_cases hc : (0 : Int) < ((t.mem.filter fun x => decide (x ∈ u.mem)).length : Nat)
  · simp only [wk, wd, UInt8.reduceToNat, reduceIte, reduceCtorEq, Nat.reduceEqDiff, Nat.reduceAdd, Nat.reduceMul, Nat.reduceSub, Nat.reduceLeDiff, Int.reduceNeg, Int.reduceAdd, Int.reduceSub, Int.reduceMul, Int.reduceLT, Int.reduceLE, Int.reduceEq, Int.reduceToNat, Nat.reduceBEq, Nat.reduceLT, Y_unf cc_tree_Merge_k0.eq_1, Y_unf cc_tree_Merge_c1.eq_1, Y_unf cc_tree_Merge_k2.eq_1, Y_unf cc_tree_Merge_k3.eq_1, Y_unf cc_tree_Merge_k4.eq_1, Y_unf cc_tree_Merge_k5.eq_1, Y_unf cc_tree_Merge_k6.eq_1, Y_unf cc_tree_Merge.eq_1, hwl, hc]
    exact ⟨hq [] 1 (by simp), by simp [IdsLt, IdsLts], hEE⟩
  · simp only [wk, wd, UInt8.reduceToNat, reduceIte, reduceCtorEq, Nat.reduceEqDiff, Nat.reduceAdd, Nat.reduceMul, Nat.reduceSub, Nat.reduceLeDiff, Int.reduceNeg, Int.reduceAdd, Int.reduceSub, Int.reduceMul, Int.reduceLT, Int.reduceLE, Int.reduceEq, Int.reduceToNat, Nat.reduceBEq, Nat.reduceLT, Y_unf cc_tree_Merge_k0.eq_1, Y_unf cc_tree_Merge_c1.eq_1, Y_unf cc_tree_Merge_k2.eq_1, Y_unf cc_tree_Merge_k3.eq_1, Y_unf cc_tree_Merge_k4.eq_1, Y_unf cc_tree_Merge_k5.eq_1, Y_unf cc_tree_Merge_k6.eq_1, Y_unf cc_tree_Merge.eq_1, hwl, hc]
    have hdis : ∀ a ∈ t.labs, ∀ b ∈ u.labs, a ≠ b := by
      intro a ha b hb' he
      subst he
      have : (a : Int) ∈ t.mem.filter fun x => decide (x ∈ u.mem) := by
        rw [List.mem_filter]; exact ⟨T.mem_iff.2 ⟨a, ha, rfl⟩, by simpa using T.mem_iff.2 ⟨a, hb', rfl⟩⟩
      have := List.length_pos_of_mem this
      omega
    have g1 : (T.node t u).Good := ⟨fun p hp => by
      rcases List.mem_append.1 hp with hp | hp
      · exact h.ok p hp
      · exact hu.ok p hp, by simp only [T.labs, List.nodup_append]; exact ⟨h.nodup, hu.nodup, hdis⟩⟩
    have g2 : (T.node u t).Good := ⟨fun p hp => by
      rcases List.mem_append.1 hp with hp | hp
      · exact hu.ok p hp
      · exact h.ok p hp, by simp only [T.labs, List.nodup_append]; exact ⟨hu.nodup, h.nodup, fun a ha b hb' he => hdis b hb' a ha he.symm⟩⟩
    refine c_greater hT2 hU hV2 (fun i hi => (hb2 i hi).2) (by omega) (by omega) (fun b => ⟨trivial, ?_⟩)
    have y1 : (1 + t.text.length ≤ 4611686018427387904) = True := eq_true (by omega)
    have y2 : (t.text.length + 1 + u.text.length ≤ 4611686018427387904) = True := eq_true (by omega)
    have y3 : (t.text.length + u.text.length + 1 + 1 ≤ 4611686018427387904) = True := eq_true (by omega)
    have z1 : (1 + u.text.length ≤ 4611686018427387904) = True := eq_true (by omega)
    have z2 : (u.text.length + 1 + t.text.length ≤ 4611686018427387904) = True := eq_true (by omega)
    have z3 : (u.text.length + t.text.length + 1 + 1 ≤ 4611686018427387904) = True := eq_true (by omega)
    cases b
    · simp only [wk, wd, UInt8.reduceToNat, reduceIte, reduceCtorEq, Nat.reduceEqDiff, Nat.reduceAdd, Nat.reduceMul, Nat.reduceSub, Nat.reduceLeDiff, Int.reduceNeg, Int.reduceAdd, Int.reduceSub, Int.reduceMul, Int.reduceLT, Int.reduceLE, Int.reduceEq, Int.reduceToNat, Nat.reduceBEq, Nat.reduceLT, Y_unf cc_tree_Merge_k0.eq_1, Y_unf cc_tree_Merge_c1.eq_1, Y_unf cc_tree_Merge_k2.eq_1, Y_unf cc_tree_Merge_k3.eq_1, Y_unf cc_tree_Merge_k4.eq_1, Y_unf cc_tree_Merge_k5.eq_1, Y_unf cc_tree_Merge_k6.eq_1, Y_unf cc_tree_Merge.eq_1, z1, z2, z3, List.length_append]
      refine ⟨hq _ 0 (fun _ => ⟨_, g2, by simp [T.text]⟩), by simp [IdsLt, IdsLts], hEE⟩
    · simp only [wk, wd, UInt8.reduceToNat, reduceIte, reduceCtorEq, Nat.reduceEqDiff, Nat.reduceAdd, Nat.reduceMul, Nat.reduceSub, Nat.reduceLeDiff, Int.reduceNeg, Int.reduceAdd, Int.reduceSub, Int.reduceMul, Int.reduceLT, Int.reduceLE, Int.reduceEq, Int.reduceToNat, Nat.reduceBEq, Nat.reduceLT, Y_unf cc_tree_Merge_k0.eq_1, Y_unf cc_tree_Merge_c1.eq_1, Y_unf cc_tree_Merge_k2.eq_1, Y_unf cc_tree_Merge_k3.eq_1, Y_unf cc_tree_Merge_k4.eq_1, Y_unf cc_tree_Merge_k5.eq_1, Y_unf cc_tree_Merge_k6.eq_1, Y_unf cc_tree_Merge.eq_1, y1, y2, y3, List.length_append]
      refine ⟨hq _ 0 (fun _ => ⟨_, g1, by simp [T.text]⟩), by simp [IdsLt, IdsLts], hEE⟩
end Go.Proofs.Tryd
open Go Go.Abs
set_option linter.unusedVariables false
set_option linter.unusedSimpArgs false
namespace Go.Proofs.Tryd

def I64 (x : Int) : Prop := -9223372036854775808 ≤ x ∧ x < 9223372036854775808
def pickI (c n : Int) : Int := (if c < 0 then -(c + 1) else c).tmod n
theorem pickI_range {c n : Int} (hn : 0 < n) : 0 ≤ pickI c n ∧ pickI c n < n := by
  unfold pickI
  have h0 : 0 ≤ (if c < 0 then -(c + 1) else c) := by split <;> omega
  exact ⟨Int.tmod_nonneg _ h0, Int.tmod_lt_of_pos _ hn⟩
theorem c_pick {c n : Int} (hc : I64 c) (hn : n ≠ 0) : PureC prog F.gemotlaw14_pick [.int .i64 c, .int .i64 n] (.int .i64 (pickI c n)) := by
  intro σ Q hq
  obtain ⟨c1, c2⟩ := hc
  by_cases h : c < 0
  · have w1 : IntKind.i64.wrap (c + 1) = c + 1 := wrap_i64 (by omega) (by omega)
    have w2 : IntKind.i64.wrap (0 - (c + 1)) = -(c + 1) := by rw [wrap_i64 (by omega) (by omega)]; omega
    refine calls_of_Y e_gemotlaw14_pick rfl ?_; simp only [tm0_0, tm0_1, tm0_2, tm0_3, tm0_4, tm0_5, tm0_6, wk, wd, UInt8.reduceToNat, reduceIte, reduceCtorEq, Nat.reduceEqDiff, Nat.reduceAdd, Nat.reduceMul, Nat.reduceSub, Nat.reduceLeDiff, Int.reduceNeg, Int.reduceAdd, Int.reduceSub, Int.reduceMul, Int.reduceLT, Int.reduceLE, Int.reduceEq, Int.reduceToNat, Nat.reduceBEq, Nat.reduceLT, Y_unf cc_gemotlaw14_pick_k0.eq_1, Y_unf cc_gemotlaw14_pick_c1.eq_1, Y_unf cc_gemotlaw14_pick_k2.eq_1, Y_unf cc_gemotlaw14_pick_k3.eq_1, Y_unf cc_gemotlaw14_pick.eq_1, h, w1, w2, hn]
    simpa [pickI, h] using hq
  · refine calls_of_Y e_gemotlaw14_pick rfl ?_; simp only [tm0_0, tm0_1, tm0_2, tm0_3, tm0_4, tm0_5, tm0_6, wk, wd, UInt8.reduceToNat, reduceIte, reduceCtorEq, Nat.reduceEqDiff, Nat.reduceAdd, Nat.reduceMul, Nat.reduceSub, Nat.reduceLeDiff, Int.reduceNeg, Int.reduceAdd, Int.reduceSub, Int.reduceMul, Int.reduceLT, Int.reduceLE, Int.reduceEq, Int.reduceToNat, Nat.reduceBEq, Nat.reduceLT, Y_unf cc_gemotlaw14_pick_k0.eq_1, Y_unf cc_gemotlaw14_pick_c1.eq_1, Y_unf cc_gemotlaw14_pick_k2.eq_1, Y_unf cc_gemotlaw14_pick_k3.eq_1, Y_unf cc_gemotlaw14_pick.eq_1, h, hn]
    simpa [pickI, h] using hq

theorem c_JoinAny {t : T} (h : t.Good) {p : Nat} (h1 : 1 ≤ p) (h8 : p ≤ 8) {σ : St} {Q : AV → St → Prop}
    (hq : ∀ s e, (e = 0 → ∃ t' : T, t'.Good ∧ s = t'.text) → Q (.tup [.str s, .int .i64 e]) σ) : CallsA prog F.tree_Join [.str t.text, .int .i64 p] σ Q :=
  c_Join h h1 h8 (fun _ => hq _ 1 (by simp)) (fun t' _ hg _ _ => hq _ 0 (fun _ => ⟨t', hg, rfl⟩))
theorem T.Good.leaf {p : Nat} (h1 : 1 ≤ p) (h8 : p ≤ 8) : (T.leaf p).Good := ⟨fun q hq => by simp [T.labs] at hq; omega, by simp [T.labs]⟩

/-- A row of whole numbers that came in: what is asked of it. -/
structure Arg (l : List Int) (v : AV) : Prop where
  len : evLenL v = some (.int .i64 (l.length : Nat))
  row : l ≠ [] → ∃ n cap, v = .list (l.map aI) n cap ∧ l.length = n
theorem Arg.of {l : List Int} {v : AV} (hv : Ints l v) : Arg l v where
  len := by
    rcases hv with ⟨rfl, hh⟩ | ⟨n, cap, rfl, hh⟩
    · have : l = [] := by simpa using hh
      rw [this]; rfl
    · simp only [List.length_map, Nat.mul_one] at hh
      rw [hh]; rfl
  row := fun hne => by
    rcases hv with ⟨rfl, hh⟩ | ⟨n, cap, rfl, hh⟩
    · exact absurd (by simpa using hh) hne
    · exact ⟨n, cap, rfl, by simpa using hh⟩

theorem c_made {l : List Int} {v : AV} (hv : Arg l v) (hl : ∀ x ∈ l, I64 x) (hlen : l.length < 4611686018427387904) {σ : St} {Q : AV → St → Prop} (hq : ∀ t : T, t.Good → Q (.str t.text) σ) : CallsA prog F.gemotlaw14_made [v] σ Q := by
  have ht1 : (T.leaf 1).text = [49] := by decide
  have hfin : ∀ (t : T) (i : Nat), t.Good → Q (.str t.text) σ := fun t _ hg => hq t hg
  have hlv := hv.len
  have hidx : ∀ (i : Nat) (x : Int), l[i]? = some x → ∃ n cap, v = .list (l.map aI) n cap ∧ l.length = n := by
    intro i x hx
    exact hv.row (by rintro rfl; simp at hx)
  refine calls_of_Y e_gemotlaw14_made rfl ?_; simp only [tm0_0, tm0_1, tm0_2, tm0_3, tm0_4, tm0_5, tm0_6, wk, wd, UInt8.reduceToNat, reduceIte, reduceCtorEq, Nat.reduceEqDiff, Nat.reduceAdd, Nat.reduceMul, Nat.reduceSub, Nat.reduceLeDiff, Int.reduceNeg, Int.reduceAdd, Int.reduceSub, Int.reduceMul, Int.reduceLT, Int.reduceLE, Int.reduceEq, Int.reduceToNat, Nat.reduceBEq, Nat.reduceLT, Y_unf cc_gemotlaw14_made_k0.eq_1, Y_unf cc_gemotlaw14_made_c1.eq_1, Y_unf cc_gemotlaw14_made_k2.eq_1, Y_unf cc_gemotlaw14_made_k3.eq_1, Y_unf cc_gemotlaw14_made_c4.eq_1, Y_unf cc_gemotlaw14_made_k5.eq_1, Y_unf cc_gemotlaw14_made_k6.eq_1, Y_unf cc_gemotlaw14_made_c7.eq_1, Y_unf cc_gemotlaw14_made_k8.eq_1, Y_unf cc_gemotlaw14_made_k9.eq_1, Y_unf cc_gemotlaw14_made_k10.eq_1, Y_unf cc_gemotlaw14_made_k11.eq_1, Y_unf cc_gemotlaw14_made_k12.eq_1, Y_unf cc_gemotlaw14_made_k13.eq_1, Y_unf cc_gemotlaw14_made_l14.eq_1, Y_unf cc_gemotlaw14_made_k15.eq_1, Y_unf cc_gemotlaw14_made_k16.eq_1, Y_unf cc_gemotlaw14_made_k17.eq_1, Y_unf cc_gemotlaw14_made.eq_1]
  refine Lp_of (α := Nat × T) (fun a tm σ' => σ' = σ ∧ a.2.Good ∧ a.1 ≤ 40 ∧ tm 0 = v ∧ tm 3 = .str a.2.text ∧ tm 4 = .int .i64 a.1 ∧ tm 66 = .tup [])
    (fun a => 40 - a.1) (a := (0, T.leaf 1)) ⟨rfl, T.Good.leaf (by decide) (by decide), by simp, rfl, by simp only [ht1]; rfl, rfl, rfl⟩ ?_
  rintro J hJ ⟨i, t⟩ tm σ' ⟨rfl, hg, hi, h0, h3, h4, h66⟩
  simp only at hg hi h3 h4
  by_cases hlt : (i : Int) < l.length
  · by_cases h40 : (i : Int) < 40
    · obtain ⟨x, hx⟩ : ∃ x, l[i]? = some x := ⟨l[i], List.getElem?_eq_getElem (by omega)⟩
      obtain ⟨n, cap, rfl, rfl⟩ := hidx i x hx
      obtain ⟨x1, x2⟩ := hl x (List.mem_of_getElem? hx)
      have hle : (i ≤ (l.map aI).length) = True := eq_true (by simp; omega)
      have hdm : ∃ r, (l.map aI).drop i = .int .i64 x :: r := by
        refine ⟨((l.map aI).drop (i + 1)), ?_⟩
        rw [List.drop_eq_getElem_cons (by simp; omega)]
        congr 1
        have := List.getElem?_eq_some_iff.1 hx
        obtain ⟨h, he⟩ := this
        simp [he, aI]
      obtain ⟨r, hdm⟩ := hdm
      have hd3 : I64 (x.tdiv 3) := by
        unfold I64
        by_cases h : 0 ≤ x
        · rw [Int.tdiv_eq_ediv_of_nonneg h]; omega
        · obtain ⟨y, rfl⟩ : ∃ y, x = -y := ⟨-x, by omega⟩
          rw [Int.neg_tdiv, Int.tdiv_eq_ediv_of_nonneg (by omega)]; omega
      have hw3 : IntKind.i64.wrap (x.tdiv 3) = x.tdiv 3 := wrap_i64 hd3.1 hd3.2
      obtain ⟨p1, p2⟩ := pickI_range (c := x.tdiv 3) (n := 8) (by decide)
      obtain ⟨p, hp⟩ : ∃ p : Nat, 1 + pickI (x.tdiv 3) 8 = (p : Int) := ⟨(1 + pickI (x.tdiv 3) 8).toNat, by omega⟩
      have hw4 : IntKind.i64.wrap (1 + pickI (x.tdiv 3) 8) = (p : Int) := by rw [wrap_i64 (by omega) (by omega)]; omega
      have hw5 : IntKind.i64.wrap ((i : Int) + 1) = ((i + 1 : Nat) : Int) := by rw [wrap_i64 (by omega) (by omega)]; omega
      have hpl : 1 ≤ p := by omega
      have hp8 : p ≤ 8 := by omega
      have fin : ∀ (s : Bs) (e : Int), (e = 0 → ∃ t' : T, t'.Good ∧ s = t'.text) → ∀ tm', tm' 0 = .list (l.map aI) l.length cap → tm' 3 = (if e = 0 then .str s else .str t.text) → tm' 4 = .int .i64 ((i + 1 : Nat) : Int) → tm' 66 = .tup [] → Nxt J (fun a => 40 - a.1) (40 - i) tm' σ' := by
        intro s e he tm' u0 u3 u4 u66
        by_cases h : e = 0
        · obtain ⟨t', hg', rfl⟩ := he h
          rw [if_pos h] at u3
          exact ⟨(i + 1, t'), hJ _ _ _ ⟨rfl, hg', by simp only []; omega, u0, u3, u4, u66⟩, by simp only []; omega⟩
        · rw [if_neg h] at u3
          exact ⟨(i + 1, t), hJ _ _ _ ⟨rfl, hg, by simp only []; omega, u0, u3, u4, u66⟩, by simp only []; omega⟩
      simp only [wk, wd, UInt8.reduceToNat, reduceIte, reduceCtorEq, Nat.reduceEqDiff, Nat.reduceAdd, Nat.reduceMul, Nat.reduceSub, Nat.reduceLeDiff, Int.reduceNeg, Int.reduceAdd, Int.reduceSub, Int.reduceMul, Int.reduceLT, Int.reduceLE, Int.reduceEq, Int.reduceToNat, Nat.reduceBEq, Nat.reduceLT, Y_unf cc_gemotlaw14_made_k0.eq_1, Y_unf cc_gemotlaw14_made_c1.eq_1, Y_unf cc_gemotlaw14_made_k2.eq_1, Y_unf cc_gemotlaw14_made_k3.eq_1, Y_unf cc_gemotlaw14_made_c4.eq_1, Y_unf cc_gemotlaw14_made_k5.eq_1, Y_unf cc_gemotlaw14_made_k6.eq_1, Y_unf cc_gemotlaw14_made_c7.eq_1, Y_unf cc_gemotlaw14_made_k8.eq_1, Y_unf cc_gemotlaw14_made_k9.eq_1, Y_unf cc_gemotlaw14_made_k10.eq_1, Y_unf cc_gemotlaw14_made_k11.eq_1, Y_unf cc_gemotlaw14_made_k12.eq_1, Y_unf cc_gemotlaw14_made_k13.eq_1, Y_unf cc_gemotlaw14_made_l14.eq_1, Y_unf cc_gemotlaw14_made_k15.eq_1, Y_unf cc_gemotlaw14_made_k16.eq_1, Y_unf cc_gemotlaw14_made_k17.eq_1, Y_unf cc_gemotlaw14_made.eq_1, h0, h3, h4, h66, hlt, h40, hle, hdm, hw3]
      refine Cl_pure0 (c_pick (n := 8) hd3 (by decide)) ?_; simp only [wk, wd, UInt8.reduceToNat, reduceIte, reduceCtorEq, Nat.reduceEqDiff, Nat.reduceAdd, Nat.reduceMul, Nat.reduceSub, Nat.reduceLeDiff, Int.reduceNeg, Int.reduceAdd, Int.reduceSub, Int.reduceMul, Int.reduceLT, Int.reduceLE, Int.reduceEq, Int.reduceToNat, Nat.reduceBEq, Nat.reduceLT, Y_unf cc_gemotlaw14_made_k0.eq_1, Y_unf cc_gemotlaw14_made_c1.eq_1, Y_unf cc_gemotlaw14_made_k2.eq_1, Y_unf cc_gemotlaw14_made_k3.eq_1, Y_unf cc_gemotlaw14_made_c4.eq_1, Y_unf cc_gemotlaw14_made_k5.eq_1, Y_unf cc_gemotlaw14_made_k6.eq_1, Y_unf cc_gemotlaw14_made_c7.eq_1, Y_unf cc_gemotlaw14_made_k8.eq_1, Y_unf cc_gemotlaw14_made_k9.eq_1, Y_unf cc_gemotlaw14_made_k10.eq_1, Y_unf cc_gemotlaw14_made_k11.eq_1, Y_unf cc_gemotlaw14_made_k12.eq_1, Y_unf cc_gemotlaw14_made_k13.eq_1, Y_unf cc_gemotlaw14_made_l14.eq_1, Y_unf cc_gemotlaw14_made_k15.eq_1, Y_unf cc_gemotlaw14_made_k16.eq_1, Y_unf cc_gemotlaw14_made_k17.eq_1, Y_unf cc_gemotlaw14_made.eq_1]
      simp only [wk, wd, UInt8.reduceToNat, reduceIte, reduceCtorEq, Nat.reduceEqDiff, Nat.reduceAdd, Nat.reduceMul, Nat.reduceSub, Nat.reduceLeDiff, Int.reduceNeg, Int.reduceAdd, Int.reduceSub, Int.reduceMul, Int.reduceLT, Int.reduceLE, Int.reduceEq, Int.reduceToNat, Nat.reduceBEq, Nat.reduceLT, Y_unf cc_gemotlaw14_made_k0.eq_1, Y_unf cc_gemotlaw14_made_c1.eq_1, Y_unf cc_gemotlaw14_made_k2.eq_1, Y_unf cc_gemotlaw14_made_k3.eq_1, Y_unf cc_gemotlaw14_made_c4.eq_1, Y_unf cc_gemotlaw14_made_k5.eq_1, Y_unf cc_gemotlaw14_made_k6.eq_1, Y_unf cc_gemotlaw14_made_c7.eq_1, Y_unf cc_gemotlaw14_made_k8.eq_1, Y_unf cc_gemotlaw14_made_k9.eq_1, Y_unf cc_gemotlaw14_made_k10.eq_1, Y_unf cc_gemotlaw14_made_k11.eq_1, Y_unf cc_gemotlaw14_made_k12.eq_1, Y_unf cc_gemotlaw14_made_k13.eq_1, Y_unf cc_gemotlaw14_made_l14.eq_1, Y_unf cc_gemotlaw14_made_k15.eq_1, Y_unf cc_gemotlaw14_made_k16.eq_1, Y_unf cc_gemotlaw14_made_k17.eq_1, Y_unf cc_gemotlaw14_made.eq_1, hw4]
      refine Cl_pure0 (c_Leaf hpl hp8) ?_; simp only [wk, wd, UInt8.reduceToNat, reduceIte, reduceCtorEq, Nat.reduceEqDiff, Nat.reduceAdd, Nat.reduceMul, Nat.reduceSub, Nat.reduceLeDiff, Int.reduceNeg, Int.reduceAdd, Int.reduceSub, Int.reduceMul, Int.reduceLT, Int.reduceLE, Int.reduceEq, Int.reduceToNat, Nat.reduceBEq, Nat.reduceLT, Y_unf cc_gemotlaw14_made_k0.eq_1, Y_unf cc_gemotlaw14_made_c1.eq_1, Y_unf cc_gemotlaw14_made_k2.eq_1, Y_unf cc_gemotlaw14_made_k3.eq_1, Y_unf cc_gemotlaw14_made_c4.eq_1, Y_unf cc_gemotlaw14_made_k5.eq_1, Y_unf cc_gemotlaw14_made_k6.eq_1, Y_unf cc_gemotlaw14_made_c7.eq_1, Y_unf cc_gemotlaw14_made_k8.eq_1, Y_unf cc_gemotlaw14_made_k9.eq_1, Y_unf cc_gemotlaw14_made_k10.eq_1, Y_unf cc_gemotlaw14_made_k11.eq_1, Y_unf cc_gemotlaw14_made_k12.eq_1, Y_unf cc_gemotlaw14_made_k13.eq_1, Y_unf cc_gemotlaw14_made_l14.eq_1, Y_unf cc_gemotlaw14_made_k15.eq_1, Y_unf cc_gemotlaw14_made_k16.eq_1, Y_unf cc_gemotlaw14_made_k17.eq_1, Y_unf cc_gemotlaw14_made.eq_1]
      simp only [wk, wd, UInt8.reduceToNat, reduceIte, reduceCtorEq, Nat.reduceEqDiff, Nat.reduceAdd, Nat.reduceMul, Nat.reduceSub, Nat.reduceLeDiff, Int.reduceNeg, Int.reduceAdd, Int.reduceSub, Int.reduceMul, Int.reduceLT, Int.reduceLE, Int.reduceEq, Int.reduceToNat, Nat.reduceBEq, Nat.reduceLT, Y_unf cc_gemotlaw14_made_k0.eq_1, Y_unf cc_gemotlaw14_made_c1.eq_1, Y_unf cc_gemotlaw14_made_k2.eq_1, Y_unf cc_gemotlaw14_made_k3.eq_1, Y_unf cc_gemotlaw14_made_c4.eq_1, Y_unf cc_gemotlaw14_made_k5.eq_1, Y_unf cc_gemotlaw14_made_k6.eq_1, Y_unf cc_gemotlaw14_made_c7.eq_1, Y_unf cc_gemotlaw14_made_k8.eq_1, Y_unf cc_gemotlaw14_made_k9.eq_1, Y_unf cc_gemotlaw14_made_k10.eq_1, Y_unf cc_gemotlaw14_made_k11.eq_1, Y_unf cc_gemotlaw14_made_k12.eq_1, Y_unf cc_gemotlaw14_made_k13.eq_1, Y_unf cc_gemotlaw14_made_l14.eq_1, Y_unf cc_gemotlaw14_made_k15.eq_1, Y_unf cc_gemotlaw14_made_k16.eq_1, Y_unf cc_gemotlaw14_made_k17.eq_1, Y_unf cc_gemotlaw14_made.eq_1, h3]
      refine c_JoinAny hg hpl hp8 (fun s e he => ⟨trivial, ?_⟩)
      simp only [wk, wd, UInt8.reduceToNat, reduceIte, reduceCtorEq, Nat.reduceEqDiff, Nat.reduceAdd, Nat.reduceMul, Nat.reduceSub, Nat.reduceLeDiff, Int.reduceNeg, Int.reduceAdd, Int.reduceSub, Int.reduceMul, Int.reduceLT, Int.reduceLE, Int.reduceEq, Int.reduceToNat, Nat.reduceBEq, Nat.reduceLT, Y_unf cc_gemotlaw14_made_k0.eq_1, Y_unf cc_gemotlaw14_made_c1.eq_1, Y_unf cc_gemotlaw14_made_k2.eq_1, Y_unf cc_gemotlaw14_made_k3.eq_1, Y_unf cc_gemotlaw14_made_c4.eq_1, Y_unf cc_gemotlaw14_made_k5.eq_1, Y_unf cc_gemotlaw14_made_k6.eq_1, Y_unf cc_gemotlaw14_made_c7.eq_1, Y_unf cc_gemotlaw14_made_k8.eq_1, Y_unf cc_gemotlaw14_made_k9.eq_1, Y_unf cc_gemotlaw14_made_k10.eq_1, Y_unf cc_gemotlaw14_made_k11.eq_1, Y_unf cc_gemotlaw14_made_k12.eq_1, Y_unf cc_gemotlaw14_made_k13.eq_1, Y_unf cc_gemotlaw14_made_l14.eq_1, Y_unf cc_gemotlaw14_made_k15.eq_1, Y_unf cc_gemotlaw14_made_k16.eq_1, Y_unf cc_gemotlaw14_made_k17.eq_1, Y_unf cc_gemotlaw14_made.eq_1, h0, h4, hlt, hle, hdm]
      refine Cl_pure0 (c_pick (n := 3) (hl x (List.mem_of_getElem? hx)) (by decide)) ?_; simp only [wk, wd, UInt8.reduceToNat, reduceIte, reduceCtorEq, Nat.reduceEqDiff, Nat.reduceAdd, Nat.reduceMul, Nat.reduceSub, Nat.reduceLeDiff, Int.reduceNeg, Int.reduceAdd, Int.reduceSub, Int.reduceMul, Int.reduceLT, Int.reduceLE, Int.reduceEq, Int.reduceToNat, Nat.reduceBEq, Nat.reduceLT, Y_unf cc_gemotlaw14_made_k0.eq_1, Y_unf cc_gemotlaw14_made_c1.eq_1, Y_unf cc_gemotlaw14_made_k2.eq_1, Y_unf cc_gemotlaw14_made_k3.eq_1, Y_unf cc_gemotlaw14_made_c4.eq_1, Y_unf cc_gemotlaw14_made_k5.eq_1, Y_unf cc_gemotlaw14_made_k6.eq_1, Y_unf cc_gemotlaw14_made_c7.eq_1, Y_unf cc_gemotlaw14_made_k8.eq_1, Y_unf cc_gemotlaw14_made_k9.eq_1, Y_unf cc_gemotlaw14_made_k10.eq_1, Y_unf cc_gemotlaw14_made_k11.eq_1, Y_unf cc_gemotlaw14_made_k12.eq_1, Y_unf cc_gemotlaw14_made_k13.eq_1, Y_unf cc_gemotlaw14_made_l14.eq_1, Y_unf cc_gemotlaw14_made_k15.eq_1, Y_unf cc_gemotlaw14_made_k16.eq_1, Y_unf cc_gemotlaw14_made_k17.eq_1, Y_unf cc_gemotlaw14_made.eq_1]
      obtain ⟨q1, q2⟩ := pickI_range (c := x) (n := 3) (by decide)
      by_cases d1 : pickI x 3 = 1
      · simp only [wk, wd, UInt8.reduceToNat, reduceIte, reduceCtorEq, Nat.reduceEqDiff, Nat.reduceAdd, Nat.reduceMul, Nat.reduceSub, Nat.reduceLeDiff, Int.reduceNeg, Int.reduceAdd, Int.reduceSub, Int.reduceMul, Int.reduceLT, Int.reduceLE, Int.reduceEq, Int.reduceToNat, Nat.reduceBEq, Nat.reduceLT, Y_unf cc_gemotlaw14_made_k0.eq_1, Y_unf cc_gemotlaw14_made_c1.eq_1, Y_unf cc_gemotlaw14_made_k2.eq_1, Y_unf cc_gemotlaw14_made_k3.eq_1, Y_unf cc_gemotlaw14_made_c4.eq_1, Y_unf cc_gemotlaw14_made_k5.eq_1, Y_unf cc_gemotlaw14_made_k6.eq_1, Y_unf cc_gemotlaw14_made_c7.eq_1, Y_unf cc_gemotlaw14_made_k8.eq_1, Y_unf cc_gemotlaw14_made_k9.eq_1, Y_unf cc_gemotlaw14_made_k10.eq_1, Y_unf cc_gemotlaw14_made_k11.eq_1, Y_unf cc_gemotlaw14_made_k12.eq_1, Y_unf cc_gemotlaw14_made_k13.eq_1, Y_unf cc_gemotlaw14_made_l14.eq_1, Y_unf cc_gemotlaw14_made_k15.eq_1, Y_unf cc_gemotlaw14_made_k16.eq_1, Y_unf cc_gemotlaw14_made_k17.eq_1, Y_unf cc_gemotlaw14_made.eq_1, d1, h3]
        refine c_Leave hg hpl hp8 (fun s e he => ⟨trivial, ?_⟩)
        simp only [wk, wd, UInt8.reduceToNat, reduceIte, reduceCtorEq, Nat.reduceEqDiff, Nat.reduceAdd, Nat.reduceMul, Nat.reduceSub, Nat.reduceLeDiff, Int.reduceNeg, Int.reduceAdd, Int.reduceSub, Int.reduceMul, Int.reduceLT, Int.reduceLE, Int.reduceEq, Int.reduceToNat, Nat.reduceBEq, Nat.reduceLT, Y_unf cc_gemotlaw14_made_k0.eq_1, Y_unf cc_gemotlaw14_made_c1.eq_1, Y_unf cc_gemotlaw14_made_k2.eq_1, Y_unf cc_gemotlaw14_made_k3.eq_1, Y_unf cc_gemotlaw14_made_c4.eq_1, Y_unf cc_gemotlaw14_made_k5.eq_1, Y_unf cc_gemotlaw14_made_k6.eq_1, Y_unf cc_gemotlaw14_made_c7.eq_1, Y_unf cc_gemotlaw14_made_k8.eq_1, Y_unf cc_gemotlaw14_made_k9.eq_1, Y_unf cc_gemotlaw14_made_k10.eq_1, Y_unf cc_gemotlaw14_made_k11.eq_1, Y_unf cc_gemotlaw14_made_k12.eq_1, Y_unf cc_gemotlaw14_made_k13.eq_1, Y_unf cc_gemotlaw14_made_l14.eq_1, Y_unf cc_gemotlaw14_made_k15.eq_1, Y_unf cc_gemotlaw14_made_k16.eq_1, Y_unf cc_gemotlaw14_made_k17.eq_1, Y_unf cc_gemotlaw14_made.eq_1, h0, h4, hlt, hle, hdm]
        refine Cl_pure0 (c_pick (n := 3) (hl x (List.mem_of_getElem? hx)) (by decide)) ?_; simp only [wk, wd, UInt8.reduceToNat, reduceIte, reduceCtorEq, Nat.reduceEqDiff, Nat.reduceAdd, Nat.reduceMul, Nat.reduceSub, Nat.reduceLeDiff, Int.reduceNeg, Int.reduceAdd, Int.reduceSub, Int.reduceMul, Int.reduceLT, Int.reduceLE, Int.reduceEq, Int.reduceToNat, Nat.reduceBEq, Nat.reduceLT, Y_unf cc_gemotlaw14_made_k0.eq_1, Y_unf cc_gemotlaw14_made_c1.eq_1, Y_unf cc_gemotlaw14_made_k2.eq_1, Y_unf cc_gemotlaw14_made_k3.eq_1, Y_unf cc_gemotlaw14_made_c4.eq_1, Y_unf cc_gemotlaw14_made_k5.eq_1, Y_unf cc_gemotlaw14_made_k6.eq_1, Y_unf cc_gemotlaw14_made_c7.eq_1, Y_unf cc_gemotlaw14_made_k8.eq_1, Y_unf cc_gemotlaw14_made_k9.eq_1, Y_unf cc_gemotlaw14_made_k10.eq_1, Y_unf cc_gemotlaw14_made_k11.eq_1, Y_unf cc_gemotlaw14_made_k12.eq_1, Y_unf cc_gemotlaw14_made_k13.eq_1, Y_unf cc_gemotlaw14_made_l14.eq_1, Y_unf cc_gemotlaw14_made_k15.eq_1, Y_unf cc_gemotlaw14_made_k16.eq_1, Y_unf cc_gemotlaw14_made_k17.eq_1, Y_unf cc_gemotlaw14_made.eq_1]
        simp only [wk, wd, UInt8.reduceToNat, reduceIte, reduceCtorEq, Nat.reduceEqDiff, Nat.reduceAdd, Nat.reduceMul, Nat.reduceSub, Nat.reduceLeDiff, Int.reduceNeg, Int.reduceAdd, Int.reduceSub, Int.reduceMul, Int.reduceLT, Int.reduceLE, Int.reduceEq, Int.reduceToNat, Nat.reduceBEq, Nat.reduceLT, Y_unf cc_gemotlaw14_made_k0.eq_1, Y_unf cc_gemotlaw14_made_c1.eq_1, Y_unf cc_gemotlaw14_made_k2.eq_1, Y_unf cc_gemotlaw14_made_k3.eq_1, Y_unf cc_gemotlaw14_made_c4.eq_1, Y_unf cc_gemotlaw14_made_k5.eq_1, Y_unf cc_gemotlaw14_made_k6.eq_1, Y_unf cc_gemotlaw14_made_c7.eq_1, Y_unf cc_gemotlaw14_made_k8.eq_1, Y_unf cc_gemotlaw14_made_k9.eq_1, Y_unf cc_gemotlaw14_made_k10.eq_1, Y_unf cc_gemotlaw14_made_k11.eq_1, Y_unf cc_gemotlaw14_made_k12.eq_1, Y_unf cc_gemotlaw14_made_k13.eq_1, Y_unf cc_gemotlaw14_made_l14.eq_1, Y_unf cc_gemotlaw14_made_k15.eq_1, Y_unf cc_gemotlaw14_made_k16.eq_1, Y_unf cc_gemotlaw14_made_k17.eq_1, Y_unf cc_gemotlaw14_made.eq_1, d1]
        by_cases hee : e = 0
        · simp only [wk, wd, UInt8.reduceToNat, reduceIte, reduceCtorEq, Nat.reduceEqDiff, Nat.reduceAdd, Nat.reduceMul, Nat.reduceSub, Nat.reduceLeDiff, Int.reduceNeg, Int.reduceAdd, Int.reduceSub, Int.reduceMul, Int.reduceLT, Int.reduceLE, Int.reduceEq, Int.reduceToNat, Nat.reduceBEq, Nat.reduceLT, Y_unf cc_gemotlaw14_made_k0.eq_1, Y_unf cc_gemotlaw14_made_c1.eq_1, Y_unf cc_gemotlaw14_made_k2.eq_1, Y_unf cc_gemotlaw14_made_k3.eq_1, Y_unf cc_gemotlaw14_made_c4.eq_1, Y_unf cc_gemotlaw14_made_k5.eq_1, Y_unf cc_gemotlaw14_made_k6.eq_1, Y_unf cc_gemotlaw14_made_c7.eq_1, Y_unf cc_gemotlaw14_made_k8.eq_1, Y_unf cc_gemotlaw14_made_k9.eq_1, Y_unf cc_gemotlaw14_made_k10.eq_1, Y_unf cc_gemotlaw14_made_k11.eq_1, Y_unf cc_gemotlaw14_made_k12.eq_1, Y_unf cc_gemotlaw14_made_k13.eq_1, Y_unf cc_gemotlaw14_made_l14.eq_1, Y_unf cc_gemotlaw14_made_k15.eq_1, Y_unf cc_gemotlaw14_made_k16.eq_1, Y_unf cc_gemotlaw14_made_k17.eq_1, Y_unf cc_gemotlaw14_made.eq_1, hee, h4, hw5]
          exact fin s e he _ (by simp only [upd_at]; exact h0) (by rw [if_pos hee]; rfl) rfl (by simp only [upd_at]; exact h66)
        · simp only [wk, wd, UInt8.reduceToNat, reduceIte, reduceCtorEq, Nat.reduceEqDiff, Nat.reduceAdd, Nat.reduceMul, Nat.reduceSub, Nat.reduceLeDiff, Int.reduceNeg, Int.reduceAdd, Int.reduceSub, Int.reduceMul, Int.reduceLT, Int.reduceLE, Int.reduceEq, Int.reduceToNat, Nat.reduceBEq, Nat.reduceLT, Y_unf cc_gemotlaw14_made_k0.eq_1, Y_unf cc_gemotlaw14_made_c1.eq_1, Y_unf cc_gemotlaw14_made_k2.eq_1, Y_unf cc_gemotlaw14_made_k3.eq_1, Y_unf cc_gemotlaw14_made_c4.eq_1, Y_unf cc_gemotlaw14_made_k5.eq_1, Y_unf cc_gemotlaw14_made_k6.eq_1, Y_unf cc_gemotlaw14_made_c7.eq_1, Y_unf cc_gemotlaw14_made_k8.eq_1, Y_unf cc_gemotlaw14_made_k9.eq_1, Y_unf cc_gemotlaw14_made_k10.eq_1, Y_unf cc_gemotlaw14_made_k11.eq_1, Y_unf cc_gemotlaw14_made_k12.eq_1, Y_unf cc_gemotlaw14_made_k13.eq_1, Y_unf cc_gemotlaw14_made_l14.eq_1, Y_unf cc_gemotlaw14_made_k15.eq_1, Y_unf cc_gemotlaw14_made_k16.eq_1, Y_unf cc_gemotlaw14_made_k17.eq_1, Y_unf cc_gemotlaw14_made.eq_1, hee, h4, hw5]
          exact fin s e he _ (by simp only [upd_at]; exact h0) (by rw [if_neg hee]; simp only [upd_at]; exact h3) rfl (by simp only [upd_at]; exact h66)
      · simp only [wk, wd, UInt8.reduceToNat, reduceIte, reduceCtorEq, Nat.reduceEqDiff, Nat.reduceAdd, Nat.reduceMul, Nat.reduceSub, Nat.reduceLeDiff, Int.reduceNeg, Int.reduceAdd, Int.reduceSub, Int.reduceMul, Int.reduceLT, Int.reduceLE, Int.reduceEq, Int.reduceToNat, Nat.reduceBEq, Nat.reduceLT, Y_unf cc_gemotlaw14_made_k0.eq_1, Y_unf cc_gemotlaw14_made_c1.eq_1, Y_unf cc_gemotlaw14_made_k2.eq_1, Y_unf cc_gemotlaw14_made_k3.eq_1, Y_unf cc_gemotlaw14_made_c4.eq_1, Y_unf cc_gemotlaw14_made_k5.eq_1, Y_unf cc_gemotlaw14_made_k6.eq_1, Y_unf cc_gemotlaw14_made_c7.eq_1, Y_unf cc_gemotlaw14_made_k8.eq_1, Y_unf cc_gemotlaw14_made_k9.eq_1, Y_unf cc_gemotlaw14_made_k10.eq_1, Y_unf cc_gemotlaw14_made_k11.eq_1, Y_unf cc_gemotlaw14_made_k12.eq_1, Y_unf cc_gemotlaw14_made_k13.eq_1, Y_unf cc_gemotlaw14_made_l14.eq_1, Y_unf cc_gemotlaw14_made_k15.eq_1, Y_unf cc_gemotlaw14_made_k16.eq_1, Y_unf cc_gemotlaw14_made_k17.eq_1, Y_unf cc_gemotlaw14_made.eq_1, d1, h0, h4, hlt, hle, hdm]
        refine Cl_pure0 (c_pick (n := 3) (hl x (List.mem_of_getElem? hx)) (by decide)) ?_; simp only [wk, wd, UInt8.reduceToNat, reduceIte, reduceCtorEq, Nat.reduceEqDiff, Nat.reduceAdd, Nat.reduceMul, Nat.reduceSub, Nat.reduceLeDiff, Int.reduceNeg, Int.reduceAdd, Int.reduceSub, Int.reduceMul, Int.reduceLT, Int.reduceLE, Int.reduceEq, Int.reduceToNat, Nat.reduceBEq, Nat.reduceLT, Y_unf cc_gemotlaw14_made_k0.eq_1, Y_unf cc_gemotlaw14_made_c1.eq_1, Y_unf cc_gemotlaw14_made_k2.eq_1, Y_unf cc_gemotlaw14_made_k3.eq_1, Y_unf cc_gemotlaw14_made_c4.eq_1, Y_unf cc_gemotlaw14_made_k5.eq_1, Y_unf cc_gemotlaw14_made_k6.eq_1, Y_unf cc_gemotlaw14_made_c7.eq_1, Y_unf cc_gemotlaw14_made_k8.eq_1, Y_unf cc_gemotlaw14_made_k9.eq_1, Y_unf cc_gemotlaw14_made_k10.eq_1, Y_unf cc_gemotlaw14_made_k11.eq_1, Y_unf cc_gemotlaw14_made_k12.eq_1, Y_unf cc_gemotlaw14_made_k13.eq_1, Y_unf cc_gemotlaw14_made_l14.eq_1, Y_unf cc_gemotlaw14_made_k15.eq_1, Y_unf cc_gemotlaw14_made_k16.eq_1, Y_unf cc_gemotlaw14_made_k17.eq_1, Y_unf cc_gemotlaw14_made.eq_1]
        by_cases d2 : pickI x 3 = 2
        · simp only [wk, wd, UInt8.reduceToNat, reduceIte, reduceCtorEq, Nat.reduceEqDiff, Nat.reduceAdd, Nat.reduceMul, Nat.reduceSub, Nat.reduceLeDiff, Int.reduceNeg, Int.reduceAdd, Int.reduceSub, Int.reduceMul, Int.reduceLT, Int.reduceLE, Int.reduceEq, Int.reduceToNat, Nat.reduceBEq, Nat.reduceLT, Y_unf cc_gemotlaw14_made_k0.eq_1, Y_unf cc_gemotlaw14_made_c1.eq_1, Y_unf cc_gemotlaw14_made_k2.eq_1, Y_unf cc_gemotlaw14_made_k3.eq_1, Y_unf cc_gemotlaw14_made_c4.eq_1, Y_unf cc_gemotlaw14_made_k5.eq_1, Y_unf cc_gemotlaw14_made_k6.eq_1, Y_unf cc_gemotlaw14_made_c7.eq_1, Y_unf cc_gemotlaw14_made_k8.eq_1, Y_unf cc_gemotlaw14_made_k9.eq_1, Y_unf cc_gemotlaw14_made_k10.eq_1, Y_unf cc_gemotlaw14_made_k11.eq_1, Y_unf cc_gemotlaw14_made_k12.eq_1, Y_unf cc_gemotlaw14_made_k13.eq_1, Y_unf cc_gemotlaw14_made_l14.eq_1, Y_unf cc_gemotlaw14_made_k15.eq_1, Y_unf cc_gemotlaw14_made_k16.eq_1, Y_unf cc_gemotlaw14_made_k17.eq_1, Y_unf cc_gemotlaw14_made.eq_1, d2, h3]
          refine c_Merge hg (T.Good.leaf hpl hp8) (fun s e he => ⟨trivial, ?_⟩)
          simp only [wk, wd, UInt8.reduceToNat, reduceIte, reduceCtorEq, Nat.reduceEqDiff, Nat.reduceAdd, Nat.reduceMul, Nat.reduceSub, Nat.reduceLeDiff, Int.reduceNeg, Int.reduceAdd, Int.reduceSub, Int.reduceMul, Int.reduceLT, Int.reduceLE, Int.reduceEq, Int.reduceToNat, Nat.reduceBEq, Nat.reduceLT, Y_unf cc_gemotlaw14_made_k0.eq_1, Y_unf cc_gemotlaw14_made_c1.eq_1, Y_unf cc_gemotlaw14_made_k2.eq_1, Y_unf cc_gemotlaw14_made_k3.eq_1, Y_unf cc_gemotlaw14_made_c4.eq_1, Y_unf cc_gemotlaw14_made_k5.eq_1, Y_unf cc_gemotlaw14_made_k6.eq_1, Y_unf cc_gemotlaw14_made_c7.eq_1, Y_unf cc_gemotlaw14_made_k8.eq_1, Y_unf cc_gemotlaw14_made_k9.eq_1, Y_unf cc_gemotlaw14_made_k10.eq_1, Y_unf cc_gemotlaw14_made_k11.eq_1, Y_unf cc_gemotlaw14_made_k12.eq_1, Y_unf cc_gemotlaw14_made_k13.eq_1, Y_unf cc_gemotlaw14_made_l14.eq_1, Y_unf cc_gemotlaw14_made_k15.eq_1, Y_unf cc_gemotlaw14_made_k16.eq_1, Y_unf cc_gemotlaw14_made_k17.eq_1, Y_unf cc_gemotlaw14_made.eq_1]
          by_cases hee : e = 0
          · simp only [wk, wd, UInt8.reduceToNat, reduceIte, reduceCtorEq, Nat.reduceEqDiff, Nat.reduceAdd, Nat.reduceMul, Nat.reduceSub, Nat.reduceLeDiff, Int.reduceNeg, Int.reduceAdd, Int.reduceSub, Int.reduceMul, Int.reduceLT, Int.reduceLE, Int.reduceEq, Int.reduceToNat, Nat.reduceBEq, Nat.reduceLT, Y_unf cc_gemotlaw14_made_k0.eq_1, Y_unf cc_gemotlaw14_made_c1.eq_1, Y_unf cc_gemotlaw14_made_k2.eq_1, Y_unf cc_gemotlaw14_made_k3.eq_1, Y_unf cc_gemotlaw14_made_c4.eq_1, Y_unf cc_gemotlaw14_made_k5.eq_1, Y_unf cc_gemotlaw14_made_k6.eq_1, Y_unf cc_gemotlaw14_made_c7.eq_1, Y_unf cc_gemotlaw14_made_k8.eq_1, Y_unf cc_gemotlaw14_made_k9.eq_1, Y_unf cc_gemotlaw14_made_k10.eq_1, Y_unf cc_gemotlaw14_made_k11.eq_1, Y_unf cc_gemotlaw14_made_k12.eq_1, Y_unf cc_gemotlaw14_made_k13.eq_1, Y_unf cc_gemotlaw14_made_l14.eq_1, Y_unf cc_gemotlaw14_made_k15.eq_1, Y_unf cc_gemotlaw14_made_k16.eq_1, Y_unf cc_gemotlaw14_made_k17.eq_1, Y_unf cc_gemotlaw14_made.eq_1, hee, h4, hw5]
            exact fin s e he _ (by simp only [upd_at]; exact h0) (by rw [if_pos hee]; rfl) rfl (by simp only [upd_at]; exact h66)
          · simp only [wk, wd, UInt8.reduceToNat, reduceIte, reduceCtorEq, Nat.reduceEqDiff, Nat.reduceAdd, Nat.reduceMul, Nat.reduceSub, Nat.reduceLeDiff, Int.reduceNeg, Int.reduceAdd, Int.reduceSub, Int.reduceMul, Int.reduceLT, Int.reduceLE, Int.reduceEq, Int.reduceToNat, Nat.reduceBEq, Nat.reduceLT, Y_unf cc_gemotlaw14_made_k0.eq_1, Y_unf cc_gemotlaw14_made_c1.eq_1, Y_unf cc_gemotlaw14_made_k2.eq_1, Y_unf cc_gemotlaw14_made_k3.eq_1, Y_unf cc_gemotlaw14_made_c4.eq_1, Y_unf cc_gemotlaw14_made_k5.eq_1, Y_unf cc_gemotlaw14_made_k6.eq_1, Y_unf cc_gemotlaw14_made_c7.eq_1, Y_unf cc_gemotlaw14_made_k8.eq_1, Y_unf cc_gemotlaw14_made_k9.eq_1, Y_unf cc_gemotlaw14_made_k10.eq_1, Y_unf cc_gemotlaw14_made_k11.eq_1, Y_unf cc_gemotlaw14_made_k12.eq_1, Y_unf cc_gemotlaw14_made_k13.eq_1, Y_unf cc_gemotlaw14_made_l14.eq_1, Y_unf cc_gemotlaw14_made_k15.eq_1, Y_unf cc_gemotlaw14_made_k16.eq_1, Y_unf cc_gemotlaw14_made_k17.eq_1, Y_unf cc_gemotlaw14_made.eq_1, hee, h4, hw5]
            exact fin s e he _ (by simp only [upd_at]; exact h0) (by rw [if_neg hee]; simp only [upd_at]; exact h3) rfl (by simp only [upd_at]; exact h66)
        · simp only [wk, wd, UInt8.reduceToNat, reduceIte, reduceCtorEq, Nat.reduceEqDiff, Nat.reduceAdd, Nat.reduceMul, Nat.reduceSub, Nat.reduceLeDiff, Int.reduceNeg, Int.reduceAdd, Int.reduceSub, Int.reduceMul, Int.reduceLT, Int.reduceLE, Int.reduceEq, Int.reduceToNat, Nat.reduceBEq, Nat.reduceLT, Y_unf cc_gemotlaw14_made_k0.eq_1, Y_unf cc_gemotlaw14_made_c1.eq_1, Y_unf cc_gemotlaw14_made_k2.eq_1, Y_unf cc_gemotlaw14_made_k3.eq_1, Y_unf cc_gemotlaw14_made_c4.eq_1, Y_unf cc_gemotlaw14_made_k5.eq_1, Y_unf cc_gemotlaw14_made_k6.eq_1, Y_unf cc_gemotlaw14_made_c7.eq_1, Y_unf cc_gemotlaw14_made_k8.eq_1, Y_unf cc_gemotlaw14_made_k9.eq_1, Y_unf cc_gemotlaw14_made_k10.eq_1, Y_unf cc_gemotlaw14_made_k11.eq_1, Y_unf cc_gemotlaw14_made_k12.eq_1, Y_unf cc_gemotlaw14_made_k13.eq_1, Y_unf cc_gemotlaw14_made_l14.eq_1, Y_unf cc_gemotlaw14_made_k15.eq_1, Y_unf cc_gemotlaw14_made_k16.eq_1, Y_unf cc_gemotlaw14_made_k17.eq_1, Y_unf cc_gemotlaw14_made.eq_1, d2]
          by_cases hee : e = 0
          · simp only [wk, wd, UInt8.reduceToNat, reduceIte, reduceCtorEq, Nat.reduceEqDiff, Nat.reduceAdd, Nat.reduceMul, Nat.reduceSub, Nat.reduceLeDiff, Int.reduceNeg, Int.reduceAdd, Int.reduceSub, Int.reduceMul, Int.reduceLT, Int.reduceLE, Int.reduceEq, Int.reduceToNat, Nat.reduceBEq, Nat.reduceLT, Y_unf cc_gemotlaw14_made_k0.eq_1, Y_unf cc_gemotlaw14_made_c1.eq_1, Y_unf cc_gemotlaw14_made_k2.eq_1, Y_unf cc_gemotlaw14_made_k3.eq_1, Y_unf cc_gemotlaw14_made_c4.eq_1, Y_unf cc_gemotlaw14_made_k5.eq_1, Y_unf cc_gemotlaw14_made_k6.eq_1, Y_unf cc_gemotlaw14_made_c7.eq_1, Y_unf cc_gemotlaw14_made_k8.eq_1, Y_unf cc_gemotlaw14_made_k9.eq_1, Y_unf cc_gemotlaw14_made_k10.eq_1, Y_unf cc_gemotlaw14_made_k11.eq_1, Y_unf cc_gemotlaw14_made_k12.eq_1, Y_unf cc_gemotlaw14_made_k13.eq_1, Y_unf cc_gemotlaw14_made_l14.eq_1, Y_unf cc_gemotlaw14_made_k15.eq_1, Y_unf cc_gemotlaw14_made_k16.eq_1, Y_unf cc_gemotlaw14_made_k17.eq_1, Y_unf cc_gemotlaw14_made.eq_1, hee, h4, hw5]
            exact fin s e he _ (by simp only [upd_at]; exact h0) (by rw [if_pos hee]; rfl) rfl (by simp only [upd_at]; exact h66)
          · simp only [wk, wd, UInt8.reduceToNat, reduceIte, reduceCtorEq, Nat.reduceEqDiff, Nat.reduceAdd, Nat.reduceMul, Nat.reduceSub, Nat.reduceLeDiff, Int.reduceNeg, Int.reduceAdd, Int.reduceSub, Int.reduceMul, Int.reduceLT, Int.reduceLE, Int.reduceEq, Int.reduceToNat, Nat.reduceBEq, Nat.reduceLT, Y_unf cc_gemotlaw14_made_k0.eq_1, Y_unf cc_gemotlaw14_made_c1.eq_1, Y_unf cc_gemotlaw14_made_k2.eq_1, Y_unf cc_gemotlaw14_made_k3.eq_1, Y_unf cc_gemotlaw14_made_c4.eq_1, Y_unf cc_gemotlaw14_made_k5.eq_1, Y_unf cc_gemotlaw14_made_k6.eq_1, Y_unf cc_gemotlaw14_made_c7.eq_1, Y_unf cc_gemotlaw14_made_k8.eq_1, Y_unf cc_gemotlaw14_made_k9.eq_1, Y_unf cc_gemotlaw14_made_k10.eq_1, Y_unf cc_gemotlaw14_made_k11.eq_1, Y_unf cc_gemotlaw14_made_k12.eq_1, Y_unf cc_gemotlaw14_made_k13.eq_1, Y_unf cc_gemotlaw14_made_l14.eq_1, Y_unf cc_gemotlaw14_made_k15.eq_1, Y_unf cc_gemotlaw14_made_k16.eq_1, Y_unf cc_gemotlaw14_made_k17.eq_1, Y_unf cc_gemotlaw14_made.eq_1, hee, h4, hw5]
            exact fin s e he _ (by simp only [upd_at]; exact h0) (by rw [if_neg hee]; simp only [upd_at]; exact h3) rfl (by simp only [upd_at]; exact h66)
    · simp only [wk, wd, UInt8.reduceToNat, reduceIte, reduceCtorEq, Nat.reduceEqDiff, Nat.reduceAdd, Nat.reduceMul, Nat.reduceSub, Nat.reduceLeDiff, Int.reduceNeg, Int.reduceAdd, Int.reduceSub, Int.reduceMul, Int.reduceLT, Int.reduceLE, Int.reduceEq, Int.reduceToNat, Nat.reduceBEq, Nat.reduceLT, Y_unf cc_gemotlaw14_made_k0.eq_1, Y_unf cc_gemotlaw14_made_c1.eq_1, Y_unf cc_gemotlaw14_made_k2.eq_1, Y_unf cc_gemotlaw14_made_k3.eq_1, Y_unf cc_gemotlaw14_made_c4.eq_1, Y_unf cc_gemotlaw14_made_k5.eq_1, Y_unf cc_gemotlaw14_made_k6.eq_1, Y_unf cc_gemotlaw14_made_c7.eq_1, Y_unf cc_gemotlaw14_made_k8.eq_1, Y_unf cc_gemotlaw14_made_k9.eq_1, Y_unf cc_gemotlaw14_made_k10.eq_1, Y_unf cc_gemotlaw14_made_k11.eq_1, Y_unf cc_gemotlaw14_made_k12.eq_1, Y_unf cc_gemotlaw14_made_k13.eq_1, Y_unf cc_gemotlaw14_made_l14.eq_1, Y_unf cc_gemotlaw14_made_k15.eq_1, Y_unf cc_gemotlaw14_made_k16.eq_1, Y_unf cc_gemotlaw14_made_k17.eq_1, Y_unf cc_gemotlaw14_made.eq_1, h0, h3, h4, h66, hlv, hlt, h40]
      exact hq t hg
  · simp only [wk, wd, UInt8.reduceToNat, reduceIte, reduceCtorEq, Nat.reduceEqDiff, Nat.reduceAdd, Nat.reduceMul, Nat.reduceSub, Nat.reduceLeDiff, Int.reduceNeg, Int.reduceAdd, Int.reduceSub, Int.reduceMul, Int.reduceLT, Int.reduceLE, Int.reduceEq, Int.reduceToNat, Nat.reduceBEq, Nat.reduceLT, Y_unf cc_gemotlaw14_made_k0.eq_1, Y_unf cc_gemotlaw14_made_c1.eq_1, Y_unf cc_gemotlaw14_made_k2.eq_1, Y_unf cc_gemotlaw14_made_k3.eq_1, Y_unf cc_gemotlaw14_made_c4.eq_1, Y_unf cc_gemotlaw14_made_k5.eq_1, Y_unf cc_gemotlaw14_made_k6.eq_1, Y_unf cc_gemotlaw14_made_c7.eq_1, Y_unf cc_gemotlaw14_made_k8.eq_1, Y_unf cc_gemotlaw14_made_k9.eq_1, Y_unf cc_gemotlaw14_made_k10.eq_1, Y_unf cc_gemotlaw14_made_k11.eq_1, Y_unf cc_gemotlaw14_made_k12.eq_1, Y_unf cc_gemotlaw14_made_k13.eq_1, Y_unf cc_gemotlaw14_made_l14.eq_1, Y_unf cc_gemotlaw14_made_k15.eq_1, Y_unf cc_gemotlaw14_made_k16.eq_1, Y_unf cc_gemotlaw14_made_k17.eq_1, Y_unf cc_gemotlaw14_made.eq_1, h0, h3, h4, h66, hlv, hlt]
    exact hq t hg
end Go.Proofs.Tryd
