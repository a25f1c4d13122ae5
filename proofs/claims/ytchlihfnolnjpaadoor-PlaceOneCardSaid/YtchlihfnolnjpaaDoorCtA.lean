/- Contracts of functions: what each computes, for whatever memory. -/
import Derived.Test.YtchlihfnolnjpaaDoorCodeA
import Derived.Test.YtchlihfnolnjpaaDoorCodeB
import Derived.Shelf.Strconv.Itoa3
import Derived.Shelf.Small.Strs
import Derived.Shelf.Small.Bits
import Derived.Shelf.SlSortCmp.NoneTotal
import Derived.Shelf.SlGeneric
import Derived.Ground.NamesProg
import Derived.Ground.SlsfProg
open Go Go.Abs
set_option linter.unusedVariables false
set_option linter.unusedSimpArgs false
namespace Go.Proofs.Tryd

theorem drop_cons {α : Type} {l r : List α} {i : Nat} {x : α} (h : l.drop i = x :: r) : i < l.length ∧ l[i]? = some x ∧ l.drop (i + 1) = r := by
  have h1 : i < l.length := by
    rcases Nat.lt_or_ge i l.length with h2 | h2
    · exact h2
    · rw [List.drop_eq_nil_of_le h2] at h; cases h
  rw [List.drop_eq_getElem_cons h1] at h
  injection h with h2 h3
  exact ⟨h1, by rw [List.getElem?_eq_getElem h1, h2], h3⟩
theorem drop_nil {α : Type} {l : List α} {i : Nat} (h : l.drop i = []) (hi : i ≤ l.length) : i = l.length := by
  have := List.drop_eq_nil_iff.1 h
  omega

def rowGo (last : Int) : List Int → Bool
  | [] => decide (0 < last)
  | p :: r => if p ≤ last ∨ 8 < p then false else rowGo p r

theorem c_Row {l : List Int} {v : AV} (hv : Ints l v) (hl : l.length < 4611686018427387904) : PureC prog F.view_Row [v] (.bool (rowGo 0 l)) := by
  intro σ Q h
  rcases hv with ⟨rfl, hn⟩ | ⟨n, cap, rfl, hn⟩
  · obtain rfl : l = [] := by simpa using hn
    refine calls_of_Y e_view_Row rfl ?_; simp only [tm0_0, tm0_1, tm0_2, tm0_3, tm0_4, tm0_5, tm0_6, wk, wd, UInt8.reduceToNat, reduceIte, reduceCtorEq, Nat.reduceEqDiff, Nat.reduceAdd, Nat.reduceMul, Nat.reduceSub, Nat.reduceLeDiff, Int.reduceNeg, Int.reduceAdd, Int.reduceSub, Int.reduceMul, Int.reduceLT, Int.reduceLE, Int.reduceEq, Int.reduceToNat, Nat.reduceBEq, Nat.reduceLT, Y_unf cc_view_Row_k0.eq_1, Y_unf cc_view_Row_k1.eq_1, Y_unf cc_view_Row_k2.eq_1, Y_unf cc_view_Row_k3.eq_1, Y_unf cc_view_Row_k4.eq_1, Y_unf cc_view_Row_k5.eq_1, Y_unf cc_view_Row_k6.eq_1, Y_unf cc_view_Row_l7.eq_1, Y_unf cc_view_Row_k8.eq_1, Y_unf cc_view_Row_k9.eq_1, Y_unf cc_view_Row_k10.eq_1, Y_unf cc_view_Row.eq_1]
    refine Lp_unroll 1 ?_
    simp only [wk, wd, UInt8.reduceToNat, reduceIte, reduceCtorEq, Nat.reduceEqDiff, Nat.reduceAdd, Nat.reduceMul, Nat.reduceSub, Nat.reduceLeDiff, Int.reduceNeg, Int.reduceAdd, Int.reduceSub, Int.reduceMul, Int.reduceLT, Int.reduceLE, Int.reduceEq, Int.reduceToNat, Nat.reduceBEq, Nat.reduceLT, Y_unf cc_view_Row_k0.eq_1, Y_unf cc_view_Row_k1.eq_1, Y_unf cc_view_Row_k2.eq_1, Y_unf cc_view_Row_k3.eq_1, Y_unf cc_view_Row_k4.eq_1, Y_unf cc_view_Row_k5.eq_1, Y_unf cc_view_Row_k6.eq_1, Y_unf cc_view_Row_l7.eq_1, Y_unf cc_view_Row_k8.eq_1, Y_unf cc_view_Row_k9.eq_1, Y_unf cc_view_Row_k10.eq_1, Y_unf cc_view_Row.eq_1]
    simpa [rowGo] using h
  · simp only [List.length_map, Nat.mul_one] at hn
    subst hn
    refine calls_of_Y e_view_Row rfl ?_; simp only [tm0_0, tm0_1, tm0_2, tm0_3, tm0_4, tm0_5, tm0_6, wk, wd, UInt8.reduceToNat, reduceIte, reduceCtorEq, Nat.reduceEqDiff, Nat.reduceAdd, Nat.reduceMul, Nat.reduceSub, Nat.reduceLeDiff, Int.reduceNeg, Int.reduceAdd, Int.reduceSub, Int.reduceMul, Int.reduceLT, Int.reduceLE, Int.reduceEq, Int.reduceToNat, Nat.reduceBEq, Nat.reduceLT, Y_unf cc_view_Row_k0.eq_1, Y_unf cc_view_Row_k1.eq_1, Y_unf cc_view_Row_k2.eq_1, Y_unf cc_view_Row_k3.eq_1, Y_unf cc_view_Row_k4.eq_1, Y_unf cc_view_Row_k5.eq_1, Y_unf cc_view_Row_k6.eq_1, Y_unf cc_view_Row_l7.eq_1, Y_unf cc_view_Row_k8.eq_1, Y_unf cc_view_Row_k9.eq_1, Y_unf cc_view_Row_k10.eq_1, Y_unf cc_view_Row.eq_1]
    refine Lp_of (α := Nat × Int × List Int) (fun a tm σ' => σ' = σ ∧ l.drop a.1 = a.2.2 ∧ a.1 ≤ l.length ∧ rowGo a.2.1 a.2.2 = rowGo 0 l ∧ tm 3 = .int .i64 a.2.1 ∧ tm 6 = .list (l.map aI) l.length cap ∧ tm 7 = .int .i64 l.length ∧ tm 8 = .int .i64 a.1 ∧ tm 23 = .tup [])
      (fun a => a.2.2.length) (a := (0, 0, l)) ⟨rfl, by simp, by simp, rfl, rfl, rfl, rfl, rfl, rfl⟩ ?_
    rintro J hJ ⟨i, last, rest⟩ tm σ' ⟨rfl, hd, hi, hr, h3, h6, h7, h8, h23⟩
    simp only at hd hi hr h3 h8
    cases rest with
    | nil =>
      have := drop_nil hd hi
      have hlt : ((i : Int) < l.length) = False := by simp; omega
      simp only [wk, wd, UInt8.reduceToNat, reduceIte, reduceCtorEq, Nat.reduceEqDiff, Nat.reduceAdd, Nat.reduceMul, Nat.reduceSub, Nat.reduceLeDiff, Int.reduceNeg, Int.reduceAdd, Int.reduceSub, Int.reduceMul, Int.reduceLT, Int.reduceLE, Int.reduceEq, Int.reduceToNat, Nat.reduceBEq, Nat.reduceLT, Y_unf cc_view_Row_k0.eq_1, Y_unf cc_view_Row_k1.eq_1, Y_unf cc_view_Row_k2.eq_1, Y_unf cc_view_Row_k3.eq_1, Y_unf cc_view_Row_k4.eq_1, Y_unf cc_view_Row_k5.eq_1, Y_unf cc_view_Row_k6.eq_1, Y_unf cc_view_Row_l7.eq_1, Y_unf cc_view_Row_k8.eq_1, Y_unf cc_view_Row_k9.eq_1, Y_unf cc_view_Row_k10.eq_1, Y_unf cc_view_Row.eq_1, h3, h6, h7, h8, h23, hlt]
      rw [← hr] at h
      exact h
    | cons p r =>
      obtain ⟨h1, h2, h4⟩ := drop_cons hd
      have hlt : ((i : Int) < l.length) = True := by simp; omega
      have hle : (i ≤ l.length) = True := by simp; omega
      have hdm : (l.map aI).drop i = .int .i64 p :: r.map aI := by rw [← List.map_drop, hd]; rfl
      have hw : IntKind.i64.wrap ((i : Int) + 1) = ((i + 1 : Nat) : Int) := by rw [wrap_i64 (by omega) (by omega)]; omega
      by_cases hp : p ≤ last
      · simp only [wk, wd, UInt8.reduceToNat, reduceIte, reduceCtorEq, Nat.reduceEqDiff, Nat.reduceAdd, Nat.reduceMul, Nat.reduceSub, Nat.reduceLeDiff, Int.reduceNeg, Int.reduceAdd, Int.reduceSub, Int.reduceMul, Int.reduceLT, Int.reduceLE, Int.reduceEq, Int.reduceToNat, Nat.reduceBEq, Nat.reduceLT, Y_unf cc_view_Row_k0.eq_1, Y_unf cc_view_Row_k1.eq_1, Y_unf cc_view_Row_k2.eq_1, Y_unf cc_view_Row_k3.eq_1, Y_unf cc_view_Row_k4.eq_1, Y_unf cc_view_Row_k5.eq_1, Y_unf cc_view_Row_k6.eq_1, Y_unf cc_view_Row_l7.eq_1, Y_unf cc_view_Row_k8.eq_1, Y_unf cc_view_Row_k9.eq_1, Y_unf cc_view_Row_k10.eq_1, Y_unf cc_view_Row.eq_1, h3, h6, h7, h8, h23, hlt, hle, hdm, List.length_map, hp]
        simp only [rowGo, hp, true_or, if_true] at hr
        rw [← hr] at h; exact h
      · by_cases hq : 8 < p
        · simp only [wk, wd, UInt8.reduceToNat, reduceIte, reduceCtorEq, Nat.reduceEqDiff, Nat.reduceAdd, Nat.reduceMul, Nat.reduceSub, Nat.reduceLeDiff, Int.reduceNeg, Int.reduceAdd, Int.reduceSub, Int.reduceMul, Int.reduceLT, Int.reduceLE, Int.reduceEq, Int.reduceToNat, Nat.reduceBEq, Nat.reduceLT, Y_unf cc_view_Row_k0.eq_1, Y_unf cc_view_Row_k1.eq_1, Y_unf cc_view_Row_k2.eq_1, Y_unf cc_view_Row_k3.eq_1, Y_unf cc_view_Row_k4.eq_1, Y_unf cc_view_Row_k5.eq_1, Y_unf cc_view_Row_k6.eq_1, Y_unf cc_view_Row_l7.eq_1, Y_unf cc_view_Row_k8.eq_1, Y_unf cc_view_Row_k9.eq_1, Y_unf cc_view_Row_k10.eq_1, Y_unf cc_view_Row.eq_1, h3, h6, h7, h8, h23, hlt, hle, hdm, List.length_map, hp, hq]
          simp only [rowGo, hq, or_true, if_true] at hr
          rw [← hr] at h; exact h
        · simp only [wk, wd, UInt8.reduceToNat, reduceIte, reduceCtorEq, Nat.reduceEqDiff, Nat.reduceAdd, Nat.reduceMul, Nat.reduceSub, Nat.reduceLeDiff, Int.reduceNeg, Int.reduceAdd, Int.reduceSub, Int.reduceMul, Int.reduceLT, Int.reduceLE, Int.reduceEq, Int.reduceToNat, Nat.reduceBEq, Nat.reduceLT, Y_unf cc_view_Row_k0.eq_1, Y_unf cc_view_Row_k1.eq_1, Y_unf cc_view_Row_k2.eq_1, Y_unf cc_view_Row_k3.eq_1, Y_unf cc_view_Row_k4.eq_1, Y_unf cc_view_Row_k5.eq_1, Y_unf cc_view_Row_k6.eq_1, Y_unf cc_view_Row_l7.eq_1, Y_unf cc_view_Row_k8.eq_1, Y_unf cc_view_Row_k9.eq_1, Y_unf cc_view_Row_k10.eq_1, Y_unf cc_view_Row.eq_1, h3, h6, h7, h8, h23, hlt, hle, hdm, List.length_map, hp, hq, hw]
          simp only [rowGo, hp, hq, or_self, if_false] at hr
          exact ⟨(i + 1, p, r), hJ _ _ _ ⟨rfl, h4, h1, hr, rfl, h6, h7, rfl, h23⟩, Nat.lt_succ_self _⟩

theorem c_isNaN (a : Int) : PureC prog F.cmp_isNaN_int [.int .i64 a] (.bool false) := by
  intro σ Q h
  refine calls_of_Y e_cmp_isNaN_int rfl ?_; simp only [tm0_0, tm0_1, tm0_2, tm0_3, tm0_4, tm0_5, tm0_6, wk, wd, UInt8.reduceToNat, reduceIte, reduceCtorEq, Nat.reduceEqDiff, Nat.reduceAdd, Nat.reduceMul, Nat.reduceSub, Nat.reduceLeDiff, Int.reduceNeg, Int.reduceAdd, Int.reduceSub, Int.reduceMul, Int.reduceLT, Int.reduceLE, Int.reduceEq, Int.reduceToNat, Nat.reduceBEq, Nat.reduceLT, Y_unf cc_cmp_isNaN_int_k0.eq_1, Y_unf cc_cmp_isNaN_int.eq_1]
  simpa using h
def cmpI (a b : Int) : Int := if a < b then -1 else if b < a then 1 else 0
theorem c_Compare (a b : Int) : PureC prog F.cmp_Compare_int [.int .i64 a, .int .i64 b] (.int .i64 (cmpI a b)) := by
  intro σ Q h
  refine calls_of_Y e_cmp_Compare_int rfl ?_; simp only [tm0_0, tm0_1, tm0_2, tm0_3, tm0_4, tm0_5, tm0_6, wk, wd, UInt8.reduceToNat, reduceIte, reduceCtorEq, Nat.reduceEqDiff, Nat.reduceAdd, Nat.reduceMul, Nat.reduceSub, Nat.reduceLeDiff, Int.reduceNeg, Int.reduceAdd, Int.reduceSub, Int.reduceMul, Int.reduceLT, Int.reduceLE, Int.reduceEq, Int.reduceToNat, Nat.reduceBEq, Nat.reduceLT, Y_unf cc_cmp_Compare_int_k0.eq_1, Y_unf cc_cmp_Compare_int_k1.eq_1, Y_unf cc_cmp_Compare_int_k2.eq_1, Y_unf cc_cmp_Compare_int_k3.eq_1, Y_unf cc_cmp_Compare_int_k4.eq_1, Y_unf cc_cmp_Compare_int_k5.eq_1, Y_unf cc_cmp_Compare_int_k6.eq_1, Y_unf cc_cmp_Compare_int_c7.eq_1, Y_unf cc_cmp_Compare_int_k8.eq_1, Y_unf cc_cmp_Compare_int_k9.eq_1, Y_unf cc_cmp_Compare_int_k10.eq_1, Y_unf cc_cmp_Compare_int_k11.eq_1, Y_unf cc_cmp_Compare_int.eq_1]
  refine Cl_pure0 (c_isNaN _) ?_; simp only [wk, wd, UInt8.reduceToNat, reduceIte, reduceCtorEq, Nat.reduceEqDiff, Nat.reduceAdd, Nat.reduceMul, Nat.reduceSub, Nat.reduceLeDiff, Int.reduceNeg, Int.reduceAdd, Int.reduceSub, Int.reduceMul, Int.reduceLT, Int.reduceLE, Int.reduceEq, Int.reduceToNat, Nat.reduceBEq, Nat.reduceLT, Y_unf cc_cmp_Compare_int_k0.eq_1, Y_unf cc_cmp_Compare_int_k1.eq_1, Y_unf cc_cmp_Compare_int_k2.eq_1, Y_unf cc_cmp_Compare_int_k3.eq_1, Y_unf cc_cmp_Compare_int_k4.eq_1, Y_unf cc_cmp_Compare_int_k5.eq_1, Y_unf cc_cmp_Compare_int_k6.eq_1, Y_unf cc_cmp_Compare_int_c7.eq_1, Y_unf cc_cmp_Compare_int_k8.eq_1, Y_unf cc_cmp_Compare_int_k9.eq_1, Y_unf cc_cmp_Compare_int_k10.eq_1, Y_unf cc_cmp_Compare_int_k11.eq_1, Y_unf cc_cmp_Compare_int.eq_1]
  refine Cl_pure0 (c_isNaN _) ?_; simp only [wk, wd, UInt8.reduceToNat, reduceIte, reduceCtorEq, Nat.reduceEqDiff, Nat.reduceAdd, Nat.reduceMul, Nat.reduceSub, Nat.reduceLeDiff, Int.reduceNeg, Int.reduceAdd, Int.reduceSub, Int.reduceMul, Int.reduceLT, Int.reduceLE, Int.reduceEq, Int.reduceToNat, Nat.reduceBEq, Nat.reduceLT, Y_unf cc_cmp_Compare_int_k0.eq_1, Y_unf cc_cmp_Compare_int_k1.eq_1, Y_unf cc_cmp_Compare_int_k2.eq_1, Y_unf cc_cmp_Compare_int_k3.eq_1, Y_unf cc_cmp_Compare_int_k4.eq_1, Y_unf cc_cmp_Compare_int_k5.eq_1, Y_unf cc_cmp_Compare_int_k6.eq_1, Y_unf cc_cmp_Compare_int_c7.eq_1, Y_unf cc_cmp_Compare_int_k8.eq_1, Y_unf cc_cmp_Compare_int_k9.eq_1, Y_unf cc_cmp_Compare_int_k10.eq_1, Y_unf cc_cmp_Compare_int_k11.eq_1, Y_unf cc_cmp_Compare_int.eq_1]
  by_cases h1 : a < b
  · simp only [wk, wd, UInt8.reduceToNat, reduceIte, reduceCtorEq, Nat.reduceEqDiff, Nat.reduceAdd, Nat.reduceMul, Nat.reduceSub, Nat.reduceLeDiff, Int.reduceNeg, Int.reduceAdd, Int.reduceSub, Int.reduceMul, Int.reduceLT, Int.reduceLE, Int.reduceEq, Int.reduceToNat, Nat.reduceBEq, Nat.reduceLT, Y_unf cc_cmp_Compare_int_k0.eq_1, Y_unf cc_cmp_Compare_int_k1.eq_1, Y_unf cc_cmp_Compare_int_k2.eq_1, Y_unf cc_cmp_Compare_int_k3.eq_1, Y_unf cc_cmp_Compare_int_k4.eq_1, Y_unf cc_cmp_Compare_int_k5.eq_1, Y_unf cc_cmp_Compare_int_k6.eq_1, Y_unf cc_cmp_Compare_int_c7.eq_1, Y_unf cc_cmp_Compare_int_k8.eq_1, Y_unf cc_cmp_Compare_int_k9.eq_1, Y_unf cc_cmp_Compare_int_k10.eq_1, Y_unf cc_cmp_Compare_int_k11.eq_1, Y_unf cc_cmp_Compare_int.eq_1, h1]
    simpa [cmpI, h1] using h
  · by_cases h2 : b < a
    · simp only [wk, wd, UInt8.reduceToNat, reduceIte, reduceCtorEq, Nat.reduceEqDiff, Nat.reduceAdd, Nat.reduceMul, Nat.reduceSub, Nat.reduceLeDiff, Int.reduceNeg, Int.reduceAdd, Int.reduceSub, Int.reduceMul, Int.reduceLT, Int.reduceLE, Int.reduceEq, Int.reduceToNat, Nat.reduceBEq, Nat.reduceLT, Y_unf cc_cmp_Compare_int_k0.eq_1, Y_unf cc_cmp_Compare_int_k1.eq_1, Y_unf cc_cmp_Compare_int_k2.eq_1, Y_unf cc_cmp_Compare_int_k3.eq_1, Y_unf cc_cmp_Compare_int_k4.eq_1, Y_unf cc_cmp_Compare_int_k5.eq_1, Y_unf cc_cmp_Compare_int_k6.eq_1, Y_unf cc_cmp_Compare_int_c7.eq_1, Y_unf cc_cmp_Compare_int_k8.eq_1, Y_unf cc_cmp_Compare_int_k9.eq_1, Y_unf cc_cmp_Compare_int_k10.eq_1, Y_unf cc_cmp_Compare_int_k11.eq_1, Y_unf cc_cmp_Compare_int.eq_1, h1, h2]
      simpa [cmpI, h1, h2] using h
    · simp only [wk, wd, UInt8.reduceToNat, reduceIte, reduceCtorEq, Nat.reduceEqDiff, Nat.reduceAdd, Nat.reduceMul, Nat.reduceSub, Nat.reduceLeDiff, Int.reduceNeg, Int.reduceAdd, Int.reduceSub, Int.reduceMul, Int.reduceLT, Int.reduceLE, Int.reduceEq, Int.reduceToNat, Nat.reduceBEq, Nat.reduceLT, Y_unf cc_cmp_Compare_int_k0.eq_1, Y_unf cc_cmp_Compare_int_k1.eq_1, Y_unf cc_cmp_Compare_int_k2.eq_1, Y_unf cc_cmp_Compare_int_k3.eq_1, Y_unf cc_cmp_Compare_int_k4.eq_1, Y_unf cc_cmp_Compare_int_k5.eq_1, Y_unf cc_cmp_Compare_int_k6.eq_1, Y_unf cc_cmp_Compare_int_c7.eq_1, Y_unf cc_cmp_Compare_int_k8.eq_1, Y_unf cc_cmp_Compare_int_k9.eq_1, Y_unf cc_cmp_Compare_int_k10.eq_1, Y_unf cc_cmp_Compare_int_k11.eq_1, Y_unf cc_cmp_Compare_int.eq_1, h1, h2]
      simpa [cmpI, h1, h2] using h
theorem c_Or2 (a b : Int) (cap : Option Nat) : PureC prog F.cmp_Or_int [.list [.int .i64 a, .int .i64 b] 2 cap] (.int .i64 (if a = 0 then b else a)) := by
  intro σ Q h
  have hw0 : IntKind.i64.wrap 1 = 1 := by decide
  have hw : IntKind.i64.wrap 2 = 2 := by decide
  refine calls_of_Y e_cmp_Or_int rfl ?_; simp only [tm0_0, tm0_1, tm0_2, tm0_3, tm0_4, tm0_5, tm0_6, wk, wd, UInt8.reduceToNat, reduceIte, reduceCtorEq, Nat.reduceEqDiff, Nat.reduceAdd, Nat.reduceMul, Nat.reduceSub, Nat.reduceLeDiff, Int.reduceNeg, Int.reduceAdd, Int.reduceSub, Int.reduceMul, Int.reduceLT, Int.reduceLE, Int.reduceEq, Int.reduceToNat, Nat.reduceBEq, Nat.reduceLT, Y_unf cc_cmp_Or_int_k0.eq_1, Y_unf cc_cmp_Or_int_k1.eq_1, Y_unf cc_cmp_Or_int_k2.eq_1, Y_unf cc_cmp_Or_int_k3.eq_1, Y_unf cc_cmp_Or_int_k4.eq_1, Y_unf cc_cmp_Or_int_l5.eq_1, Y_unf cc_cmp_Or_int_k6.eq_1, Y_unf cc_cmp_Or_int_k7.eq_1, Y_unf cc_cmp_Or_int_k8.eq_1, Y_unf cc_cmp_Or_int.eq_1]
  refine Lp_unroll 3 ?_
  simp only [wk, wd, UInt8.reduceToNat, reduceIte, reduceCtorEq, Nat.reduceEqDiff, Nat.reduceAdd, Nat.reduceMul, Nat.reduceSub, Nat.reduceLeDiff, Int.reduceNeg, Int.reduceAdd, Int.reduceSub, Int.reduceMul, Int.reduceLT, Int.reduceLE, Int.reduceEq, Int.reduceToNat, Nat.reduceBEq, Nat.reduceLT, Y_unf cc_cmp_Or_int_k0.eq_1, Y_unf cc_cmp_Or_int_k1.eq_1, Y_unf cc_cmp_Or_int_k2.eq_1, Y_unf cc_cmp_Or_int_k3.eq_1, Y_unf cc_cmp_Or_int_k4.eq_1, Y_unf cc_cmp_Or_int_l5.eq_1, Y_unf cc_cmp_Or_int_k6.eq_1, Y_unf cc_cmp_Or_int_k7.eq_1, Y_unf cc_cmp_Or_int_k8.eq_1, Y_unf cc_cmp_Or_int.eq_1]
  by_cases h1 : a = 0
  · simp only [wk, wd, UInt8.reduceToNat, reduceIte, reduceCtorEq, Nat.reduceEqDiff, Nat.reduceAdd, Nat.reduceMul, Nat.reduceSub, Nat.reduceLeDiff, Int.reduceNeg, Int.reduceAdd, Int.reduceSub, Int.reduceMul, Int.reduceLT, Int.reduceLE, Int.reduceEq, Int.reduceToNat, Nat.reduceBEq, Nat.reduceLT, Y_unf cc_cmp_Or_int_k0.eq_1, Y_unf cc_cmp_Or_int_k1.eq_1, Y_unf cc_cmp_Or_int_k2.eq_1, Y_unf cc_cmp_Or_int_k3.eq_1, Y_unf cc_cmp_Or_int_k4.eq_1, Y_unf cc_cmp_Or_int_l5.eq_1, Y_unf cc_cmp_Or_int_k6.eq_1, Y_unf cc_cmp_Or_int_k7.eq_1, Y_unf cc_cmp_Or_int_k8.eq_1, Y_unf cc_cmp_Or_int.eq_1, h1, ne_eq, hw0]
    by_cases h2 : b = 0
    · simp only [wk, wd, UInt8.reduceToNat, reduceIte, reduceCtorEq, Nat.reduceEqDiff, Nat.reduceAdd, Nat.reduceMul, Nat.reduceSub, Nat.reduceLeDiff, Int.reduceNeg, Int.reduceAdd, Int.reduceSub, Int.reduceMul, Int.reduceLT, Int.reduceLE, Int.reduceEq, Int.reduceToNat, Nat.reduceBEq, Nat.reduceLT, Y_unf cc_cmp_Or_int_k0.eq_1, Y_unf cc_cmp_Or_int_k1.eq_1, Y_unf cc_cmp_Or_int_k2.eq_1, Y_unf cc_cmp_Or_int_k3.eq_1, Y_unf cc_cmp_Or_int_k4.eq_1, Y_unf cc_cmp_Or_int_l5.eq_1, Y_unf cc_cmp_Or_int_k6.eq_1, Y_unf cc_cmp_Or_int_k7.eq_1, Y_unf cc_cmp_Or_int_k8.eq_1, Y_unf cc_cmp_Or_int.eq_1, h2, hw0, hw, ne_eq]
      simpa [h1, h2] using h
    · simp only [wk, wd, UInt8.reduceToNat, reduceIte, reduceCtorEq, Nat.reduceEqDiff, Nat.reduceAdd, Nat.reduceMul, Nat.reduceSub, Nat.reduceLeDiff, Int.reduceNeg, Int.reduceAdd, Int.reduceSub, Int.reduceMul, Int.reduceLT, Int.reduceLE, Int.reduceEq, Int.reduceToNat, Nat.reduceBEq, Nat.reduceLT, Y_unf cc_cmp_Or_int_k0.eq_1, Y_unf cc_cmp_Or_int_k1.eq_1, Y_unf cc_cmp_Or_int_k2.eq_1, Y_unf cc_cmp_Or_int_k3.eq_1, Y_unf cc_cmp_Or_int_k4.eq_1, Y_unf cc_cmp_Or_int_l5.eq_1, Y_unf cc_cmp_Or_int_k6.eq_1, Y_unf cc_cmp_Or_int_k7.eq_1, Y_unf cc_cmp_Or_int_k8.eq_1, Y_unf cc_cmp_Or_int.eq_1, h2, hw0, hw, ne_eq]
      simpa [h1, h2] using h
  · simp only [wk, wd, UInt8.reduceToNat, reduceIte, reduceCtorEq, Nat.reduceEqDiff, Nat.reduceAdd, Nat.reduceMul, Nat.reduceSub, Nat.reduceLeDiff, Int.reduceNeg, Int.reduceAdd, Int.reduceSub, Int.reduceMul, Int.reduceLT, Int.reduceLE, Int.reduceEq, Int.reduceToNat, Nat.reduceBEq, Nat.reduceLT, Y_unf cc_cmp_Or_int_k0.eq_1, Y_unf cc_cmp_Or_int_k1.eq_1, Y_unf cc_cmp_Or_int_k2.eq_1, Y_unf cc_cmp_Or_int_k3.eq_1, Y_unf cc_cmp_Or_int_k4.eq_1, Y_unf cc_cmp_Or_int_l5.eq_1, Y_unf cc_cmp_Or_int_k6.eq_1, Y_unf cc_cmp_Or_int_k7.eq_1, Y_unf cc_cmp_Or_int_k8.eq_1, Y_unf cc_cmp_Or_int.eq_1, h1, ne_eq]
    simpa [h1] using h

theorem c_sHasPrefix (s p : Bs) : PureC prog F.internal_stringslite_HasPrefix [.str s, .str p] (.bool (p.isPrefixOf s)) := by
  intro σ Q h
  refine calls_of_Y e_internal_stringslite_HasPrefix rfl ?_; simp only [tm0_0, tm0_1, tm0_2, tm0_3, tm0_4, tm0_5, tm0_6, wk, wd, UInt8.reduceToNat, reduceIte, reduceCtorEq, Nat.reduceEqDiff, Nat.reduceAdd, Nat.reduceMul, Nat.reduceSub, Nat.reduceLeDiff, Int.reduceNeg, Int.reduceAdd, Int.reduceSub, Int.reduceMul, Int.reduceLT, Int.reduceLE, Int.reduceEq, Int.reduceToNat, Nat.reduceBEq, Nat.reduceLT, Y_unf cc_internal_stringslite_HasPrefix_k0.eq_1, Y_unf cc_internal_stringslite_HasPrefix.eq_1]
  by_cases h1 : p.length ≤ s.length
  · have h2 : ((p.length : Int) ≤ s.length) = True := by simp; omega
    have h1' : evSubstr s (some 0) (some (p.length : Int)) = some (.str (s.take p.length)) := by have := evSub_nat (s := s) (Nat.zero_le _) h1; simpa using this
    simp only [wk, wd, UInt8.reduceToNat, reduceIte, reduceCtorEq, Nat.reduceEqDiff, Nat.reduceAdd, Nat.reduceMul, Nat.reduceSub, Nat.reduceLeDiff, Int.reduceNeg, Int.reduceAdd, Int.reduceSub, Int.reduceMul, Int.reduceLT, Int.reduceLE, Int.reduceEq, Int.reduceToNat, Nat.reduceBEq, Nat.reduceLT, Y_unf cc_internal_stringslite_HasPrefix_k0.eq_1, Y_unf cc_internal_stringslite_HasPrefix.eq_1, h2, h1']
    have h3 : decide (List.take p.length s = p) = p.isPrefixOf s := by
      rw [Bool.eq_iff_iff]; simp only [decide_eq_true_eq, List.isPrefixOf_iff_prefix]
      constructor
      · intro he; rw [← he]; exact List.take_prefix _ _
      · intro he; exact (List.prefix_iff_eq_take.1 he).symm
    rw [h3]; exact h
  · have h2 : ((p.length : Int) ≤ s.length) = False := by simp; omega
    simp only [wk, wd, UInt8.reduceToNat, reduceIte, reduceCtorEq, Nat.reduceEqDiff, Nat.reduceAdd, Nat.reduceMul, Nat.reduceSub, Nat.reduceLeDiff, Int.reduceNeg, Int.reduceAdd, Int.reduceSub, Int.reduceMul, Int.reduceLT, Int.reduceLE, Int.reduceEq, Int.reduceToNat, Nat.reduceBEq, Nat.reduceLT, Y_unf cc_internal_stringslite_HasPrefix_k0.eq_1, Y_unf cc_internal_stringslite_HasPrefix.eq_1, h2]
    have h3 : p.isPrefixOf s = false := by
      rw [Bool.eq_false_iff]; intro he
      exact h1 (List.isPrefixOf_iff_prefix.1 he).length_le
    rw [h3] at h; exact h
theorem c_HasPrefix (s p : Bs) : PureC prog F.strings_HasPrefix [.str s, .str p] (.bool (p.isPrefixOf s)) := by
  intro σ Q h
  refine calls_of_Y e_strings_HasPrefix rfl ?_; simp only [tm0_0, tm0_1, tm0_2, tm0_3, tm0_4, tm0_5, tm0_6, wk, wd, UInt8.reduceToNat, reduceIte, reduceCtorEq, Nat.reduceEqDiff, Nat.reduceAdd, Nat.reduceMul, Nat.reduceSub, Nat.reduceLeDiff, Int.reduceNeg, Int.reduceAdd, Int.reduceSub, Int.reduceMul, Int.reduceLT, Int.reduceLE, Int.reduceEq, Int.reduceToNat, Nat.reduceBEq, Nat.reduceLT, Y_unf cc_strings_HasPrefix_k0.eq_1, Y_unf cc_strings_HasPrefix.eq_1]
  refine Cl_pure0 (c_sHasPrefix _ _) ?_; simp only [wk, wd, UInt8.reduceToNat, reduceIte, reduceCtorEq, Nat.reduceEqDiff, Nat.reduceAdd, Nat.reduceMul, Nat.reduceSub, Nat.reduceLeDiff, Int.reduceNeg, Int.reduceAdd, Int.reduceSub, Int.reduceMul, Int.reduceLT, Int.reduceLE, Int.reduceEq, Int.reduceToNat, Nat.reduceBEq, Nat.reduceLT, Y_unf cc_strings_HasPrefix_k0.eq_1, Y_unf cc_strings_HasPrefix.eq_1]
  exact h

def idxGo (p : Int) (i : Nat) : List Int → Int
  | [] => -1
  | x :: r => if p = x then i else idxGo p (i + 1) r
theorem c_Index {l : List Int} {v : AV} (hv : Ints l v) (p : Int) (hl : l.length < 4611686018427387904) : PureC prog F.slices_Index_Lint_int [v, .int .i64 p] (.int .i64 (idxGo p 0 l)) := by
  intro σ Q h
  rcases hv with ⟨rfl, hn⟩ | ⟨n, cap, rfl, hn⟩
  · obtain rfl : l = [] := by simpa using hn
    refine calls_of_Y e_slices_Index_Lint_int rfl ?_; simp only [tm0_0, tm0_1, tm0_2, tm0_3, tm0_4, tm0_5, tm0_6, wk, wd, UInt8.reduceToNat, reduceIte, reduceCtorEq, Nat.reduceEqDiff, Nat.reduceAdd, Nat.reduceMul, Nat.reduceSub, Nat.reduceLeDiff, Int.reduceNeg, Int.reduceAdd, Int.reduceSub, Int.reduceMul, Int.reduceLT, Int.reduceLE, Int.reduceEq, Int.reduceToNat, Nat.reduceBEq, Nat.reduceLT, Y_unf cc_slices_Index_Lint_int_k0.eq_1, Y_unf cc_slices_Index_Lint_int_k1.eq_1, Y_unf cc_slices_Index_Lint_int_k2.eq_1, Y_unf cc_slices_Index_Lint_int_k3.eq_1, Y_unf cc_slices_Index_Lint_int_k4.eq_1, Y_unf cc_slices_Index_Lint_int_l5.eq_1, Y_unf cc_slices_Index_Lint_int_k6.eq_1, Y_unf cc_slices_Index_Lint_int_k7.eq_1, Y_unf cc_slices_Index_Lint_int.eq_1]
    refine Lp_unroll 1 ?_
    simp only [wk, wd, UInt8.reduceToNat, reduceIte, reduceCtorEq, Nat.reduceEqDiff, Nat.reduceAdd, Nat.reduceMul, Nat.reduceSub, Nat.reduceLeDiff, Int.reduceNeg, Int.reduceAdd, Int.reduceSub, Int.reduceMul, Int.reduceLT, Int.reduceLE, Int.reduceEq, Int.reduceToNat, Nat.reduceBEq, Nat.reduceLT, Y_unf cc_slices_Index_Lint_int_k0.eq_1, Y_unf cc_slices_Index_Lint_int_k1.eq_1, Y_unf cc_slices_Index_Lint_int_k2.eq_1, Y_unf cc_slices_Index_Lint_int_k3.eq_1, Y_unf cc_slices_Index_Lint_int_k4.eq_1, Y_unf cc_slices_Index_Lint_int_l5.eq_1, Y_unf cc_slices_Index_Lint_int_k6.eq_1, Y_unf cc_slices_Index_Lint_int_k7.eq_1, Y_unf cc_slices_Index_Lint_int.eq_1]
    exact h
  · simp only [List.length_map, Nat.mul_one] at hn
    subst hn
    refine calls_of_Y e_slices_Index_Lint_int rfl ?_; simp only [tm0_0, tm0_1, tm0_2, tm0_3, tm0_4, tm0_5, tm0_6, wk, wd, UInt8.reduceToNat, reduceIte, reduceCtorEq, Nat.reduceEqDiff, Nat.reduceAdd, Nat.reduceMul, Nat.reduceSub, Nat.reduceLeDiff, Int.reduceNeg, Int.reduceAdd, Int.reduceSub, Int.reduceMul, Int.reduceLT, Int.reduceLE, Int.reduceEq, Int.reduceToNat, Nat.reduceBEq, Nat.reduceLT, Y_unf cc_slices_Index_Lint_int_k0.eq_1, Y_unf cc_slices_Index_Lint_int_k1.eq_1, Y_unf cc_slices_Index_Lint_int_k2.eq_1, Y_unf cc_slices_Index_Lint_int_k3.eq_1, Y_unf cc_slices_Index_Lint_int_k4.eq_1, Y_unf cc_slices_Index_Lint_int_l5.eq_1, Y_unf cc_slices_Index_Lint_int_k6.eq_1, Y_unf cc_slices_Index_Lint_int_k7.eq_1, Y_unf cc_slices_Index_Lint_int.eq_1]
    refine Lp_of (α := Nat × List Int) (fun a tm σ' => σ' = σ ∧ l.drop a.1 = a.2 ∧ a.1 ≤ l.length ∧ idxGo p a.1 a.2 = idxGo p 0 l ∧ tm 0 = .list (l.map aI) l.length cap ∧ tm 1 = .int .i64 p ∧ tm 7 = .int .i64 l.length ∧ tm 8 = .int .i64 a.1 ∧ tm 19 = .tup [])
      (fun a => a.2.length) (a := (0, l)) ⟨rfl, by simp, by simp, rfl, rfl, rfl, rfl, rfl, rfl⟩ ?_
    rintro J hJ ⟨i, rest⟩ tm σ' ⟨rfl, hd, hi, hr, h0, h1, h7, h8, h19⟩
    simp only at hd hi hr h8
    cases rest with
    | nil =>
      have := drop_nil hd hi
      have hlt : ((i : Int) < l.length) = False := by simp; omega
      simp only [wk, wd, UInt8.reduceToNat, reduceIte, reduceCtorEq, Nat.reduceEqDiff, Nat.reduceAdd, Nat.reduceMul, Nat.reduceSub, Nat.reduceLeDiff, Int.reduceNeg, Int.reduceAdd, Int.reduceSub, Int.reduceMul, Int.reduceLT, Int.reduceLE, Int.reduceEq, Int.reduceToNat, Nat.reduceBEq, Nat.reduceLT, Y_unf cc_slices_Index_Lint_int_k0.eq_1, Y_unf cc_slices_Index_Lint_int_k1.eq_1, Y_unf cc_slices_Index_Lint_int_k2.eq_1, Y_unf cc_slices_Index_Lint_int_k3.eq_1, Y_unf cc_slices_Index_Lint_int_k4.eq_1, Y_unf cc_slices_Index_Lint_int_l5.eq_1, Y_unf cc_slices_Index_Lint_int_k6.eq_1, Y_unf cc_slices_Index_Lint_int_k7.eq_1, Y_unf cc_slices_Index_Lint_int.eq_1, h0, h1, h7, h8, h19, hlt]
      rw [← hr] at h
      exact h
    | cons x r =>
      obtain ⟨h1', h2, h4⟩ := drop_cons hd
      have hlt : ((i : Int) < l.length) = True := by simp; omega
      have hle : (i ≤ l.length) = True := by simp; omega
      have hdm : (l.map aI).drop i = .int .i64 x :: r.map aI := by rw [← List.map_drop, hd]; rfl
      have hw : IntKind.i64.wrap ((i : Int) + 1) = ((i + 1 : Nat) : Int) := by rw [wrap_i64 (by omega) (by omega)]; omega
      by_cases hp : p = x
      · simp only [wk, wd, UInt8.reduceToNat, reduceIte, reduceCtorEq, Nat.reduceEqDiff, Nat.reduceAdd, Nat.reduceMul, Nat.reduceSub, Nat.reduceLeDiff, Int.reduceNeg, Int.reduceAdd, Int.reduceSub, Int.reduceMul, Int.reduceLT, Int.reduceLE, Int.reduceEq, Int.reduceToNat, Nat.reduceBEq, Nat.reduceLT, Y_unf cc_slices_Index_Lint_int_k0.eq_1, Y_unf cc_slices_Index_Lint_int_k1.eq_1, Y_unf cc_slices_Index_Lint_int_k2.eq_1, Y_unf cc_slices_Index_Lint_int_k3.eq_1, Y_unf cc_slices_Index_Lint_int_k4.eq_1, Y_unf cc_slices_Index_Lint_int_l5.eq_1, Y_unf cc_slices_Index_Lint_int_k6.eq_1, Y_unf cc_slices_Index_Lint_int_k7.eq_1, Y_unf cc_slices_Index_Lint_int.eq_1, h0, h1, h7, h8, h19, hlt, hle, hdm, List.length_map, hp]
        simp only [idxGo, hp, if_true] at hr
        rw [hp, ← hr] at h; exact h
      · simp only [wk, wd, UInt8.reduceToNat, reduceIte, reduceCtorEq, Nat.reduceEqDiff, Nat.reduceAdd, Nat.reduceMul, Nat.reduceSub, Nat.reduceLeDiff, Int.reduceNeg, Int.reduceAdd, Int.reduceSub, Int.reduceMul, Int.reduceLT, Int.reduceLE, Int.reduceEq, Int.reduceToNat, Nat.reduceBEq, Nat.reduceLT, Y_unf cc_slices_Index_Lint_int_k0.eq_1, Y_unf cc_slices_Index_Lint_int_k1.eq_1, Y_unf cc_slices_Index_Lint_int_k2.eq_1, Y_unf cc_slices_Index_Lint_int_k3.eq_1, Y_unf cc_slices_Index_Lint_int_k4.eq_1, Y_unf cc_slices_Index_Lint_int_l5.eq_1, Y_unf cc_slices_Index_Lint_int_k6.eq_1, Y_unf cc_slices_Index_Lint_int_k7.eq_1, Y_unf cc_slices_Index_Lint_int.eq_1, h0, h1, h7, h8, h19, hlt, hle, hdm, List.length_map, hp, hw]
        simp only [idxGo, hp, if_false] at hr
        exact ⟨(i + 1, r), hJ _ _ _ ⟨rfl, h4, h1', hr, h0, h1, h7, rfl, h19⟩, Nat.lt_succ_self _⟩
theorem idxGo_mem {p : Int} : ∀ {l : List Int} {i : Nat}, decide (0 ≤ idxGo p i l) = decide (p ∈ l)
  | [], i => by simp [idxGo]
  | x :: r, i => by
    simp only [idxGo]
    by_cases h : p = x
    · simp [h]
    · simp only [if_neg h]; rw [idxGo_mem]; simp [h]
theorem c_Contains {l : List Int} {v : AV} (hv : Ints l v) (p : Int) (hl : l.length < 4611686018427387904) : PureC prog F.slices_Contains_Lint_int [v, .int .i64 p] (.bool (decide (p ∈ l))) := by
  intro σ Q h
  refine calls_of_Y e_slices_Contains_Lint_int rfl ?_; simp only [tm0_0, tm0_1, tm0_2, tm0_3, tm0_4, tm0_5, tm0_6, wk, wd, UInt8.reduceToNat, reduceIte, reduceCtorEq, Nat.reduceEqDiff, Nat.reduceAdd, Nat.reduceMul, Nat.reduceSub, Nat.reduceLeDiff, Int.reduceNeg, Int.reduceAdd, Int.reduceSub, Int.reduceMul, Int.reduceLT, Int.reduceLE, Int.reduceEq, Int.reduceToNat, Nat.reduceBEq, Nat.reduceLT, Y_unf cc_slices_Contains_Lint_int_k0.eq_1, Y_unf cc_slices_Contains_Lint_int.eq_1]
  refine Cl_pure0 (c_Index hv _ hl) ?_; simp only [wk, wd, UInt8.reduceToNat, reduceIte, reduceCtorEq, Nat.reduceEqDiff, Nat.reduceAdd, Nat.reduceMul, Nat.reduceSub, Nat.reduceLeDiff, Int.reduceNeg, Int.reduceAdd, Int.reduceSub, Int.reduceMul, Int.reduceLT, Int.reduceLE, Int.reduceEq, Int.reduceToNat, Nat.reduceBEq, Nat.reduceLT, Y_unf cc_slices_Contains_Lint_int_k0.eq_1, Y_unf cc_slices_Contains_Lint_int.eq_1]
  rw [idxGo_mem]; exact h
theorem c_Has {l : List Int} {v : AV} (hv : Ints l v) (p : Int) (hl : l.length < 4611686018427387904) : PureC prog F.view_Has [v, .int .i64 p] (.bool (decide (p ∈ l))) := by
  intro σ Q h
  refine calls_of_Y e_view_Has rfl ?_; simp only [tm0_0, tm0_1, tm0_2, tm0_3, tm0_4, tm0_5, tm0_6, wk, wd, UInt8.reduceToNat, reduceIte, reduceCtorEq, Nat.reduceEqDiff, Nat.reduceAdd, Nat.reduceMul, Nat.reduceSub, Nat.reduceLeDiff, Int.reduceNeg, Int.reduceAdd, Int.reduceSub, Int.reduceMul, Int.reduceLT, Int.reduceLE, Int.reduceEq, Int.reduceToNat, Nat.reduceBEq, Nat.reduceLT, Y_unf cc_view_Has_k0.eq_1, Y_unf cc_view_Has.eq_1]
  refine Cl_pure0 (c_Contains hv _ hl) ?_; simp only [wk, wd, UInt8.reduceToNat, reduceIte, reduceCtorEq, Nat.reduceEqDiff, Nat.reduceAdd, Nat.reduceMul, Nat.reduceSub, Nat.reduceLeDiff, Int.reduceNeg, Int.reduceAdd, Int.reduceSub, Int.reduceMul, Int.reduceLT, Int.reduceLE, Int.reduceEq, Int.reduceToNat, Nat.reduceBEq, Nat.reduceLT, Y_unf cc_view_Has_k0.eq_1, Y_unf cc_view_Has.eq_1]
  exact h
end Go.Proofs.Tryd
namespace Go.Proofs
open Go.Shelf
def Tryd.laysItoa_ren : Go.Shelf.Ren := ⟨fun | 171 => 21 | 243 => 36 | 246 => 53 | 283 => 72 | 284 => 73 | 285 => 74 | 286 => 75 | 129 => 63 | 317 => 93 | 318 => 94 | 319 => 95 | 320 => 96 | 337 => 101 | 338 => 102 | n => n, fun | 3 => 3 | 9 => 9 | 2 => 2 | 4 => 4 | 171 => 91 | 0 => 0 | 53 => 84 | 37 => 93 | 5 => 5 | 173 => 94 | 212 => 109 | 51 => 82 | 20 => 20 | 213 => 110 | 46 => 65 | 232 => 117 | 233 => 118 | n => n, fun | 17 => 1 | 18 => 2 | 19 => 3 | n => n⟩
theorem Tryd.laysItoa : Go.Proofs.Lays.n171 Tryd.prog Tryd.laysItoa_ren := {
  mixed := by kernel_rfl
  f129 := Tryd.func63.trans (congrArg some (by kernel_rfl))
  f171 := Tryd.func21.trans (congrArg some (by kernel_rfl))
  f243 := Tryd.func36.trans (congrArg some (by kernel_rfl))
  f246 := Tryd.func53.trans (congrArg some (by kernel_rfl))
  f283 := Tryd.func72.trans (congrArg some (by kernel_rfl))
  f284 := Tryd.func73.trans (congrArg some (by kernel_rfl))
  f285 := Tryd.func74.trans (congrArg some (by kernel_rfl))
  f286 := Tryd.func75.trans (congrArg some (by kernel_rfl))
  f317 := Tryd.func93.trans (congrArg some (by kernel_rfl))
  f318 := Tryd.func94.trans (congrArg some (by kernel_rfl))
  f319 := Tryd.func95.trans (congrArg some (by kernel_rfl))
  f320 := Tryd.func96.trans (congrArg some (by kernel_rfl))
  f337 := Tryd.func101.trans (congrArg some (by kernel_rfl))
  f338 := Tryd.func102.trans (congrArg some (by kernel_rfl))
  t0 := Tryd.underlying0
  a0 := Tryd.isAgg0
  z0 := Tryd.sizeOf0
  v0 := Tryd.zeroValue0
  t2 := Tryd.underlying2
  a2 := Tryd.isAgg2
  z2 := Tryd.sizeOf2
  v2 := Tryd.zeroValue2
  t3 := Tryd.underlying3
  a3 := Tryd.isAgg3
  z3 := Tryd.sizeOf3
  v3 := Tryd.zeroValue3
  t4 := Tryd.underlying4
  a4 := Tryd.isAgg4
  z4 := Tryd.sizeOf4
  v4 := Tryd.zeroValue4
  t5 := Tryd.underlying5
  a5 := Tryd.isAgg5
  z5 := Tryd.sizeOf5
  v5 := Tryd.zeroValue5
  t9 := Tryd.underlying9
  a9 := Tryd.isAgg9
  z9 := Tryd.sizeOf9
  v9 := Tryd.zeroValue9
  t20 := Tryd.underlying20
  a20 := Tryd.isAgg20
  z20 := Tryd.sizeOf20
  v20 := Tryd.zeroValue20
  t37 := Tryd.underlying93
  a37 := Tryd.isAgg93
  z37 := Tryd.sizeOf93
  v37 := Tryd.zeroValue93
  t46 := Tryd.underlying65
  a46 := Tryd.isAgg65
  z46 := Tryd.sizeOf65
  v46 := Tryd.zeroValue65
  t51 := Tryd.underlying82
  a51 := Tryd.isAgg82
  z51 := Tryd.sizeOf82
  v51 := Tryd.zeroValue82
  t53 := Tryd.underlying84
  a53 := Tryd.isAgg84
  z53 := Tryd.sizeOf84
  v53 := Tryd.zeroValue84
  t171 := Tryd.underlying91
  a171 := Tryd.isAgg91
  z171 := Tryd.sizeOf91
  v171 := Tryd.zeroValue91
  t173 := Tryd.underlying94
  a173 := Tryd.isAgg94
  z173 := Tryd.sizeOf94
  v173 := Tryd.zeroValue94
  t212 := Tryd.underlying109
  a212 := Tryd.isAgg109
  z212 := Tryd.sizeOf109
  v212 := Tryd.zeroValue109
  t213 := Tryd.underlying110
  a213 := Tryd.isAgg110
  z213 := Tryd.sizeOf110
  t232 := Tryd.underlying117
  a232 := Tryd.isAgg117
  z232 := Tryd.sizeOf117
  v232 := Tryd.zeroValue117
  t233 := Tryd.underlying118
  a233 := Tryd.isAgg118
  z233 := Tryd.sizeOf118
  v233 := Tryd.zeroValue118
  g17 := by kernel_rfl
  g18 := by kernel_rfl
  g19 := by kernel_rfl }
def Tryd.laysCompare_ren : Go.Shelf.Ren := ⟨fun | 106 => 43 | 213 => 65 | 265 => 81 | n => n, fun | 9 => 9 | 3 => 3 | n => n, fun | n => n⟩
theorem Tryd.laysCompare : Go.Proofs.Lays.n106 Tryd.prog Tryd.laysCompare_ren := {
  mixed := by kernel_rfl
  f106 := Tryd.func43.trans (congrArg some (by kernel_rfl))
  f213 := Tryd.func65.trans (congrArg some (by kernel_rfl))
  f265 := Tryd.func81.trans (congrArg some (by kernel_rfl))
  t3 := Tryd.underlying3
  a3 := Tryd.isAgg3
  z3 := Tryd.sizeOf3
  v3 := Tryd.zeroValue3
  t9 := Tryd.underlying9
  a9 := Tryd.isAgg9
  z9 := Tryd.sizeOf9
  v9 := Tryd.zeroValue9 }
def Tryd.laysLen_ren : Go.Shelf.Ren := ⟨fun | 125 => 40 | 128 => 62 | 129 => 63 | n => n, fun | 46 => 65 | 3 => 3 | 51 => 82 | 53 => 84 | 4 => 4 | 5 => 5 | 9 => 9 | n => n, fun | n => n⟩
theorem Tryd.laysLen : Go.Proofs.Lays.n125 Tryd.prog Tryd.laysLen_ren := {
  mixed := by kernel_rfl
  f125 := Tryd.func40.trans (congrArg some (by kernel_rfl))
  f128 := Tryd.func62.trans (congrArg some (by kernel_rfl))
  f129 := Tryd.func63.trans (congrArg some (by kernel_rfl))
  t3 := Tryd.underlying3
  a3 := Tryd.isAgg3
  z3 := Tryd.sizeOf3
  v3 := Tryd.zeroValue3
  t4 := Tryd.underlying4
  a4 := Tryd.isAgg4
  z4 := Tryd.sizeOf4
  v4 := Tryd.zeroValue4
  t5 := Tryd.underlying5
  a5 := Tryd.isAgg5
  z5 := Tryd.sizeOf5
  v5 := Tryd.zeroValue5
  t9 := Tryd.underlying9
  a9 := Tryd.isAgg9
  z9 := Tryd.sizeOf9
  v9 := Tryd.zeroValue9
  t46 := Tryd.underlying65
  a46 := Tryd.isAgg65
  z46 := Tryd.sizeOf65
  v46 := Tryd.zeroValue65
  t51 := Tryd.underlying82
  a51 := Tryd.isAgg82
  z51 := Tryd.sizeOf82
  v51 := Tryd.zeroValue82
  t53 := Tryd.underlying84
  a53 := Tryd.isAgg84
  z53 := Tryd.sizeOf84
  v53 := Tryd.zeroValue84 }
def Tryd.laysSort_ren : Go.Shelf.Ren := ⟨fun | 6 => 24 | 15 => 40 | 14 => 39 | 28 => 62 | 29 => 63 | 20 => 54 | 21 => 55 | 22 => 56 | 23 => 57 | 24 => 58 | 25 => 59 | 26 => 60 | 27 => 61 | 46 => 76 | 47 => 77 | 48 => 78 | 49 => 79 | 50 => 80 | 57 => 97 | n => n, fun | 22 => 29 | 24 => 9 | 25 => 49 | 3 => 3 | 39 => 65 | 0 => 0 | 53 => 82 | 55 => 84 | 4 => 4 | 46 => 75 | 45 => 74 | 50 => 79 | 5 => 5 | 9 => 9 | 66 => 96 | 70 => 100 | 76 => 111 | 77 => 112 | n => n, fun | n => n⟩
theorem Tryd.laysSort : Go.Proofs.SlLaysF.n6 Tryd.prog Tryd.laysSort_ren := {
  mixed := by kernel_rfl
  f6 := ⟨Tryd.f24.name, by decide, Tryd.func24.trans (congrArg some (by kernel_rfl))⟩
  f14 := ⟨Tryd.f39.name, by decide, Tryd.func39.trans (congrArg some (by kernel_rfl))⟩
  f15 := Tryd.func40.trans (congrArg some (by kernel_rfl))
  f20 := ⟨Tryd.f54.name, by decide, Tryd.func54.trans (congrArg some (by kernel_rfl))⟩
  f21 := ⟨Tryd.f55.name, by decide, Tryd.func55.trans (congrArg some (by kernel_rfl))⟩
  f22 := ⟨Tryd.f56.name, by decide, Tryd.func56.trans (congrArg some (by kernel_rfl))⟩
  f23 := ⟨Tryd.f57.name, by decide, Tryd.func57.trans (congrArg some (by kernel_rfl))⟩
  f24 := ⟨Tryd.f58.name, by decide, Tryd.func58.trans (congrArg some (by kernel_rfl))⟩
  f25 := ⟨Tryd.f59.name, by decide, Tryd.func59.trans (congrArg some (by kernel_rfl))⟩
  f26 := ⟨Tryd.f60.name, by decide, Tryd.func60.trans (congrArg some (by kernel_rfl))⟩
  f27 := ⟨Tryd.f61.name, by decide, Tryd.func61.trans (congrArg some (by kernel_rfl))⟩
  f28 := Tryd.func62.trans (congrArg some (by kernel_rfl))
  f29 := Tryd.func63.trans (congrArg some (by kernel_rfl))
  f46 := ⟨Tryd.f76.name, by decide, Tryd.func76.trans (congrArg some (by kernel_rfl))⟩
  f47 := Tryd.func77.trans (congrArg some (by kernel_rfl))
  f48 := Tryd.func78.trans (congrArg some (by kernel_rfl))
  f49 := ⟨Tryd.f79.name, by decide, Tryd.func79.trans (congrArg some (by kernel_rfl))⟩
  f50 := ⟨Tryd.f80.name, by decide, Tryd.func80.trans (congrArg some (by kernel_rfl))⟩
  f57 := ⟨Tryd.f97.name, by decide, Tryd.func97.trans (congrArg some (by kernel_rfl))⟩
  t0 := Tryd.underlying0
  a0 := Tryd.isAgg0
  z0 := Tryd.sizeOf0
  v0 := Tryd.zeroValue0
  t3 := Tryd.underlying3
  a3 := Tryd.isAgg3
  z3 := Tryd.sizeOf3
  v3 := Tryd.zeroValue3
  t4 := Tryd.underlying4
  a4 := Tryd.isAgg4
  z4 := Tryd.sizeOf4
  v4 := Tryd.zeroValue4
  t5 := Tryd.underlying5
  a5 := Tryd.isAgg5
  z5 := Tryd.sizeOf5
  v5 := Tryd.zeroValue5
  t9 := Tryd.underlying9
  a9 := Tryd.isAgg9
  z9 := Tryd.sizeOf9
  v9 := Tryd.zeroValue9
  t22 := Tryd.underlying29
  a22 := Tryd.isAgg29
  z22 := Tryd.sizeOf29
  v22 := Tryd.zeroValue29
  a24 := Tryd.isAgg9
  z24 := Tryd.sizeOf9
  t25 := Tryd.underlying49
  a25 := Tryd.isAgg49
  z25 := Tryd.sizeOf49
  v25 := Tryd.zeroValue49
  t39 := Tryd.underlying65
  a39 := Tryd.isAgg65
  z39 := Tryd.sizeOf65
  v39 := Tryd.zeroValue65
  t45 := Tryd.underlying74
  a45 := Tryd.isAgg74
  z45 := Tryd.sizeOf74
  v45 := Tryd.zeroValue74
  t46 := Tryd.underlying75
  a46 := Tryd.isAgg75
  z46 := Tryd.sizeOf75
  v46 := Tryd.zeroValue75
  t50 := Tryd.underlying79
  a50 := Tryd.isAgg79
  z50 := Tryd.sizeOf79
  v50 := Tryd.zeroValue79
  t53 := Tryd.underlying82
  a53 := Tryd.isAgg82
  z53 := Tryd.sizeOf82
  v53 := Tryd.zeroValue82
  t55 := Tryd.underlying84
  a55 := Tryd.isAgg84
  z55 := Tryd.sizeOf84
  v55 := Tryd.zeroValue84
  t66 := Tryd.underlying96
  a66 := Tryd.isAgg96
  z66 := Tryd.sizeOf96
  v66 := Tryd.zeroValue96
  t70 := Tryd.underlying100
  a70 := Tryd.isAgg100
  z70 := Tryd.sizeOf100
  v70 := Tryd.zeroValue100
  t76 := Tryd.underlying111
  a76 := Tryd.isAgg111
  z76 := Tryd.sizeOf111
  v76 := Tryd.zeroValue111
  t77 := Tryd.underlying112
  a77 := Tryd.isAgg112
  z77 := Tryd.sizeOf112
  v77 := Tryd.zeroValue112 }
end Go.Proofs
open Go Go.Abs
set_option linter.unusedVariables false
set_option linter.unusedSimpArgs false
namespace Go.Proofs.Tryd
/-- A call that leaves the world as it was, by the machine's own words. -/
theorem PureC.lift {f : FuncId} {args : List AV} {r : AV} {us : List Value} {v : Value} (ha : ∀ C w vs, VRels C w args vs → vs = us) (hr : ∀ C w, VRel C w r v)
    (h : ∀ w, Calls prog f us.toArray w fun e w' => e = .returned v ∧ w' = w) : PureC prog f args r := by
  intro σ Q hq C w vs R V
  obtain rfl := ha C w vs V
  refine (h w).mono ?_
  rintro e w' ⟨rfl, rfl⟩
  exact ⟨v, r, σ, C, rfl, hq, hr C _, R, Evol.refl C _⟩
theorem c_Itoa {i : Nat} (hi : i < 10) : PureC prog F.strconv_Itoa [.int .i64 i] (.str [UInt8.ofNat (48 + i)]) := by
  refine PureC.lift (us := [.int .i64 i]) (v := .string ⟨(Lib.decDigits i).toArray⟩) ?_ ?_ (fun w => Any.strconv_Itoa_small laysItoa i (by omega) w)
  · intro C w vs V
    simp only [VRels, VRel] at V
    obtain ⟨u, r, rfl, rfl, rfl⟩ := V; rfl
  · intro C w
    simp only [VRel]
    have : ∀ i, i < 10 → Lib.decDigits i = [UInt8.ofNat (48 + i)] := by decide +kernel
    rw [this i hi]
theorem c_Len {x : Nat} (hx : x < 4611686018427387904) : PureC prog F.math_bits_Len [.int .u64 x] (.int .i64 (Lib.bitLen x)) := by
  refine PureC.lift (us := [.int .u64 x]) (v := .int .i64 (Lib.bitLen x)) ?_ ?_ (fun w => ?_)
  · intro C w vs V
    simp only [VRels, VRel] at V
    obtain ⟨u, r, rfl, rfl, rfl⟩ := V; rfl
  · intro C w
    simp only [VRel]
  · exact Any.bits_Len laysLen x w (by omega) (by omega)
def cmpB (a b : Bs) : Int := Lib.compareBytes a b
theorem c_sCompare (a b : Bs) : PureC prog F.strings_Compare [.str a, .str b] (.int .i64 (cmpB a b)) := by
  refine PureC.lift (us := [.string ⟨a.toArray⟩, .string ⟨b.toArray⟩]) (v := .int .i64 (cmpB a b)) ?_ ?_ (fun w => ?_)
  · intro C w vs V
    simp only [VRels, VRel] at V
    obtain ⟨u, r, rfl, rfl, u', r', rfl, rfl, rfl⟩ := V; rfl
  · intro C w
    simp only [VRel]
  · exact Any.strings_Compare laysCompare ⟨a.toArray⟩ ⟨b.toArray⟩ w
end Go.Proofs.Tryd
open Go Go.Abs
set_option linter.unusedVariables false
set_option linter.unusedSimpArgs false
namespace Go.Proofs.Tryd

inductive T where
  | leaf (p : Nat) | node (l r : T)
def digit (p : Nat) : UInt8 := UInt8.ofNat (48 + p)
def T.text : T → Bs
  | .leaf p => [digit p]
  | .node l r => 40 :: (l.text ++ (r.text ++ [41]))
def T.labs : T → List Nat
  | .leaf p => [p]
  | .node l r => l.labs ++ r.labs
def T.Ok (t : T) : Prop := ∀ p ∈ t.labs, 1 ≤ p ∧ p ≤ 8
theorem T.Ok.l {l r : T} (h : (T.node l r).Ok) : l.Ok := fun p hp => h p (by simp [T.labs, hp])
theorem T.Ok.r {l r : T} (h : (T.node l r).Ok) : r.Ok := fun p hp => h p (by simp [T.labs, hp])

/-- A tree in memory: its nodes' identities, the root's first. -/
def TreeAt (σ : St) : AV → T → List Nat → Prop
  | v, .leaf p, F => ∃ id, v = .ptr id 0 0 ∧ F = [id] ∧ σ.heap id = some (.arr 3 [.int .i64 p, .pnil, .pnil] 0 0)
  | v, .node l r, F => ∃ id vl vr Fl Fr, v = .ptr id 0 0 ∧ F = id :: (Fl ++ Fr) ∧ σ.heap id = some (.arr 3 [.int .i64 0, vl, vr] 0 0) ∧ TreeAt σ vl l Fl ∧ TreeAt σ vr r Fr
theorem TreeAt.keep {σ σ' : St} : ∀ {t : T} {v : AV} {F : List Nat}, (∀ i ∈ F, σ'.heap i = σ.heap i) → TreeAt σ v t F → TreeAt σ' v t F
  | .leaf p, v, F, hk, h => by
    simp only [TreeAt] at h ⊢
    obtain ⟨id, rfl, rfl, hh⟩ := h
    exact ⟨id, rfl, rfl, by rw [hk id (by simp)]; exact hh⟩
  | .node l r, v, F, hk, h => by
    simp only [TreeAt] at h ⊢
    obtain ⟨id, vl, vr, Fl, Fr, rfl, rfl, hh, h1, h2⟩ := h
    exact ⟨id, vl, vr, Fl, Fr, rfl, rfl, by rw [hk id (by simp)]; exact hh, h1.keep fun i hi => hk i (by simp [hi]), h2.keep fun i hi => hk i (by simp [hi])⟩
theorem TreeAt.ptr {σ : St} {t : T} {v : AV} {F : List Nat} (h : TreeAt σ v t F) : ∃ id, v = .ptr id 0 0 ∧ id ∈ F := by
  cases t <;> simp only [TreeAt] at h
  · obtain ⟨id, rfl, rfl, _⟩ := h; exact ⟨id, rfl, by simp⟩
  · obtain ⟨id, vl, vr, Fl, Fr, rfl, rfl, _⟩ := h; exact ⟨id, rfl, by simp⟩

theorem digit_nat {p : Nat} (h : p ≤ 8) : (digit p).toNat = 48 + p := by
  simp only [digit, UInt8.toNat_ofNat']; omega

/-- read -/
theorem c_read (t : T) : ∀ (ht : t.Ok) (rest : Bs) (σ : St), CallsA prog F.tree_read [.str (t.text ++ rest)] σ fun v σ' =>
    ∃ p F, v = .tup [p, .str rest] ∧ TreeAt σ' p t F ∧ F.Nodup ∧ (∀ i ∈ F, σ.nx ≤ i ∧ i < σ'.nx) ∧ Ext σ σ'
  := by
  induction t with
  | leaf p =>
    intro ht rest σ
    have hp := ht p (by simp [T.labs])
    have hd := digit_nat hp.2
    have hs : (T.leaf p).text ++ rest = digit p :: rest := rfl
    rw [hs]
    have h1 : ((49 : Int) ≤ ((digit p).toNat : Int)) = True := by simp; omega
    have h2 : (((digit p).toNat : Int) ≤ 56) = True := by simp; omega
    have h3 : IntKind.u8.wrap (((digit p).toNat : Int) - 48) = (p : Int) := by rw [wrap_u8 (by omega) (by omega)]; omega
    have h4 : IntKind.i64.wrap (p : Int) = (p : Int) := wrap_i64 (by omega) (by omega)
    have h5 : ((1 : Int) ≤ (((digit p :: rest).length : Nat) : Int)) = True := by simp; omega
    refine calls_of_Y e_tree_read rfl ?_; simp only [tm0_0, tm0_1, tm0_2, tm0_3, tm0_4, tm0_5, tm0_6, wk, wd, UInt8.reduceToNat, reduceIte, reduceCtorEq, Nat.reduceEqDiff, Nat.reduceAdd, Nat.reduceMul, Nat.reduceSub, Nat.reduceLeDiff, Int.reduceNeg, Int.reduceAdd, Int.reduceSub, Int.reduceMul, Int.reduceLT, Int.reduceLE, Int.reduceEq, Int.reduceToNat, Nat.reduceBEq, Nat.reduceLT, Y_unf cc_tree_read_k0.eq_1, Y_unf cc_tree_read_k1.eq_1, Y_unf cc_tree_read_k2.eq_1, Y_unf cc_tree_read_k3.eq_1, Y_unf cc_tree_read_k4.eq_1, Y_unf cc_tree_read_k5.eq_1, Y_unf cc_tree_read_k6.eq_1, Y_unf cc_tree_read_k7.eq_1, Y_unf cc_tree_read_c8.eq_1, Y_unf cc_tree_read_k9.eq_1, Y_unf cc_tree_read_c10.eq_1, Y_unf cc_tree_read_k11.eq_1, Y_unf cc_tree_read_c12.eq_1, Y_unf cc_tree_read_k13.eq_1, Y_unf cc_tree_read_k14.eq_1, Y_unf cc_tree_read.eq_1, h1, h2, h3, h4]
    refine ⟨_, [σ.nx], rfl, ⟨_, rfl, rfl, ?_⟩, by simp, by simp [St.new_nx], ?_⟩
    · rw [St.new_heap, if_pos rfl]
    · exact (Ext.refl σ).new _
  | node l r ihl ihr =>
    intro ht rest σ
    have hs : (T.node l r).text ++ rest = 40 :: (l.text ++ (r.text ++ (41 :: rest))) := by simp [T.text]
    rw [hs]
    refine calls_of_Y e_tree_read rfl ?_; simp only [tm0_0, tm0_1, tm0_2, tm0_3, tm0_4, tm0_5, tm0_6, wk, wd, UInt8.reduceToNat, reduceIte, reduceCtorEq, Nat.reduceEqDiff, Nat.reduceAdd, Nat.reduceMul, Nat.reduceSub, Nat.reduceLeDiff, Int.reduceNeg, Int.reduceAdd, Int.reduceSub, Int.reduceMul, Int.reduceLT, Int.reduceLE, Int.reduceEq, Int.reduceToNat, Nat.reduceBEq, Nat.reduceLT, Y_unf cc_tree_read_k0.eq_1, Y_unf cc_tree_read_k1.eq_1, Y_unf cc_tree_read_k2.eq_1, Y_unf cc_tree_read_k3.eq_1, Y_unf cc_tree_read_k4.eq_1, Y_unf cc_tree_read_k5.eq_1, Y_unf cc_tree_read_k6.eq_1, Y_unf cc_tree_read_k7.eq_1, Y_unf cc_tree_read_c8.eq_1, Y_unf cc_tree_read_k9.eq_1, Y_unf cc_tree_read_c10.eq_1, Y_unf cc_tree_read_k11.eq_1, Y_unf cc_tree_read_c12.eq_1, Y_unf cc_tree_read_k13.eq_1, Y_unf cc_tree_read_k14.eq_1, Y_unf cc_tree_read.eq_1]
    refine Cl_of0 (ihl ht.l _ _) ?_
    rintro _ σ1 ⟨p, Fl, rfl, hl, hnl, hbl, E1⟩
    obtain ⟨il, rfl, hil⟩ := hl.ptr
    have h0 : σ1.heap σ.nx = some (.arr 3 [.int .i64 0, .pnil, .pnil] 0 0) := by
      rw [E1.heap _ (by simp [St.new_nx])]; rw [St.new_heap, if_pos rfl]
    simp only [wk, wd, UInt8.reduceToNat, reduceIte, reduceCtorEq, Nat.reduceEqDiff, Nat.reduceAdd, Nat.reduceMul, Nat.reduceSub, Nat.reduceLeDiff, Int.reduceNeg, Int.reduceAdd, Int.reduceSub, Int.reduceMul, Int.reduceLT, Int.reduceLE, Int.reduceEq, Int.reduceToNat, Nat.reduceBEq, Nat.reduceLT, Y_unf cc_tree_read_k0.eq_1, Y_unf cc_tree_read_k1.eq_1, Y_unf cc_tree_read_k2.eq_1, Y_unf cc_tree_read_k3.eq_1, Y_unf cc_tree_read_k4.eq_1, Y_unf cc_tree_read_k5.eq_1, Y_unf cc_tree_read_k6.eq_1, Y_unf cc_tree_read_k7.eq_1, Y_unf cc_tree_read_c8.eq_1, Y_unf cc_tree_read_k9.eq_1, Y_unf cc_tree_read_c10.eq_1, Y_unf cc_tree_read_k11.eq_1, Y_unf cc_tree_read_c12.eq_1, Y_unf cc_tree_read_k13.eq_1, Y_unf cc_tree_read_k14.eq_1, Y_unf cc_tree_read.eq_1, h0]
    refine Cl_of0 (ihr ht.r _ _) ?_
    rintro _ σ3 ⟨p', Fr, rfl, hr, hnr, hbr, E3⟩
    obtain ⟨ir, rfl, hir⟩ := hr.ptr
    have hx1 := E1.nx
    simp only [St.new_nx] at hx1 hbl
    have h3 : σ3.heap σ.nx = some (.arr 3 [.int .i64 0, .ptr il 0 0, .pnil] 0 0) := by
      rw [E3.heap _ (by simp [St.set_nx]; omega)]; rw [St.set_heap, if_pos rfl]
    simp only [wk, wd, UInt8.reduceToNat, reduceIte, reduceCtorEq, Nat.reduceEqDiff, Nat.reduceAdd, Nat.reduceMul, Nat.reduceSub, Nat.reduceLeDiff, Int.reduceNeg, Int.reduceAdd, Int.reduceSub, Int.reduceMul, Int.reduceLT, Int.reduceLE, Int.reduceEq, Int.reduceToNat, Nat.reduceBEq, Nat.reduceLT, Y_unf cc_tree_read_k0.eq_1, Y_unf cc_tree_read_k1.eq_1, Y_unf cc_tree_read_k2.eq_1, Y_unf cc_tree_read_k3.eq_1, Y_unf cc_tree_read_k4.eq_1, Y_unf cc_tree_read_k5.eq_1, Y_unf cc_tree_read_k6.eq_1, Y_unf cc_tree_read_k7.eq_1, Y_unf cc_tree_read_c8.eq_1, Y_unf cc_tree_read_k9.eq_1, Y_unf cc_tree_read_c10.eq_1, Y_unf cc_tree_read_k11.eq_1, Y_unf cc_tree_read_c12.eq_1, Y_unf cc_tree_read_k13.eq_1, Y_unf cc_tree_read_k14.eq_1, Y_unf cc_tree_read.eq_1, h3]
    have hpre : ([41] : Bs).isPrefixOf (41 :: rest) = true := by simp [List.isPrefixOf]
    refine Cl_pure0 (c_HasPrefix _ _) ?_; simp only [wk, wd, UInt8.reduceToNat, reduceIte, reduceCtorEq, Nat.reduceEqDiff, Nat.reduceAdd, Nat.reduceMul, Nat.reduceSub, Nat.reduceLeDiff, Int.reduceNeg, Int.reduceAdd, Int.reduceSub, Int.reduceMul, Int.reduceLT, Int.reduceLE, Int.reduceEq, Int.reduceToNat, Nat.reduceBEq, Nat.reduceLT, Y_unf cc_tree_read_k0.eq_1, Y_unf cc_tree_read_k1.eq_1, Y_unf cc_tree_read_k2.eq_1, Y_unf cc_tree_read_k3.eq_1, Y_unf cc_tree_read_k4.eq_1, Y_unf cc_tree_read_k5.eq_1, Y_unf cc_tree_read_k6.eq_1, Y_unf cc_tree_read_k7.eq_1, Y_unf cc_tree_read_c8.eq_1, Y_unf cc_tree_read_k9.eq_1, Y_unf cc_tree_read_c10.eq_1, Y_unf cc_tree_read_k11.eq_1, Y_unf cc_tree_read_c12.eq_1, Y_unf cc_tree_read_k13.eq_1, Y_unf cc_tree_read_k14.eq_1, Y_unf cc_tree_read.eq_1]
    simp only [wk, wd, UInt8.reduceToNat, reduceIte, reduceCtorEq, Nat.reduceEqDiff, Nat.reduceAdd, Nat.reduceMul, Nat.reduceSub, Nat.reduceLeDiff, Int.reduceNeg, Int.reduceAdd, Int.reduceSub, Int.reduceMul, Int.reduceLT, Int.reduceLE, Int.reduceEq, Int.reduceToNat, Nat.reduceBEq, Nat.reduceLT, Y_unf cc_tree_read_k0.eq_1, Y_unf cc_tree_read_k1.eq_1, Y_unf cc_tree_read_k2.eq_1, Y_unf cc_tree_read_k3.eq_1, Y_unf cc_tree_read_k4.eq_1, Y_unf cc_tree_read_k5.eq_1, Y_unf cc_tree_read_k6.eq_1, Y_unf cc_tree_read_k7.eq_1, Y_unf cc_tree_read_c8.eq_1, Y_unf cc_tree_read_k9.eq_1, Y_unf cc_tree_read_c10.eq_1, Y_unf cc_tree_read_k11.eq_1, Y_unf cc_tree_read_c12.eq_1, Y_unf cc_tree_read_k13.eq_1, Y_unf cc_tree_read_k14.eq_1, Y_unf cc_tree_read.eq_1, hpre]
    have hx3 := E3.nx
    simp only [St.set_nx] at hx3 hbr
    refine ⟨_, σ.nx :: (Fl ++ Fr), rfl, ⟨_, _, _, _, _, rfl, rfl, ?_, TreeAt.keep ?_ hl, TreeAt.keep ?_ hr⟩, ?_, ?_, ?_⟩
    · rw [St.set_heap, if_pos rfl]
    · intro i hi
      have := hbl i hi
      rw [St.set_heap, if_neg (by omega), E3.heap _ (by simp [St.set_nx]; omega), St.set_heap, if_neg (by omega)]
    · intro i hi
      have := hbr i hi
      rw [St.set_heap, if_neg (by omega)]
    · rw [List.nodup_cons, List.nodup_append]
      refine ⟨fun hm => ?_, hnl, hnr, fun a ha b hb he => ?_⟩
      · rcases List.mem_append.1 hm with hm | hm
        · have := hbl _ hm; omega
        · have := hbr _ hm; omega
      · have := hbl _ ha; have := hbr _ hb; omega
    · intro i hi
      show σ.nx ≤ i ∧ i < σ3.nx
      rcases List.mem_cons.1 hi with rfl | hi
      · omega
      · rcases List.mem_append.1 hi with hi | hi
        · have := hbl _ hi; omega
        · have := hbr _ hi; omega
    · refine ⟨by simp only [St.set_nx]; omega, fun id hid => ?_⟩
      rw [St.set_heap, if_neg (by omega), E3.heap _ (by simp [St.set_nx]; omega), St.set_heap, if_neg (by omega), E1.heap _ (by simp [St.new_nx]; omega), St.new_heap, if_neg (by omega)]
end Go.Proofs.Tryd
open Go Go.Abs
set_option linter.unusedVariables false
set_option linter.unusedSimpArgs false
namespace Go.Proofs.Tryd

def sink : Nat → List Int → List Int
  | 0, a => a
  | j + 1, a => if a.getD (j + 1) 0 < a.getD j 0 then sink j ((a.set (j + 1) (a.getD j 0)).set j (a.getD (j + 1) 0)) else a
def isortFrom : Nat → Nat → List Int → List Int
  | 0, _, a => a
  | k + 1, i, a => isortFrom k (i + 1) (sink i a)
def isort (l : List Int) : List Int := isortFrom (l.length - 1) 1 l
theorem sink_length : ∀ (j : Nat) (a : List Int), (sink j a).length = a.length
  | 0, a => rfl
  | j + 1, a => by
    simp only [sink]; split
    · rw [sink_length]; simp
    · rfl

theorem c_Less (a b : Int) : PureC prog F.cmp_Less_int [.int .i64 a, .int .i64 b] (.bool (decide (a < b))) := by
  intro σ Q h
  refine calls_of_Y e_cmp_Less_int rfl ?_; simp only [tm0_0, tm0_1, tm0_2, tm0_3, tm0_4, tm0_5, tm0_6, wk, wd, UInt8.reduceToNat, reduceIte, reduceCtorEq, Nat.reduceEqDiff, Nat.reduceAdd, Nat.reduceMul, Nat.reduceSub, Nat.reduceLeDiff, Int.reduceNeg, Int.reduceAdd, Int.reduceSub, Int.reduceMul, Int.reduceLT, Int.reduceLE, Int.reduceEq, Int.reduceToNat, Nat.reduceBEq, Nat.reduceLT, Y_unf cc_cmp_Less_int_k0.eq_1, Y_unf cc_cmp_Less_int.eq_1]
  refine Cl_pure0 (c_isNaN _) ?_; simp only [wk, wd, UInt8.reduceToNat, reduceIte, reduceCtorEq, Nat.reduceEqDiff, Nat.reduceAdd, Nat.reduceMul, Nat.reduceSub, Nat.reduceLeDiff, Int.reduceNeg, Int.reduceAdd, Int.reduceSub, Int.reduceMul, Int.reduceLT, Int.reduceLE, Int.reduceEq, Int.reduceToNat, Nat.reduceBEq, Nat.reduceLT, Y_unf cc_cmp_Less_int_k0.eq_1, Y_unf cc_cmp_Less_int.eq_1]
  exact h

theorem c_insertion {id g : Nat} {l : List Int} {n : Nat} (hn : l.length = n) (hn0 : 0 < n) (hb : n < 4294967296) {σ : St} (hh : σ.heap id = some (.arr 1 (l.map aI) g 0)) {Q : AV → St → Prop}
    (h : Q (.tup []) (σ.set id (.arr 1 ((isort l).map aI) g 0))) : CallsA prog F.slices_insertionSortOrdered_int [.sl id g 0 n, .int .i64 0, .int .i64 n] σ Q := by
  have hw0 : IntKind.i64.wrap 1 = 1 := by decide
  refine calls_of_Y e_slices_insertionSortOrdered_int rfl ?_; simp only [tm0_0, tm0_1, tm0_2, tm0_3, tm0_4, tm0_5, tm0_6, wk, wd, UInt8.reduceToNat, reduceIte, reduceCtorEq, Nat.reduceEqDiff, Nat.reduceAdd, Nat.reduceMul, Nat.reduceSub, Nat.reduceLeDiff, Int.reduceNeg, Int.reduceAdd, Int.reduceSub, Int.reduceMul, Int.reduceLT, Int.reduceLE, Int.reduceEq, Int.reduceToNat, Nat.reduceBEq, Nat.reduceLT, Y_unf cc_slices_insertionSortOrdered_int_k0.eq_1, Y_unf cc_slices_insertionSortOrdered_int_k1.eq_1, Y_unf cc_slices_insertionSortOrdered_int_k2.eq_1, Y_unf cc_slices_insertionSortOrdered_int_k3.eq_1, Y_unf cc_slices_insertionSortOrdered_int_l4.eq_1, Y_unf cc_slices_insertionSortOrdered_int_k5.eq_1, Y_unf cc_slices_insertionSortOrdered_int_k6.eq_1, Y_unf cc_slices_insertionSortOrdered_int_k7.eq_1, Y_unf cc_slices_insertionSortOrdered_int_l8.eq_1, Y_unf cc_slices_insertionSortOrdered_int_k9.eq_1, Y_unf cc_slices_insertionSortOrdered_int.eq_1, hw0]
  refine Lp_of (α := Nat × List Int) (fun s tm σ' => σ' = σ.set id (.arr 1 (s.2.map aI) g 0) ∧ 1 ≤ s.1 ∧ s.1 ≤ n ∧ s.2.length = n ∧ isortFrom (n - s.1) s.1 s.2 = isort l ∧ tm 0 = .sl id g 0 n ∧ tm 1 = .int .i64 0 ∧ tm 2 = .int .i64 n ∧ tm 6 = .int .i64 s.1 ∧ tm 49 = .tup [])
    (fun s => n - s.1) (a := (1, l)) ⟨(St.set_self hh).symm, by simp, by simp; omega, hn, by simp [isort, hn], rfl, rfl, rfl, rfl, rfl⟩ ?_
  rintro J hJ ⟨i, a⟩ tm σ' ⟨rfl, h1i, hin, hal, hr, h0, h1, h2, h6, h49⟩
  simp only at h1i hin hal hr h6
  by_cases hlt : i < n
  · have hlt' : ((i : Int) < n) = True := by simp; omega
    simp only [wk, wd, UInt8.reduceToNat, reduceIte, reduceCtorEq, Nat.reduceEqDiff, Nat.reduceAdd, Nat.reduceMul, Nat.reduceSub, Nat.reduceLeDiff, Int.reduceNeg, Int.reduceAdd, Int.reduceSub, Int.reduceMul, Int.reduceLT, Int.reduceLE, Int.reduceEq, Int.reduceToNat, Nat.reduceBEq, Nat.reduceLT, Y_unf cc_slices_insertionSortOrdered_int_k0.eq_1, Y_unf cc_slices_insertionSortOrdered_int_k1.eq_1, Y_unf cc_slices_insertionSortOrdered_int_k2.eq_1, Y_unf cc_slices_insertionSortOrdered_int_k3.eq_1, Y_unf cc_slices_insertionSortOrdered_int_l4.eq_1, Y_unf cc_slices_insertionSortOrdered_int_k5.eq_1, Y_unf cc_slices_insertionSortOrdered_int_k6.eq_1, Y_unf cc_slices_insertionSortOrdered_int_k7.eq_1, Y_unf cc_slices_insertionSortOrdered_int_l8.eq_1, Y_unf cc_slices_insertionSortOrdered_int_k9.eq_1, Y_unf cc_slices_insertionSortOrdered_int.eq_1, h0, h1, h2, h6, h49, hlt']
    have hJ' : ∀ b : List Int, b.length = n → sink i a = b → ∀ tm', tm' 0 = .sl id g 0 n → tm' 1 = .int .i64 0 → tm' 2 = .int .i64 n → tm' 6 = .int .i64 ((i + 1 : Nat) : Int) → tm' 49 = .tup [] →
        Nxt J (fun s => n - s.1) (n - i) tm' (σ.set id (.arr 1 (b.map aI) g 0)) := by
      intro b hbl hb tm' t0 t1 t2 t6 t49
      refine ⟨(i + 1, b), hJ _ _ _ ⟨rfl, by simp, by simp; omega, hbl, ?_, t0, t1, t2, t6, t49⟩, by simp; omega⟩
      rw [← hr, show n - i = (n - (i + 1)) + 1 from by omega]
      simp only [isortFrom, hb]
    refine Lp_of (α := Nat × List Int) (fun s tm' σ'' => σ'' = σ.set id (.arr 1 (s.2.map aI) g 0) ∧ s.1 ≤ i ∧ s.2.length = n ∧ sink s.1 s.2 = sink i a ∧ tm' 0 = .sl id g 0 n ∧ tm' 1 = .int .i64 0 ∧ tm' 2 = .int .i64 n ∧ tm' 6 = .int .i64 i ∧ tm' 7 = .int .i64 s.1 ∧ tm' 49 = .tup [])
      (fun s => s.1) (a := (i, a)) ⟨rfl, Nat.le_refl _, hal, rfl, by simp only [upd_at]; exact h0, by simp only [upd_at]; exact h1, by simp only [upd_at]; exact h2, by simp only [upd_at]; exact h6, rfl, by simp only [upd_at]; exact h49⟩ ?_
    rintro J2 hJ2 ⟨j, b⟩ tm' σ'' ⟨rfl, hji, hbl, hr2, u0, u1, u2, u6, u7, u49⟩
    simp only at hji hbl hr2 u7
    have hwi : IntKind.i64.wrap ((i : Int) + 1) = ((i + 1 : Nat) : Int) := by rw [wrap_i64 (by omega) (by omega)]; omega
    cases j with
    | zero =>
      simp only [wk, wd, UInt8.reduceToNat, reduceIte, reduceCtorEq, Nat.reduceEqDiff, Nat.reduceAdd, Nat.reduceMul, Nat.reduceSub, Nat.reduceLeDiff, Int.reduceNeg, Int.reduceAdd, Int.reduceSub, Int.reduceMul, Int.reduceLT, Int.reduceLE, Int.reduceEq, Int.reduceToNat, Nat.reduceBEq, Nat.reduceLT, Y_unf cc_slices_insertionSortOrdered_int_k0.eq_1, Y_unf cc_slices_insertionSortOrdered_int_k1.eq_1, Y_unf cc_slices_insertionSortOrdered_int_k2.eq_1, Y_unf cc_slices_insertionSortOrdered_int_k3.eq_1, Y_unf cc_slices_insertionSortOrdered_int_l4.eq_1, Y_unf cc_slices_insertionSortOrdered_int_k5.eq_1, Y_unf cc_slices_insertionSortOrdered_int_k6.eq_1, Y_unf cc_slices_insertionSortOrdered_int_k7.eq_1, Y_unf cc_slices_insertionSortOrdered_int_l8.eq_1, Y_unf cc_slices_insertionSortOrdered_int_k9.eq_1, Y_unf cc_slices_insertionSortOrdered_int.eq_1, u0, u1, u2, u6, u7, u49, hwi]
      exact hJ' b hbl (by rw [← hr2]; rfl) _ (by simp only [upd_at]; exact u0) (by simp only [upd_at]; exact u1) (by simp only [upd_at]; exact u2) rfl (by simp only [upd_at]; exact u49)
    | succ j =>
      have q1 : ((0 : Int) < ((j + 1 : Nat) : Int)) = True := eq_true (by omega)
      have q2 : (((j + 1 : Nat) : Int) < (n : Int)) = True := by simp; omega
      have q3 : ((j : Int) < (n : Int)) = True := by simp; omega
      have q4 : IntKind.i64.wrap (((j + 1 : Nat) : Int) - 1) = (j : Int) := by rw [wrap_i64 (by omega) (by omega)]; omega
      have q5 : (b.map aI)[j + 1]? = some (.int .i64 (b.getD (j + 1) 0)) := by
        simp [List.getElem?_map, List.getD_eq_getElem?_getD, List.getElem?_eq_getElem (show j + 1 < b.length by omega), aI]
      have q6 : (b.map aI)[j]? = some (.int .i64 (b.getD j 0)) := by
        simp [List.getElem?_map, List.getD_eq_getElem?_getD, List.getElem?_eq_getElem (show j < b.length by omega), aI]
      have q7 : (j + 1 + 1 ≤ n) = True := by simp; omega
      have q8 : (j + 1 ≤ n) = True := by simp; omega
      have hm1 : ∀ (c : List Int) (k : Nat) (x : Int), (c.map aI).set k (.int .i64 x) = (c.set k x).map aI := by intro c k x; rw [List.map_set]; rfl
      simp only [wk, wd, UInt8.reduceToNat, reduceIte, reduceCtorEq, Nat.reduceEqDiff, Nat.reduceAdd, Nat.reduceMul, Nat.reduceSub, Nat.reduceLeDiff, Int.reduceNeg, Int.reduceAdd, Int.reduceSub, Int.reduceMul, Int.reduceLT, Int.reduceLE, Int.reduceEq, Int.reduceToNat, Nat.reduceBEq, Nat.reduceLT, Y_unf cc_slices_insertionSortOrdered_int_k0.eq_1, Y_unf cc_slices_insertionSortOrdered_int_k1.eq_1, Y_unf cc_slices_insertionSortOrdered_int_k2.eq_1, Y_unf cc_slices_insertionSortOrdered_int_k3.eq_1, Y_unf cc_slices_insertionSortOrdered_int_l4.eq_1, Y_unf cc_slices_insertionSortOrdered_int_k5.eq_1, Y_unf cc_slices_insertionSortOrdered_int_k6.eq_1, Y_unf cc_slices_insertionSortOrdered_int_k7.eq_1, Y_unf cc_slices_insertionSortOrdered_int_l8.eq_1, Y_unf cc_slices_insertionSortOrdered_int_k9.eq_1, Y_unf cc_slices_insertionSortOrdered_int.eq_1, u0, u1, u2, u6, u7, u49, q1, q2, q3, q4, q5, q6]
      refine Cl_pure0 (c_Less _ _) ?_; simp only [wk, wd, UInt8.reduceToNat, reduceIte, reduceCtorEq, Nat.reduceEqDiff, Nat.reduceAdd, Nat.reduceMul, Nat.reduceSub, Nat.reduceLeDiff, Int.reduceNeg, Int.reduceAdd, Int.reduceSub, Int.reduceMul, Int.reduceLT, Int.reduceLE, Int.reduceEq, Int.reduceToNat, Nat.reduceBEq, Nat.reduceLT, Y_unf cc_slices_insertionSortOrdered_int_k0.eq_1, Y_unf cc_slices_insertionSortOrdered_int_k1.eq_1, Y_unf cc_slices_insertionSortOrdered_int_k2.eq_1, Y_unf cc_slices_insertionSortOrdered_int_k3.eq_1, Y_unf cc_slices_insertionSortOrdered_int_l4.eq_1, Y_unf cc_slices_insertionSortOrdered_int_k5.eq_1, Y_unf cc_slices_insertionSortOrdered_int_k6.eq_1, Y_unf cc_slices_insertionSortOrdered_int_k7.eq_1, Y_unf cc_slices_insertionSortOrdered_int_l8.eq_1, Y_unf cc_slices_insertionSortOrdered_int_k9.eq_1, Y_unf cc_slices_insertionSortOrdered_int.eq_1]
      by_cases hc : b.getD (j + 1) 0 < b.getD j 0
      · simp only [wk, wd, UInt8.reduceToNat, reduceIte, reduceCtorEq, Nat.reduceEqDiff, Nat.reduceAdd, Nat.reduceMul, Nat.reduceSub, Nat.reduceLeDiff, Int.reduceNeg, Int.reduceAdd, Int.reduceSub, Int.reduceMul, Int.reduceLT, Int.reduceLE, Int.reduceEq, Int.reduceToNat, Nat.reduceBEq, Nat.reduceLT, Y_unf cc_slices_insertionSortOrdered_int_k0.eq_1, Y_unf cc_slices_insertionSortOrdered_int_k1.eq_1, Y_unf cc_slices_insertionSortOrdered_int_k2.eq_1, Y_unf cc_slices_insertionSortOrdered_int_k3.eq_1, Y_unf cc_slices_insertionSortOrdered_int_l4.eq_1, Y_unf cc_slices_insertionSortOrdered_int_k5.eq_1, Y_unf cc_slices_insertionSortOrdered_int_k6.eq_1, Y_unf cc_slices_insertionSortOrdered_int_k7.eq_1, Y_unf cc_slices_insertionSortOrdered_int_l8.eq_1, Y_unf cc_slices_insertionSortOrdered_int_k9.eq_1, Y_unf cc_slices_insertionSortOrdered_int.eq_1, u0, u1, u2, u6, u7, u49, hc, q1, q2, q3, q4, q5, q6, q7, q8, List.length_map, hbl, List.length_set, hm1, St.set_set]
        refine ⟨(j, _), hJ2 _ _ _ ⟨rfl, by simp; omega, by simp [hbl], ?_, by simp only [upd_at]; exact u0, by simp only [upd_at]; exact u1, by simp only [upd_at]; exact u2, by simp only [upd_at]; exact u6, rfl, by simp only [upd_at]; exact u49⟩, by simp⟩
        rw [← hr2]; simp only [sink]; rw [if_pos hc]
      · simp only [wk, wd, UInt8.reduceToNat, reduceIte, reduceCtorEq, Nat.reduceEqDiff, Nat.reduceAdd, Nat.reduceMul, Nat.reduceSub, Nat.reduceLeDiff, Int.reduceNeg, Int.reduceAdd, Int.reduceSub, Int.reduceMul, Int.reduceLT, Int.reduceLE, Int.reduceEq, Int.reduceToNat, Nat.reduceBEq, Nat.reduceLT, Y_unf cc_slices_insertionSortOrdered_int_k0.eq_1, Y_unf cc_slices_insertionSortOrdered_int_k1.eq_1, Y_unf cc_slices_insertionSortOrdered_int_k2.eq_1, Y_unf cc_slices_insertionSortOrdered_int_k3.eq_1, Y_unf cc_slices_insertionSortOrdered_int_l4.eq_1, Y_unf cc_slices_insertionSortOrdered_int_k5.eq_1, Y_unf cc_slices_insertionSortOrdered_int_k6.eq_1, Y_unf cc_slices_insertionSortOrdered_int_k7.eq_1, Y_unf cc_slices_insertionSortOrdered_int_l8.eq_1, Y_unf cc_slices_insertionSortOrdered_int_k9.eq_1, Y_unf cc_slices_insertionSortOrdered_int.eq_1, u0, u1, u2, u6, u7, u49, hc, hwi]
        exact hJ' b hbl (by rw [← hr2]; simp only [sink]; rw [if_neg hc]) _ (by simp only [upd_at]; exact u0) (by simp only [upd_at]; exact u1) (by simp only [upd_at]; exact u2) rfl (by simp only [upd_at]; exact u49)
  · have hlt' : ((i : Int) < n) = False := by simp; omega
    simp only [wk, wd, UInt8.reduceToNat, reduceIte, reduceCtorEq, Nat.reduceEqDiff, Nat.reduceAdd, Nat.reduceMul, Nat.reduceSub, Nat.reduceLeDiff, Int.reduceNeg, Int.reduceAdd, Int.reduceSub, Int.reduceMul, Int.reduceLT, Int.reduceLE, Int.reduceEq, Int.reduceToNat, Nat.reduceBEq, Nat.reduceLT, Y_unf cc_slices_insertionSortOrdered_int_k0.eq_1, Y_unf cc_slices_insertionSortOrdered_int_k1.eq_1, Y_unf cc_slices_insertionSortOrdered_int_k2.eq_1, Y_unf cc_slices_insertionSortOrdered_int_k3.eq_1, Y_unf cc_slices_insertionSortOrdered_int_l4.eq_1, Y_unf cc_slices_insertionSortOrdered_int_k5.eq_1, Y_unf cc_slices_insertionSortOrdered_int_k6.eq_1, Y_unf cc_slices_insertionSortOrdered_int_k7.eq_1, Y_unf cc_slices_insertionSortOrdered_int_l8.eq_1, Y_unf cc_slices_insertionSortOrdered_int_k9.eq_1, Y_unf cc_slices_insertionSortOrdered_int.eq_1, h0, h1, h2, h6, h49, hlt']
    have : i = n := by omega
    subst this
    simp only [Nat.sub_self, isortFrom] at hr
    subst hr
    exact h

theorem c_pdq {id g : Nat} {l : List Int} {n : Nat} (lim : Int) (hn : l.length = n) (hn0 : 0 < n) (hb : n ≤ 12) {σ : St} (hh : σ.heap id = some (.arr 1 (l.map aI) g 0)) {Q : AV → St → Prop}
    (h : Q (.tup []) (σ.set id (.arr 1 ((isort l).map aI) g 0))) : CallsA prog F.slices_pdqsortOrdered_int [.sl id g 0 n, .int .i64 0, .int .i64 n, .int .i64 lim] σ Q := by
  have hw : IntKind.i64.wrap ((n : Int) - 0) = (n : Int) := by rw [wrap_i64 (by omega) (by omega)]; omega
  have hle : ((n : Int) ≤ 12) = True := eq_true (by omega)
  refine calls_of_Y e_slices_pdqsortOrdered_int rfl ?_; simp only [tm0_0, tm0_1, tm0_2, tm0_3, tm0_4, tm0_5, tm0_6, wk, wd, UInt8.reduceToNat, reduceIte, reduceCtorEq, Nat.reduceEqDiff, Nat.reduceAdd, Nat.reduceMul, Nat.reduceSub, Nat.reduceLeDiff, Int.reduceNeg, Int.reduceAdd, Int.reduceSub, Int.reduceMul, Int.reduceLT, Int.reduceLE, Int.reduceEq, Int.reduceToNat, Nat.reduceBEq, Nat.reduceLT, Y_unf cc_slices_pdqsortOrdered_int_k0.eq_1, Y_unf cc_slices_pdqsortOrdered_int_k1.eq_1, Y_unf cc_slices_pdqsortOrdered_int_c2.eq_1, Y_unf cc_slices_pdqsortOrdered_int_k3.eq_1, Y_unf cc_slices_pdqsortOrdered_int_k4.eq_1, Y_unf cc_slices_pdqsortOrdered_int_c5.eq_1, Y_unf cc_slices_pdqsortOrdered_int_k6.eq_1, Y_unf cc_slices_pdqsortOrdered_int_k7.eq_1, Y_unf cc_slices_pdqsortOrdered_int_k8.eq_1, Y_unf cc_slices_pdqsortOrdered_int_k9.eq_1, Y_unf cc_slices_pdqsortOrdered_int_k10.eq_1, Y_unf cc_slices_pdqsortOrdered_int_k11.eq_1, Y_unf cc_slices_pdqsortOrdered_int_k12.eq_1, Y_unf cc_slices_pdqsortOrdered_int_c13.eq_1, Y_unf cc_slices_pdqsortOrdered_int_k14.eq_1, Y_unf cc_slices_pdqsortOrdered_int_k15.eq_1, Y_unf cc_slices_pdqsortOrdered_int_k16.eq_1, Y_unf cc_slices_pdqsortOrdered_int_c17.eq_1, Y_unf cc_slices_pdqsortOrdered_int_k18.eq_1, Y_unf cc_slices_pdqsortOrdered_int_k19.eq_1, Y_unf cc_slices_pdqsortOrdered_int_k20.eq_1, Y_unf cc_slices_pdqsortOrdered_int_c21.eq_1, Y_unf cc_slices_pdqsortOrdered_int_k22.eq_1, Y_unf cc_slices_pdqsortOrdered_int_k23.eq_1, Y_unf cc_slices_pdqsortOrdered_int_k24.eq_1, Y_unf cc_slices_pdqsortOrdered_int_k25.eq_1, Y_unf cc_slices_pdqsortOrdered_int_c26.eq_1, Y_unf cc_slices_pdqsortOrdered_int_k27.eq_1, Y_unf cc_slices_pdqsortOrdered_int_k28.eq_1, Y_unf cc_slices_pdqsortOrdered_int_c29.eq_1, Y_unf cc_slices_pdqsortOrdered_int_k30.eq_1, Y_unf cc_slices_pdqsortOrdered_int_k31.eq_1, Y_unf cc_slices_pdqsortOrdered_int_c32.eq_1, Y_unf cc_slices_pdqsortOrdered_int_k33.eq_1, Y_unf cc_slices_pdqsortOrdered_int_k34.eq_1, Y_unf cc_slices_pdqsortOrdered_int_l35.eq_1, Y_unf cc_slices_pdqsortOrdered_int_k36.eq_1, Y_unf cc_slices_pdqsortOrdered_int_k37.eq_1, Y_unf cc_slices_pdqsortOrdered_int.eq_1]
  refine Lp_unroll 1 ?_
  simp only [wk, wd, UInt8.reduceToNat, reduceIte, reduceCtorEq, Nat.reduceEqDiff, Nat.reduceAdd, Nat.reduceMul, Nat.reduceSub, Nat.reduceLeDiff, Int.reduceNeg, Int.reduceAdd, Int.reduceSub, Int.reduceMul, Int.reduceLT, Int.reduceLE, Int.reduceEq, Int.reduceToNat, Nat.reduceBEq, Nat.reduceLT, Y_unf cc_slices_pdqsortOrdered_int_k0.eq_1, Y_unf cc_slices_pdqsortOrdered_int_k1.eq_1, Y_unf cc_slices_pdqsortOrdered_int_c2.eq_1, Y_unf cc_slices_pdqsortOrdered_int_k3.eq_1, Y_unf cc_slices_pdqsortOrdered_int_k4.eq_1, Y_unf cc_slices_pdqsortOrdered_int_c5.eq_1, Y_unf cc_slices_pdqsortOrdered_int_k6.eq_1, Y_unf cc_slices_pdqsortOrdered_int_k7.eq_1, Y_unf cc_slices_pdqsortOrdered_int_k8.eq_1, Y_unf cc_slices_pdqsortOrdered_int_k9.eq_1, Y_unf cc_slices_pdqsortOrdered_int_k10.eq_1, Y_unf cc_slices_pdqsortOrdered_int_k11.eq_1, Y_unf cc_slices_pdqsortOrdered_int_k12.eq_1, Y_unf cc_slices_pdqsortOrdered_int_c13.eq_1, Y_unf cc_slices_pdqsortOrdered_int_k14.eq_1, Y_unf cc_slices_pdqsortOrdered_int_k15.eq_1, Y_unf cc_slices_pdqsortOrdered_int_k16.eq_1, Y_unf cc_slices_pdqsortOrdered_int_c17.eq_1, Y_unf cc_slices_pdqsortOrdered_int_k18.eq_1, Y_unf cc_slices_pdqsortOrdered_int_k19.eq_1, Y_unf cc_slices_pdqsortOrdered_int_k20.eq_1, Y_unf cc_slices_pdqsortOrdered_int_c21.eq_1, Y_unf cc_slices_pdqsortOrdered_int_k22.eq_1, Y_unf cc_slices_pdqsortOrdered_int_k23.eq_1, Y_unf cc_slices_pdqsortOrdered_int_k24.eq_1, Y_unf cc_slices_pdqsortOrdered_int_k25.eq_1, Y_unf cc_slices_pdqsortOrdered_int_c26.eq_1, Y_unf cc_slices_pdqsortOrdered_int_k27.eq_1, Y_unf cc_slices_pdqsortOrdered_int_k28.eq_1, Y_unf cc_slices_pdqsortOrdered_int_c29.eq_1, Y_unf cc_slices_pdqsortOrdered_int_k30.eq_1, Y_unf cc_slices_pdqsortOrdered_int_k31.eq_1, Y_unf cc_slices_pdqsortOrdered_int_c32.eq_1, Y_unf cc_slices_pdqsortOrdered_int_k33.eq_1, Y_unf cc_slices_pdqsortOrdered_int_k34.eq_1, Y_unf cc_slices_pdqsortOrdered_int_l35.eq_1, Y_unf cc_slices_pdqsortOrdered_int_k36.eq_1, Y_unf cc_slices_pdqsortOrdered_int_k37.eq_1, Y_unf cc_slices_pdqsortOrdered_int.eq_1, hw, hle]
  refine Cl_of0 (c_insertion hn hn0 (by omega) hh (Q := fun v σ' => v = .tup [] ∧ σ' = σ.set id (.arr 1 ((isort l).map aI) g 0)) ⟨rfl, rfl⟩) ?_
  rintro _ _ ⟨rfl, rfl⟩
  simp only [wk, wd, UInt8.reduceToNat, reduceIte, reduceCtorEq, Nat.reduceEqDiff, Nat.reduceAdd, Nat.reduceMul, Nat.reduceSub, Nat.reduceLeDiff, Int.reduceNeg, Int.reduceAdd, Int.reduceSub, Int.reduceMul, Int.reduceLT, Int.reduceLE, Int.reduceEq, Int.reduceToNat, Nat.reduceBEq, Nat.reduceLT, Y_unf cc_slices_pdqsortOrdered_int_k0.eq_1, Y_unf cc_slices_pdqsortOrdered_int_k1.eq_1, Y_unf cc_slices_pdqsortOrdered_int_c2.eq_1, Y_unf cc_slices_pdqsortOrdered_int_k3.eq_1, Y_unf cc_slices_pdqsortOrdered_int_k4.eq_1, Y_unf cc_slices_pdqsortOrdered_int_c5.eq_1, Y_unf cc_slices_pdqsortOrdered_int_k6.eq_1, Y_unf cc_slices_pdqsortOrdered_int_k7.eq_1, Y_unf cc_slices_pdqsortOrdered_int_k8.eq_1, Y_unf cc_slices_pdqsortOrdered_int_k9.eq_1, Y_unf cc_slices_pdqsortOrdered_int_k10.eq_1, Y_unf cc_slices_pdqsortOrdered_int_k11.eq_1, Y_unf cc_slices_pdqsortOrdered_int_k12.eq_1, Y_unf cc_slices_pdqsortOrdered_int_c13.eq_1, Y_unf cc_slices_pdqsortOrdered_int_k14.eq_1, Y_unf cc_slices_pdqsortOrdered_int_k15.eq_1, Y_unf cc_slices_pdqsortOrdered_int_k16.eq_1, Y_unf cc_slices_pdqsortOrdered_int_c17.eq_1, Y_unf cc_slices_pdqsortOrdered_int_k18.eq_1, Y_unf cc_slices_pdqsortOrdered_int_k19.eq_1, Y_unf cc_slices_pdqsortOrdered_int_k20.eq_1, Y_unf cc_slices_pdqsortOrdered_int_c21.eq_1, Y_unf cc_slices_pdqsortOrdered_int_k22.eq_1, Y_unf cc_slices_pdqsortOrdered_int_k23.eq_1, Y_unf cc_slices_pdqsortOrdered_int_k24.eq_1, Y_unf cc_slices_pdqsortOrdered_int_k25.eq_1, Y_unf cc_slices_pdqsortOrdered_int_c26.eq_1, Y_unf cc_slices_pdqsortOrdered_int_k27.eq_1, Y_unf cc_slices_pdqsortOrdered_int_k28.eq_1, Y_unf cc_slices_pdqsortOrdered_int_c29.eq_1, Y_unf cc_slices_pdqsortOrdered_int_k30.eq_1, Y_unf cc_slices_pdqsortOrdered_int_k31.eq_1, Y_unf cc_slices_pdqsortOrdered_int_c32.eq_1, Y_unf cc_slices_pdqsortOrdered_int_k33.eq_1, Y_unf cc_slices_pdqsortOrdered_int_k34.eq_1, Y_unf cc_slices_pdqsortOrdered_int_l35.eq_1, Y_unf cc_slices_pdqsortOrdered_int_k36.eq_1, Y_unf cc_slices_pdqsortOrdered_int_k37.eq_1, Y_unf cc_slices_pdqsortOrdered_int.eq_1]
  exact h
theorem c_Sort {id g : Nat} {l : List Int} {n : Nat} (hn : l.length = n) (hn0 : 0 < n) (hb : n ≤ 12) {σ : St} (hh : σ.heap id = some (.arr 1 (l.map aI) g 0)) {Q : AV → St → Prop}
    (h : Q (.tup []) (σ.set id (.arr 1 ((isort l).map aI) g 0))) : CallsA prog F.slices_Sort_Lint_int [.sl id g 0 n] σ Q := by
  have hw : IntKind.u64.wrap (n : Int) = (n : Int) := wrap_u64 (by omega) (by omega)
  refine calls_of_Y e_slices_Sort_Lint_int rfl ?_; simp only [tm0_0, tm0_1, tm0_2, tm0_3, tm0_4, tm0_5, tm0_6, wk, wd, UInt8.reduceToNat, reduceIte, reduceCtorEq, Nat.reduceEqDiff, Nat.reduceAdd, Nat.reduceMul, Nat.reduceSub, Nat.reduceLeDiff, Int.reduceNeg, Int.reduceAdd, Int.reduceSub, Int.reduceMul, Int.reduceLT, Int.reduceLE, Int.reduceEq, Int.reduceToNat, Nat.reduceBEq, Nat.reduceLT, Y_unf cc_slices_Sort_Lint_int_k0.eq_1, Y_unf cc_slices_Sort_Lint_int.eq_1, hw]
  refine Cl_pure0 (c_Len (by omega)) ?_; simp only [wk, wd, UInt8.reduceToNat, reduceIte, reduceCtorEq, Nat.reduceEqDiff, Nat.reduceAdd, Nat.reduceMul, Nat.reduceSub, Nat.reduceLeDiff, Int.reduceNeg, Int.reduceAdd, Int.reduceSub, Int.reduceMul, Int.reduceLT, Int.reduceLE, Int.reduceEq, Int.reduceToNat, Nat.reduceBEq, Nat.reduceLT, Y_unf cc_slices_Sort_Lint_int_k0.eq_1, Y_unf cc_slices_Sort_Lint_int.eq_1]
  refine Cl_of0 (c_pdq _ hn hn0 hb hh (Q := fun v σ' => v = .tup [] ∧ σ' = σ.set id (.arr 1 ((isort l).map aI) g 0)) ⟨rfl, rfl⟩) ?_
  rintro _ _ ⟨rfl, rfl⟩
  simp only [wk, wd, UInt8.reduceToNat, reduceIte, reduceCtorEq, Nat.reduceEqDiff, Nat.reduceAdd, Nat.reduceMul, Nat.reduceSub, Nat.reduceLeDiff, Int.reduceNeg, Int.reduceAdd, Int.reduceSub, Int.reduceMul, Int.reduceLT, Int.reduceLE, Int.reduceEq, Int.reduceToNat, Nat.reduceBEq, Nat.reduceLT, Y_unf cc_slices_Sort_Lint_int_k0.eq_1, Y_unf cc_slices_Sort_Lint_int.eq_1]
  exact h
end Go.Proofs.Tryd
