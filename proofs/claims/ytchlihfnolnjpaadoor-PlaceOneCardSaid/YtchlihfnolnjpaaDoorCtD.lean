/- Contracts of functions: what each computes, for whatever memory. -/
import Derived.Test.YtchlihfnolnjpaaDoorCtC
open Go Go.Abs
set_option linter.unusedVariables false
set_option linter.unusedSimpArgs false
namespace Go.Proofs.Tryd

/-- The signs of a tree's text. -/
theorem T.text_ascii : ∀ (t : T), t.Ok → ∀ b ∈ t.text, b.toNat < 128
  | .leaf p, h, b, hb => by
    have := h p (by simp [T.labs])
    simp [T.text] at hb; subst hb
    rw [digit_nat this.2]; omega
  | .node l r, h, b, hb => by
    simp only [T.text, List.mem_cons, List.mem_append, List.not_mem_nil, or_false] at hb
    rcases hb with rfl | hb | hb | rfl
    · decide
    · exact T.text_ascii l h.l b hb
    · exact T.text_ascii r h.r b hb
    · decide
/-- How deep one is in brackets behind a beginning. -/
def bal : Int → Bs → Int
  | d, [] => d
  | d, b :: r => bal (if b = 40 then d + 1 else if b = 41 then d - 1 else d) r
theorem bal_append : ∀ (a b : Bs) (d : Int), bal d (a ++ b) = bal (bal d a) b
  | [], b, d => rfl
  | x :: a, b, d => by simp only [List.cons_append, bal]; exact bal_append a b _
/-- Where one is at depth 0 first. -/
def firstZero : Int → Nat → Bs → Option Nat
  | _, _, [] => none
  | d, i, b :: r => if (if b = 40 then d + 1 else if b = 41 then d - 1 else d) = 0 then some i else firstZero (if b = 40 then d + 1 else if b = 41 then d - 1 else d) (i + 1) r
theorem firstZero_40 {d : Int} {i : Nat} {r : Bs} : firstZero d i (40 :: r) = if d + 1 = 0 then some i else firstZero (d + 1) (i + 1) r := by simp [firstZero]
theorem firstZero_41 {d : Int} {i : Nat} {r : Bs} : firstZero d i (41 :: r) = if d - 1 = 0 then some i else firstZero (d - 1) (i + 1) r := by simp [firstZero]
theorem digit_ne {p : Nat} (h : p ≤ 8) : digit p ≠ 40 ∧ digit p ≠ 41 := by
  have := digit_nat h
  constructor <;> intro he <;> rw [he] at this <;> simp at this <;> omega
theorem T.bal_text : ∀ (t : T), t.Ok → ∀ d, bal d t.text = d
  | .leaf p, h, d => by
    have := digit_ne (h p (by simp [T.labs])).2
    simp [T.text, bal, this.1, this.2]
  | .node l r, h, d => by
    simp only [T.text, bal, bal_append, T.bal_text l h.l, T.bal_text r h.r]
    simp
theorem T.firstZero_in : ∀ (t : T), t.Ok → ∀ (d : Int) (i : Nat) (rest : Bs), 0 < d → firstZero d i (t.text ++ rest) = firstZero d (i + t.text.length) rest
  | .leaf p, h, d, i, rest, hd => by
    have := digit_ne (h p (by simp [T.labs])).2
    simp only [T.text, List.cons_append, List.nil_append, firstZero, this.1, this.2, if_false]
    rw [if_neg (by omega)]; rfl
  | .node l r, h, d, i, rest, hd => by
    have e : (T.node l r).text ++ rest = 40 :: (l.text ++ (r.text ++ (41 :: rest))) := by simp [T.text]
    have el : (T.node l r).text.length = 1 + l.text.length + r.text.length + 1 := by simp [T.text]; omega
    rw [e]
    rw [firstZero_40, if_neg (by omega), T.firstZero_in l h.l _ _ _ (by omega), T.firstZero_in r h.r _ _ _ (by omega), firstZero_41, if_neg (by omega), el]
    congr 1
    · omega
    · omega
theorem T.firstZero_text (t : T) (h : t.Ok) (rest : Bs) : firstZero 0 0 (t.text ++ rest) = some (t.text.length - 1) := by
  cases t with
  | leaf p =>
    have := digit_ne (h p (by simp [T.labs])).2
    simp [T.text, firstZero, this.1, this.2]
  | node l r =>
    have e : (T.node l r).text ++ rest = 40 :: (l.text ++ (r.text ++ (41 :: rest))) := by simp [T.text]
    have el : (T.node l r).text.length = 1 + l.text.length + r.text.length + 1 := by simp [T.text]; omega
    rw [e]
    rw [firstZero_40, if_neg (by omega), T.firstZero_in l h.l _ _ _ (by omega), T.firstZero_in r h.r _ _ _ (by omega), firstZero_41, if_pos (by omega), el]
    congr 1

theorem i32_eq {b : UInt8} {n : Nat} (hn : n < 256) : decide ((b.toNat : Int) = (n : Int)) = decide (b = UInt8.ofNat n) := by
  rw [Bool.eq_iff_iff]; simp only [decide_eq_true_eq]
  constructor
  · intro h
    have : b.toNat = n := by omega
    apply UInt8.toNat_inj.1; rw [this]; simp [UInt8.toNat_ofNat']; omega
  · rintro rfl; simp [UInt8.toNat_ofNat']; omega

theorem c_halves_leaf {p : Nat} : PureC prog F.place_halves [.str (T.leaf p).text] (.tup [.str [], .str [], .bool false]) := by
  intro σ Q hq
  refine calls_of_Y e_place_halves rfl ?_; simp only [tm0_0, tm0_1, tm0_2, tm0_3, tm0_4, tm0_5, tm0_6, wk, wd, UInt8.reduceToNat, reduceIte, reduceCtorEq, Nat.reduceEqDiff, Nat.reduceAdd, Nat.reduceMul, Nat.reduceSub, Nat.reduceLeDiff, Int.reduceNeg, Int.reduceAdd, Int.reduceSub, Int.reduceMul, Int.reduceLT, Int.reduceLE, Int.reduceEq, Int.reduceToNat, Nat.reduceBEq, Nat.reduceLT, Y_unf cc_place_halves_k0.eq_1, Y_unf cc_place_halves_c1.eq_1, Y_unf cc_place_halves_k2.eq_1, Y_unf cc_place_halves_k3.eq_1, Y_unf cc_place_halves_c4.eq_1, Y_unf cc_place_halves_c5.eq_1, Y_unf cc_place_halves_k6.eq_1, Y_unf cc_place_halves_c7.eq_1, Y_unf cc_place_halves_k8.eq_1, Y_unf cc_place_halves_k9.eq_1, Y_unf cc_place_halves_k10.eq_1, Y_unf cc_place_halves_k11.eq_1, Y_unf cc_place_halves_k12.eq_1, Y_unf cc_place_halves_l13.eq_1, Y_unf cc_place_halves_k14.eq_1, Y_unf cc_place_halves_k15.eq_1, Y_unf cc_place_halves_k16.eq_1, Y_unf cc_place_halves_k17.eq_1, Y_unf cc_place_halves_c18.eq_1, Y_unf cc_place_halves_k19.eq_1, Y_unf cc_place_halves_k20.eq_1, Y_unf cc_place_halves.eq_1, T.text]
  exact hq
theorem c_halves {l r : T} (hl : l.Ok) (hr : r.Ok) (hs : (T.node l r).text.length < 1000000) : PureC prog F.place_halves [.str (T.node l r).text] (.tup [.str l.text, .str r.text, .bool true]) := by
  refine PureC.of (by simp [IdsLt, IdsLts]) fun σ => ?_
  have el : (T.node l r).text.length = l.text.length + r.text.length + 2 := by simp [T.text]; omega
  have pl := T.text_pos l
  have pr := T.text_pos r
  have e1 : (((T.node l r).text.length : Nat) : Int) < 2 ↔ False := by simp; omega
  have w1 : IntKind.i64.wrap ((((T.node l r).text.length : Nat) : Int) - 1) = ((l.text.length + r.text.length + 1 : Nat) : Int) := by rw [wrap_i64 (by omega) (by omega)]; omega
  have s1 : evSubstr (T.node l r).text (some 1) (some ((l.text.length + r.text.length + 1 : Nat) : Int)) = some (.str (l.text ++ r.text)) := by
    have := evSub_nat (s := (T.node l r).text) (a := 1) (b := l.text.length + r.text.length + 1) (by omega) (by omega)
    rw [show ((1 : Nat) : Int) = 1 from rfl] at this
    rw [this]
    congr 2
    have : (T.node l r).text = 40 :: ((l.text ++ r.text) ++ [41]) := by simp [T.text]
    rw [this, show l.text.length + r.text.length + 1 = (l.text ++ r.text).length + 1 from by simp, List.take_succ_cons, List.drop_succ_cons, List.drop_zero, List.take_append_of_le_length (Nat.le_refl _), List.take_length]
  refine calls_of_Y e_place_halves rfl ?_; simp only [tm0_0, tm0_1, tm0_2, tm0_3, tm0_4, tm0_5, tm0_6, wk, wd, UInt8.reduceToNat, reduceIte, reduceCtorEq, Nat.reduceEqDiff, Nat.reduceAdd, Nat.reduceMul, Nat.reduceSub, Nat.reduceLeDiff, Int.reduceNeg, Int.reduceAdd, Int.reduceSub, Int.reduceMul, Int.reduceLT, Int.reduceLE, Int.reduceEq, Int.reduceToNat, Nat.reduceBEq, Nat.reduceLT, Y_unf cc_place_halves_k0.eq_1, Y_unf cc_place_halves_c1.eq_1, Y_unf cc_place_halves_k2.eq_1, Y_unf cc_place_halves_k3.eq_1, Y_unf cc_place_halves_c4.eq_1, Y_unf cc_place_halves_c5.eq_1, Y_unf cc_place_halves_k6.eq_1, Y_unf cc_place_halves_c7.eq_1, Y_unf cc_place_halves_k8.eq_1, Y_unf cc_place_halves_k9.eq_1, Y_unf cc_place_halves_k10.eq_1, Y_unf cc_place_halves_k11.eq_1, Y_unf cc_place_halves_k12.eq_1, Y_unf cc_place_halves_l13.eq_1, Y_unf cc_place_halves_k14.eq_1, Y_unf cc_place_halves_k15.eq_1, Y_unf cc_place_halves_k16.eq_1, Y_unf cc_place_halves_k17.eq_1, Y_unf cc_place_halves_c18.eq_1, Y_unf cc_place_halves_k19.eq_1, Y_unf cc_place_halves_k20.eq_1, Y_unf cc_place_halves.eq_1, e1, w1, s1]
  have hfz := T.firstZero_text l hl r.text
  have hasc : ∀ b ∈ l.text ++ r.text, b.toNat < 128 := fun b hb => by
    rcases List.mem_append.1 hb with hb | hb
    · exact T.text_ascii l hl b hb
    · exact T.text_ascii r hr b hb
  generalize hS : l.text ++ r.text = S at hfz hasc
  have hSl : S.length = l.text.length + r.text.length := by rw [← hS]; simp
  refine Lp_of (α := Nat × Int × Bs) (fun a tm σ' => Ext σ σ' ∧ σ'.heap σ.nx = some (.siter S a.1) ∧ S.drop a.1 = a.2.2 ∧ a.1 ≤ S.length ∧ -1000000 ≤ a.2.1 - a.2.2.length ∧ a.2.1 + a.2.2.length ≤ 1000000 ∧ firstZero a.2.1 a.1 a.2.2 = some (l.text.length - 1) ∧ tm 5 = .str S ∧ tm 6 = .int .i64 a.2.1 ∧ tm 18 = .it σ.nx ∧ tm 42 = .tup [])
    (fun a => a.2.2.length) (a := (0, 0, S)) ⟨(Ext.refl σ).new _, by simp [St.new_heap], by simp, by simp, by simp only []; omega, by simp only []; omega, hfz, by simp only [upd_at]; rfl, rfl, rfl, rfl⟩ ?_
  rintro J hJ ⟨i, d, rest⟩ tm σ' ⟨hE, hh, hd, hi, hb1, hb2, hz, h5, h6, h18, h42⟩
  simp only at hh hd hi hb1 hb2 hz h6
  cases rest with
  | nil => simp [firstZero] at hz
  | cons b rest =>
    obtain ⟨g1, g2, g3⟩ := drop_cons hd
    have hba : (b.toNat < 128) = True := eq_true (hasc b (List.mem_of_getElem? g2))
    simp only [List.length_cons] at hb1 hb2
    have n40 : ((b.toNat : Int) = 40) = (b = 40) := by have := i32_eq (b := b) (n := 40) (by decide); simpa using this
    have n41 : ((b.toNat : Int) = 41) = (b = 41) := by have := i32_eq (b := b) (n := 41) (by decide); simpa using this
    have wp : IntKind.i64.wrap (d + 1) = d + 1 := wrap_i64 (by omega) (by omega)
    have wm : IntKind.i64.wrap (d - 1) = d - 1 := wrap_i64 (by omega) (by omega)
    have wi : IntKind.i64.wrap ((i : Int) + 1) = ((i + 1 : Nat) : Int) := by rw [wrap_i64 (by omega) (by omega)]; omega
    have hE2 : Ext σ (σ'.set σ.nx (.siter S (i + 1))) := hE.set (Nat.le_refl _) _
    have hh2 : (σ'.set σ.nx (.siter S (i + 1))).heap σ.nx = some (.siter S (i + 1)) := by rw [St.set_heap, if_pos rfl]
    have hir : i + 1 + rest.length = S.length := by
      have := congrArg List.length hd
      simp at this; omega
    have sA : firstZero d i (b :: rest) = some (l.text.length - 1) → (if b = 40 then d + 1 else if b = 41 then d - 1 else d) = 0 → i = l.text.length - 1 := by
      intro h1 h2
      simp only [firstZero] at h1
      rw [if_pos h2] at h1; simpa using h1
    have fin0 : i = l.text.length - 1 → evSubstr S (some 0) (some ((i + 1 : Nat) : Int)) = some (.str l.text) ∧ evSubstr S (some ((i + 1 : Nat) : Int)) (some (S.length : Int)) = some (.str r.text) := by
      intro he
      have hil : i + 1 = l.text.length := by omega
      rw [hil]
      have t1 := evSub_nat (s := S) (a := 0) (b := l.text.length) (by omega) (by omega)
      have t2 := evSub_nat (s := S) (a := l.text.length) (b := S.length) (by omega) (by omega)
      rw [show ((0 : Nat) : Int) = 0 from rfl] at t1
      rw [t1, t2]
      rw [List.take_length, ← hS]
      simp
    have go1 : ∀ dn : Int, (if b = 40 then d + 1 else if b = 41 then d - 1 else d) = dn → dn ≠ 0 → ∀ tm' : Tm, tm' 5 = .str S → tm' 6 = .int .i64 dn → tm' 18 = .it σ.nx → tm' 42 = .tup [] → Nxt J (fun a => a.2.2.length) (rest.length + 1) tm' (σ'.set σ.nx (.siter S (i + 1))) := by
      intro dn hdn hne tm' u5 u6 u18 u42
      refine ⟨(i + 1, dn, rest), hJ _ _ _ ⟨hE2, hh2, g3, by simp only []; omega, ?_, ?_, ?_, u5, u6, u18, u42⟩, by simp only []; omega⟩
      · simp only []; split at hdn <;> (try split at hdn) <;> omega
      · simp only []; split at hdn <;> (try split at hdn) <;> omega
      · simp only []
        simp only [firstZero] at hz
        rw [hdn, if_neg hne] at hz; exact hz
    have hg2 : S[i]? = some b := g2
    have wz : IntKind.i64.wrap 0 = 0 := by decide
    by_cases b40 : b = 40
    · subst b40
      simp only [if_true] at go1 sA
      by_cases hd0 : d + 1 = 0
      · obtain ⟨f1, f2⟩ := fin0 (sA hz hd0)
        simp only [wk, wd, UInt8.reduceToNat, reduceIte, reduceCtorEq, Nat.reduceEqDiff, Nat.reduceAdd, Nat.reduceMul, Nat.reduceSub, Nat.reduceLeDiff, Int.reduceNeg, Int.reduceAdd, Int.reduceSub, Int.reduceMul, Int.reduceLT, Int.reduceLE, Int.reduceEq, Int.reduceToNat, Nat.reduceBEq, Nat.reduceLT, Y_unf cc_place_halves_k0.eq_1, Y_unf cc_place_halves_c1.eq_1, Y_unf cc_place_halves_k2.eq_1, Y_unf cc_place_halves_k3.eq_1, Y_unf cc_place_halves_c4.eq_1, Y_unf cc_place_halves_c5.eq_1, Y_unf cc_place_halves_k6.eq_1, Y_unf cc_place_halves_c7.eq_1, Y_unf cc_place_halves_k8.eq_1, Y_unf cc_place_halves_k9.eq_1, Y_unf cc_place_halves_k10.eq_1, Y_unf cc_place_halves_k11.eq_1, Y_unf cc_place_halves_k12.eq_1, Y_unf cc_place_halves_l13.eq_1, Y_unf cc_place_halves_k14.eq_1, Y_unf cc_place_halves_k15.eq_1, Y_unf cc_place_halves_k16.eq_1, Y_unf cc_place_halves_k17.eq_1, Y_unf cc_place_halves_c18.eq_1, Y_unf cc_place_halves_k19.eq_1, Y_unf cc_place_halves_k20.eq_1, Y_unf cc_place_halves.eq_1, h5, h6, h18, h42, hh, hg2, n40, n41, wp, hd0, wi, wz, f1, f2]
        exact hE2
      · simp only [wk, wd, UInt8.reduceToNat, reduceIte, reduceCtorEq, Nat.reduceEqDiff, Nat.reduceAdd, Nat.reduceMul, Nat.reduceSub, Nat.reduceLeDiff, Int.reduceNeg, Int.reduceAdd, Int.reduceSub, Int.reduceMul, Int.reduceLT, Int.reduceLE, Int.reduceEq, Int.reduceToNat, Nat.reduceBEq, Nat.reduceLT, Y_unf cc_place_halves_k0.eq_1, Y_unf cc_place_halves_c1.eq_1, Y_unf cc_place_halves_k2.eq_1, Y_unf cc_place_halves_k3.eq_1, Y_unf cc_place_halves_c4.eq_1, Y_unf cc_place_halves_c5.eq_1, Y_unf cc_place_halves_k6.eq_1, Y_unf cc_place_halves_c7.eq_1, Y_unf cc_place_halves_k8.eq_1, Y_unf cc_place_halves_k9.eq_1, Y_unf cc_place_halves_k10.eq_1, Y_unf cc_place_halves_k11.eq_1, Y_unf cc_place_halves_k12.eq_1, Y_unf cc_place_halves_l13.eq_1, Y_unf cc_place_halves_k14.eq_1, Y_unf cc_place_halves_k15.eq_1, Y_unf cc_place_halves_k16.eq_1, Y_unf cc_place_halves_k17.eq_1, Y_unf cc_place_halves_c18.eq_1, Y_unf cc_place_halves_k19.eq_1, Y_unf cc_place_halves_k20.eq_1, Y_unf cc_place_halves.eq_1, h5, h6, h18, h42, hh, hg2, n40, n41, wp, hd0]
        exact go1 _ rfl hd0 _ (by simp only [upd_at]; exact h5) rfl (by simp only [upd_at]; exact h18) (by simp only [upd_at]; exact h42)
    · by_cases b41 : b = 41
      · subst b41
        simp only [b40, if_true, if_false] at go1 sA
        by_cases hd0 : d - 1 = 0
        · obtain ⟨f1, f2⟩ := fin0 (sA hz hd0)
          simp only [wk, wd, UInt8.reduceToNat, reduceIte, reduceCtorEq, Nat.reduceEqDiff, Nat.reduceAdd, Nat.reduceMul, Nat.reduceSub, Nat.reduceLeDiff, Int.reduceNeg, Int.reduceAdd, Int.reduceSub, Int.reduceMul, Int.reduceLT, Int.reduceLE, Int.reduceEq, Int.reduceToNat, Nat.reduceBEq, Nat.reduceLT, Y_unf cc_place_halves_k0.eq_1, Y_unf cc_place_halves_c1.eq_1, Y_unf cc_place_halves_k2.eq_1, Y_unf cc_place_halves_k3.eq_1, Y_unf cc_place_halves_c4.eq_1, Y_unf cc_place_halves_c5.eq_1, Y_unf cc_place_halves_k6.eq_1, Y_unf cc_place_halves_c7.eq_1, Y_unf cc_place_halves_k8.eq_1, Y_unf cc_place_halves_k9.eq_1, Y_unf cc_place_halves_k10.eq_1, Y_unf cc_place_halves_k11.eq_1, Y_unf cc_place_halves_k12.eq_1, Y_unf cc_place_halves_l13.eq_1, Y_unf cc_place_halves_k14.eq_1, Y_unf cc_place_halves_k15.eq_1, Y_unf cc_place_halves_k16.eq_1, Y_unf cc_place_halves_k17.eq_1, Y_unf cc_place_halves_c18.eq_1, Y_unf cc_place_halves_k19.eq_1, Y_unf cc_place_halves_k20.eq_1, Y_unf cc_place_halves.eq_1, h5, h6, h18, h42, hh, hg2, n40, n41, b40, wm, hd0, wi, wz, f1, f2]
          exact hE2
        · simp only [wk, wd, UInt8.reduceToNat, reduceIte, reduceCtorEq, Nat.reduceEqDiff, Nat.reduceAdd, Nat.reduceMul, Nat.reduceSub, Nat.reduceLeDiff, Int.reduceNeg, Int.reduceAdd, Int.reduceSub, Int.reduceMul, Int.reduceLT, Int.reduceLE, Int.reduceEq, Int.reduceToNat, Nat.reduceBEq, Nat.reduceLT, Y_unf cc_place_halves_k0.eq_1, Y_unf cc_place_halves_c1.eq_1, Y_unf cc_place_halves_k2.eq_1, Y_unf cc_place_halves_k3.eq_1, Y_unf cc_place_halves_c4.eq_1, Y_unf cc_place_halves_c5.eq_1, Y_unf cc_place_halves_k6.eq_1, Y_unf cc_place_halves_c7.eq_1, Y_unf cc_place_halves_k8.eq_1, Y_unf cc_place_halves_k9.eq_1, Y_unf cc_place_halves_k10.eq_1, Y_unf cc_place_halves_k11.eq_1, Y_unf cc_place_halves_k12.eq_1, Y_unf cc_place_halves_l13.eq_1, Y_unf cc_place_halves_k14.eq_1, Y_unf cc_place_halves_k15.eq_1, Y_unf cc_place_halves_k16.eq_1, Y_unf cc_place_halves_k17.eq_1, Y_unf cc_place_halves_c18.eq_1, Y_unf cc_place_halves_k19.eq_1, Y_unf cc_place_halves_k20.eq_1, Y_unf cc_place_halves.eq_1, h5, h6, h18, h42, hh, hg2, n40, n41, b40, wm, hd0]
          exact go1 _ rfl hd0 _ (by simp only [upd_at]; exact h5) rfl (by simp only [upd_at]; exact h18) (by simp only [upd_at]; exact h42)
      · simp only [b40, b41, if_false] at go1 sA
        by_cases hd0 : d = 0
        · obtain ⟨f1, f2⟩ := fin0 (sA hz hd0)
          simp only [wk, wd, UInt8.reduceToNat, reduceIte, reduceCtorEq, Nat.reduceEqDiff, Nat.reduceAdd, Nat.reduceMul, Nat.reduceSub, Nat.reduceLeDiff, Int.reduceNeg, Int.reduceAdd, Int.reduceSub, Int.reduceMul, Int.reduceLT, Int.reduceLE, Int.reduceEq, Int.reduceToNat, Nat.reduceBEq, Nat.reduceLT, Y_unf cc_place_halves_k0.eq_1, Y_unf cc_place_halves_c1.eq_1, Y_unf cc_place_halves_k2.eq_1, Y_unf cc_place_halves_k3.eq_1, Y_unf cc_place_halves_c4.eq_1, Y_unf cc_place_halves_c5.eq_1, Y_unf cc_place_halves_k6.eq_1, Y_unf cc_place_halves_c7.eq_1, Y_unf cc_place_halves_k8.eq_1, Y_unf cc_place_halves_k9.eq_1, Y_unf cc_place_halves_k10.eq_1, Y_unf cc_place_halves_k11.eq_1, Y_unf cc_place_halves_k12.eq_1, Y_unf cc_place_halves_l13.eq_1, Y_unf cc_place_halves_k14.eq_1, Y_unf cc_place_halves_k15.eq_1, Y_unf cc_place_halves_k16.eq_1, Y_unf cc_place_halves_k17.eq_1, Y_unf cc_place_halves_c18.eq_1, Y_unf cc_place_halves_k19.eq_1, Y_unf cc_place_halves_k20.eq_1, Y_unf cc_place_halves.eq_1, h5, h6, h18, h42, hh, hg2, hba, n40, n41, b40, b41, hd0, wi, f1, f2]
          exact hE2
        · simp only [wk, wd, UInt8.reduceToNat, reduceIte, reduceCtorEq, Nat.reduceEqDiff, Nat.reduceAdd, Nat.reduceMul, Nat.reduceSub, Nat.reduceLeDiff, Int.reduceNeg, Int.reduceAdd, Int.reduceSub, Int.reduceMul, Int.reduceLT, Int.reduceLE, Int.reduceEq, Int.reduceToNat, Nat.reduceBEq, Nat.reduceLT, Y_unf cc_place_halves_k0.eq_1, Y_unf cc_place_halves_c1.eq_1, Y_unf cc_place_halves_k2.eq_1, Y_unf cc_place_halves_k3.eq_1, Y_unf cc_place_halves_c4.eq_1, Y_unf cc_place_halves_c5.eq_1, Y_unf cc_place_halves_k6.eq_1, Y_unf cc_place_halves_c7.eq_1, Y_unf cc_place_halves_k8.eq_1, Y_unf cc_place_halves_k9.eq_1, Y_unf cc_place_halves_k10.eq_1, Y_unf cc_place_halves_k11.eq_1, Y_unf cc_place_halves_k12.eq_1, Y_unf cc_place_halves_l13.eq_1, Y_unf cc_place_halves_k14.eq_1, Y_unf cc_place_halves_k15.eq_1, Y_unf cc_place_halves_k16.eq_1, Y_unf cc_place_halves_k17.eq_1, Y_unf cc_place_halves_c18.eq_1, Y_unf cc_place_halves_k19.eq_1, Y_unf cc_place_halves_k20.eq_1, Y_unf cc_place_halves.eq_1, h5, h6, h18, h42, hh, hg2, hba, n40, n41, b40, b41, hd0]
          exact go1 _ rfl hd0 _ (by simp only [upd_at]; exact h5) (by simp only [upd_at]; exact h6) (by simp only [upd_at]; exact h18) (by simp only [upd_at]; exact h42)
end Go.Proofs.Tryd
open Go Go.Abs
set_option linter.unusedVariables false
set_option linter.unusedSimpArgs false
namespace Go.Proofs.Tryd

def T.walk : Bs → T → List (Bs × T)
  | n, .leaf p => [(n, .leaf p)]
  | n, .node l r => (n, .node l r) :: (T.walk (n ++ [108]) l ++ T.walk (n ++ [114]) r)
def rowOf (x : Bs × T) : List AV := [.str x.1, .str x.2.text]
def rows (n : Bs) (t : T) : List (List AV) := (T.walk n t).map rowOf

def InvIn (l l' c3 off : Nat) (lp : LoopState → Option Code → Blk) (Inv : Nat → List Nat → St → Prop) : Nat → List Nat → St → Prop := fun i D1 σ =>
  ∃ D, D1 = l' :: c3 :: D ∧ Inv (off + i) D σ ∧ l' ∉ D ∧ c3 ∉ D ∧ l' < σ.nx ∧ c3 < σ.nx ∧ l' ≠ c3 ∧ σ.heap l' = some (lp .ready none) ∧ σ.heap c3 = some (.arr 1 [.yl l] 0 0)
def StopIn (l l' c3 : Nat) (lp : LoopState → Option Code → Blk) (Stop : List Nat → St → Prop) : List Nat → St → Prop := fun D1 σ =>
  ∃ D, D1 = l' :: c3 :: D ∧ Stop D σ ∧ l' ∉ D ∧ c3 ∉ D ∧ l' < σ.nx ∧ c3 < σ.nx ∧ l' ≠ c3 ∧ σ.heap l' = some (lp .done (some .ret)) ∧ σ.heap c3 = some (.arr 1 [.yl l] 0 0)
theorem owns_in {l l' c3 off : Nat} {lp : LoopState → Option Code → Blk} {Inv : Nat → List Nat → St → Prop} {Stop : List Nat → St → Prop} (hO : Owns Inv Stop) : Owns (InvIn l l' c3 off lp Inv) (StopIn l l' c3 lp Stop) where
  lt := by
    rintro i D1 σ ⟨D, rfl, hI, h1, h2, h3, h4, _⟩ j hj
    rcases List.mem_cons.1 hj with rfl | hj
    · exact h3
    · rcases List.mem_cons.1 hj with rfl | hj
      · exact h4
      · exact hO.lt _ _ _ hI j hj
  stab := by
    rintro i D1 σ σ' ⟨D, rfl, hI, h1, h2, h3, h4, h5, h6, h7⟩ hk hn
    exact ⟨D, rfl, hO.stab _ _ _ _ hI (fun j hj => hk j (by simp [hj])) hn, h1, h2, by omega, by omega, h5, by rw [hk _ (by simp)]; exact h6, by rw [hk _ (by simp)]; exact h7⟩
  stop := by
    rintro D1 σ σ' ⟨D, rfl, hS, h1, h2, h3, h4, h5, h6, h7⟩ hk hn
    exact ⟨D, rfl, hO.stop _ _ _ hS (fun j hj => hk j (by simp [hj])) hn, h1, h2, by omega, by omega, h5, by rw [hk _ (by simp)]; exact h6, by rw [hk _ (by simp)]; exact h7⟩
  slt := by
    rintro D1 σ ⟨D, rfl, hS, h1, h2, h3, h4, _⟩ j hj
    rcases List.mem_cons.1 hj with rfl | hj
    · exact h3
    · rcases List.mem_cons.1 hj with rfl | hj
      · exact h4
      · exact hO.slt _ _ hS j hj

theorem gd2_in {l' c3 : Nat} {D D2 : List Nat} {σ σ2 σ3 : St} {B : Blk} (hG : Gd2 D (σ.set l' B) D2 σ2) (hn : σ3.nx = σ2.nx) (hl : l' < σ.nx) (hc : c3 < σ.nx) (h3 : ∀ i, i ≠ l' → σ3.heap i = σ2.heap i) : Gd2 (l' :: c3 :: D) σ (l' :: c3 :: D2) σ3 where
  nx := by rw [hn]; exact hG.nx
  own := by
    intro i hi
    rcases List.mem_cons.1 hi with rfl | hi
    · exact .inl (by simp)
    · rcases List.mem_cons.1 hi with rfl | hi
      · exact .inl (by simp)
      · rcases hG.own i hi with h | h
        · exact .inl (by simp [h])
        · exact .inr h
  keep := by
    intro i hi hD
    simp only [List.mem_cons, not_or] at hD
    rw [h3 i hD.1, hG.keep i hi hD.2.2, St.set_heap, if_neg hD.1]

theorem yields_r4 {l l' c3 off : Nat} {Inv : Nat → List Nat → St → Prop} {Stop : List Nat → St → Prop} (hO : Owns Inv Stop) {xs ys zs : List (List AV)} (hY : YieldRows prog l (xs ++ (ys ++ zs)) Inv Stop) (hoff : xs.length = off)
    {tl : List AV} (htl : tl.length = 46) (h3 : tm0 tl 3 = .ptr c3 0 0) (hrow : ∀ y ∈ ys, ∃ a b, y = [.str a, .str b]) :
    YieldRows prog l' ys (InvIn l l' c3 off (fun st j => .loop st j tl cc_place_below__1_r4_p cc_place_below__1_r4_x cc_place_below__1_r4_y) Inv) (StopIn l l' c3 (fun st j => .loop st j tl cc_place_below__1_r4_p cc_place_below__1_r4_x cc_place_below__1_r4_y) Stop) := by
  rintro i x D1 σ hx ⟨D, rfl, hI, n1, n2, n3, n4, n5, n6, n7⟩ Q hq1 hq2
  obtain ⟨a, b, rfl⟩ := hrow x (List.mem_of_getElem? hx)
  have hx' : (xs ++ (ys ++ zs))[off + i]? = some [.str a, .str b] := by
    have hi : i < ys.length := (List.getElem?_eq_some_iff.1 hx).1
    rw [List.getElem?_append_right (by omega), hoff, Nat.add_sub_cancel_left, List.getElem?_append_left hi]; exact hx
  have nc : (c3 = l') = False := eq_false (fun h => n5 h.symm)
  refine yields_of_Y n6 (by rw [htl]; exact cc_place_below__1_r4_ca) (by rw [htl]; exact cc_place_below__1_r4_cb) (by rw [cc_place_below__1_r4_ps, htl]; decide) (by rw [cc_place_below__1_r4_ps]; rfl) ?_
  rw [cc_place_below__1_r4_ps]
  simp only [wk, wd, UInt8.reduceToNat, reduceIte, reduceCtorEq, Nat.reduceEqDiff, Nat.reduceAdd, Nat.reduceMul, Nat.reduceSub, Nat.reduceLeDiff, Int.reduceNeg, Int.reduceAdd, Int.reduceSub, Int.reduceMul, Int.reduceLT, Int.reduceLE, Int.reduceEq, Int.reduceToNat, Nat.reduceBEq, Nat.reduceLT, Y_unf cc_place_below__1_r0_k1.eq_1, Y_unf cc_place_below__1_r0_a.eq_1, Y_unf cc_place_below__1_r0_b.eq_1, Y_unf cc_place_below__1_k2.eq_1, Y_unf cc_place_below__1_k3.eq_1, Y_unf cc_place_below__1_r4_k5.eq_1, Y_unf cc_place_below__1_r4_a.eq_1, Y_unf cc_place_below__1_r4_b.eq_1, Y_unf cc_place_below__1_k6.eq_1, Y_unf cc_place_below__1_k7.eq_1, Y_unf cc_place_below__1_k8.eq_1, Y_unf cc_place_below__1_k9.eq_1, Y_unf cc_place_below__1_k10.eq_1, Y_unf cc_place_below__1_k11.eq_1, Y_unf cc_place_below__1_k12.eq_1, Y_unf cc_place_below__1.eq_1, putPs, List.toList_toArray, cc_place_below__1_r4_a]
  refine ⟨none, by rw [n6, cc_place_below__1_r4_ps], ?_⟩
  simp only [wk, wd, UInt8.reduceToNat, reduceIte, reduceCtorEq, Nat.reduceEqDiff, Nat.reduceAdd, Nat.reduceMul, Nat.reduceSub, Nat.reduceLeDiff, Int.reduceNeg, Int.reduceAdd, Int.reduceSub, Int.reduceMul, Int.reduceLT, Int.reduceLE, Int.reduceEq, Int.reduceToNat, Nat.reduceBEq, Nat.reduceLT, Y_unf cc_place_below__1_r0_k1.eq_1, Y_unf cc_place_below__1_r0_a.eq_1, Y_unf cc_place_below__1_r0_b.eq_1, Y_unf cc_place_below__1_k2.eq_1, Y_unf cc_place_below__1_k3.eq_1, Y_unf cc_place_below__1_r4_k5.eq_1, Y_unf cc_place_below__1_r4_a.eq_1, Y_unf cc_place_below__1_r4_b.eq_1, Y_unf cc_place_below__1_k6.eq_1, Y_unf cc_place_below__1_k7.eq_1, Y_unf cc_place_below__1_k8.eq_1, Y_unf cc_place_below__1_k9.eq_1, Y_unf cc_place_below__1_k10.eq_1, Y_unf cc_place_below__1_k11.eq_1, Y_unf cc_place_below__1_k12.eq_1, Y_unf cc_place_below__1.eq_1, cc_place_below__1_r4_b, h3, n7, nc]
  refine Dc_yl (hY (off + i) _ D (σ.set l' (.loop .busy none tl #[28, 29] cc_place_below__1_r4_x cc_place_below__1_r4_y)) hx' (hO.stab _ _ _ _ hI (fun j hj => by rw [St.set_heap, if_neg (fun he : j = l' => n1 (by rw [← he]; exact hj))]) (Nat.le_refl _)) _ (fun D2 σ2 hI2 hG => ⟨trivial, ?_⟩) (fun D2 σ2 hS2 hG => ⟨trivial, ?_⟩))
  · have hl2 : σ2.heap l' = some (.loop .busy none tl #[28, 29] cc_place_below__1_r4_x cc_place_below__1_r4_y) := by rw [hG.keep l' n3 n1, St.set_heap, if_pos rfl]
    have hc2 : σ2.heap c3 = some (.arr 1 [.yl l] 0 0) := by rw [hG.keep c3 n4 n2, St.set_heap, if_neg (fun h => n5 h.symm)]; exact n7
    have l2 : l' ∉ D2 := fun hm => by rcases hG.own _ hm with h | h
                                      · exact n1 h
                                      · simp only [St.set_nx] at h; omega
    have c2 : c3 ∉ D2 := fun hm => by rcases hG.own _ hm with h | h
                                      · exact n2 h
                                      · simp only [St.set_nx] at h; omega
    have hnx : σ.nx ≤ σ2.nx := hG.nx
    simp only [wk, wd, UInt8.reduceToNat, reduceIte, reduceCtorEq, Nat.reduceEqDiff, Nat.reduceAdd, Nat.reduceMul, Nat.reduceSub, Nat.reduceLeDiff, Int.reduceNeg, Int.reduceAdd, Int.reduceSub, Int.reduceMul, Int.reduceLT, Int.reduceLE, Int.reduceEq, Int.reduceToNat, Nat.reduceBEq, Nat.reduceLT, Y_unf cc_place_below__1_r0_k1.eq_1, Y_unf cc_place_below__1_r0_a.eq_1, Y_unf cc_place_below__1_r0_b.eq_1, Y_unf cc_place_below__1_k2.eq_1, Y_unf cc_place_below__1_k3.eq_1, Y_unf cc_place_below__1_r4_k5.eq_1, Y_unf cc_place_below__1_r4_a.eq_1, Y_unf cc_place_below__1_r4_b.eq_1, Y_unf cc_place_below__1_k6.eq_1, Y_unf cc_place_below__1_k7.eq_1, Y_unf cc_place_below__1_k8.eq_1, Y_unf cc_place_below__1_k9.eq_1, Y_unf cc_place_below__1_k10.eq_1, Y_unf cc_place_below__1_k11.eq_1, Y_unf cc_place_below__1_k12.eq_1, Y_unf cc_place_below__1.eq_1, roundEnd, hl2]
    refine hq1 (l' :: c3 :: D2) _ ⟨D2, rfl, ?_, l2, c2, by simp only [St.set_nx]; omega, by simp only [St.set_nx]; omega, n5, by rw [St.set_heap, if_pos rfl, cc_place_below__1_r4_ps], by rw [St.set_heap, if_neg (fun h => n5 h.symm)]; exact hc2⟩ (gd2_in hG rfl n3 n4 (fun j hj => by rw [St.set_heap, if_neg hj]))
    exact hO.stab _ _ _ _ hI2 (fun j hj => by rw [St.set_heap, if_neg (fun he : j = l' => l2 (by rw [← he]; exact hj))]) (Nat.le_refl _)
  · have hl2 : σ2.heap l' = some (.loop .busy none tl #[28, 29] cc_place_below__1_r4_x cc_place_below__1_r4_y) := by rw [hG.keep l' n3 n1, St.set_heap, if_pos rfl]
    have l2 : l' ∉ D2 := fun hm => by rcases hG.own _ hm with h | h
                                      · exact n1 h
                                      · simp only [St.set_nx] at h; omega
    have hnx : σ.nx ≤ σ2.nx := hG.nx
    simp only [wk, wd, UInt8.reduceToNat, reduceIte, reduceCtorEq, Nat.reduceEqDiff, Nat.reduceAdd, Nat.reduceMul, Nat.reduceSub, Nat.reduceLeDiff, Int.reduceNeg, Int.reduceAdd, Int.reduceSub, Int.reduceMul, Int.reduceLT, Int.reduceLE, Int.reduceEq, Int.reduceToNat, Nat.reduceBEq, Nat.reduceLT, Y_unf cc_place_below__1_r0_k1.eq_1, Y_unf cc_place_below__1_r0_a.eq_1, Y_unf cc_place_below__1_r0_b.eq_1, Y_unf cc_place_below__1_k2.eq_1, Y_unf cc_place_below__1_k3.eq_1, Y_unf cc_place_below__1_r4_k5.eq_1, Y_unf cc_place_below__1_r4_a.eq_1, Y_unf cc_place_below__1_r4_b.eq_1, Y_unf cc_place_below__1_k6.eq_1, Y_unf cc_place_below__1_k7.eq_1, Y_unf cc_place_below__1_k8.eq_1, Y_unf cc_place_below__1_k9.eq_1, Y_unf cc_place_below__1_k10.eq_1, Y_unf cc_place_below__1_k11.eq_1, Y_unf cc_place_below__1_k12.eq_1, Y_unf cc_place_below__1.eq_1, roundEnd, hl2]
    have hc2 : σ2.heap c3 = some (.arr 1 [.yl l] 0 0) := by rw [hG.keep c3 n4 n2, St.set_heap, if_neg (fun h => n5 h.symm)]; exact n7
    have c2 : c3 ∉ D2 := fun hm => by rcases hG.own _ hm with h | h
                                      · exact n2 h
                                      · simp only [St.set_nx] at h; omega
    refine hq2 (l' :: c3 :: D2) _ ⟨D2, rfl, ?_, l2, c2, by simp only [St.set_nx]; omega, by simp only [St.set_nx]; omega, n5, by rw [St.set_heap, if_pos rfl, cc_place_below__1_r4_ps], by rw [St.set_heap, if_neg (fun h => n5 h.symm)]; exact hc2⟩ (gd2_in hG rfl n3 n4 (fun j hj => by rw [St.set_heap, if_neg hj]))
    exact hO.stop _ _ _ hS2 (fun j hj => by rw [St.set_heap, if_neg (fun he : j = l' => l2 (by rw [← he]; exact hj))]) (Nat.le_refl _)

theorem yields_r0 {l l' c3 off : Nat} {Inv : Nat → List Nat → St → Prop} {Stop : List Nat → St → Prop} (hO : Owns Inv Stop) {xs ys zs : List (List AV)} (hY : YieldRows prog l (xs ++ (ys ++ zs)) Inv Stop) (hoff : xs.length = off)
    {tl : List AV} (htl : tl.length = 46) (h3 : tm0 tl 3 = .ptr c3 0 0) (hrow : ∀ y ∈ ys, ∃ a b, y = [.str a, .str b]) :
    YieldRows prog l' ys (InvIn l l' c3 off (fun st j => .loop st j tl cc_place_below__1_r0_p cc_place_below__1_r0_x cc_place_below__1_r0_y) Inv) (StopIn l l' c3 (fun st j => .loop st j tl cc_place_below__1_r0_p cc_place_below__1_r0_x cc_place_below__1_r0_y) Stop) := by
  rintro i x D1 σ hx ⟨D, rfl, hI, n1, n2, n3, n4, n5, n6, n7⟩ Q hq1 hq2
  obtain ⟨a, b, rfl⟩ := hrow x (List.mem_of_getElem? hx)
  have hx' : (xs ++ (ys ++ zs))[off + i]? = some [.str a, .str b] := by
    have hi : i < ys.length := (List.getElem?_eq_some_iff.1 hx).1
    rw [List.getElem?_append_right (by omega), hoff, Nat.add_sub_cancel_left, List.getElem?_append_left hi]; exact hx
  have nc : (c3 = l') = False := eq_false (fun h => n5 h.symm)
  refine yields_of_Y n6 (by rw [htl]; exact cc_place_below__1_r0_ca) (by rw [htl]; exact cc_place_below__1_r0_cb) (by rw [cc_place_below__1_r0_ps, htl]; decide) (by rw [cc_place_below__1_r0_ps]; rfl) ?_
  rw [cc_place_below__1_r0_ps]
  simp only [wk, wd, UInt8.reduceToNat, reduceIte, reduceCtorEq, Nat.reduceEqDiff, Nat.reduceAdd, Nat.reduceMul, Nat.reduceSub, Nat.reduceLeDiff, Int.reduceNeg, Int.reduceAdd, Int.reduceSub, Int.reduceMul, Int.reduceLT, Int.reduceLE, Int.reduceEq, Int.reduceToNat, Nat.reduceBEq, Nat.reduceLT, Y_unf cc_place_below__1_r0_k1.eq_1, Y_unf cc_place_below__1_r0_a.eq_1, Y_unf cc_place_below__1_r0_b.eq_1, Y_unf cc_place_below__1_k2.eq_1, Y_unf cc_place_below__1_k3.eq_1, Y_unf cc_place_below__1_r4_k5.eq_1, Y_unf cc_place_below__1_r4_a.eq_1, Y_unf cc_place_below__1_r4_b.eq_1, Y_unf cc_place_below__1_k6.eq_1, Y_unf cc_place_below__1_k7.eq_1, Y_unf cc_place_below__1_k8.eq_1, Y_unf cc_place_below__1_k9.eq_1, Y_unf cc_place_below__1_k10.eq_1, Y_unf cc_place_below__1_k11.eq_1, Y_unf cc_place_below__1_k12.eq_1, Y_unf cc_place_below__1.eq_1, putPs, List.toList_toArray, cc_place_below__1_r0_a]
  refine ⟨none, by rw [n6, cc_place_below__1_r0_ps], ?_⟩
  simp only [wk, wd, UInt8.reduceToNat, reduceIte, reduceCtorEq, Nat.reduceEqDiff, Nat.reduceAdd, Nat.reduceMul, Nat.reduceSub, Nat.reduceLeDiff, Int.reduceNeg, Int.reduceAdd, Int.reduceSub, Int.reduceMul, Int.reduceLT, Int.reduceLE, Int.reduceEq, Int.reduceToNat, Nat.reduceBEq, Nat.reduceLT, Y_unf cc_place_below__1_r0_k1.eq_1, Y_unf cc_place_below__1_r0_a.eq_1, Y_unf cc_place_below__1_r0_b.eq_1, Y_unf cc_place_below__1_k2.eq_1, Y_unf cc_place_below__1_k3.eq_1, Y_unf cc_place_below__1_r4_k5.eq_1, Y_unf cc_place_below__1_r4_a.eq_1, Y_unf cc_place_below__1_r4_b.eq_1, Y_unf cc_place_below__1_k6.eq_1, Y_unf cc_place_below__1_k7.eq_1, Y_unf cc_place_below__1_k8.eq_1, Y_unf cc_place_below__1_k9.eq_1, Y_unf cc_place_below__1_k10.eq_1, Y_unf cc_place_below__1_k11.eq_1, Y_unf cc_place_below__1_k12.eq_1, Y_unf cc_place_below__1.eq_1, cc_place_below__1_r0_b, h3, n7, nc]
  refine Dc_yl (hY (off + i) _ D (σ.set l' (.loop .busy none tl #[39, 40] cc_place_below__1_r0_x cc_place_below__1_r0_y)) hx' (hO.stab _ _ _ _ hI (fun j hj => by rw [St.set_heap, if_neg (fun he : j = l' => n1 (by rw [← he]; exact hj))]) (Nat.le_refl _)) _ (fun D2 σ2 hI2 hG => ⟨trivial, ?_⟩) (fun D2 σ2 hS2 hG => ⟨trivial, ?_⟩))
  · have hl2 : σ2.heap l' = some (.loop .busy none tl #[39, 40] cc_place_below__1_r0_x cc_place_below__1_r0_y) := by rw [hG.keep l' n3 n1, St.set_heap, if_pos rfl]
    have hc2 : σ2.heap c3 = some (.arr 1 [.yl l] 0 0) := by rw [hG.keep c3 n4 n2, St.set_heap, if_neg (fun h => n5 h.symm)]; exact n7
    have l2 : l' ∉ D2 := fun hm => by rcases hG.own _ hm with h | h
                                      · exact n1 h
                                      · simp only [St.set_nx] at h; omega
    have c2 : c3 ∉ D2 := fun hm => by rcases hG.own _ hm with h | h
                                      · exact n2 h
                                      · simp only [St.set_nx] at h; omega
    have hnx : σ.nx ≤ σ2.nx := hG.nx
    simp only [wk, wd, UInt8.reduceToNat, reduceIte, reduceCtorEq, Nat.reduceEqDiff, Nat.reduceAdd, Nat.reduceMul, Nat.reduceSub, Nat.reduceLeDiff, Int.reduceNeg, Int.reduceAdd, Int.reduceSub, Int.reduceMul, Int.reduceLT, Int.reduceLE, Int.reduceEq, Int.reduceToNat, Nat.reduceBEq, Nat.reduceLT, Y_unf cc_place_below__1_r0_k1.eq_1, Y_unf cc_place_below__1_r0_a.eq_1, Y_unf cc_place_below__1_r0_b.eq_1, Y_unf cc_place_below__1_k2.eq_1, Y_unf cc_place_below__1_k3.eq_1, Y_unf cc_place_below__1_r4_k5.eq_1, Y_unf cc_place_below__1_r4_a.eq_1, Y_unf cc_place_below__1_r4_b.eq_1, Y_unf cc_place_below__1_k6.eq_1, Y_unf cc_place_below__1_k7.eq_1, Y_unf cc_place_below__1_k8.eq_1, Y_unf cc_place_below__1_k9.eq_1, Y_unf cc_place_below__1_k10.eq_1, Y_unf cc_place_below__1_k11.eq_1, Y_unf cc_place_below__1_k12.eq_1, Y_unf cc_place_below__1.eq_1, roundEnd, hl2]
    refine hq1 (l' :: c3 :: D2) _ ⟨D2, rfl, ?_, l2, c2, by simp only [St.set_nx]; omega, by simp only [St.set_nx]; omega, n5, by rw [St.set_heap, if_pos rfl, cc_place_below__1_r0_ps], by rw [St.set_heap, if_neg (fun h => n5 h.symm)]; exact hc2⟩ (gd2_in hG rfl n3 n4 (fun j hj => by rw [St.set_heap, if_neg hj]))
    exact hO.stab _ _ _ _ hI2 (fun j hj => by rw [St.set_heap, if_neg (fun he : j = l' => l2 (by rw [← he]; exact hj))]) (Nat.le_refl _)
  · have hl2 : σ2.heap l' = some (.loop .busy none tl #[39, 40] cc_place_below__1_r0_x cc_place_below__1_r0_y) := by rw [hG.keep l' n3 n1, St.set_heap, if_pos rfl]
    have l2 : l' ∉ D2 := fun hm => by rcases hG.own _ hm with h | h
                                      · exact n1 h
                                      · simp only [St.set_nx] at h; omega
    have hnx : σ.nx ≤ σ2.nx := hG.nx
    simp only [wk, wd, UInt8.reduceToNat, reduceIte, reduceCtorEq, Nat.reduceEqDiff, Nat.reduceAdd, Nat.reduceMul, Nat.reduceSub, Nat.reduceLeDiff, Int.reduceNeg, Int.reduceAdd, Int.reduceSub, Int.reduceMul, Int.reduceLT, Int.reduceLE, Int.reduceEq, Int.reduceToNat, Nat.reduceBEq, Nat.reduceLT, Y_unf cc_place_below__1_r0_k1.eq_1, Y_unf cc_place_below__1_r0_a.eq_1, Y_unf cc_place_below__1_r0_b.eq_1, Y_unf cc_place_below__1_k2.eq_1, Y_unf cc_place_below__1_k3.eq_1, Y_unf cc_place_below__1_r4_k5.eq_1, Y_unf cc_place_below__1_r4_a.eq_1, Y_unf cc_place_below__1_r4_b.eq_1, Y_unf cc_place_below__1_k6.eq_1, Y_unf cc_place_below__1_k7.eq_1, Y_unf cc_place_below__1_k8.eq_1, Y_unf cc_place_below__1_k9.eq_1, Y_unf cc_place_below__1_k10.eq_1, Y_unf cc_place_below__1_k11.eq_1, Y_unf cc_place_below__1_k12.eq_1, Y_unf cc_place_below__1.eq_1, roundEnd, hl2]
    have hc2 : σ2.heap c3 = some (.arr 1 [.yl l] 0 0) := by rw [hG.keep c3 n4 n2, St.set_heap, if_neg (fun h => n5 h.symm)]; exact n7
    have c2 : c3 ∉ D2 := fun hm => by rcases hG.own _ hm with h | h
                                      · exact n2 h
                                      · simp only [St.set_nx] at h; omega
    refine hq2 (l' :: c3 :: D2) _ ⟨D2, rfl, ?_, l2, c2, by simp only [St.set_nx]; omega, by simp only [St.set_nx]; omega, n5, by rw [St.set_heap, if_pos rfl, cc_place_below__1_r0_ps], by rw [St.set_heap, if_neg (fun h => n5 h.symm)]; exact hc2⟩ (gd2_in hG rfl n3 n4 (fun j hj => by rw [St.set_heap, if_neg hj]))
    exact hO.stop _ _ _ hS2 (fun j hj => by rw [St.set_heap, if_neg (fun he : j = l' => l2 (by rw [← he]; exact hj))]) (Nat.le_refl _)
end Go.Proofs.Tryd
open Go Go.Abs
set_option linter.unusedVariables false
set_option linter.unusedSimpArgs false
namespace Go.Proofs.Tryd

theorem callable_below1 : callable prog F.place_below__1 = true := by kernel_rfl
theorem c_below {n s : Bs} {σ : St} {Q : AV → St → Prop} (hq : Q (.fn F.place_below__1 [.ptr σ.nx 0 0, .ptr (σ.nx + 1) 0 0]) ((σ.new (.arr 1 [.str n] 0 0)).new (.arr 1 [.str s] 0 0))) : CallsA prog F.place_below [.str n, .str s] σ Q := by
  refine calls_of_Y e_place_below rfl ?_; simp only [tm0_0, tm0_1, tm0_2, tm0_3, tm0_4, tm0_5, tm0_6, wk, wd, UInt8.reduceToNat, reduceIte, reduceCtorEq, Nat.reduceEqDiff, Nat.reduceAdd, Nat.reduceMul, Nat.reduceSub, Nat.reduceLeDiff, Int.reduceNeg, Int.reduceAdd, Int.reduceSub, Int.reduceMul, Int.reduceLT, Int.reduceLE, Int.reduceEq, Int.reduceToNat, Nat.reduceBEq, Nat.reduceLT, Y_unf cc_place_below.eq_1]
  exact hq
theorem rows_form {n : Bs} {t : T} : ∀ y ∈ rows n t, ∃ a b, y = [.str a, .str b] := by
  intro y hy
  obtain ⟨x, _, rfl⟩ := List.mem_map.1 hy
  exact ⟨_, _, rfl⟩

theorem c_inner {a : T} {n' : Bs} {l c3 off : Nat} {Inv : Nat → List Nat → St → Prop} {Stop : List Nat → St → Prop} (hO : Owns Inv Stop) (ha : a.Ok) (hn : n'.length + a.labs.length ≤ 1000)
    (ih : a.Ok → ∀ (n : Bs) (l : Nat) (Inv : Nat → List Nat → St → Prop) (Stop : List Nat → St → Prop), Owns Inv Stop → YieldRows prog l (rows n a) Inv Stop → ∀ {σ : St} {c1 c2 : Nat} {D : List Nat}, Inv 0 D σ →
      c1 < σ.nx → c2 < σ.nx → c1 ∉ D → c2 ∉ D → σ.heap c1 = some (.arr 1 [.str n] 0 0) → σ.heap c2 = some (.arr 1 [.str a.text] 0 0) → n.length + a.labs.length ≤ 1000 →
      ∀ Q : AV → St → Prop, (∀ D' σ', Inv (rows n a).length D' σ' → Gd2 D σ D' σ' → Q (.tup []) σ') → (∀ D' σ', Stop D' σ' → Gd2 D σ D' σ' → Q (.tup []) σ') → CallsA prog F.place_below__1 [.yl l, .ptr c1 0 0, .ptr c2 0 0] σ Q)
    {σ : St} {D : List Nat} {c4 c5 : Nat} {lp : LoopState → Option Code → Blk} (hY : YieldRows prog (σ.nx + 1) (rows n' a) (InvIn l (σ.nx + 1) c3 off lp Inv) (StopIn l (σ.nx + 1) c3 lp Stop))
    (hI : Inv off D σ) (h3 : c3 < σ.nx) (d3 : c3 ∉ D) (k3 : σ.heap c3 = some (.arr 1 [.yl l] 0 0)) (h4 : c4 < σ.nx) (h5 : c5 < σ.nx) (d4 : c4 ∉ D) (d5 : c5 ∉ D) (n34 : c4 ≠ c3) (n35 : c5 ≠ c3)
    (k4 : σ.heap c4 = some (.arr 1 [.str n'] 0 0)) (k5 : σ.heap c5 = some (.arr 1 [.str a.text] 0 0)) {R : AV → St → Prop}
    (hq1 : ∀ D' σ', Inv (off + (rows n' a).length) D' σ' → Gd2 D σ D' σ' → σ'.heap σ.nx = some .defd → σ'.heap (σ.nx + 1) = some (lp .ready none) → σ.nx ∉ D' → σ.nx + 1 ∉ D' → σ.nx + 2 ≤ σ'.nx → R (.tup []) σ')
    (hq2 : ∀ D' σ', Stop D' σ' → Gd2 D σ D' σ' → σ'.heap σ.nx = some .defd → σ'.heap (σ.nx + 1) = some (lp .done (some .ret)) → σ.nx ∉ D' → σ.nx + 1 ∉ D' → σ.nx + 2 ≤ σ'.nx → R (.tup []) σ') :
    CallsA prog F.place_below__1 [.yl (σ.nx + 1), .ptr c4 0 0, .ptr c5 0 0] ((σ.new .defd).new (lp .ready none)) R := by
  have hDn := hO.lt _ _ _ hI
  have hx : Ext σ ((σ.new .defd).new (lp .ready none)) := ((Ext.refl σ).new _).new _
  have hnx : ((σ.new .defd).new (lp .ready none)).nx = σ.nx + 2 := rfl
  have hI5 : InvIn l (σ.nx + 1) c3 off lp Inv 0 ((σ.nx + 1) :: c3 :: D) ((σ.new .defd).new (lp .ready none)) :=
    ⟨D, rfl, hO.stab _ _ _ _ hI (fun j hj => hx.heap j (hDn j hj)) hx.nx, fun hm => by have := hDn _ hm; omega, d3, by omega, by omega, by omega, by simp [St.new_heap, St.new_nx], by rw [hx.heap c3 h3]; exact k3⟩
  have gd : ∀ D' σ', Gd2 ((σ.nx + 1) :: c3 :: D) ((σ.new .defd).new (lp .ready none)) ((σ.nx + 1) :: c3 :: D') σ' → σ.nx + 1 ∉ D' → c3 ∉ D' → σ'.heap c3 = some (.arr 1 [.yl l] 0 0) →
      Gd2 D σ D' σ' ∧ σ'.heap σ.nx = some .defd ∧ σ.nx ∉ D' ∧ σ.nx + 2 ≤ σ'.nx := by
    intro D' σ' hG m1 m2 kc
    have g1 := hG.nx
    rw [hnx] at g1
    have own : ∀ i ∈ D', i ∈ D ∨ σ.nx + 2 ≤ i := by
      intro i hi
      rcases hG.own i (by simp [hi]) with h | h
      · rcases List.mem_cons.1 h with rfl | h
        · exact absurd hi m1
        · rcases List.mem_cons.1 h with rfl | h
          · exact absurd hi m2
          · exact .inl h
      · exact .inr h
    refine ⟨⟨by omega, fun i hi => ?_, fun i hi hD => ?_⟩, ?_, fun hm => ?_, g1⟩
    · rcases own i hi with h | h
      · exact .inl h
      · exact .inr (by omega)
    · by_cases hc : i = c3
      · subst hc; rw [kc, k3]
      · rw [hG.keep i (by rw [hnx]; omega) (by simp only [List.mem_cons, not_or]; exact ⟨by omega, hc, hD⟩), hx.heap i hi]
    · rw [hG.keep σ.nx (by rw [hnx]; omega) (by simp only [List.mem_cons, not_or]; exact ⟨by omega, by omega, fun hm => by have := hDn _ hm; omega⟩)]
      simp [St.new_heap, St.new_nx]
    · rcases own _ hm with h | h
      · have := hDn _ h; omega
      · omega
  refine ih ha n' (σ.nx + 1) _ _ (owns_in hO) hY hI5 (by rw [hnx]; omega) (by rw [hnx]; omega) (by simp only [List.mem_cons, not_or]; exact ⟨by omega, n34, d4⟩) (by simp only [List.mem_cons, not_or]; exact ⟨by omega, n35, d5⟩)
    (by rw [hx.heap c4 h4]; exact k4) (by rw [hx.heap c5 h5]; exact k5) hn R ?_ ?_
  · rintro D1 σ' ⟨D', rfl, hI', m1, m2, m3, m4, m5, m6, m7⟩ hG
    obtain ⟨g1, g2, g3, g4⟩ := gd D' σ' hG m1 m2 m7
    exact hq1 D' σ' hI' g1 g2 m6 g3 m1 g4
  · rintro D1 σ' ⟨D', rfl, hS', m1, m2, m3, m4, m5, m6, m7⟩ hG
    obtain ⟨g1, g2, g3, g4⟩ := gd D' σ' hG m1 m2 m7
    exact hq2 D' σ' hS' g1 g2 m6 g3 m1 g4

theorem c_below1 (t : T) : ∀ (ht : t.Ok) (n : Bs) (l : Nat) (Inv : Nat → List Nat → St → Prop) (Stop : List Nat → St → Prop) (hO : Owns Inv Stop) (hY : YieldRows prog l (rows n t) Inv Stop) {σ : St} {c1 c2 : Nat} {D : List Nat}, Inv 0 D σ →
    c1 < σ.nx → c2 < σ.nx → c1 ∉ D → c2 ∉ D → σ.heap c1 = some (.arr 1 [.str n] 0 0) → σ.heap c2 = some (.arr 1 [.str t.text] 0 0) → n.length + t.labs.length ≤ 1000 →
    ∀ Q : AV → St → Prop, (∀ D' σ', Inv (rows n t).length D' σ' → Gd2 D σ D' σ' → Q (.tup []) σ') → (∀ D' σ', Stop D' σ' → Gd2 D σ D' σ' → Q (.tup []) σ') →
      CallsA prog F.place_below__1 [.yl l, .ptr c1 0 0, .ptr c2 0 0] σ Q := by
  induction t with
  | leaf p =>
    intro ht n l Inv Stop hO hY σ c1 c2 D hI l1 l2 d1 d2 h1 h2 hn Q hq1 hq2
    have e1 : (c1 = σ.nx) = False := eq_false (by omega)
    have e2 : (c2 = σ.nx) = False := eq_false (by omega)
    have hx : Ext σ (σ.new (.arr 1 [.yl l] 0 0)) := (Ext.refl σ).new _
    have hI1 : Inv 0 D (σ.new (.arr 1 [.yl l] 0 0)) := hO.stab _ _ _ _ hI (fun j hj => hx.heap j (hO.lt _ _ _ hI j hj)) hx.nx
    refine calls_of_Y e_place_below__1 rfl ?_; simp only [tm0_0, tm0_1, tm0_2, tm0_3, tm0_4, tm0_5, tm0_6, wk, wd, UInt8.reduceToNat, reduceIte, reduceCtorEq, Nat.reduceEqDiff, Nat.reduceAdd, Nat.reduceMul, Nat.reduceSub, Nat.reduceLeDiff, Int.reduceNeg, Int.reduceAdd, Int.reduceSub, Int.reduceMul, Int.reduceLT, Int.reduceLE, Int.reduceEq, Int.reduceToNat, Nat.reduceBEq, Nat.reduceLT, Y_unf cc_place_below__1_r0_k1.eq_1, Y_unf cc_place_below__1_r0_a.eq_1, Y_unf cc_place_below__1_r0_b.eq_1, Y_unf cc_place_below__1_k2.eq_1, Y_unf cc_place_below__1_k3.eq_1, Y_unf cc_place_below__1_r4_k5.eq_1, Y_unf cc_place_below__1_r4_a.eq_1, Y_unf cc_place_below__1_r4_b.eq_1, Y_unf cc_place_below__1_k6.eq_1, Y_unf cc_place_below__1_k7.eq_1, Y_unf cc_place_below__1_k8.eq_1, Y_unf cc_place_below__1_k9.eq_1, Y_unf cc_place_below__1_k10.eq_1, Y_unf cc_place_below__1_k11.eq_1, Y_unf cc_place_below__1_k12.eq_1, Y_unf cc_place_below__1.eq_1, h1, h2, e1, e2]
    refine Dc_yl (hY 0 _ D (σ.new (.arr 1 [.yl l] 0 0)) rfl hI1 _ (fun D2 σ2 hI2 hG => ⟨trivial, ?_⟩) (fun D2 σ2 hS2 hG => ⟨trivial, ?_⟩))
    · have h22 : σ2.heap c2 = some (.arr 1 [.str (T.leaf p).text] 0 0) := by rw [hG.keep c2 (by simp [St.new_nx]; omega) d2, hx.heap c2 l2]; exact h2
      simp only [wk, wd, UInt8.reduceToNat, reduceIte, reduceCtorEq, Nat.reduceEqDiff, Nat.reduceAdd, Nat.reduceMul, Nat.reduceSub, Nat.reduceLeDiff, Int.reduceNeg, Int.reduceAdd, Int.reduceSub, Int.reduceMul, Int.reduceLT, Int.reduceLE, Int.reduceEq, Int.reduceToNat, Nat.reduceBEq, Nat.reduceLT, Y_unf cc_place_below__1_r0_k1.eq_1, Y_unf cc_place_below__1_r0_a.eq_1, Y_unf cc_place_below__1_r0_b.eq_1, Y_unf cc_place_below__1_k2.eq_1, Y_unf cc_place_below__1_k3.eq_1, Y_unf cc_place_below__1_r4_k5.eq_1, Y_unf cc_place_below__1_r4_a.eq_1, Y_unf cc_place_below__1_r4_b.eq_1, Y_unf cc_place_below__1_k6.eq_1, Y_unf cc_place_below__1_k7.eq_1, Y_unf cc_place_below__1_k8.eq_1, Y_unf cc_place_below__1_k9.eq_1, Y_unf cc_place_below__1_k10.eq_1, Y_unf cc_place_below__1_k11.eq_1, Y_unf cc_place_below__1_k12.eq_1, Y_unf cc_place_below__1.eq_1, h22]
      refine Cl_pure0 (c_halves_leaf) ?_; simp only [wk, wd, UInt8.reduceToNat, reduceIte, reduceCtorEq, Nat.reduceEqDiff, Nat.reduceAdd, Nat.reduceMul, Nat.reduceSub, Nat.reduceLeDiff, Int.reduceNeg, Int.reduceAdd, Int.reduceSub, Int.reduceMul, Int.reduceLT, Int.reduceLE, Int.reduceEq, Int.reduceToNat, Nat.reduceBEq, Nat.reduceLT, Y_unf cc_place_below__1_r0_k1.eq_1, Y_unf cc_place_below__1_r0_a.eq_1, Y_unf cc_place_below__1_r0_b.eq_1, Y_unf cc_place_below__1_k2.eq_1, Y_unf cc_place_below__1_k3.eq_1, Y_unf cc_place_below__1_r4_k5.eq_1, Y_unf cc_place_below__1_r4_a.eq_1, Y_unf cc_place_below__1_r4_b.eq_1, Y_unf cc_place_below__1_k6.eq_1, Y_unf cc_place_below__1_k7.eq_1, Y_unf cc_place_below__1_k8.eq_1, Y_unf cc_place_below__1_k9.eq_1, Y_unf cc_place_below__1_k10.eq_1, Y_unf cc_place_below__1_k11.eq_1, Y_unf cc_place_below__1_k12.eq_1, Y_unf cc_place_below__1.eq_1]
      exact hq1 _ _ hI2 ((Gd2.ext hx).trans hG)
    · simp only [wk, wd, UInt8.reduceToNat, reduceIte, reduceCtorEq, Nat.reduceEqDiff, Nat.reduceAdd, Nat.reduceMul, Nat.reduceSub, Nat.reduceLeDiff, Int.reduceNeg, Int.reduceAdd, Int.reduceSub, Int.reduceMul, Int.reduceLT, Int.reduceLE, Int.reduceEq, Int.reduceToNat, Nat.reduceBEq, Nat.reduceLT, Y_unf cc_place_below__1_r0_k1.eq_1, Y_unf cc_place_below__1_r0_a.eq_1, Y_unf cc_place_below__1_r0_b.eq_1, Y_unf cc_place_below__1_k2.eq_1, Y_unf cc_place_below__1_k3.eq_1, Y_unf cc_place_below__1_r4_k5.eq_1, Y_unf cc_place_below__1_r4_a.eq_1, Y_unf cc_place_below__1_r4_b.eq_1, Y_unf cc_place_below__1_k6.eq_1, Y_unf cc_place_below__1_k7.eq_1, Y_unf cc_place_below__1_k8.eq_1, Y_unf cc_place_below__1_k9.eq_1, Y_unf cc_place_below__1_k10.eq_1, Y_unf cc_place_below__1_k11.eq_1, Y_unf cc_place_below__1_k12.eq_1, Y_unf cc_place_below__1.eq_1]
      exact hq2 _ _ hS2 ((Gd2.ext hx).trans hG)
  | node a b iha ihb =>
    intro ht n l Inv Stop hO hY σ c1 c2 D hI l1 l2 d1 d2 h1 h2 hn Q hq1 hq2
    have e1 : (c1 = σ.nx) = False := eq_false (by omega)
    have e2 : (c2 = σ.nx) = False := eq_false (by omega)
    have hx : Ext σ (σ.new (.arr 1 [.yl l] 0 0)) := (Ext.refl σ).new _
    have hI1 : Inv 0 D (σ.new (.arr 1 [.yl l] 0 0)) := hO.stab _ _ _ _ hI (fun j hj => hx.heap j (hO.lt _ _ _ hI j hj)) hx.nx
    have hDn : ∀ j ∈ D, j < σ.nx := hO.lt _ _ _ hI
    simp only [T.labs, List.length_append] at hn
    have pa := T.labs_pos a
    have pb := T.labs_pos b
    have tl := T.text_len (.node a b)
    simp only [T.labs, List.length_append] at tl
    have hrl : (rows n (.node a b)).length = 1 + (rows (n ++ [108]) a).length + (rows (n ++ [114]) b).length := by simp [rows, T.walk]; omega
    have hre : rows n (.node a b) = [[.str n, .str (T.node a b).text]] ++ (rows (n ++ [108]) a ++ rows (n ++ [114]) b) := by simp [rows, T.walk, rowOf]
    refine calls_of_Y e_place_below__1 rfl ?_; simp only [tm0_0, tm0_1, tm0_2, tm0_3, tm0_4, tm0_5, tm0_6, wk, wd, UInt8.reduceToNat, reduceIte, reduceCtorEq, Nat.reduceEqDiff, Nat.reduceAdd, Nat.reduceMul, Nat.reduceSub, Nat.reduceLeDiff, Int.reduceNeg, Int.reduceAdd, Int.reduceSub, Int.reduceMul, Int.reduceLT, Int.reduceLE, Int.reduceEq, Int.reduceToNat, Nat.reduceBEq, Nat.reduceLT, Y_unf cc_place_below__1_r0_k1.eq_1, Y_unf cc_place_below__1_r0_a.eq_1, Y_unf cc_place_below__1_r0_b.eq_1, Y_unf cc_place_below__1_k2.eq_1, Y_unf cc_place_below__1_k3.eq_1, Y_unf cc_place_below__1_r4_k5.eq_1, Y_unf cc_place_below__1_r4_a.eq_1, Y_unf cc_place_below__1_r4_b.eq_1, Y_unf cc_place_below__1_k6.eq_1, Y_unf cc_place_below__1_k7.eq_1, Y_unf cc_place_below__1_k8.eq_1, Y_unf cc_place_below__1_k9.eq_1, Y_unf cc_place_below__1_k10.eq_1, Y_unf cc_place_below__1_k11.eq_1, Y_unf cc_place_below__1_k12.eq_1, Y_unf cc_place_below__1.eq_1, h1, h2, e1, e2]
    refine Dc_yl (hY 0 _ D (σ.new (.arr 1 [.yl l] 0 0)) rfl hI1 _ (fun D2 σ2 hI2 hG => ⟨trivial, ?_⟩) (fun D2 σ2 hS2 hG => ⟨trivial, ?_⟩))
    · have hn2 : σ.nx + 1 ≤ σ2.nx := hG.nx
      have D2n : ∀ j ∈ D2, j < σ2.nx := hO.lt _ _ _ hI2
      have fr : ∀ c, c < σ.nx + 1 → c ∉ D → c ∉ D2 ∧ σ2.heap c = (σ.new (.arr 1 [.yl l] 0 0)).heap c := fun c hc hd => ⟨fun hm => by
        rcases hG.own _ hm with h | h
        · exact hd h
        · simp only [St.new_nx] at h; omega, hG.keep c (by simp only [St.new_nx]; omega) hd⟩
      have d3 : σ.nx ∉ D := fun hm => by have := hDn _ hm; omega
      have h22 : σ2.heap c2 = some (.arr 1 [.str (T.node a b).text] 0 0) := by rw [(fr c2 (by omega) d2).2, hx.heap c2 l2]; exact h2
      have h21 : σ2.heap c1 = some (.arr 1 [.str n] 0 0) := by rw [(fr c1 (by omega) d1).2, hx.heap c1 l1]; exact h1
      have h23 : σ2.heap σ.nx = some (.arr 1 [.yl l] 0 0) := by rw [(fr _ (by omega) d3).2, St.new_heap, if_pos rfl]
      simp only [wk, wd, UInt8.reduceToNat, reduceIte, reduceCtorEq, Nat.reduceEqDiff, Nat.reduceAdd, Nat.reduceMul, Nat.reduceSub, Nat.reduceLeDiff, Int.reduceNeg, Int.reduceAdd, Int.reduceSub, Int.reduceMul, Int.reduceLT, Int.reduceLE, Int.reduceEq, Int.reduceToNat, Nat.reduceBEq, Nat.reduceLT, Y_unf cc_place_below__1_r0_k1.eq_1, Y_unf cc_place_below__1_r0_a.eq_1, Y_unf cc_place_below__1_r0_b.eq_1, Y_unf cc_place_below__1_k2.eq_1, Y_unf cc_place_below__1_k3.eq_1, Y_unf cc_place_below__1_r4_k5.eq_1, Y_unf cc_place_below__1_r4_a.eq_1, Y_unf cc_place_below__1_r4_b.eq_1, Y_unf cc_place_below__1_k6.eq_1, Y_unf cc_place_below__1_k7.eq_1, Y_unf cc_place_below__1_k8.eq_1, Y_unf cc_place_below__1_k9.eq_1, Y_unf cc_place_below__1_k10.eq_1, Y_unf cc_place_below__1_k11.eq_1, Y_unf cc_place_below__1_k12.eq_1, Y_unf cc_place_below__1.eq_1, h22]
      refine Cl_pure0 (c_halves ht.l ht.r (by omega)) ?_; simp only [wk, wd, UInt8.reduceToNat, reduceIte, reduceCtorEq, Nat.reduceEqDiff, Nat.reduceAdd, Nat.reduceMul, Nat.reduceSub, Nat.reduceLeDiff, Int.reduceNeg, Int.reduceAdd, Int.reduceSub, Int.reduceMul, Int.reduceLT, Int.reduceLE, Int.reduceEq, Int.reduceToNat, Nat.reduceBEq, Nat.reduceLT, Y_unf cc_place_below__1_r0_k1.eq_1, Y_unf cc_place_below__1_r0_a.eq_1, Y_unf cc_place_below__1_r0_b.eq_1, Y_unf cc_place_below__1_k2.eq_1, Y_unf cc_place_below__1_k3.eq_1, Y_unf cc_place_below__1_r4_k5.eq_1, Y_unf cc_place_below__1_r4_a.eq_1, Y_unf cc_place_below__1_r4_b.eq_1, Y_unf cc_place_below__1_k6.eq_1, Y_unf cc_place_below__1_k7.eq_1, Y_unf cc_place_below__1_k8.eq_1, Y_unf cc_place_below__1_k9.eq_1, Y_unf cc_place_below__1_k10.eq_1, Y_unf cc_place_below__1_k11.eq_1, Y_unf cc_place_below__1_k12.eq_1, Y_unf cc_place_below__1.eq_1]
      have sl : (n.length + 1 ≤ 4611686018427387904) = True := eq_true (by omega)
      simp only [wk, wd, UInt8.reduceToNat, reduceIte, reduceCtorEq, Nat.reduceEqDiff, Nat.reduceAdd, Nat.reduceMul, Nat.reduceSub, Nat.reduceLeDiff, Int.reduceNeg, Int.reduceAdd, Int.reduceSub, Int.reduceMul, Int.reduceLT, Int.reduceLE, Int.reduceEq, Int.reduceToNat, Nat.reduceBEq, Nat.reduceLT, Y_unf cc_place_below__1_r0_k1.eq_1, Y_unf cc_place_below__1_r0_a.eq_1, Y_unf cc_place_below__1_r0_b.eq_1, Y_unf cc_place_below__1_k2.eq_1, Y_unf cc_place_below__1_k3.eq_1, Y_unf cc_place_below__1_r4_k5.eq_1, Y_unf cc_place_below__1_r4_a.eq_1, Y_unf cc_place_below__1_r4_b.eq_1, Y_unf cc_place_below__1_k6.eq_1, Y_unf cc_place_below__1_k7.eq_1, Y_unf cc_place_below__1_k8.eq_1, Y_unf cc_place_below__1_k9.eq_1, Y_unf cc_place_below__1_k10.eq_1, Y_unf cc_place_below__1_k11.eq_1, Y_unf cc_place_below__1_k12.eq_1, Y_unf cc_place_below__1.eq_1, h21, sl]
      refine c_below ⟨trivial, ?_⟩
      simp only [wk, wd, UInt8.reduceToNat, reduceIte, reduceCtorEq, Nat.reduceEqDiff, Nat.reduceAdd, Nat.reduceMul, Nat.reduceSub, Nat.reduceLeDiff, Int.reduceNeg, Int.reduceAdd, Int.reduceSub, Int.reduceMul, Int.reduceLT, Int.reduceLE, Int.reduceEq, Int.reduceToNat, Nat.reduceBEq, Nat.reduceLT, Y_unf cc_place_below__1_r0_k1.eq_1, Y_unf cc_place_below__1_r0_a.eq_1, Y_unf cc_place_below__1_r0_b.eq_1, Y_unf cc_place_below__1_k2.eq_1, Y_unf cc_place_below__1_k3.eq_1, Y_unf cc_place_below__1_r4_k5.eq_1, Y_unf cc_place_below__1_r4_a.eq_1, Y_unf cc_place_below__1_r4_b.eq_1, Y_unf cc_place_below__1_k6.eq_1, Y_unf cc_place_below__1_k7.eq_1, Y_unf cc_place_below__1_k8.eq_1, Y_unf cc_place_below__1_k9.eq_1, Y_unf cc_place_below__1_k10.eq_1, Y_unf cc_place_below__1_k11.eq_1, Y_unf cc_place_below__1_k12.eq_1, Y_unf cc_place_below__1.eq_1]
      -- the first half
      generalize hσ4 : ((σ2.new (.arr 1 [.str (n ++ [108])] 0 0)).new (.arr 1 [.str a.text] 0 0)) = σ4
      have n4 : σ4.nx = σ2.nx + 2 := by rw [← hσ4]; simp [St.new_nx]
      have x4 : Ext σ2 σ4 := by rw [← hσ4]; exact ((Ext.refl σ2).new _).new _
      have k41 : σ4.heap σ2.nx = some (.arr 1 [.str (n ++ [108])] 0 0) := by rw [← hσ4]; simp [St.new_heap, St.new_nx]
      have k42 : σ4.heap (σ2.nx + 1) = some (.arr 1 [.str a.text] 0 0) := by rw [← hσ4]; simp [St.new_heap, St.new_nx]
      refine Rf_fn ⟨callable_below1, ?_⟩
      generalize htm : (upd (upd _ _ _) 27 _ : Tm) = tm
      have tm3 : tm 3 = .ptr σ.nx 0 0 := by rw [← htm]; simp only [upd_at]; rfl
      have tm5 : tm 5 = .str b.text := by rw [← htm]; simp only [upd_at]; rfl
      have tm1 : tm 1 = .ptr c1 0 0 := by rw [← htm]; simp only [upd_at]; rfl
      have tm46 : tm 46 = .tup [] := by rw [← htm]; simp only [upd_at]; rfl
      clear htm
      have tl3 : tm0 (tmL tm 46) 3 = .ptr σ.nx 0 0 := by rw [tm0_tmL (by decide)]; exact tm3
      have hya := yields_r4 (l := l) (l' := σ4.nx + 1) (c3 := σ.nx) (off := 1) hO (xs := [[.str n, .str (T.node a b).text]]) (ys := rows (n ++ [108]) a) (zs := rows (n ++ [114]) b) (by rw [← hre]; exact hY) rfl (tmL_length tm 46) tl3 rows_form
      have D2d := fr σ.nx (by omega) d3
      have hI4 : Inv 1 D2 σ4 := hO.stab _ _ _ _ hI2 (fun j hj => x4.heap j (D2n j hj)) x4.nx
      refine c_inner hO ht.l (by simp; omega) iha hya hI4 (by omega) D2d.1 (by rw [x4.heap _ (by omega)]; exact h23) (by omega) (by omega) (fun hm => by have := D2n _ hm; omega) (fun hm => by have := D2n _ hm; omega) (by omega) (by omega) k41 k42 ?_ ?_
      · intro D5 σ5 hI5 hG5 q1 q2 q3 q4 q5
        simp only [afterLoop, q2]
        refine ⟨by simp, ?_⟩
        have f46 : (46 : Nat) = 46 := rfl
        have G25 : Gd2 D2 σ2 D5 σ5 := (Gd2.ext x4).trans hG5
        have D5n : ∀ j ∈ D5, j < σ5.nx := hO.lt _ _ _ hI5
        generalize hσ6 : σ5.set (σ4.nx + 1) (.loop .exhausted none (tmL tm 46) cc_place_below__1_r4_p cc_place_below__1_r4_x cc_place_below__1_r4_y) = σ6
        have n6 : σ6.nx = σ5.nx := by rw [← hσ6]; rfl
        have k6 : ∀ i, i ≠ σ4.nx + 1 → σ6.heap i = σ5.heap i := fun i hi => by rw [← hσ6, St.set_heap, if_neg hi]
        have hI6 : Inv (1 + (rows (n ++ [108]) a).length) D5 σ6 := hO.stab _ _ _ _ hI5 (fun j hj => k6 j (fun he => q4 (by rw [← he]; exact hj))) (by omega)
        have x5 := hG5.nx
        have fr5 : ∀ c, c < σ.nx + 1 → c ∉ D → c ∉ D5 ∧ σ6.heap c = σ2.heap c := fun c hc hd => by
          have hd2 := (fr c hc hd).1
          have c5 : c ∉ D5 := fun hm => by
            rcases G25.own _ hm with h | h
            · exact hd2 h
            · omega
          exact ⟨c5, by rw [k6 c (by omega), G25.keep c (by omega) hd2]⟩
        have h61 : σ6.heap c1 = some (.arr 1 [.str n] 0 0) := by rw [(fr5 c1 (by omega) d1).2]; exact h21
        have h63 : σ6.heap σ.nx = some (.arr 1 [.yl l] 0 0) := by rw [(fr5 _ (by omega) d3).2]; exact h23
        have h64 : σ6.heap σ4.nx = some .defd := by rw [k6 _ (by omega)]; exact q1
        simp only [wk, wd, UInt8.reduceToNat, reduceIte, reduceCtorEq, Nat.reduceEqDiff, Nat.reduceAdd, Nat.reduceMul, Nat.reduceSub, Nat.reduceLeDiff, Int.reduceNeg, Int.reduceAdd, Int.reduceSub, Int.reduceMul, Int.reduceLT, Int.reduceLE, Int.reduceEq, Int.reduceToNat, Nat.reduceBEq, Nat.reduceLT, Y_unf cc_place_below__1_r0_k1.eq_1, Y_unf cc_place_below__1_r0_a.eq_1, Y_unf cc_place_below__1_r0_b.eq_1, Y_unf cc_place_below__1_k2.eq_1, Y_unf cc_place_below__1_k3.eq_1, Y_unf cc_place_below__1_r4_k5.eq_1, Y_unf cc_place_below__1_r4_a.eq_1, Y_unf cc_place_below__1_r4_b.eq_1, Y_unf cc_place_below__1_k6.eq_1, Y_unf cc_place_below__1_k7.eq_1, Y_unf cc_place_below__1_k8.eq_1, Y_unf cc_place_below__1_k9.eq_1, Y_unf cc_place_below__1_k10.eq_1, Y_unf cc_place_below__1_k11.eq_1, Y_unf cc_place_below__1_k12.eq_1, Y_unf cc_place_below__1.eq_1, pushD, tm46, tm1, tm5, h61, sl]
        refine c_below ⟨trivial, ?_⟩
        simp only [wk, wd, UInt8.reduceToNat, reduceIte, reduceCtorEq, Nat.reduceEqDiff, Nat.reduceAdd, Nat.reduceMul, Nat.reduceSub, Nat.reduceLeDiff, Int.reduceNeg, Int.reduceAdd, Int.reduceSub, Int.reduceMul, Int.reduceLT, Int.reduceLE, Int.reduceEq, Int.reduceToNat, Nat.reduceBEq, Nat.reduceLT, Y_unf cc_place_below__1_r0_k1.eq_1, Y_unf cc_place_below__1_r0_a.eq_1, Y_unf cc_place_below__1_r0_b.eq_1, Y_unf cc_place_below__1_k2.eq_1, Y_unf cc_place_below__1_k3.eq_1, Y_unf cc_place_below__1_r4_k5.eq_1, Y_unf cc_place_below__1_r4_a.eq_1, Y_unf cc_place_below__1_r4_b.eq_1, Y_unf cc_place_below__1_k6.eq_1, Y_unf cc_place_below__1_k7.eq_1, Y_unf cc_place_below__1_k8.eq_1, Y_unf cc_place_below__1_k9.eq_1, Y_unf cc_place_below__1_k10.eq_1, Y_unf cc_place_below__1_k11.eq_1, Y_unf cc_place_below__1_k12.eq_1, Y_unf cc_place_below__1.eq_1]
        generalize hσ8 : ((σ6.new (.arr 1 [.str (n ++ [114])] 0 0)).new (.arr 1 [.str b.text] 0 0)) = σ8
        have n8 : σ8.nx = σ6.nx + 2 := by rw [← hσ8]; simp [St.new_nx]
        have x8 : Ext σ6 σ8 := by rw [← hσ8]; exact ((Ext.refl σ6).new _).new _
        have k81 : σ8.heap σ6.nx = some (.arr 1 [.str (n ++ [114])] 0 0) := by rw [← hσ8]; simp [St.new_heap, St.new_nx]
        have k82 : σ8.heap (σ6.nx + 1) = some (.arr 1 [.str b.text] 0 0) := by rw [← hσ8]; simp [St.new_heap, St.new_nx]
        refine Rf_fn ⟨callable_below1, ?_⟩
        generalize htm : (upd (upd _ _ _) 38 _ : Tm) = tn
        have tn3 : tn 3 = .ptr σ.nx 0 0 := by rw [← htm]; simp only [upd_at]; exact tm3
        have tn46 : tn 46 = .tup [.map σ4.nx] := by rw [← htm]; simp only [upd_at]; rfl
        clear htm
        have tl3' : tm0 (tmL tn 46) 3 = .ptr σ.nx 0 0 := by rw [tm0_tmL (by decide)]; exact tn3
        have hyb := yields_r0 (l := l) (l' := σ8.nx + 1) (c3 := σ.nx) (off := 1 + (rows (n ++ [108]) a).length) hO (xs := [[.str n, .str (T.node a b).text]] ++ rows (n ++ [108]) a) (ys := rows (n ++ [114]) b) (zs := [])
          (by rw [List.append_nil, List.append_assoc, ← hre]; exact hY) (by simp; omega) (tmL_length tn 46) tl3' rows_form
        have D6n : ∀ j ∈ D5, j < σ6.nx := fun j hj => by rw [n6]; exact D5n j hj
        have hI8 : Inv (1 + (rows (n ++ [108]) a).length) D5 σ8 := hO.stab _ _ _ _ hI6 (fun j hj => x8.heap j (D6n j hj)) x8.nx
        have D5d := fr5 σ.nx (by omega) d3
        refine c_inner hO ht.r (by simp; omega) ihb hyb hI8 (by omega) D5d.1 (by rw [x8.heap _ (by omega)]; exact h63) (by omega) (by omega) (fun hm => by have := D6n _ hm; omega) (fun hm => by have := D6n _ hm; omega) (by omega) (by omega) k81 k82 ?_ ?_
        · intro D9 σ9 hI9 hG9 r1 r2 r3 r4 r5
          simp only [afterLoop, r2]
          refine ⟨by simp, ?_⟩
          have h94 : σ9.heap σ4.nx = some .defd := by rw [hG9.keep σ4.nx (by omega) q3, x8.heap _ (by omega)]; exact h64
          have m4 : σ4.nx ∉ D9 := fun hm => by
            rcases hG9.own _ hm with h | h
            · exact q3 h
            · omega
          have b1 : (σ8.nx = σ8.nx + 1) = False := by simp
          have b2 : (σ4.nx = σ8.nx + 1) = False := eq_false (by omega)
          have b3 : (σ4.nx = σ8.nx) = False := eq_false (by omega)
          have b4 : (σ4.nx = σ4.nx + 1) = False := by simp
          have D9n : ∀ j ∈ D9, j < σ9.nx := hO.lt _ _ _ hI9
          simp only [wk, wd, UInt8.reduceToNat, reduceIte, reduceCtorEq, Nat.reduceEqDiff, Nat.reduceAdd, Nat.reduceMul, Nat.reduceSub, Nat.reduceLeDiff, Int.reduceNeg, Int.reduceAdd, Int.reduceSub, Int.reduceMul, Int.reduceLT, Int.reduceLE, Int.reduceEq, Int.reduceToNat, Nat.reduceBEq, Nat.reduceLT, Y_unf cc_place_below__1_r0_k1.eq_1, Y_unf cc_place_below__1_r0_a.eq_1, Y_unf cc_place_below__1_r0_b.eq_1, Y_unf cc_place_below__1_k2.eq_1, Y_unf cc_place_below__1_k3.eq_1, Y_unf cc_place_below__1_r4_k5.eq_1, Y_unf cc_place_below__1_r4_a.eq_1, Y_unf cc_place_below__1_r4_b.eq_1, Y_unf cc_place_below__1_k6.eq_1, Y_unf cc_place_below__1_k7.eq_1, Y_unf cc_place_below__1_k8.eq_1, Y_unf cc_place_below__1_k9.eq_1, Y_unf cc_place_below__1_k10.eq_1, Y_unf cc_place_below__1_k11.eq_1, Y_unf cc_place_below__1_k12.eq_1, Y_unf cc_place_below__1.eq_1, pushD, tn46, r1, h94, b1, b2, b3, b4]
          refine hq1 D9 _ ?_ ?_
          · rw [hrl]
            refine hO.stab _ _ _ _ hI9 (fun j hj => ?_) (Nat.le_refl _)
            simp only [St.set_heap]
            rw [if_neg (fun he : j = σ4.nx => m4 (by rw [← he]; exact hj)), if_neg (fun he : j = σ8.nx => r3 (by rw [← he]; exact hj)), if_neg (fun he : j = σ8.nx + 1 => r4 (by rw [← he]; exact hj))]
          · have hs := hx.nx
            refine ⟨by simp only [St.set_nx]; have := hG9.nx; omega, fun i hi => ?_, fun i hi hD => ?_⟩
            · rcases hG9.own i hi with h | h
              · rcases G25.own i h with h | h
                · rcases hG.own i h with h | h
                  · exact .inl h
                  · exact .inr (by simp only [St.new_nx] at h; omega)
                · exact .inr (by omega)
              · exact .inr (by omega)
            · have c5 := fr5 i (by omega) hD
              simp only [St.set_heap]
              rw [if_neg (by omega), if_neg (by omega), if_neg (by omega), hG9.keep i (by omega) c5.1, x8.heap i (by omega), c5.2, (fr i (by omega) hD).2, hx.heap i hi]
        · intro D9 σ9 hS9 hG9 r1 r2 r3 r4 r5
          simp only [afterLoop, r2]
          refine ⟨by simp, ?_⟩
          have h94 : σ9.heap σ4.nx = some .defd := by rw [hG9.keep σ4.nx (by omega) q3, x8.heap _ (by omega)]; exact h64
          have m4 : σ4.nx ∉ D9 := fun hm => by
            rcases hG9.own _ hm with h | h
            · exact q3 h
            · omega
          have b1 : (σ8.nx = σ8.nx + 1) = False := by simp
          have b2 : (σ4.nx = σ8.nx + 1) = False := eq_false (by omega)
          have b3 : (σ4.nx = σ8.nx) = False := eq_false (by omega)
          simp only [wk, wd, UInt8.reduceToNat, reduceIte, reduceCtorEq, Nat.reduceEqDiff, Nat.reduceAdd, Nat.reduceMul, Nat.reduceSub, Nat.reduceLeDiff, Int.reduceNeg, Int.reduceAdd, Int.reduceSub, Int.reduceMul, Int.reduceLT, Int.reduceLE, Int.reduceEq, Int.reduceToNat, Nat.reduceBEq, Nat.reduceLT, Y_unf cc_place_below__1_r0_k1.eq_1, Y_unf cc_place_below__1_r0_a.eq_1, Y_unf cc_place_below__1_r0_b.eq_1, Y_unf cc_place_below__1_k2.eq_1, Y_unf cc_place_below__1_k3.eq_1, Y_unf cc_place_below__1_r4_k5.eq_1, Y_unf cc_place_below__1_r4_a.eq_1, Y_unf cc_place_below__1_r4_b.eq_1, Y_unf cc_place_below__1_k6.eq_1, Y_unf cc_place_below__1_k7.eq_1, Y_unf cc_place_below__1_k8.eq_1, Y_unf cc_place_below__1_k9.eq_1, Y_unf cc_place_below__1_k10.eq_1, Y_unf cc_place_below__1_k11.eq_1, Y_unf cc_place_below__1_k12.eq_1, Y_unf cc_place_below__1.eq_1, pushD, tn46, r1, h94, b1, b2, b3]
          refine hq2 D9 _ ?_ ?_
          · refine hO.stop _ _ _ hS9 (fun j hj => ?_) (Nat.le_refl _)
            simp only [St.set_heap]
            rw [if_neg (fun he : j = σ4.nx => m4 (by rw [← he]; exact hj)), if_neg (fun he : j = σ8.nx => r3 (by rw [← he]; exact hj)), if_neg (fun he : j = σ8.nx + 1 => r4 (by rw [← he]; exact hj))]
          · refine ⟨by simp only [St.set_nx]; have := hG9.nx; omega, fun i hi => ?_, fun i hi hD => ?_⟩
            · rcases hG9.own i hi with h | h
              · rcases G25.own i h with h | h
                · rcases hG.own i h with h | h
                  · exact .inl h
                  · exact .inr (by simp only [St.new_nx] at h; omega)
                · exact .inr (by omega)
              · exact .inr (by omega)
            · have c5 := fr5 i (by omega) hD
              simp only [St.set_heap]
              rw [if_neg (by omega), if_neg (by omega), if_neg (by omega), hG9.keep i (by omega) c5.1, x8.heap i (by omega), c5.2, (fr i (by omega) hD).2, hx.heap i hi]
      · intro D5 σ5 hS5 hG5 q1 q2 q3 q4 q5
        simp only [afterLoop, q2]
        refine ⟨by simp, ?_⟩
        have G25 : Gd2 D2 σ2 D5 σ5 := (Gd2.ext x4).trans hG5
        have b1 : (σ4.nx = σ4.nx + 1) = False := by simp
        have x5 := hG5.nx
        simp only [wk, wd, UInt8.reduceToNat, reduceIte, reduceCtorEq, Nat.reduceEqDiff, Nat.reduceAdd, Nat.reduceMul, Nat.reduceSub, Nat.reduceLeDiff, Int.reduceNeg, Int.reduceAdd, Int.reduceSub, Int.reduceMul, Int.reduceLT, Int.reduceLE, Int.reduceEq, Int.reduceToNat, Nat.reduceBEq, Nat.reduceLT, Y_unf cc_place_below__1_r0_k1.eq_1, Y_unf cc_place_below__1_r0_a.eq_1, Y_unf cc_place_below__1_r0_b.eq_1, Y_unf cc_place_below__1_k2.eq_1, Y_unf cc_place_below__1_k3.eq_1, Y_unf cc_place_below__1_r4_k5.eq_1, Y_unf cc_place_below__1_r4_a.eq_1, Y_unf cc_place_below__1_r4_b.eq_1, Y_unf cc_place_below__1_k6.eq_1, Y_unf cc_place_below__1_k7.eq_1, Y_unf cc_place_below__1_k8.eq_1, Y_unf cc_place_below__1_k9.eq_1, Y_unf cc_place_below__1_k10.eq_1, Y_unf cc_place_below__1_k11.eq_1, Y_unf cc_place_below__1_k12.eq_1, Y_unf cc_place_below__1.eq_1, pushD, tm46, q1, b1]
        refine hq2 D5 _ ?_ ?_
        · refine hO.stop _ _ _ hS5 (fun j hj => ?_) (Nat.le_refl _)
          simp only [St.set_heap]
          rw [if_neg (fun he : j = σ4.nx => q3 (by rw [← he]; exact hj)), if_neg (fun he : j = σ4.nx + 1 => q4 (by rw [← he]; exact hj))]
        · refine ⟨by simp only [St.set_nx]; omega, fun i hi => ?_, fun i hi hD => ?_⟩
          · rcases G25.own i hi with h | h
            · rcases hG.own i h with h | h
              · exact .inl h
              · exact .inr (by simp only [St.new_nx] at h; omega)
            · exact .inr (by omega)
          · have hd2 := fr i (by omega) hD
            simp only [St.set_heap]
            rw [if_neg (by omega), if_neg (by omega), G25.keep i (by omega) hd2.1, hd2.2, hx.heap i hi]
    · simp only [wk, wd, UInt8.reduceToNat, reduceIte, reduceCtorEq, Nat.reduceEqDiff, Nat.reduceAdd, Nat.reduceMul, Nat.reduceSub, Nat.reduceLeDiff, Int.reduceNeg, Int.reduceAdd, Int.reduceSub, Int.reduceMul, Int.reduceLT, Int.reduceLE, Int.reduceEq, Int.reduceToNat, Nat.reduceBEq, Nat.reduceLT, Y_unf cc_place_below__1_r0_k1.eq_1, Y_unf cc_place_below__1_r0_a.eq_1, Y_unf cc_place_below__1_r0_b.eq_1, Y_unf cc_place_below__1_k2.eq_1, Y_unf cc_place_below__1_k3.eq_1, Y_unf cc_place_below__1_r4_k5.eq_1, Y_unf cc_place_below__1_r4_a.eq_1, Y_unf cc_place_below__1_r4_b.eq_1, Y_unf cc_place_below__1_k6.eq_1, Y_unf cc_place_below__1_k7.eq_1, Y_unf cc_place_below__1_k8.eq_1, Y_unf cc_place_below__1_k9.eq_1, Y_unf cc_place_below__1_k10.eq_1, Y_unf cc_place_below__1_k11.eq_1, Y_unf cc_place_below__1_k12.eq_1, Y_unf cc_place_below__1.eq_1]
      exact hq2 _ _ hS2 ((Gd2.ext hx).trans hG)
end Go.Proofs.Tryd
open Go Go.Abs
set_option linter.unusedVariables false
set_option linter.unusedSimpArgs false
namespace Go.Proofs.Tryd

def atL (t : T) (node : Bs) : Option T := ((T.walk [] t).find? fun x => decide (x.1 = node)).map (·.2)
def atV : Option T → AV
  | some x => .tup [.str x.text, .int .i64 0]
  | none => .tup [.str [], .int .i64 8]

def InvAt (xs : List (Bs × T)) (node : Bs) (l' c3 c4 c5 : Nat) (tl : List AV) : Nat → List Nat → St → Prop := fun i D σ =>
  D = [l', c3, c4, c5] ∧ (∀ j ∈ [l', c3, c4, c5], j < σ.nx) ∧ σ.heap l' = some (.loop .ready none tl cc_place_At_r0_p cc_place_At_r0_x cc_place_At_r0_y) ∧ σ.heap c3 = some (.arr 1 [.str node] 0 0) ∧ σ.heap c4 = some (.arr 1 [.str []] 0 0) ∧ σ.heap c5 = some (.arr 1 [.int .i64 0] 0 0) ∧
    ∀ k x, k < i → xs[k]? = some x → x.1 ≠ node
def StopAt (xs : List (Bs × T)) (node : Bs) (l' c3 c4 c5 : Nat) (tl : List AV) : List Nat → St → Prop := fun D σ =>
  D = [l', c3, c4, c5] ∧ (∀ j ∈ [l', c3, c4, c5], j < σ.nx) ∧ σ.heap l' = some (.loop .done (some .ret) tl cc_place_At_r0_p cc_place_At_r0_x cc_place_At_r0_y) ∧
    ∃ x, (xs.find? fun x => decide (x.1 = node)) = some x ∧ σ.heap c4 = some (.arr 1 [.str x.2.text] 0 0) ∧ σ.heap c5 = some (.arr 1 [.int .i64 0] 0 0)
theorem owns_At {xs : List (Bs × T)} {node : Bs} {l' c3 c4 c5 : Nat} {tl : List AV} : Owns (InvAt xs node l' c3 c4 c5 tl) (StopAt xs node l' c3 c4 c5 tl) where
  lt := by rintro i D σ ⟨rfl, h, _⟩; exact h
  slt := by rintro D σ ⟨rfl, h, _⟩; exact h
  stab := by
    rintro i D σ σ' ⟨rfl, h, h1, h2, h3, h4, h5⟩ hk hn
    exact ⟨rfl, fun j hj => Nat.lt_of_lt_of_le (h j hj) hn, by rw [hk _ (by simp)]; exact h1, by rw [hk _ (by simp)]; exact h2, by rw [hk _ (by simp)]; exact h3, by rw [hk _ (by simp)]; exact h4, h5⟩
  stop := by
    rintro D σ σ' ⟨rfl, h, h1, x, h2, h3, h4⟩ hk hn
    exact ⟨rfl, fun j hj => Nat.lt_of_lt_of_le (h j hj) hn, by rw [hk _ (by simp)]; exact h1, x, h2, by rw [hk _ (by simp)]; exact h3, by rw [hk _ (by simp)]; exact h4⟩
theorem find_at {α : Type} {p : α → Bool} : ∀ {xs : List α} {i : Nat} {x : α}, xs[i]? = some x → p x = true → (∀ k y, k < i → xs[k]? = some y → p y = false) → xs.find? p = some x
  | [], i, x, h, _, _ => by simp at h
  | y :: xs, 0, x, h, hp, _ => by simp at h; subst h; simp [hp]
  | y :: xs, i + 1, x, h, hp, hk => by
    rw [List.find?_cons, hk 0 y (by omega) (by simp)]
    exact find_at (i := i) (by simpa using h) hp fun k z hk' hz => hk (k + 1) z (by omega) (by simpa using hz)

theorem yields_At {xs : List (Bs × T)} {node : Bs} {l' c3 c4 c5 : Nat} {tl : List AV} (htl : tl.length = 19) (h3 : tm0 tl 3 = .ptr c3 0 0) (h4 : tm0 tl 4 = .ptr c4 0 0) (h5 : tm0 tl 5 = .ptr c5 0 0)
    (n1 : l' ≠ c3) (n2 : l' ≠ c4) (n3 : l' ≠ c5) (n4 : c3 ≠ c4) (n5 : c3 ≠ c5) (n6 : c4 ≠ c5) : YieldRows prog l' (xs.map rowOf) (InvAt xs node l' c3 c4 c5 tl) (StopAt xs node l' c3 c4 c5 tl) := by
  rintro i y D σ hy ⟨rfl, hlt, hl, k3, k4, k5, hne⟩ Q hq1 hq2
  obtain ⟨x, hx, rfl⟩ : ∃ x, xs[i]? = some x ∧ rowOf x = y := by
    rw [List.getElem?_map] at hy
    cases hxx : xs[i]? with
    | none => rw [hxx] at hy; simp at hy
    | some x => rw [hxx] at hy; simp at hy; exact ⟨x, rfl, hy⟩
  have e1 : (c3 = l') = False := eq_false (fun h => n1 h.symm)
  have e2 : (c4 = l') = False := eq_false (fun h => n2 h.symm)
  have e3 : (c5 = l') = False := eq_false (fun h => n3 h.symm)
  have e4 : (l' = c4) = False := eq_false n2
  have e5 : (l' = c5) = False := eq_false n3
  have e6 : (c4 = c5) = False := eq_false n6
  have e7 : (c5 = c4) = False := eq_false (fun h => n6 h.symm)
  have e8 : (c3 = c4) = False := eq_false n4
  have e9 : (c3 = c5) = False := eq_false n5
  refine yields_of_Y hl (by rw [htl]; exact cc_place_At_r0_ca) (by rw [htl]; exact cc_place_At_r0_cb) (by rw [cc_place_At_r0_ps, htl]; decide) (by rw [cc_place_At_r0_ps]; rfl) ?_
  rw [cc_place_At_r0_ps] at hl ⊢
  simp only [wk, wd, UInt8.reduceToNat, reduceIte, reduceCtorEq, Nat.reduceEqDiff, Nat.reduceAdd, Nat.reduceMul, Nat.reduceSub, Nat.reduceLeDiff, Int.reduceNeg, Int.reduceAdd, Int.reduceSub, Int.reduceMul, Int.reduceLT, Int.reduceLE, Int.reduceEq, Int.reduceToNat, Nat.reduceBEq, Nat.reduceLT, Y_unf cc_place_At_r0_c1.eq_1, Y_unf cc_place_At_r0_k2.eq_1, Y_unf cc_place_At_r0_a.eq_1, Y_unf cc_place_At_r0_b.eq_1, Y_unf cc_place_At_k3.eq_1, Y_unf cc_place_At_k4.eq_1, Y_unf cc_place_At_k5.eq_1, Y_unf cc_place_At_k6.eq_1, Y_unf cc_place_At.eq_1, putPs, rowOf]
  refine ⟨none, hl, ?_⟩
  by_cases hc : x.1 = node
  · simp only [wk, wd, UInt8.reduceToNat, reduceIte, reduceCtorEq, Nat.reduceEqDiff, Nat.reduceAdd, Nat.reduceMul, Nat.reduceSub, Nat.reduceLeDiff, Int.reduceNeg, Int.reduceAdd, Int.reduceSub, Int.reduceMul, Int.reduceLT, Int.reduceLE, Int.reduceEq, Int.reduceToNat, Nat.reduceBEq, Nat.reduceLT, Y_unf cc_place_At_r0_c1.eq_1, Y_unf cc_place_At_r0_k2.eq_1, Y_unf cc_place_At_r0_a.eq_1, Y_unf cc_place_At_r0_b.eq_1, Y_unf cc_place_At_k3.eq_1, Y_unf cc_place_At_k4.eq_1, Y_unf cc_place_At_k5.eq_1, Y_unf cc_place_At_k6.eq_1, Y_unf cc_place_At.eq_1, h3, h4, h5, k3, k4, k5, e1, e2, e3, e4, e5, e6, e7, hc, roundEnd]
    refine hq2 [l', c3, c4, c5] _ ⟨rfl, fun j hj => hlt j hj, by rw [St.set_heap, if_pos rfl, cc_place_At_r0_ps], x, find_at hx (by simpa using hc) (fun k y hk hy => by simpa using hne k y hk hy), ?_, ?_⟩ ⟨Nat.le_refl _, fun i hi => .inl hi, fun i hi hD => ?_⟩
    · simp [St.set_heap, e2, e6]
    · simp [St.set_heap, e3]
    · simp only [List.mem_cons, List.not_mem_nil, or_false, not_or] at hD
      simp only [St.set_heap, hD.1, hD.2.2.1, hD.2.2.2, if_false]
  · simp only [wk, wd, UInt8.reduceToNat, reduceIte, reduceCtorEq, Nat.reduceEqDiff, Nat.reduceAdd, Nat.reduceMul, Nat.reduceSub, Nat.reduceLeDiff, Int.reduceNeg, Int.reduceAdd, Int.reduceSub, Int.reduceMul, Int.reduceLT, Int.reduceLE, Int.reduceEq, Int.reduceToNat, Nat.reduceBEq, Nat.reduceLT, Y_unf cc_place_At_r0_c1.eq_1, Y_unf cc_place_At_r0_k2.eq_1, Y_unf cc_place_At_r0_a.eq_1, Y_unf cc_place_At_r0_b.eq_1, Y_unf cc_place_At_k3.eq_1, Y_unf cc_place_At_k4.eq_1, Y_unf cc_place_At_k5.eq_1, Y_unf cc_place_At_k6.eq_1, Y_unf cc_place_At.eq_1, h3, h4, h5, k3, k4, k5, e1, e2, e3, e4, e5, e6, e7, hc, roundEnd]
    refine hq1 [l', c3, c4, c5] _ ⟨rfl, fun j hj => hlt j hj, by rw [St.set_heap, if_pos rfl, cc_place_At_r0_ps], ?_, ?_, ?_, ?_⟩ ⟨Nat.le_refl _, fun i hi => .inl hi, fun i hi hD => ?_⟩
    · simp [St.set_heap, e1, k3]
    · simp [St.set_heap, e2, k4]
    · simp [St.set_heap, e3, k5]
    · intro k z hk hz
      by_cases hki : k = i
      · rw [hki, hx] at hz; cases hz; exact hc
      · exact hne k z (by omega) hz
    · simp only [List.mem_cons, List.not_mem_nil, or_false, not_or] at hD
      simp only [St.set_heap, hD.1, if_false]

theorem c_At {t : T} (h : t.Good) (node : Bs) : PureC prog F.place_At [.str t.text, .str node] (atV (atL t node)) := by
  have hl := h.len
  refine PureC.of (by cases atL t node <;> simp [atV, IdsLt, IdsLts]) fun σ => ?_
  refine calls_of_Y e_place_At rfl ?_; simp only [tm0_0, tm0_1, tm0_2, tm0_3, tm0_4, tm0_5, tm0_6, wk, wd, UInt8.reduceToNat, reduceIte, reduceCtorEq, Nat.reduceEqDiff, Nat.reduceAdd, Nat.reduceMul, Nat.reduceSub, Nat.reduceLeDiff, Int.reduceNeg, Int.reduceAdd, Int.reduceSub, Int.reduceMul, Int.reduceLT, Int.reduceLE, Int.reduceEq, Int.reduceToNat, Nat.reduceBEq, Nat.reduceLT, Y_unf cc_place_At_r0_c1.eq_1, Y_unf cc_place_At_r0_k2.eq_1, Y_unf cc_place_At_r0_a.eq_1, Y_unf cc_place_At_r0_b.eq_1, Y_unf cc_place_At_k3.eq_1, Y_unf cc_place_At_k4.eq_1, Y_unf cc_place_At_k5.eq_1, Y_unf cc_place_At_k6.eq_1, Y_unf cc_place_At.eq_1]
  refine Cl_pure0 (c_Right h) ?_; simp only [wk, wd, UInt8.reduceToNat, reduceIte, reduceCtorEq, Nat.reduceEqDiff, Nat.reduceAdd, Nat.reduceMul, Nat.reduceSub, Nat.reduceLeDiff, Int.reduceNeg, Int.reduceAdd, Int.reduceSub, Int.reduceMul, Int.reduceLT, Int.reduceLE, Int.reduceEq, Int.reduceToNat, Nat.reduceBEq, Nat.reduceLT, Y_unf cc_place_At_r0_c1.eq_1, Y_unf cc_place_At_r0_k2.eq_1, Y_unf cc_place_At_r0_a.eq_1, Y_unf cc_place_At_r0_b.eq_1, Y_unf cc_place_At_k3.eq_1, Y_unf cc_place_At_k4.eq_1, Y_unf cc_place_At_k5.eq_1, Y_unf cc_place_At_k6.eq_1, Y_unf cc_place_At.eq_1]
  refine c_below ⟨trivial, ?_⟩
  simp only [wk, wd, UInt8.reduceToNat, reduceIte, reduceCtorEq, Nat.reduceEqDiff, Nat.reduceAdd, Nat.reduceMul, Nat.reduceSub, Nat.reduceLeDiff, Int.reduceNeg, Int.reduceAdd, Int.reduceSub, Int.reduceMul, Int.reduceLT, Int.reduceLE, Int.reduceEq, Int.reduceToNat, Nat.reduceBEq, Nat.reduceLT, Y_unf cc_place_At_r0_c1.eq_1, Y_unf cc_place_At_r0_k2.eq_1, Y_unf cc_place_At_r0_a.eq_1, Y_unf cc_place_At_r0_b.eq_1, Y_unf cc_place_At_k3.eq_1, Y_unf cc_place_At_k4.eq_1, Y_unf cc_place_At_k5.eq_1, Y_unf cc_place_At_k6.eq_1, Y_unf cc_place_At.eq_1]
  generalize hσ4 : (((((σ.new (.arr 1 [.str node] 0 0)).new (.arr 1 [.str []] 0 0)).new (.arr 1 [.int .i64 0] 0 0)).new (.arr 1 [.str []] 0 0)).new (.arr 1 [.str t.text] 0 0)) = σ4
  have n4 : σ4.nx = σ.nx + 5 := by rw [← hσ4]; simp [St.new_nx]
  have x4 : Ext σ σ4 := by rw [← hσ4]; exact ((((((Ext.refl σ).new _).new _).new _).new _).new _)
  have k0 : σ4.heap σ.nx = some (.arr 1 [.str node] 0 0) := by rw [← hσ4]; simp [St.new_heap, St.new_nx, Nat.add_assoc]
  have k1 : σ4.heap (σ.nx + 1) = some (.arr 1 [.str []] 0 0) := by rw [← hσ4]; simp [St.new_heap, St.new_nx, Nat.add_assoc]
  have k2 : σ4.heap (σ.nx + 2) = some (.arr 1 [.int .i64 0] 0 0) := by rw [← hσ4]; simp [St.new_heap, St.new_nx, Nat.add_assoc]
  have k3 : σ4.heap (σ.nx + 3) = some (.arr 1 [.str []] 0 0) := by rw [← hσ4]; simp [St.new_heap, St.new_nx, Nat.add_assoc]
  have k4 : σ4.heap (σ.nx + 4) = some (.arr 1 [.str t.text] 0 0) := by rw [← hσ4]; simp [St.new_heap, St.new_nx, Nat.add_assoc]
  refine Rf_fn ⟨callable_below1, ?_⟩
  generalize htm : (upd (upd _ _ _) 12 _ : Tm) = tm
  have tm3 : tm 3 = .ptr σ.nx 0 0 := by rw [← htm]; simp only [upd_at]; rfl
  have tm4 : tm 4 = .ptr (σ.nx + 1) 0 0 := by rw [← htm]; simp only [upd_at]; rfl
  have tm5 : tm 5 = .ptr (σ.nx + 2) 0 0 := by rw [← htm]; simp only [upd_at]; rfl
  have tm19 : tm 19 = .tup [] := by rw [← htm]; simp only [upd_at]; rfl
  clear htm
  have x5 : Ext σ4 ((σ4.new .defd).new (.loop .ready none (tmL tm 19) cc_place_At_r0_p cc_place_At_r0_x cc_place_At_r0_y)) := ((Ext.refl σ4).new _).new _
  have hnx : ((σ4.new .defd).new (.loop .ready none (tmL tm 19) cc_place_At_r0_p cc_place_At_r0_x cc_place_At_r0_y)).nx = σ4.nx + 2 := rfl
  have hY := yields_At (xs := T.walk [] t) (node := node) (l' := σ4.nx + 1) (c3 := σ.nx) (c4 := σ.nx + 1) (c5 := σ.nx + 2) (tmL_length tm 19) (by rw [tm0_tmL (by decide)]; exact tm3) (by rw [tm0_tmL (by decide)]; exact tm4) (by rw [tm0_tmL (by decide)]; exact tm5)
    (by omega) (by omega) (by omega) (by omega) (by omega) (by omega)
  have b1 : (σ4.nx = σ4.nx + 1) = False := by simp
  have b2 : (σ.nx + 1 = σ4.nx + 1) = False := eq_false (by omega)
  have b3 : (σ.nx + 2 = σ4.nx + 1) = False := eq_false (by omega)
  have b4 : (σ.nx + 1 = σ4.nx) = False := eq_false (by omega)
  have b5 : (σ.nx + 2 = σ4.nx) = False := eq_false (by omega)
  have b6 : (σ.nx + 2 = σ.nx + 1) = False := by simp
  have b7 : (σ.nx + 1 = σ.nx + 2) = False := by simp
  have b8 : (σ4.nx = σ.nx + 1) = False := eq_false (by omega)
  have b9 : (σ4.nx = σ.nx + 2) = False := eq_false (by omega)
  have hm1 : σ4.nx ∉ [σ4.nx + 1, σ.nx, σ.nx + 1, σ.nx + 2] := by simp; omega
  refine c_below1 t h.ok [] (σ4.nx + 1) _ _ owns_At hY (D := [σ4.nx + 1, σ.nx, σ.nx + 1, σ.nx + 2]) ⟨rfl, ?_, ?_, ?_, ?_, ?_, ?_⟩ (by omega) (by omega) (by simp; omega) (by simp; omega) ?_ ?_ (by simp; omega) _ ?_ ?_
  · intro j hj; rw [hnx]; simp at hj; omega
  · simp [St.new_heap, St.new_nx]
  · rw [x5.heap _ (by omega)]; exact k0
  · rw [x5.heap _ (by omega)]; exact k1
  · rw [x5.heap _ (by omega)]; exact k2
  · intro k x hk; omega
  · rw [x5.heap _ (by omega)]; exact k3
  · rw [x5.heap _ (by omega)]; exact k4
  · rintro D σ6 ⟨rfl, g1, g2, g3, g4, g5, g6⟩ hG
    simp only [afterLoop, g2]
    refine ⟨by simp, ?_⟩
    have hd : σ6.heap σ4.nx = some .defd := by rw [hG.keep σ4.nx (by rw [hnx]; omega) hm1]; simp [St.new_heap, St.new_nx]
    have hnone : atL t node = none := by
      simp only [atL, Option.map_eq_none_iff, List.find?_eq_none, decide_eq_true_eq]
      intro x hx
      obtain ⟨k, hk⟩ := List.getElem?_of_mem hx
      exact g6 k x (by have := (List.getElem?_eq_some_iff.1 hk).1; simpa [rows] using this) hk
    simp only [wk, wd, UInt8.reduceToNat, reduceIte, reduceCtorEq, Nat.reduceEqDiff, Nat.reduceAdd, Nat.reduceMul, Nat.reduceSub, Nat.reduceLeDiff, Int.reduceNeg, Int.reduceAdd, Int.reduceSub, Int.reduceMul, Int.reduceLT, Int.reduceLE, Int.reduceEq, Int.reduceToNat, Nat.reduceBEq, Nat.reduceLT, Y_unf cc_place_At_r0_c1.eq_1, Y_unf cc_place_At_r0_k2.eq_1, Y_unf cc_place_At_r0_a.eq_1, Y_unf cc_place_At_r0_b.eq_1, Y_unf cc_place_At_k3.eq_1, Y_unf cc_place_At_k4.eq_1, Y_unf cc_place_At_k5.eq_1, Y_unf cc_place_At_k6.eq_1, Y_unf cc_place_At.eq_1, pushD, tm19, tm4, tm5, g4, g5, hd, b1, b2, b3, b4, b5, b6, b7, b8, b9, aop]
    refine ⟨_, rfl, _, rfl, by rw [hnone]; rfl, ?_⟩
    have h2 := hG.nx
    rw [hnx] at h2
    refine ⟨by simp only [St.set_nx]; omega, fun i hi => ?_⟩
    simp only [St.set_heap]
    rw [if_neg (by omega), if_neg (by omega), if_neg (by omega), if_neg (by omega), hG.keep i (by rw [hnx]; omega) (by simp; omega), x5.heap i (by omega), x4.heap i hi]
  · rintro D σ6 ⟨rfl, g1, g2, x, g3, g4, g5⟩ hG
    simp only [afterLoop, g2]
    refine ⟨by simp, ?_⟩
    have hd : σ6.heap σ4.nx = some .defd := by rw [hG.keep σ4.nx (by rw [hnx]; omega) hm1]; simp [St.new_heap, St.new_nx]
    have hsome : atL t node = some x.2 := by simp only [atL, g3, Option.map_some]
    simp only [wk, wd, UInt8.reduceToNat, reduceIte, reduceCtorEq, Nat.reduceEqDiff, Nat.reduceAdd, Nat.reduceMul, Nat.reduceSub, Nat.reduceLeDiff, Int.reduceNeg, Int.reduceAdd, Int.reduceSub, Int.reduceMul, Int.reduceLT, Int.reduceLE, Int.reduceEq, Int.reduceToNat, Nat.reduceBEq, Nat.reduceLT, Y_unf cc_place_At_r0_c1.eq_1, Y_unf cc_place_At_r0_k2.eq_1, Y_unf cc_place_At_r0_a.eq_1, Y_unf cc_place_At_r0_b.eq_1, Y_unf cc_place_At_k3.eq_1, Y_unf cc_place_At_k4.eq_1, Y_unf cc_place_At_k5.eq_1, Y_unf cc_place_At_k6.eq_1, Y_unf cc_place_At.eq_1, pushD, tm19, tm4, tm5, g4, g5, hd, b1, b2, b3, b4, b5, b6, b7, b8, b9, aop]
    refine ⟨_, rfl, _, rfl, by rw [hsome]; rfl, ?_⟩
    have h2 := hG.nx
    rw [hnx] at h2
    refine ⟨by simp only [St.set_nx]; omega, fun i hi => ?_⟩
    simp only [St.set_heap]
    rw [if_neg (by omega), if_neg (by omega), hG.keep i (by rw [hnx]; omega) (by simp; omega), x5.heap i (by omega), x4.heap i hi]
end Go.Proofs.Tryd
open Go Go.Abs
set_option linter.unusedVariables false
set_option linter.unusedSimpArgs false
namespace Go.Proofs.Tryd

theorem walk_good : ∀ (t : T) (n : Bs), t.Good → ∀ x ∈ T.walk n t, x.2.Good
  | .leaf p, n, h, x, hx => by simp [T.walk] at hx; subst hx; exact h
  | .node l r, n, h, x, hx => by
    simp only [T.walk, List.mem_cons, List.mem_append] at hx
    rcases hx with rfl | hx | hx
    · exact h
    · exact walk_good l _ h.l x hx
    · exact walk_good r _ h.r x hx
theorem walk_len : ∀ (t : T) (n : Bs), ∀ x ∈ T.walk n t, x.1.length + x.2.labs.length ≤ n.length + t.labs.length
  | .leaf p, n, x, hx => by simp [T.walk] at hx; subst hx; simp
  | .node l r, n, x, hx => by
    have := T.labs_pos l
    have := T.labs_pos r
    simp only [T.walk, List.mem_cons, List.mem_append] at hx
    rcases hx with rfl | hx | hx
    · simp
    · have := walk_len l _ x hx; simp [T.labs] at *; omega
    · have := walk_len r _ x hx; simp [T.labs] at *; omega
/-- From a node up. -/
def upK : Nat → Bs → List Bs
  | 0, n => [n]
  | k + 1, n => n :: upK k (n.take k)
def up (n : Bs) : List Bs := upK n.length n
def strA (s : Bs) : AV := .str s
def pathX (t : T) (p : Int) : Option (Bs × T) := (T.walk [] t).find? fun x => decide (x.2.mem = [p])

def InvP (xs : List (Bs × T)) (p : Int) (l' c3 c4 : Nat) (tl : List AV) : Nat → List Nat → St → Prop := fun i D σ =>
  D = [l', c3, c4] ∧ (∀ j ∈ [l', c3, c4], j < σ.nx) ∧ σ.heap l' = some (.loop .ready none tl cc_place_Path_r0_p cc_place_Path_r0_x cc_place_Path_r0_y) ∧ σ.heap c3 = some (.arr 1 [.int .i64 p] 0 0) ∧ σ.heap c4 = some (.arr 1 [.snil] 0 0) ∧
    ∀ k x, k < i → xs[k]? = some x → x.2.mem ≠ [p]
def StopP (xs : List (Bs × T)) (p : Int) (l' c3 c4 : Nat) (tl : List AV) (lo : Nat) : List Nat → St → Prop := fun D σ =>
  ∃ v x E, D = [l', c3, c4] ++ E ∧ (∀ j ∈ D, j < σ.nx) ∧ (∀ j ∈ E, lo ≤ j) ∧ σ.heap l' = some (.loop .done (some .ret) tl cc_place_Path_r0_p cc_place_Path_r0_x cc_place_Path_r0_y) ∧
    (xs.find? fun x => decide (x.2.mem = [p])) = some x ∧ σ.heap c4 = some (.arr 1 [v] 0 0) ∧
    ((v = .list ((up x.1).map strA) 1 (some 1) ∧ (up x.1).length = 1 ∧ E = []) ∨ ∃ id g, v = .sl id g 0 (up x.1).length ∧ σ.heap id = some (.arr 1 ((up x.1).map strA) g 0) ∧ E = [id])
theorem owns_P {xs : List (Bs × T)} {p : Int} {l' c3 c4 : Nat} {tl : List AV} {lo : Nat} : Owns (InvP xs p l' c3 c4 tl) (StopP xs p l' c3 c4 tl lo) where
  lt := by rintro i D σ ⟨rfl, h, _⟩; exact h
  slt := by rintro D σ ⟨v, x, E, rfl, h, _⟩; exact h
  stab := by
    rintro i D σ σ' ⟨rfl, h, h1, h2, h3, h5⟩ hk hn
    exact ⟨rfl, fun j hj => Nat.lt_of_lt_of_le (h j hj) hn, by rw [hk _ (by simp)]; exact h1, by rw [hk _ (by simp)]; exact h2, by rw [hk _ (by simp)]; exact h3, h5⟩
  stop := by
    rintro D σ σ' ⟨v, x, E, rfl, h, h0, h1, h2, h3, h4⟩ hk hn
    refine ⟨v, x, E, rfl, fun j hj => Nat.lt_of_lt_of_le (h j hj) hn, h0, by rw [hk _ (by simp)]; exact h1, h2, by rw [hk _ (by simp)]; exact h3, ?_⟩
    rcases h4 with h4 | ⟨id, g, h4, h5, rfl⟩
    · exact .inl h4
    · exact .inr ⟨id, g, h4, by rw [hk _ (by simp)]; exact h5, rfl⟩

theorem mem_shape {t : T} {r : AV} (hr : Ints t.mem r) : ∃ x m cap, t.mem = x :: m ∧ r = .list ((x :: m).map aI) t.labs.length cap := by
  have h1 := T.labs_pos t
  have h2 := T.mem_len t
  rcases hr with ⟨_, h⟩ | ⟨n, cap, rfl, h⟩
  · simp at h; rw [h] at h2; simp at h2; omega
  · cases hm : t.mem with
    | nil => rw [hm] at h2; simp at h2; omega
    | cons x m => rw [hm] at h h2; simp at h h2; exact ⟨x, m, cap, rfl, by rw [← h2, h]⟩

theorem yields_P {xs : List (Bs × T)} {p : Int} {l' c3 c4 : Nat} {tl : List AV} {lo : Nat} (hxs : ∀ x ∈ xs, x.2.Good ∧ x.1.length ≤ 1000) (htl : tl.length = 42) (h3 : tm0 tl 3 = .ptr c3 0 0) (h4 : tm0 tl 4 = .ptr c4 0 0)
    (n1 : l' ≠ c3) (n2 : l' ≠ c4) (n4 : c3 ≠ c4) (hlo : lo ≤ l' + 1) : YieldRows prog l' (xs.map rowOf) (InvP xs p l' c3 c4 tl) (StopP xs p l' c3 c4 tl lo) := by
  rintro i y D σ hy ⟨rfl, hlt, hl, k3, k4, hne⟩ Q hq1 hq2
  obtain ⟨x, hx, rfl⟩ : ∃ x, xs[i]? = some x ∧ rowOf x = y := by
    rw [List.getElem?_map] at hy
    cases hxx : xs[i]? with
    | none => rw [hxx] at hy; simp at hy
    | some x => rw [hxx] at hy; simp at hy; exact ⟨x, rfl, hy⟩
  obtain ⟨hg, hxl⟩ := hxs x (List.mem_of_getElem? hx)
  have e1 : (c3 = l') = False := eq_false (fun h => n1 h.symm)
  have e2 : (c4 = l') = False := eq_false (fun h => n2 h.symm)
  have e4 : (l' = c4) = False := eq_false n2
  have e8 : (c3 = c4) = False := eq_false n4
  refine yields_of_Y hl (by rw [htl]; exact cc_place_Path_r0_ca) (by rw [htl]; exact cc_place_Path_r0_cb) (by rw [cc_place_Path_r0_ps, htl]; decide) (by rw [cc_place_Path_r0_ps]; rfl) ?_
  rw [cc_place_Path_r0_ps] at hl ⊢
  simp only [wk, wd, UInt8.reduceToNat, reduceIte, reduceCtorEq, Nat.reduceEqDiff, Nat.reduceAdd, Nat.reduceMul, Nat.reduceSub, Nat.reduceLeDiff, Int.reduceNeg, Int.reduceAdd, Int.reduceSub, Int.reduceMul, Int.reduceLT, Int.reduceLE, Int.reduceEq, Int.reduceToNat, Nat.reduceBEq, Nat.reduceLT, Y_unf cc_place_Path_r0_k1.eq_1, Y_unf cc_place_Path_r0_k2.eq_1, Y_unf cc_place_Path_r0_k3.eq_1, Y_unf cc_place_Path_r0_l4.eq_1, Y_unf cc_place_Path_r0_k5.eq_1, Y_unf cc_place_Path_r0_c6.eq_1, Y_unf cc_place_Path_r0_k7.eq_1, Y_unf cc_place_Path_r0_k8.eq_1, Y_unf cc_place_Path_r0_a.eq_1, Y_unf cc_place_Path_r0_b.eq_1, Y_unf cc_place_Path_k9.eq_1, Y_unf cc_place_Path_k10.eq_1, Y_unf cc_place_Path_k11.eq_1, Y_unf cc_place_Path_k12.eq_1, Y_unf cc_place_Path.eq_1, putPs, rowOf]
  refine ⟨none, hl, ?_⟩
  have cont : x.2.mem ≠ [p] → Q (.bool true) ((σ.set l' (.loop .busy none tl #[14, 15] cc_place_Path_r0_x cc_place_Path_r0_y)).set l' (.loop .ready none tl #[14, 15] cc_place_Path_r0_x cc_place_Path_r0_y)) := by
    intro hc
    refine hq1 [l', c3, c4] _ ⟨rfl, fun j hj => hlt j hj, by rw [St.set_heap, if_pos rfl, cc_place_Path_r0_ps], ?_, ?_, ?_⟩ ⟨Nat.le_refl _, fun i hi => .inl hi, fun i hi hD => ?_⟩
    · simp [St.set_heap, e1, k3]
    · simp [St.set_heap, e2, k4]
    · intro k z hk hz
      by_cases hki : k = i
      · rw [hki, hx] at hz; cases hz; exact hc
      · exact hne k z (by omega) hz
    · simp only [List.mem_cons, List.not_mem_nil, or_false, not_or] at hD
      simp only [St.set_heap, hD.1, if_false]
  refine c_Members hg (fun r hr => ⟨trivial, ?_⟩)
  obtain ⟨y, m, cap, hm, rfl⟩ := mem_shape hr
  have hml := T.mem_len x.2
  rw [hm] at hml
  simp only [List.length_cons] at hml
  by_cases h1 : (x.2.labs.length : Int) = 1
  · have hm0 : m = [] := by
      cases m with
      | nil => rfl
      | cons a b => simp at hml; omega
    subst hm0
    by_cases hyp : y = p
    · subst hyp
      have p0 : ((0 : Int) < x.2.labs.length) = True := eq_true (by omega)
      simp only [wk, wd, UInt8.reduceToNat, reduceIte, reduceCtorEq, Nat.reduceEqDiff, Nat.reduceAdd, Nat.reduceMul, Nat.reduceSub, Nat.reduceLeDiff, Int.reduceNeg, Int.reduceAdd, Int.reduceSub, Int.reduceMul, Int.reduceLT, Int.reduceLE, Int.reduceEq, Int.reduceToNat, Nat.reduceBEq, Nat.reduceLT, Y_unf cc_place_Path_r0_k1.eq_1, Y_unf cc_place_Path_r0_k2.eq_1, Y_unf cc_place_Path_r0_k3.eq_1, Y_unf cc_place_Path_r0_l4.eq_1, Y_unf cc_place_Path_r0_k5.eq_1, Y_unf cc_place_Path_r0_c6.eq_1, Y_unf cc_place_Path_r0_k7.eq_1, Y_unf cc_place_Path_r0_k8.eq_1, Y_unf cc_place_Path_r0_a.eq_1, Y_unf cc_place_Path_r0_b.eq_1, Y_unf cc_place_Path_k9.eq_1, Y_unf cc_place_Path_k10.eq_1, Y_unf cc_place_Path_k11.eq_1, Y_unf cc_place_Path_k12.eq_1, Y_unf cc_place_Path.eq_1, h1, p0, h3, k3, e1, List.map_cons, aI]
      generalize hσb : σ.set l' (.loop .busy none tl #[14, 15] cc_place_Path_r0_x cc_place_Path_r0_y) = σb
      have nb : σb.nx = σ.nx := by rw [← hσb]; rfl
      have bl : σb.heap l' = some (.loop .busy none tl #[14, 15] cc_place_Path_r0_x cc_place_Path_r0_y) := by rw [← hσb, St.set_heap, if_pos rfl]
      have bk : ∀ j, j ≠ l' → σb.heap j = σ.heap j := fun j hj => by rw [← hσb, St.set_heap, if_neg hj]
      have hfind : (xs.find? fun x => decide (x.2.mem = [y])) = some x := find_at hx (by simpa using hm) (fun k z hk hz => by simpa using hne k z hk hz)
      refine Lp_of (α := Nat × Bs × List Bs × AV) (fun a tm σ' => Ext σb σ' ∧ a.1 = a.2.1.length ∧ a.2.1.length ≤ 1000 ∧ a.2.2.1.length + a.1 ≤ 2000 ∧ a.2.2.1 ++ (upK a.1 a.2.1).tail = up x.1 ∧
          ((a.2.2.2 = .list (a.2.2.1.map strA) 1 (some 1) ∧ a.2.2.1.length = 1) ∨ ∃ id g, a.2.2.2 = .sl id g 0 a.2.2.1.length ∧ σ'.heap id = some (.arr 1 (a.2.2.1.map strA) g 0) ∧ σb.nx ≤ id ∧ id < σ'.nx ∧ 0 < a.2.2.1.length) ∧
          tm 3 = .ptr c3 0 0 ∧ tm 4 = .ptr c4 0 0 ∧ tm 5 = .str a.2.1 ∧ tm 8 = a.2.2.2 ∧ tm 42 = tm0 tl 42)
        (fun a => a.1) (a := (x.1.length, x.1, [x.1], .list [.str x.1] 1 (some 1))) ⟨Ext.refl _, rfl, by simp only []; omega, by simp; omega, by
            simp only [up]
            cases x.1.length <;> simp [upK], .inl ⟨rfl, rfl⟩, by simp only [upd_at]; exact h3, by simp only [upd_at]; exact h4, rfl, rfl, by simp only [upd_at]; rfl⟩ ?_
      rintro J hJ ⟨k, cur, acc, v⟩ tm σ' ⟨hE, hk, hcl, hal, hup, hv, u3, u4, u5, u8, u42⟩
      simp only at hk hcl hal hup hv u5 u8
      have hE' := hE.nx
      have hl4 : σ'.heap c4 = some (.arr 1 [.snil] 0 0) := by rw [hE.heap c4 (by rw [nb]; exact hlt c4 (by simp)), bk c4 (fun h => n2 h.symm)]; exact k4
      have hll : σ'.heap l' = some (.loop .busy none tl #[14, 15] cc_place_Path_r0_x cc_place_Path_r0_y) := by rw [hE.heap l' (by rw [nb]; exact hlt l' (by simp))]; exact bl
      by_cases hc : cur = []
      · subst hc
        have hk0 : k = 0 := by simpa using hk
        subst hk0
        simp only [upK, List.tail_cons, List.append_nil] at hup
        subst hup
        have hlt' : ∀ j ∈ [l', c3, c4], j < σ'.nx := fun j hj => by have := hlt j hj; omega
        rcases hv with ⟨rfl, hv1⟩ | ⟨id, g, rfl, hid, hid1, hid2, hpos⟩
        · simp only [wk, wd, UInt8.reduceToNat, reduceIte, reduceCtorEq, Nat.reduceEqDiff, Nat.reduceAdd, Nat.reduceMul, Nat.reduceSub, Nat.reduceLeDiff, Int.reduceNeg, Int.reduceAdd, Int.reduceSub, Int.reduceMul, Int.reduceLT, Int.reduceLE, Int.reduceEq, Int.reduceToNat, Nat.reduceBEq, Nat.reduceLT, Y_unf cc_place_Path_r0_k1.eq_1, Y_unf cc_place_Path_r0_k2.eq_1, Y_unf cc_place_Path_r0_k3.eq_1, Y_unf cc_place_Path_r0_l4.eq_1, Y_unf cc_place_Path_r0_k5.eq_1, Y_unf cc_place_Path_r0_c6.eq_1, Y_unf cc_place_Path_r0_k7.eq_1, Y_unf cc_place_Path_r0_k8.eq_1, Y_unf cc_place_Path_r0_a.eq_1, Y_unf cc_place_Path_r0_b.eq_1, Y_unf cc_place_Path_k9.eq_1, Y_unf cc_place_Path_k10.eq_1, Y_unf cc_place_Path_k11.eq_1, Y_unf cc_place_Path_k12.eq_1, Y_unf cc_place_Path.eq_1, u3, u4, u5, u8, hl4, hll, e4, e2, roundEnd]
          refine hq2 [l', c3, c4] ((σ'.set c4 (.arr 1 [AV.list ((up x.1).map strA) 1 (some 1)] 0 0)).set l' (.loop .done (some .ret) tl #[14, 15] cc_place_Path_r0_x cc_place_Path_r0_y)) ⟨_, x, [], by simp, hlt', by simp, by rw [St.set_heap, if_pos rfl, cc_place_Path_r0_ps], hfind, by simp only [St.set_heap]; rw [if_neg (fun h => n2 h.symm), if_pos trivial], .inl ⟨rfl, hv1, rfl⟩⟩ ⟨by simp only [St.set_nx]; omega, fun j hj => .inl hj, fun j hj hD => ?_⟩
          simp only [List.mem_cons, List.not_mem_nil, or_false, not_or] at hD
          simp only [St.set_heap, hD.1, hD.2.2, if_false]
          rw [hE.heap j (by omega), bk j hD.1]
        · have i1 : ¬ id = l' := by have := hlt l' (by simp); omega
          have i2 : ¬ id = c4 := by have := hlt c4 (by simp); omega
          simp only [wk, wd, UInt8.reduceToNat, reduceIte, reduceCtorEq, Nat.reduceEqDiff, Nat.reduceAdd, Nat.reduceMul, Nat.reduceSub, Nat.reduceLeDiff, Int.reduceNeg, Int.reduceAdd, Int.reduceSub, Int.reduceMul, Int.reduceLT, Int.reduceLE, Int.reduceEq, Int.reduceToNat, Nat.reduceBEq, Nat.reduceLT, Y_unf cc_place_Path_r0_k1.eq_1, Y_unf cc_place_Path_r0_k2.eq_1, Y_unf cc_place_Path_r0_k3.eq_1, Y_unf cc_place_Path_r0_l4.eq_1, Y_unf cc_place_Path_r0_k5.eq_1, Y_unf cc_place_Path_r0_c6.eq_1, Y_unf cc_place_Path_r0_k7.eq_1, Y_unf cc_place_Path_r0_k8.eq_1, Y_unf cc_place_Path_r0_a.eq_1, Y_unf cc_place_Path_r0_b.eq_1, Y_unf cc_place_Path_k9.eq_1, Y_unf cc_place_Path_k10.eq_1, Y_unf cc_place_Path_k11.eq_1, Y_unf cc_place_Path_k12.eq_1, Y_unf cc_place_Path.eq_1, u3, u4, u5, u8, hl4, hll, e4, e2, roundEnd]
          refine hq2 [l', c3, c4, id] ((σ'.set c4 (.arr 1 [AV.sl id g 0 (up x.1).length] 0 0)).set l' (.loop .done (some .ret) tl #[14, 15] cc_place_Path_r0_x cc_place_Path_r0_y)) ⟨_, x, [id], by simp, ?_, by simp; have := hlt l' (by simp); omega, by rw [St.set_heap, if_pos rfl, cc_place_Path_r0_ps], hfind, by simp only [St.set_heap]; rw [if_neg (fun h => n2 h.symm), if_pos trivial], .inr ⟨id, g, rfl, by simp only [St.set_heap, i1, i2, if_false]; exact hid, rfl⟩⟩ ⟨by simp only [St.set_nx]; omega, fun j hj => ?_, fun j hj hD => ?_⟩
          · intro j hj
            simp only [St.set_nx]
            rcases List.mem_cons.1 hj with rfl | hj
            · exact hlt' _ (by simp)
            · rcases List.mem_cons.1 hj with rfl | hj
              · exact hlt' _ (by simp)
              · rcases List.mem_cons.1 hj with rfl | hj
                · exact hlt' _ (by simp)
                · simp at hj; omega
          · simp only [List.mem_cons, List.not_mem_nil, or_false] at hj ⊢
            rcases hj with h | h | h | h
            · exact .inl (.inl h)
            · exact .inl (.inr (.inl h))
            · exact .inl (.inr (.inr h))
            · exact .inr (by omega)
          · simp only [List.mem_cons, List.not_mem_nil, or_false, not_or] at hD
            simp only [St.set_heap, hD.1, hD.2.2, if_false]
            rw [hE.heap j (by omega), bk j hD.1]
      · obtain ⟨k', rfl⟩ : ∃ k', k = k' + 1 := ⟨k - 1, by have := List.length_pos_iff.2 hc; omega⟩
        have w1 : IntKind.i64.wrap ((cur.length : Int) - 1) = ((k' : Nat) : Int) := by rw [wrap_i64 (by omega) (by omega)]; omega
        have s1 : evSubstr cur (some 0) (some ((k' : Nat) : Int)) = some (.str (cur.take k')) := by
          have := evSub_nat (s := cur) (a := 0) (b := k') (by omega) (by omega)
          rw [show ((0 : Nat) : Int) = 0 from rfl] at this
          simpa using this
        have hup' : (acc ++ [cur.take k']) ++ (upK k' (cur.take k')).tail = up x.1 := by
          rw [← hup]
          simp only [upK, List.tail_cons, List.append_assoc]
          congr 1
          cases k' <;> simp [upK]
        have hk' : k' = (cur.take k').length := by simp; omega
        rcases hv with ⟨rfl, hv1⟩ | ⟨id, g, rfl, hid, hid1, hid2, hpos⟩
        · have z1 : (acc.map strA).length = 1 * 1 := by simp [hv1]
          have z2 : (List.map strA acc).length = 1 := by simp [hv1]
          simp only [wk, wd, UInt8.reduceToNat, reduceIte, reduceCtorEq, Nat.reduceEqDiff, Nat.reduceAdd, Nat.reduceMul, Nat.reduceSub, Nat.reduceLeDiff, Int.reduceNeg, Int.reduceAdd, Int.reduceSub, Int.reduceMul, Int.reduceLT, Int.reduceLE, Int.reduceEq, Int.reduceToNat, Nat.reduceBEq, Nat.reduceLT, Y_unf cc_place_Path_r0_k1.eq_1, Y_unf cc_place_Path_r0_k2.eq_1, Y_unf cc_place_Path_r0_k3.eq_1, Y_unf cc_place_Path_r0_l4.eq_1, Y_unf cc_place_Path_r0_k5.eq_1, Y_unf cc_place_Path_r0_c6.eq_1, Y_unf cc_place_Path_r0_k7.eq_1, Y_unf cc_place_Path_r0_k8.eq_1, Y_unf cc_place_Path_r0_a.eq_1, Y_unf cc_place_Path_r0_b.eq_1, Y_unf cc_place_Path_k9.eq_1, Y_unf cc_place_Path_k10.eq_1, Y_unf cc_place_Path_k11.eq_1, Y_unf cc_place_Path_k12.eq_1, Y_unf cc_place_Path.eq_1, u5, u8, hc, w1, s1, z2]
          refine ⟨(k', cur.take k', acc ++ [cur.take k'], .sl σ'.nx 0 0 2), hJ _ _ _ ⟨hE.new _, hk', by simp; omega, by simp; omega, hup', .inr ⟨σ'.nx, 0, by simp [hv1], ?_, by omega, by simp [St.new_nx], by simp⟩, by simp only [upd_at]; exact u3, by simp only [upd_at]; exact u4, rfl, rfl, by simp only [upd_at]; exact u42⟩, by simp only []; omega⟩
          simp [St.new_heap, strA]
        · have z1 : (acc.length ≤ (acc.map strA).length) = True := by simp
          have z2 : (acc.length + 1 ≤ 1073741824) = True := eq_true (by omega)
          have z3 : (acc.map strA).take acc.length = acc.map strA := by rw [List.take_of_length_le (by simp)]
          simp only [wk, wd, UInt8.reduceToNat, reduceIte, reduceCtorEq, Nat.reduceEqDiff, Nat.reduceAdd, Nat.reduceMul, Nat.reduceSub, Nat.reduceLeDiff, Int.reduceNeg, Int.reduceAdd, Int.reduceSub, Int.reduceMul, Int.reduceLT, Int.reduceLE, Int.reduceEq, Int.reduceToNat, Nat.reduceBEq, Nat.reduceLT, Y_unf cc_place_Path_r0_k1.eq_1, Y_unf cc_place_Path_r0_k2.eq_1, Y_unf cc_place_Path_r0_k3.eq_1, Y_unf cc_place_Path_r0_l4.eq_1, Y_unf cc_place_Path_r0_k5.eq_1, Y_unf cc_place_Path_r0_c6.eq_1, Y_unf cc_place_Path_r0_k7.eq_1, Y_unf cc_place_Path_r0_k8.eq_1, Y_unf cc_place_Path_r0_a.eq_1, Y_unf cc_place_Path_r0_b.eq_1, Y_unf cc_place_Path_k9.eq_1, Y_unf cc_place_Path_k10.eq_1, Y_unf cc_place_Path_k11.eq_1, Y_unf cc_place_Path_k12.eq_1, Y_unf cc_place_Path.eq_1, u5, u8, hc, w1, s1, hid, z1, z2, z3]
          refine ⟨(k', cur.take k', acc ++ [cur.take k'], .sl id (g + 1) 0 (acc.length + 1)), hJ _ _ _ ⟨hE.set hid1 _, hk', by simp; omega, by simp; omega, hup', .inr ⟨id, g + 1, by simp, ?_, hid1, by simp only [St.set_nx]; exact hid2, by simp⟩, by simp only [upd_at]; exact u3, by simp only [upd_at]; exact u4, rfl, rfl, by simp only [upd_at]; exact u42⟩, by simp only []; omega⟩
          simp [St.set_heap, strA]
    · have p0 : ((0 : Int) < x.2.labs.length) = True := eq_true (by omega)
      have hc : x.2.mem ≠ [p] := by rw [hm]; intro h; injection h with h _; exact hyp h
      simp only [wk, wd, UInt8.reduceToNat, reduceIte, reduceCtorEq, Nat.reduceEqDiff, Nat.reduceAdd, Nat.reduceMul, Nat.reduceSub, Nat.reduceLeDiff, Int.reduceNeg, Int.reduceAdd, Int.reduceSub, Int.reduceMul, Int.reduceLT, Int.reduceLE, Int.reduceEq, Int.reduceToNat, Nat.reduceBEq, Nat.reduceLT, Y_unf cc_place_Path_r0_k1.eq_1, Y_unf cc_place_Path_r0_k2.eq_1, Y_unf cc_place_Path_r0_k3.eq_1, Y_unf cc_place_Path_r0_l4.eq_1, Y_unf cc_place_Path_r0_k5.eq_1, Y_unf cc_place_Path_r0_c6.eq_1, Y_unf cc_place_Path_r0_k7.eq_1, Y_unf cc_place_Path_r0_k8.eq_1, Y_unf cc_place_Path_r0_a.eq_1, Y_unf cc_place_Path_r0_b.eq_1, Y_unf cc_place_Path_k9.eq_1, Y_unf cc_place_Path_k10.eq_1, Y_unf cc_place_Path_k11.eq_1, Y_unf cc_place_Path_k12.eq_1, Y_unf cc_place_Path.eq_1, h1, p0, h3, k3, e1, List.map_cons, aI, hyp, roundEnd]
      exact cont hc
  · have hc : x.2.mem ≠ [p] := by
      intro h; rw [hm] at h; injection h with h1' h2'; subst h2'; simp at hml; omega
    simp only [wk, wd, UInt8.reduceToNat, reduceIte, reduceCtorEq, Nat.reduceEqDiff, Nat.reduceAdd, Nat.reduceMul, Nat.reduceSub, Nat.reduceLeDiff, Int.reduceNeg, Int.reduceAdd, Int.reduceSub, Int.reduceMul, Int.reduceLT, Int.reduceLE, Int.reduceEq, Int.reduceToNat, Nat.reduceBEq, Nat.reduceLT, Y_unf cc_place_Path_r0_k1.eq_1, Y_unf cc_place_Path_r0_k2.eq_1, Y_unf cc_place_Path_r0_k3.eq_1, Y_unf cc_place_Path_r0_l4.eq_1, Y_unf cc_place_Path_r0_k5.eq_1, Y_unf cc_place_Path_r0_c6.eq_1, Y_unf cc_place_Path_r0_k7.eq_1, Y_unf cc_place_Path_r0_k8.eq_1, Y_unf cc_place_Path_r0_a.eq_1, Y_unf cc_place_Path_r0_b.eq_1, Y_unf cc_place_Path_k9.eq_1, Y_unf cc_place_Path_k10.eq_1, Y_unf cc_place_Path_k11.eq_1, Y_unf cc_place_Path_k12.eq_1, Y_unf cc_place_Path.eq_1, h1, roundEnd]
    exact cont hc

def pathL (t : T) (p : Int) : List Bs := match pathX t p with
  | some x => up x.1
  | none => []
theorem IdsLts_strs {n : Nat} (l : List Bs) : IdsLts n (l.map strA) := IdsLts_map (fun a => by simp [strA, IdsLt]) l
theorem Strs_ids {l : List Bs} {v : AV} {n : Nat} (h : Strs l v) : IdsLt n v := by
  rcases h with ⟨rfl, _⟩ | ⟨m, cap, rfl, _⟩
  · trivial
  · exact IdsLts_strs _

theorem c_Path {t : T} (h : t.Good) (p : Int) {σ : St} {Q : AV → St → Prop} (hq : ∀ r, Strs (pathL t p) r → Q r σ) : CallsA prog F.place_Path [.str t.text, .int .i64 p] σ Q := by
  have hl := h.len
  have hxs : ∀ x ∈ T.walk [] t, x.2.Good ∧ x.1.length ≤ 1000 := fun x hx => ⟨walk_good t [] h x hx, by have := walk_len t [] x hx; simp at this; omega⟩
  refine CallsA.forget ?_
  refine CallsA.freeze (R := fun v σ' => Ext σ σ' ∧ (Strs (pathL t p) v ∨ ∃ id g, v = .sl id g 0 (pathL t p).length ∧ σ'.heap id = some (.arr 1 ((pathL t p).map strA) g 0) ∧ σ.nx ≤ id)) ?_ ?_
  · refine calls_of_Y e_place_Path rfl ?_; simp only [tm0_0, tm0_1, tm0_2, tm0_3, tm0_4, tm0_5, tm0_6, wk, wd, UInt8.reduceToNat, reduceIte, reduceCtorEq, Nat.reduceEqDiff, Nat.reduceAdd, Nat.reduceMul, Nat.reduceSub, Nat.reduceLeDiff, Int.reduceNeg, Int.reduceAdd, Int.reduceSub, Int.reduceMul, Int.reduceLT, Int.reduceLE, Int.reduceEq, Int.reduceToNat, Nat.reduceBEq, Nat.reduceLT, Y_unf cc_place_Path_r0_k1.eq_1, Y_unf cc_place_Path_r0_k2.eq_1, Y_unf cc_place_Path_r0_k3.eq_1, Y_unf cc_place_Path_r0_l4.eq_1, Y_unf cc_place_Path_r0_k5.eq_1, Y_unf cc_place_Path_r0_c6.eq_1, Y_unf cc_place_Path_r0_k7.eq_1, Y_unf cc_place_Path_r0_k8.eq_1, Y_unf cc_place_Path_r0_a.eq_1, Y_unf cc_place_Path_r0_b.eq_1, Y_unf cc_place_Path_k9.eq_1, Y_unf cc_place_Path_k10.eq_1, Y_unf cc_place_Path_k11.eq_1, Y_unf cc_place_Path_k12.eq_1, Y_unf cc_place_Path.eq_1]
    refine Cl_pure0 (c_Right h) ?_; simp only [wk, wd, UInt8.reduceToNat, reduceIte, reduceCtorEq, Nat.reduceEqDiff, Nat.reduceAdd, Nat.reduceMul, Nat.reduceSub, Nat.reduceLeDiff, Int.reduceNeg, Int.reduceAdd, Int.reduceSub, Int.reduceMul, Int.reduceLT, Int.reduceLE, Int.reduceEq, Int.reduceToNat, Nat.reduceBEq, Nat.reduceLT, Y_unf cc_place_Path_r0_k1.eq_1, Y_unf cc_place_Path_r0_k2.eq_1, Y_unf cc_place_Path_r0_k3.eq_1, Y_unf cc_place_Path_r0_l4.eq_1, Y_unf cc_place_Path_r0_k5.eq_1, Y_unf cc_place_Path_r0_c6.eq_1, Y_unf cc_place_Path_r0_k7.eq_1, Y_unf cc_place_Path_r0_k8.eq_1, Y_unf cc_place_Path_r0_a.eq_1, Y_unf cc_place_Path_r0_b.eq_1, Y_unf cc_place_Path_k9.eq_1, Y_unf cc_place_Path_k10.eq_1, Y_unf cc_place_Path_k11.eq_1, Y_unf cc_place_Path_k12.eq_1, Y_unf cc_place_Path.eq_1]
    refine c_below ⟨trivial, ?_⟩
    simp only [wk, wd, UInt8.reduceToNat, reduceIte, reduceCtorEq, Nat.reduceEqDiff, Nat.reduceAdd, Nat.reduceMul, Nat.reduceSub, Nat.reduceLeDiff, Int.reduceNeg, Int.reduceAdd, Int.reduceSub, Int.reduceMul, Int.reduceLT, Int.reduceLE, Int.reduceEq, Int.reduceToNat, Nat.reduceBEq, Nat.reduceLT, Y_unf cc_place_Path_r0_k1.eq_1, Y_unf cc_place_Path_r0_k2.eq_1, Y_unf cc_place_Path_r0_k3.eq_1, Y_unf cc_place_Path_r0_l4.eq_1, Y_unf cc_place_Path_r0_k5.eq_1, Y_unf cc_place_Path_r0_c6.eq_1, Y_unf cc_place_Path_r0_k7.eq_1, Y_unf cc_place_Path_r0_k8.eq_1, Y_unf cc_place_Path_r0_a.eq_1, Y_unf cc_place_Path_r0_b.eq_1, Y_unf cc_place_Path_k9.eq_1, Y_unf cc_place_Path_k10.eq_1, Y_unf cc_place_Path_k11.eq_1, Y_unf cc_place_Path_k12.eq_1, Y_unf cc_place_Path.eq_1]
    generalize hσ4 : ((((σ.new (.arr 1 [.int .i64 p] 0 0)).new (.arr 1 [.snil] 0 0)).new (.arr 1 [.str []] 0 0)).new (.arr 1 [.str t.text] 0 0)) = σ4
    have n4 : σ4.nx = σ.nx + 4 := by rw [← hσ4]; simp [St.new_nx]
    have x4 : Ext σ σ4 := by rw [← hσ4]; exact (((((Ext.refl σ).new _).new _).new _).new _)
    have k0 : σ4.heap σ.nx = some (.arr 1 [.int .i64 p] 0 0) := by rw [← hσ4]; simp [St.new_heap, St.new_nx, Nat.add_assoc]
    have k1 : σ4.heap (σ.nx + 1) = some (.arr 1 [.snil] 0 0) := by rw [← hσ4]; simp [St.new_heap, St.new_nx, Nat.add_assoc]
    have k3 : σ4.heap (σ.nx + 2) = some (.arr 1 [.str []] 0 0) := by rw [← hσ4]; simp [St.new_heap, St.new_nx, Nat.add_assoc]
    have k4 : σ4.heap (σ.nx + 3) = some (.arr 1 [.str t.text] 0 0) := by rw [← hσ4]; simp [St.new_heap, St.new_nx, Nat.add_assoc]
    refine Rf_fn ⟨callable_below1, ?_⟩
    generalize htm : (upd (upd _ _ _) 13 _ : Tm) = tm
    have tm3 : tm 3 = .ptr σ.nx 0 0 := by rw [← htm]; simp only [upd_at]; rfl
    have tm4 : tm 4 = .ptr (σ.nx + 1) 0 0 := by rw [← htm]; simp only [upd_at]; rfl
    have tm42 : tm 42 = .tup [] := by rw [← htm]; simp only [upd_at]; rfl
    clear htm
    have x5 : Ext σ4 ((σ4.new .defd).new (.loop .ready none (tmL tm 42) cc_place_Path_r0_p cc_place_Path_r0_x cc_place_Path_r0_y)) := ((Ext.refl σ4).new _).new _
    have hnx : ((σ4.new .defd).new (.loop .ready none (tmL tm 42) cc_place_Path_r0_p cc_place_Path_r0_x cc_place_Path_r0_y)).nx = σ4.nx + 2 := rfl
    have hY := yields_P (xs := T.walk [] t) (p := p) (l' := σ4.nx + 1) (c3 := σ.nx) (c4 := σ.nx + 1) (lo := σ4.nx + 2) hxs (tmL_length tm 42) (by rw [tm0_tmL (by decide)]; exact tm3) (by rw [tm0_tmL (by decide)]; exact tm4)
      (by omega) (by omega) (by omega) (by omega)
    have b1 : (σ4.nx = σ4.nx + 1) = False := by simp
    have b2 : (σ.nx + 1 = σ4.nx + 1) = False := eq_false (by omega)
    have b4 : (σ.nx + 1 = σ4.nx) = False := eq_false (by omega)
    have b8 : (σ4.nx = σ.nx + 1) = False := eq_false (by omega)
    have hm1 : σ4.nx ∉ [σ4.nx + 1, σ.nx, σ.nx + 1] := by simp; omega
    refine c_below1 t h.ok [] (σ4.nx + 1) _ _ owns_P hY (D := [σ4.nx + 1, σ.nx, σ.nx + 1]) ⟨rfl, ?_, ?_, ?_, ?_, ?_⟩ (by omega) (by omega) (by simp; omega) (by simp; omega) ?_ ?_ (by simp; omega) _ ?_ ?_
    · intro j hj; rw [hnx]; simp at hj; omega
    · simp [St.new_heap, St.new_nx]
    · rw [x5.heap _ (by omega)]; exact k0
    · rw [x5.heap _ (by omega)]; exact k1
    · intro k x hk; omega
    · rw [x5.heap _ (by omega)]; exact k3
    · rw [x5.heap _ (by omega)]; exact k4
    · rintro D σ6 ⟨rfl, g1, g2, g3, g4, g6⟩ hG
      simp only [afterLoop, g2]
      refine ⟨by simp, ?_⟩
      have hd : σ6.heap σ4.nx = some .defd := by rw [hG.keep σ4.nx (by rw [hnx]; omega) hm1]; simp [St.new_heap, St.new_nx]
      have hnone : pathX t p = none := by
        simp only [pathX, List.find?_eq_none, decide_eq_true_eq]
        intro x hx
        obtain ⟨k, hk⟩ := List.getElem?_of_mem hx
        exact g6 k x (by have := (List.getElem?_eq_some_iff.1 hk).1; simpa [rows] using this) hk
      simp only [wk, wd, UInt8.reduceToNat, reduceIte, reduceCtorEq, Nat.reduceEqDiff, Nat.reduceAdd, Nat.reduceMul, Nat.reduceSub, Nat.reduceLeDiff, Int.reduceNeg, Int.reduceAdd, Int.reduceSub, Int.reduceMul, Int.reduceLT, Int.reduceLE, Int.reduceEq, Int.reduceToNat, Nat.reduceBEq, Nat.reduceLT, Y_unf cc_place_Path_r0_k1.eq_1, Y_unf cc_place_Path_r0_k2.eq_1, Y_unf cc_place_Path_r0_k3.eq_1, Y_unf cc_place_Path_r0_l4.eq_1, Y_unf cc_place_Path_r0_k5.eq_1, Y_unf cc_place_Path_r0_c6.eq_1, Y_unf cc_place_Path_r0_k7.eq_1, Y_unf cc_place_Path_r0_k8.eq_1, Y_unf cc_place_Path_r0_a.eq_1, Y_unf cc_place_Path_r0_b.eq_1, Y_unf cc_place_Path_k9.eq_1, Y_unf cc_place_Path_k10.eq_1, Y_unf cc_place_Path_k11.eq_1, Y_unf cc_place_Path_k12.eq_1, Y_unf cc_place_Path.eq_1, pushD, tm42, tm4, g4, hd, b1, b2, b4, b8, aop]
      have h2 := hG.nx
      rw [hnx] at h2
      refine ⟨_, rfl, ⟨by simp only [St.set_nx]; omega, fun i hi => ?_⟩, .inl (.inl ⟨rfl, by simp [pathL, hnone]⟩)⟩
      simp only [St.set_heap]
      rw [if_neg (by omega), if_neg (by omega), if_neg (by omega), hG.keep i (by rw [hnx]; omega) (by simp; omega), x5.heap i (by omega), x4.heap i hi]
    · rintro D σ6 ⟨v, x, E, rfl, g1, g2, g3, g4, g5, g6⟩ hG
      simp only [afterLoop, g3]
      refine ⟨by simp, ?_⟩
      have hd : σ6.heap σ4.nx = some .defd := by rw [hG.keep σ4.nx (by rw [hnx]; omega) hm1]; simp [St.new_heap, St.new_nx]
      have hsome : pathL t p = up x.1 := by simp only [pathL, pathX, g4]
      have h2 := hG.nx
      rw [hnx] at h2
      rw [hsome]
      rcases g6 with ⟨rfl, hv1, rfl⟩ | ⟨id, g, rfl, hid, rfl⟩
      · simp only [wk, wd, UInt8.reduceToNat, reduceIte, reduceCtorEq, Nat.reduceEqDiff, Nat.reduceAdd, Nat.reduceMul, Nat.reduceSub, Nat.reduceLeDiff, Int.reduceNeg, Int.reduceAdd, Int.reduceSub, Int.reduceMul, Int.reduceLT, Int.reduceLE, Int.reduceEq, Int.reduceToNat, Nat.reduceBEq, Nat.reduceLT, Y_unf cc_place_Path_r0_k1.eq_1, Y_unf cc_place_Path_r0_k2.eq_1, Y_unf cc_place_Path_r0_k3.eq_1, Y_unf cc_place_Path_r0_l4.eq_1, Y_unf cc_place_Path_r0_k5.eq_1, Y_unf cc_place_Path_r0_c6.eq_1, Y_unf cc_place_Path_r0_k7.eq_1, Y_unf cc_place_Path_r0_k8.eq_1, Y_unf cc_place_Path_r0_a.eq_1, Y_unf cc_place_Path_r0_b.eq_1, Y_unf cc_place_Path_k9.eq_1, Y_unf cc_place_Path_k10.eq_1, Y_unf cc_place_Path_k11.eq_1, Y_unf cc_place_Path_k12.eq_1, Y_unf cc_place_Path.eq_1, pushD, tm42, tm4, g5, hd, b1, b2, b4, b8, aop]
        exact ⟨_, rfl, ⟨by simp only [St.set_nx]; omega, fun i hi => by simp only [St.set_heap]; rw [if_neg (by omega), if_neg (by omega), hG.keep i (by rw [hnx]; omega) (by simp; omega), x5.heap i (by omega), x4.heap i hi]⟩, .inl (.inr ⟨1, some 1, rfl, by simp [hv1]⟩)⟩
      · have hlo := g2 id (by simp)
        have b9 : (σ4.nx = id) = False := eq_false (by omega)
        have b10 : (id = σ4.nx) = False := eq_false (by omega)
        simp only [wk, wd, UInt8.reduceToNat, reduceIte, reduceCtorEq, Nat.reduceEqDiff, Nat.reduceAdd, Nat.reduceMul, Nat.reduceSub, Nat.reduceLeDiff, Int.reduceNeg, Int.reduceAdd, Int.reduceSub, Int.reduceMul, Int.reduceLT, Int.reduceLE, Int.reduceEq, Int.reduceToNat, Nat.reduceBEq, Nat.reduceLT, Y_unf cc_place_Path_r0_k1.eq_1, Y_unf cc_place_Path_r0_k2.eq_1, Y_unf cc_place_Path_r0_k3.eq_1, Y_unf cc_place_Path_r0_l4.eq_1, Y_unf cc_place_Path_r0_k5.eq_1, Y_unf cc_place_Path_r0_c6.eq_1, Y_unf cc_place_Path_r0_k7.eq_1, Y_unf cc_place_Path_r0_k8.eq_1, Y_unf cc_place_Path_r0_a.eq_1, Y_unf cc_place_Path_r0_b.eq_1, Y_unf cc_place_Path_k9.eq_1, Y_unf cc_place_Path_k10.eq_1, Y_unf cc_place_Path_k11.eq_1, Y_unf cc_place_Path_k12.eq_1, Y_unf cc_place_Path.eq_1, pushD, tm42, tm4, g5, hd, b1, b2, b4, b8, aop]
        exact ⟨_, rfl, ⟨by simp only [St.set_nx]; omega, fun i hi => by simp only [St.set_heap]; rw [if_neg (by omega), if_neg (by omega), hG.keep i (by rw [hnx]; omega) (by simp; omega), x5.heap i (by omega), x4.heap i hi]⟩, .inr ⟨id, g, rfl, by rw [if_neg (by omega), if_neg (by omega)]; exact hid, by omega⟩⟩
  · rintro v σ' ⟨hE, hv | ⟨id, g, rfl, hh, hid⟩⟩
    · exact .inl ⟨hq _ hv, Strs_ids hv, hE⟩
    · refine .inr ⟨id, g, 0, (pathL t p).length, 1, (pathL t p).map strA, 0, rfl, hh, by simp, ?_, ?_, hE.set hid _⟩
      · refine hq _ (.inr ⟨(pathL t p).length, none, ?_, by simp⟩)
        simp [List.take_of_length_le, strA]
      · simp only [IdsLt]
        rw [List.take_of_length_le (by simp)]; exact IdsLts_strs _
end Go.Proofs.Tryd
