/- Contracts of functions: what each computes, for whatever memory. -/
import Derived.Test.YtchlihfnolnjpaaDoorCtE
open Go Go.Abs
set_option linter.unusedVariables false
set_option linter.unusedSimpArgs false
namespace Go.Proofs.Tryd
def trS : T := .node (.node (.leaf 1) (.leaf 2)) (.leaf 3)
theorem trS_text : trS.text = [40, 40, 49, 50, 41, 51, 41] := by decide
theorem c_PathS (p : Int) {σ : St} {Q : AV → St → Prop} (hg : trS.Good) (hq : ∀ r, Strs (pathL trS p) r → Q r σ) : CallsA prog F.place_Path [.str [40, 40, 49, 50, 41, 51, 41], .int .i64 p] σ Q := by
  rw [← trS_text]; exact c_Path hg p hq
theorem c_CoS (p : Int) {σ : St} {Q : AV → St → Prop} (hg : trS.Good) (hq : ∀ r, Strs (coL trS p) r → Q r σ) : CallsA prog F.place_Co [.str [40, 40, 49, 50, 41, 51, 41], .int .i64 p] σ Q := by
  rw [← trS_text]; exact c_Co hg p hq
theorem c_DutiesS (p : Int) {σ : St} {Q : AV → St → Prop} (hg : trS.Good) (hq : ∀ r, Strs (duL trS p) r → Q r σ) : CallsA prog F.place_Duties [.str [40, 40, 49, 50, 41, 51, 41], .int .i64 p] σ Q := by
  rw [← trS_text]; exact c_Duties hg p hq
theorem pS : pathL trS 2 = [[108, 114], [108], []] := by decide +kernel
theorem cS : coL trS 2 = [[108, 108], [114]] := by decide +kernel
theorem dS : duL trS 1 = [[108, 108], [108]] := by decide +kernel
theorem trS_good : trS.Good where
  ok := by intro q hq; simp [trS, T.labs] at hq; omega
  nodup := by decide
theorem strs_lit (l : List Bs) (cap : Option Nat) : Strs l (.list (l.map .str) l.length cap) := .inr ⟨_, _, rfl, by simp⟩
theorem c_shown : ∀ {σ : St} {Q : AV → St → Prop}, Q (.bool true) σ → CallsA prog F.gemotlaw14_shown [] σ Q := by
  intro σ Q hq
  refine calls_of_Y e_gemotlaw14_shown rfl ?_; simp only [tm0_0, tm0_1, tm0_2, tm0_3, tm0_4, tm0_5, tm0_6, wk, wd, UInt8.reduceToNat, reduceIte, reduceCtorEq, Nat.reduceEqDiff, Nat.reduceAdd, Nat.reduceMul, Nat.reduceSub, Nat.reduceLeDiff, Int.reduceNeg, Int.reduceAdd, Int.reduceSub, Int.reduceMul, Int.reduceLT, Int.reduceLE, Int.reduceEq, Int.reduceToNat, Nat.reduceBEq, Nat.reduceLT, Y_unf cc_gemotlaw14_shown_k0.eq_1, Y_unf cc_gemotlaw14_shown.eq_1]
  refine c_PathS _ trS_good (fun r hr => ⟨trivial, ?_⟩)
  simp only [wk, wd, UInt8.reduceToNat, reduceIte, reduceCtorEq, Nat.reduceEqDiff, Nat.reduceAdd, Nat.reduceMul, Nat.reduceSub, Nat.reduceLeDiff, Int.reduceNeg, Int.reduceAdd, Int.reduceSub, Int.reduceMul, Int.reduceLT, Int.reduceLE, Int.reduceEq, Int.reduceToNat, Nat.reduceBEq, Nat.reduceLT, Y_unf cc_gemotlaw14_shown_k0.eq_1, Y_unf cc_gemotlaw14_shown.eq_1]
  rw [pS] at hr
  refine Cl_pure0 (c_same hr (strs_lit [[108, 114], [108], []] (some 3)) (by decide)) ?_; simp only [wk, wd, UInt8.reduceToNat, reduceIte, reduceCtorEq, Nat.reduceEqDiff, Nat.reduceAdd, Nat.reduceMul, Nat.reduceSub, Nat.reduceLeDiff, Int.reduceNeg, Int.reduceAdd, Int.reduceSub, Int.reduceMul, Int.reduceLT, Int.reduceLE, Int.reduceEq, Int.reduceToNat, Nat.reduceBEq, Nat.reduceLT, Y_unf cc_gemotlaw14_shown_k0.eq_1, Y_unf cc_gemotlaw14_shown.eq_1]
  refine c_CoS _ trS_good (fun r hr => ⟨trivial, ?_⟩)
  simp only [wk, wd, UInt8.reduceToNat, reduceIte, reduceCtorEq, Nat.reduceEqDiff, Nat.reduceAdd, Nat.reduceMul, Nat.reduceSub, Nat.reduceLeDiff, Int.reduceNeg, Int.reduceAdd, Int.reduceSub, Int.reduceMul, Int.reduceLT, Int.reduceLE, Int.reduceEq, Int.reduceToNat, Nat.reduceBEq, Nat.reduceLT, Y_unf cc_gemotlaw14_shown_k0.eq_1, Y_unf cc_gemotlaw14_shown.eq_1]
  rw [cS] at hr
  refine Cl_pure0 (c_same hr (strs_lit [[108, 108], [114]] (some 2)) (by decide)) ?_; simp only [wk, wd, UInt8.reduceToNat, reduceIte, reduceCtorEq, Nat.reduceEqDiff, Nat.reduceAdd, Nat.reduceMul, Nat.reduceSub, Nat.reduceLeDiff, Int.reduceNeg, Int.reduceAdd, Int.reduceSub, Int.reduceMul, Int.reduceLT, Int.reduceLE, Int.reduceEq, Int.reduceToNat, Nat.reduceBEq, Nat.reduceLT, Y_unf cc_gemotlaw14_shown_k0.eq_1, Y_unf cc_gemotlaw14_shown.eq_1]
  refine c_DutiesS _ trS_good (fun r hr => ⟨trivial, ?_⟩)
  simp only [wk, wd, UInt8.reduceToNat, reduceIte, reduceCtorEq, Nat.reduceEqDiff, Nat.reduceAdd, Nat.reduceMul, Nat.reduceSub, Nat.reduceLeDiff, Int.reduceNeg, Int.reduceAdd, Int.reduceSub, Int.reduceMul, Int.reduceLT, Int.reduceLE, Int.reduceEq, Int.reduceToNat, Nat.reduceBEq, Nat.reduceLT, Y_unf cc_gemotlaw14_shown_k0.eq_1, Y_unf cc_gemotlaw14_shown.eq_1]
  rw [dS] at hr
  refine Cl_pure0 (c_same hr (strs_lit [[108, 108], [108]] (some 2)) (by decide)) ?_; simp only [wk, wd, UInt8.reduceToNat, reduceIte, reduceCtorEq, Nat.reduceEqDiff, Nat.reduceAdd, Nat.reduceMul, Nat.reduceSub, Nat.reduceLeDiff, Int.reduceNeg, Int.reduceAdd, Int.reduceSub, Int.reduceMul, Int.reduceLT, Int.reduceLE, Int.reduceEq, Int.reduceToNat, Nat.reduceBEq, Nat.reduceLT, Y_unf cc_gemotlaw14_shown_k0.eq_1, Y_unf cc_gemotlaw14_shown.eq_1]
  exact hq
end Go.Proofs.Tryd
open Go Go.Abs
set_option linter.unusedVariables false
set_option linter.unusedSimpArgs false
namespace Go.Proofs.Tryd

def T.sub : T → Bs → Option T
  | t, [] => some t
  | .leaf _, _ :: _ => none
  | .node l r, c :: n => if c = 108 then T.sub l n else if c = 114 then T.sub r n else none
theorem T.sub_nil (t : T) : t.sub [] = some t := by cases t <;> rfl
theorem mem_walk : ∀ (t : T) (n : Bs) (x : Bs × T), x ∈ T.walk n t ↔ ∃ q, x.1 = n ++ q ∧ t.sub q = some x.2
  | .leaf p, n, x => by
    simp only [T.walk, List.mem_singleton]
    constructor
    · rintro rfl; exact ⟨[], by simp, rfl⟩
    · rintro ⟨q, h1, h2⟩
      cases q with
      | nil => rw [T.sub_nil] at h2; obtain ⟨a, b⟩ := x; simp at h1 h2; rw [h1, h2]
      | cons c m => simp [T.sub] at h2
  | .node l r, n, x => by
    simp only [T.walk, List.mem_cons, List.mem_append, mem_walk l, mem_walk r]
    constructor
    · rintro (rfl | ⟨q, h1, h2⟩ | ⟨q, h1, h2⟩)
      · exact ⟨[], by simp, rfl⟩
      · exact ⟨108 :: q, by rw [h1]; simp, by simpa [T.sub] using h2⟩
      · exact ⟨114 :: q, by rw [h1]; simp, by simpa [T.sub] using h2⟩
    · rintro ⟨q, h1, h2⟩
      cases q with
      | nil => rw [T.sub_nil] at h2; obtain ⟨a, b⟩ := x; simp at h1 h2; left; rw [h1, h2]
      | cons c m =>
        simp only [T.sub] at h2
        split at h2
        · rename_i hc; subst hc; exact .inr (.inl ⟨m, by rw [h1]; simp, h2⟩)
        · split at h2
          · rename_i hc; subst hc; exact .inr (.inr ⟨m, by rw [h1]; simp, h2⟩)
          · cases h2
theorem walk_nodup : ∀ (t : T) (n : Bs), ((T.walk n t).map (·.1)).Nodup
  | .leaf p, n => by simp [T.walk]
  | .node l r, n => by
    simp only [T.walk, List.map_cons, List.map_append, List.nodup_cons, List.nodup_append, List.mem_append, List.mem_map]
    refine ⟨?_, walk_nodup l _, walk_nodup r _, ?_⟩
    · rintro (⟨x, hx, h⟩ | ⟨x, hx, h⟩)
      · obtain ⟨q, h1, _⟩ := (mem_walk l _ x).1 hx
        rw [h1] at h; have := congrArg List.length h; simp at this
      · obtain ⟨q, h1, _⟩ := (mem_walk r _ x).1 hx
        rw [h1] at h; have := congrArg List.length h; simp at this
    · rintro a ⟨x, hx, rfl⟩ b ⟨y, hy, rfl⟩ h
      obtain ⟨q, h1, _⟩ := (mem_walk l _ x).1 hx
      obtain ⟨q', h2, _⟩ := (mem_walk r _ y).1 hy
      rw [h1, h2] at h; simp at h
theorem find_key {β : Type} : ∀ {l : List (Bs × β)} {x : Bs × β}, (l.map (·.1)).Nodup → x ∈ l → l.find? (fun y => decide (y.1 = x.1)) = some x
  | [], x, _, h => by simp at h
  | y :: l, x, hn, h => by
    simp only [List.map_cons, List.nodup_cons, List.mem_map] at hn
    rw [List.find?_cons]
    rcases List.mem_cons.1 h with rfl | h
    · simp
    · have : ¬ y.1 = x.1 := fun e => hn.1 ⟨x, h, e.symm⟩
      simp only [this, decide_false]
      exact find_key hn.2 h
theorem atL_eq (t : T) (q : Bs) : atL t q = t.sub q := by
  unfold atL
  cases h : t.sub q with
  | some s =>
    have := find_key (x := (q, s)) (walk_nodup t []) ((mem_walk t [] (q, s)).2 ⟨q, by simp, h⟩)
    simp only at this
    rw [this]; rfl
  | none =>
    rw [List.find?_eq_none.2]
    · rfl
    · intro x hx
      obtain ⟨q', h1, h2⟩ := (mem_walk t [] x).1 hx
      simp only [List.nil_append] at h1
      simp only [decide_eq_true_eq]
      rintro rfl
      rw [← h1, h] at h2; cases h2
theorem mem_leaf (k : Nat) : (T.leaf k).mem = [(k : Int)] := rfl
theorem mem_single {s : T} {p : Int} : s.mem = [p] ↔ ∃ k : Nat, s = .leaf k ∧ p = k := by
  constructor
  · intro h
    cases s with
    | leaf k => rw [mem_leaf] at h; injection h with h; exact ⟨k, rfl, h.symm⟩
    | node l r =>
      have h1 := T.mem_len (.node l r)
      have := T.labs_pos l
      have := T.labs_pos r
      rw [h] at h1; simp [T.labs] at h1; omega
  · rintro ⟨k, rfl, rfl⟩; rfl
theorem sub_append : ∀ (a b : Bs) (t : T), t.sub (a ++ b) = (t.sub a).bind (fun s => s.sub b)
  | [], b, t => by simp [T.sub_nil]
  | c :: a, b, .leaf p => rfl
  | c :: a, b, .node l r => by
    simp only [List.cons_append, T.sub]
    split
    · exact sub_append a b l
    · split
      · exact sub_append a b r
      · rfl
theorem sub_labs : ∀ (q : Bs) {t s : T}, t.sub q = some s → ∀ p ∈ s.labs, p ∈ t.labs
  | [], t, s, h, p, hp => by rw [T.sub_nil] at h; cases h; exact hp
  | c :: q, .leaf k, s, h, p, hp => by simp [T.sub] at h
  | c :: q, .node l r, s, h, p, hp => by
    simp only [T.sub] at h
    simp only [T.labs, List.mem_append]
    split at h
    · exact .inl (sub_labs q h p hp)
    · split at h
      · exact .inr (sub_labs q h p hp)
      · cases h
theorem sub_good : ∀ (q : Bs) {t s : T}, t.sub q = some s → t.Good → s.Good
  | [], t, s, h, hg => by rw [T.sub_nil] at h; cases h; exact hg
  | c :: q, .leaf k, s, h, hg => by simp [T.sub] at h
  | c :: q, .node l r, s, h, hg => by
    simp only [T.sub] at h
    split at h
    · exact sub_good q h hg.l
    · split at h
      · exact sub_good q h hg.r
      · cases h
theorem leaf_at : ∀ {t : T} {p : Nat}, p ∈ t.labs → ∃ q, t.sub q = some (.leaf p)
  | .leaf k, p, h => by simp [T.labs] at h; subst h; exact ⟨[], rfl⟩
  | .node l r, p, h => by
    simp only [T.labs, List.mem_append] at h
    rcases h with h | h
    · obtain ⟨q, hq⟩ := leaf_at h; exact ⟨108 :: q, by simpa [T.sub] using hq⟩
    · obtain ⟨q, hq⟩ := leaf_at h; exact ⟨114 :: q, by simpa [T.sub] using hq⟩
theorem leaf_unique : ∀ {t : T} {p : Nat} {q q' : Bs}, t.labs.Nodup → t.sub q = some (.leaf p) → t.sub q' = some (.leaf p) → q = q'
  | .leaf k, p, q, q', hn, h, h' => by
    cases q <;> cases q' <;> simp_all [T.sub]
  | .node l r, p, q, q', hn, h, h' => by
    simp only [T.labs, List.nodup_append] at hn
    obtain ⟨n1, n2, n3⟩ := hn
    cases q with
    | nil => simp [T.sub] at h
    | cons c q =>
      cases q' with
      | nil => simp [T.sub] at h'
      | cons c' q' =>
        simp only [T.sub] at h h'
        have hp : p ∈ (T.leaf p).labs := by simp [T.labs]
        split at h
        · rename_i hc
          split at h'
          · rename_i hc'; rw [hc, hc', leaf_unique n1 h h']
          · split at h'
            · exact absurd rfl (n3 p (sub_labs _ h p hp) p (sub_labs _ h' p hp))
            · cases h'
        · split at h
          · rename_i hc0 hc
            split at h'
            · exact absurd rfl (n3 p (sub_labs _ h' p hp) p (sub_labs _ h p hp))
            · split at h'
              · rename_i hc'; rw [hc, hc', leaf_unique n2 h h']
              · cases h'
          · cases h
theorem pathX_eq {t : T} (h : t.Good) {p : Nat} {q : Bs} (hq : t.sub q = some (.leaf p)) : pathX t p = some (q, .leaf p) := by
  unfold pathX
  cases hf : (T.walk [] t).find? (fun x => decide (x.2.mem = [(p : Int)])) with
  | none =>
    rw [List.find?_eq_none] at hf
    have := hf (q, .leaf p) ((mem_walk t [] _).2 ⟨q, by simp, hq⟩)
    simp [mem_leaf] at this
  | some y =>
    have h1 := List.find?_some hf
    simp only [decide_eq_true_eq] at h1
    obtain ⟨k, h2, h3⟩ := mem_single.1 h1
    obtain rfl : p = k := by omega
    obtain ⟨q', h4, h5⟩ := (mem_walk t [] y).1 (List.mem_of_find?_eq_some hf)
    obtain ⟨a, b⟩ := y
    simp only [List.nil_append] at h2 h4 h5
    subst h2; subst h4
    rw [leaf_unique h.nodup h5 hq]

theorem mem_upK : ∀ (k : Nat) (n m : Bs), n.length = k → (m ∈ upK k n ↔ m <+: n)
  | 0, n, m, h => by
    have : n = [] := List.eq_nil_of_length_eq_zero h
    subst this; simp [upK]
  | k + 1, n, m, h => by
    simp only [upK, List.mem_cons]
    rw [mem_upK k (n.take k) m (by simp; omega), List.prefix_take_iff]
    constructor
    · rintro (rfl | ⟨h1, _⟩)
      · exact List.prefix_refl _
      · exact h1
    · intro h1
      by_cases hl : m.length ≤ k
      · exact .inr ⟨h1, hl⟩
      · have := h1.length_le
        exact .inl (h1.eq_of_length (by omega))
theorem mem_up (n m : Bs) : m ∈ up n ↔ m <+: n := mem_upK _ _ _ rfl
theorem upK_pair : ∀ (k : Nat) (n : Bs), n.length = k → (upK k n).Pairwise (fun a b => b.length < a.length ∧ b <+: a)
  | 0, n, h => by simp [upK]
  | k + 1, n, h => by
    simp only [upK, List.pairwise_cons]
    refine ⟨fun m hm => ?_, upK_pair k _ (by simp; omega)⟩
    have hl : (n.take k).length = k := by simp; omega
    have h1 := (mem_upK k (n.take k) m hl).1 hm
    have := h1.length_le
    exact ⟨by omega, h1.trans (List.take_prefix _ _)⟩
theorem filter_take {f : Bs → Bool} : ∀ {L : List Bs}, L.Pairwise (fun a b => f b = true → f a = true) → L.filter f = L.take (L.filter f).length
  | [], _ => rfl
  | a :: r, h => by
    rw [List.pairwise_cons] at h
    by_cases ha : f a = true
    · rw [List.filter_cons_of_pos ha, List.length_cons, List.take_succ_cons, ← filter_take h.2]
    · have : r.filter f = [] := by
        rw [List.filter_eq_nil_iff]; intro b hb hc; exact ha (h.1 b hb hc)
      rw [List.filter_cons_of_neg ha, this]; rfl

theorem spon_iff {t s : T} {q : Bs} {x : Int} (hg : t.Good) (h : t.sub q = some s) : spon t q = x ↔ x ∈ s.mem ∧ ∀ y ∈ s.mem, x ≤ y := by
  have hs := sub_good q h hg
  have hm := T.mem_strict hs.nodup
  have hl := T.mem_len s
  have hp := T.labs_pos s
  simp only [spon, atL_eq, h]
  cases hc : s.mem with
  | nil => rw [hc] at hl; simp at hl; omega
  | cons a r =>
    rw [hc, List.pairwise_cons] at hm
    simp only [List.headD_cons, List.mem_cons]
    constructor
    · rintro rfl
      exact ⟨.inl rfl, fun y hy => by
        rcases hy with rfl | hy
        · omega
        · have := hm.1 y hy; omega⟩
    · rintro ⟨h1, h2⟩
      have h3 := h2 a (.inl rfl)
      rcases h1 with rfl | h1
      · rfl
      · have := hm.1 x h1; omega
theorem spon_mem {t s : T} {q : Bs} (hg : t.Good) (h : t.sub q = some s) : spon t q ∈ s.mem := ((spon_iff hg h).1 rfl).1
end Go.Proofs.Tryd
open Go Go.Abs
set_option linter.unusedVariables false
set_option linter.unusedSimpArgs false
namespace Go.Proofs.Tryd

theorem path_of {t : T} (h : t.Good) {p : Int} (hp : p ∈ t.mem) : ∃ (k : Nat) (q : Bs), p = k ∧ k ∈ t.labs ∧ t.sub q = some (.leaf k) ∧ pathL t p = up q := by
  obtain ⟨k, hk, rfl⟩ := T.mem_iff.1 hp
  obtain ⟨q, hq⟩ := leaf_at hk
  exact ⟨k, q, rfl, hk, hq, by simp only [pathL, pathX_eq h hq]⟩
theorem sub_prefix {t : T} {a q : Bs} {s : T} (h : t.sub q = some s) (ha : a <+: q) : ∃ sa b, q = a ++ b ∧ t.sub a = some sa ∧ sa.sub b = some s := by
  obtain ⟨b, rfl⟩ := ha
  rw [sub_append] at h
  cases hs : t.sub a with
  | none => rw [hs] at h; cases h
  | some sa => rw [hs] at h; exact ⟨sa, b, rfl, rfl, h⟩
theorem mem_of_sub {s x : T} {b : Bs} (h : s.sub b = some x) {p : Int} (hp : p ∈ x.mem) : p ∈ s.mem := by
  obtain ⟨k, hk, rfl⟩ := T.mem_iff.1 hp
  exact T.mem_iff.2 ⟨k, sub_labs b h k hk, rfl⟩
theorem spon_mono {t : T} (hg : t.Good) {q a b : Bs} {k : Nat} (hq : t.sub q = some (.leaf k)) (ha : a <+: q) (hb : b <+: a) (hs : spon t b = k) : spon t a = k := by
  obtain ⟨sa, c, h1, h2, h3⟩ := sub_prefix hq ha
  obtain ⟨sb, d, h4, h5, h6⟩ := sub_prefix h2 hb
  obtain ⟨_, h8⟩ := (spon_iff hg h5).1 hs
  exact (spon_iff hg h2).2 ⟨mem_of_sub h3 (by simp [mem_leaf]), fun y hy => h8 y (mem_of_sub h6 hy)⟩
def duF (t : T) (p : Int) (n : Bs) : Bool := decide (n ≠ [] ∧ spon t n = p)
theorem duL_eq {t : T} {p : Int} : duL t p = (pathL t p).filter (duF t p) := rfl

theorem duties_prefix {t : T} (h : t.Good) {p : Int} (hp : p ∈ t.mem) : duL t p = (pathL t p).take (duL t p).length := by
  obtain ⟨k, q, rfl, hk, hq, hpl⟩ := path_of h hp
  rw [duL_eq, hpl]
  refine filter_take ((upK_pair _ q rfl).imp_of_mem ?_)
  intro a b ha hb hab hf
  simp only [duF, decide_eq_true_eq] at hf ⊢
  have h1 := (mem_up q a).1 ha
  refine ⟨fun h0 => ?_, spon_mono h hq h1 hab.2 hf.2⟩
  have := hab.1; rw [h0] at this; simp at this
theorem duties_lt {t : T} (h : t.Good) {p : Int} (hp : p ∈ t.mem) : (duL t p).length < (pathL t p).length := by
  obtain ⟨k, q, rfl, hk, hq, hpl⟩ := path_of h hp
  rw [duL_eq, hpl, List.length_filter_lt_length_iff_exists]
  exact ⟨[], (mem_up q []).2 (List.nil_prefix), by simp [duF]⟩
theorem duties_pos {t : T} (h : t.Good) {p : Int} (hp : p ∈ t.mem) (h2 : 1 < t.mem.length) : 0 < (duL t p).length := by
  obtain ⟨k, q, rfl, hk, hq, hpl⟩ := path_of h hp
  have hqn : q ≠ [] := by
    rintro rfl
    rw [T.sub_nil] at hq; cases hq
    rw [mem_leaf] at h2; simp at h2
  rw [duL_eq, hpl, List.length_pos_iff_exists_mem]
  refine ⟨q, List.mem_filter.2 ⟨(mem_up q q).2 (List.prefix_refl _), ?_⟩⟩
  simp only [duF, decide_eq_true_eq]
  exact ⟨hqn, (spon_iff h hq).2 (by simp [mem_leaf])⟩

/-- How often a node stands among the duties of the members. -/
def times (t : T) (n : Bs) (l : List Int) : Nat := (l.map fun p => (duL t p).count n).sum
theorem count_du {t s : T} (h : t.Good) {n : Bs} (hn : t.sub n = some s) {p : Int} (hp : p ∈ t.mem) : (duL t p).count n = if n ≠ [] ∧ spon t n = p then 1 else 0 := by
  obtain ⟨k, q, rfl, hk, hq, hpl⟩ := path_of h hp
  rw [duL_eq, hpl]
  have hnd : (up q).Nodup := by
    rw [List.nodup_iff_pairwise_ne]
    refine (upK_pair _ q rfl).imp fun {a b} hab he => ?_
    rw [he] at hab; omega
  have hnd2 := hnd.filter (duF t k)
  by_cases hc : n ≠ [] ∧ spon t n = k
  · rw [if_pos hc]
    have hm : n ∈ (up q).filter (duF t k) := by
      refine List.mem_filter.2 ⟨(mem_up q n).2 ?_, by simp [duF, hc]⟩
      have := spon_mem h hn
      rw [hc.2] at this
      obtain ⟨k', hk', he⟩ := T.mem_iff.1 this
      obtain rfl : k = k' := by omega
      obtain ⟨m, hm⟩ := leaf_at hk'
      have : t.sub (n ++ m) = some (.leaf k) := by rw [sub_append, hn]; exact hm
      rw [leaf_unique h.nodup hq this]
      exact List.prefix_append _ _
    have c1 := List.nodup_iff_count.1 hnd2 n
    have c2 := List.count_pos_iff.2 hm
    omega
  · rw [if_neg hc, List.count_eq_zero]
    intro hm
    have := (List.mem_filter.1 hm).2
    simp only [duF, decide_eq_true_eq] at this
    exact hc this
theorem sum_zero : ∀ (l : List Int), (l.map fun _ => 0).sum = 0
  | [] => rfl
  | _ :: l => by simp only [List.map_cons, List.sum_cons, sum_zero l]
theorem sum_one : ∀ {l : List Int} {x : Int}, l.Nodup → x ∈ l → (l.map fun p => if x = p then 1 else 0).sum = 1
  | [], x, _, h => by simp at h
  | a :: l, x, hn, h => by
    rw [List.nodup_cons] at hn
    simp only [List.map_cons, List.sum_cons]
    by_cases hx : x = a
    · subst hx
      have : (l.map fun p => if x = p then 1 else 0) = l.map fun _ => 0 := by
        refine List.map_congr_left fun p hp => ?_
        rw [if_neg]; rintro rfl; exact hn.1 hp
      rw [this, sum_zero]; simp
    · rw [if_neg hx, sum_one hn.2 (by simpa [hx] using h)]
theorem times_eq {t s : T} (h : t.Good) {n : Bs} (hn : t.sub n = some s) : times t n t.mem = if n = [] then 0 else 1 := by
  unfold times
  by_cases h0 : n = []
  · rw [if_pos h0]
    have : (t.mem.map fun p => (duL t p).count n) = t.mem.map fun _ => 0 := by
      refine List.map_congr_left fun p hp => ?_
      rw [count_du h hn hp, if_neg (by simp [h0])]
    rw [this, sum_zero]
  · rw [if_neg h0]
    have : (t.mem.map fun p => (duL t p).count n) = t.mem.map fun p => if spon t n = p then 1 else 0 := by
      refine List.map_congr_left fun p hp => ?_
      rw [count_du h hn hp]; simp [h0]
    rw [this]
    have hm := T.mem_strict h.nodup
    refine sum_one ?_ (mem_of_sub hn (spon_mem h hn))
    rw [List.nodup_iff_pairwise_ne]; exact hm.imp fun h => Int.ne_of_lt h
theorem nodes_sub {t : T} {ys : List Bs} (hp : ys.Perm ((T.walk [] t).map (·.1))) {n : Bs} (hn : n ∈ ys) : ∃ s, t.sub n = some s := by
  obtain ⟨x, hx, rfl⟩ := List.mem_map.1 (hp.mem_iff.1 hn)
  obtain ⟨q, h1, h2⟩ := (mem_walk t [] x).1 hx
  simp only [List.nil_append] at h1
  exact ⟨x.2, by rw [h1]; exact h2⟩
end Go.Proofs.Tryd
open Go Go.Abs
set_option linter.unusedVariables false
set_option linter.unusedSimpArgs false
namespace Go.Proofs.Tryd
theorem ints_list {t : T} {r : AV} (hr : Ints t.mem r) : ∃ cap, r = .list (t.mem.map aI) t.mem.length cap := by
  obtain ⟨x, m, cap, hm, rfl⟩ := mem_shape hr
  exact ⟨cap, by rw [← hm, T.mem_len]⟩
theorem strs_list {l : List Bs} {r : AV} (hr : Strs l r) (h : l ≠ []) : ∃ cap, r = .list (l.map .str) l.length cap := by
  rcases hr with ⟨rfl, h0⟩ | ⟨n, cap, rfl, h0⟩
  · exact absurd (by simpa using h0) h
  · simp at h0; subst h0; exact ⟨cap, rfl⟩
theorem times_take {t : T} {n : Bs} {l : List Int} {j : Nat} {p : Int} (h : l[j]? = some p) : times t n (l.take (j + 1)) = times t n (l.take j) + (duL t p).count n := by
  unfold times
  rw [List.take_add_one, h]; simp

theorem times_le {t s : T} {n : Bs} {l : List Int} (h : t.Good) (hn : t.sub n = some s) (hl : ∀ p ∈ l, p ∈ t.mem) : times t n l ≤ l.length := by
  induction l with
  | nil => simp [times]
  | cons p l ih =>
    have h1 := ih fun x hx => hl x (List.mem_cons_of_mem _ hx)
    have h2 := count_du h hn (hl p (List.mem_cons_self))
    unfold times at h1 ⊢
    simp only [List.map_cons, List.sum_cons, List.length_cons]
    split at h2 <;> omega

theorem c_PlaceDuties {l : List Int} {v : AV} (hv : Arg l v) (hl : ∀ x ∈ l, I64 x) (hlen : l.length < 4611686018427387904) {σ : St} {Q : AV → St → Prop} (hq : Q (.bool true) σ) : CallsA prog F.gemotlaw14_PlaceDuties [v] σ Q := by
  refine calls_of_Y e_gemotlaw14_PlaceDuties rfl ?_; simp only [tm0_0, tm0_1, tm0_2, tm0_3, tm0_4, tm0_5, tm0_6, wk, wd, UInt8.reduceToNat, reduceIte, reduceCtorEq, Nat.reduceEqDiff, Nat.reduceAdd, Nat.reduceMul, Nat.reduceSub, Nat.reduceLeDiff, Int.reduceNeg, Int.reduceAdd, Int.reduceSub, Int.reduceMul, Int.reduceLT, Int.reduceLE, Int.reduceEq, Int.reduceToNat, Nat.reduceBEq, Nat.reduceLT, Y_unf cc_gemotlaw14_PlaceDuties_k0.eq_1, Y_unf cc_gemotlaw14_PlaceDuties_k1.eq_1, Y_unf cc_gemotlaw14_PlaceDuties_k2.eq_1, Y_unf cc_gemotlaw14_PlaceDuties_k3.eq_1, Y_unf cc_gemotlaw14_PlaceDuties_k4.eq_1, Y_unf cc_gemotlaw14_PlaceDuties_k5.eq_1, Y_unf cc_gemotlaw14_PlaceDuties_k6.eq_1, Y_unf cc_gemotlaw14_PlaceDuties_k7.eq_1, Y_unf cc_gemotlaw14_PlaceDuties_k8.eq_1, Y_unf cc_gemotlaw14_PlaceDuties_k9.eq_1, Y_unf cc_gemotlaw14_PlaceDuties_k10.eq_1, Y_unf cc_gemotlaw14_PlaceDuties_k11.eq_1, Y_unf cc_gemotlaw14_PlaceDuties_c12.eq_1, Y_unf cc_gemotlaw14_PlaceDuties_k13.eq_1, Y_unf cc_gemotlaw14_PlaceDuties_k14.eq_1, Y_unf cc_gemotlaw14_PlaceDuties_k15.eq_1, Y_unf cc_gemotlaw14_PlaceDuties_l16.eq_1, Y_unf cc_gemotlaw14_PlaceDuties_k17.eq_1, Y_unf cc_gemotlaw14_PlaceDuties_k18.eq_1, Y_unf cc_gemotlaw14_PlaceDuties_k19.eq_1, Y_unf cc_gemotlaw14_PlaceDuties_k20.eq_1, Y_unf cc_gemotlaw14_PlaceDuties_l21.eq_1, Y_unf cc_gemotlaw14_PlaceDuties_k22.eq_1, Y_unf cc_gemotlaw14_PlaceDuties_k23.eq_1, Y_unf cc_gemotlaw14_PlaceDuties_k24.eq_1, Y_unf cc_gemotlaw14_PlaceDuties_k25.eq_1, Y_unf cc_gemotlaw14_PlaceDuties_l26.eq_1, Y_unf cc_gemotlaw14_PlaceDuties_k27.eq_1, Y_unf cc_gemotlaw14_PlaceDuties_k28.eq_1, Y_unf cc_gemotlaw14_PlaceDuties_k29.eq_1, Y_unf cc_gemotlaw14_PlaceDuties_k30.eq_1, Y_unf cc_gemotlaw14_PlaceDuties_k31.eq_1, Y_unf cc_gemotlaw14_PlaceDuties_k32.eq_1, Y_unf cc_gemotlaw14_PlaceDuties_k33.eq_1, Y_unf cc_gemotlaw14_PlaceDuties_k34.eq_1, Y_unf cc_gemotlaw14_PlaceDuties.eq_1]
  refine c_shown ⟨trivial, ?_⟩
  simp only [wk, wd, UInt8.reduceToNat, reduceIte, reduceCtorEq, Nat.reduceEqDiff, Nat.reduceAdd, Nat.reduceMul, Nat.reduceSub, Nat.reduceLeDiff, Int.reduceNeg, Int.reduceAdd, Int.reduceSub, Int.reduceMul, Int.reduceLT, Int.reduceLE, Int.reduceEq, Int.reduceToNat, Nat.reduceBEq, Nat.reduceLT, Y_unf cc_gemotlaw14_PlaceDuties_k0.eq_1, Y_unf cc_gemotlaw14_PlaceDuties_k1.eq_1, Y_unf cc_gemotlaw14_PlaceDuties_k2.eq_1, Y_unf cc_gemotlaw14_PlaceDuties_k3.eq_1, Y_unf cc_gemotlaw14_PlaceDuties_k4.eq_1, Y_unf cc_gemotlaw14_PlaceDuties_k5.eq_1, Y_unf cc_gemotlaw14_PlaceDuties_k6.eq_1, Y_unf cc_gemotlaw14_PlaceDuties_k7.eq_1, Y_unf cc_gemotlaw14_PlaceDuties_k8.eq_1, Y_unf cc_gemotlaw14_PlaceDuties_k9.eq_1, Y_unf cc_gemotlaw14_PlaceDuties_k10.eq_1, Y_unf cc_gemotlaw14_PlaceDuties_k11.eq_1, Y_unf cc_gemotlaw14_PlaceDuties_c12.eq_1, Y_unf cc_gemotlaw14_PlaceDuties_k13.eq_1, Y_unf cc_gemotlaw14_PlaceDuties_k14.eq_1, Y_unf cc_gemotlaw14_PlaceDuties_k15.eq_1, Y_unf cc_gemotlaw14_PlaceDuties_l16.eq_1, Y_unf cc_gemotlaw14_PlaceDuties_k17.eq_1, Y_unf cc_gemotlaw14_PlaceDuties_k18.eq_1, Y_unf cc_gemotlaw14_PlaceDuties_k19.eq_1, Y_unf cc_gemotlaw14_PlaceDuties_k20.eq_1, Y_unf cc_gemotlaw14_PlaceDuties_l21.eq_1, Y_unf cc_gemotlaw14_PlaceDuties_k22.eq_1, Y_unf cc_gemotlaw14_PlaceDuties_k23.eq_1, Y_unf cc_gemotlaw14_PlaceDuties_k24.eq_1, Y_unf cc_gemotlaw14_PlaceDuties_k25.eq_1, Y_unf cc_gemotlaw14_PlaceDuties_l26.eq_1, Y_unf cc_gemotlaw14_PlaceDuties_k27.eq_1, Y_unf cc_gemotlaw14_PlaceDuties_k28.eq_1, Y_unf cc_gemotlaw14_PlaceDuties_k29.eq_1, Y_unf cc_gemotlaw14_PlaceDuties_k30.eq_1, Y_unf cc_gemotlaw14_PlaceDuties_k31.eq_1, Y_unf cc_gemotlaw14_PlaceDuties_k32.eq_1, Y_unf cc_gemotlaw14_PlaceDuties_k33.eq_1, Y_unf cc_gemotlaw14_PlaceDuties_k34.eq_1, Y_unf cc_gemotlaw14_PlaceDuties.eq_1]
  refine c_made hv hl hlen (fun t ht => ⟨trivial, ?_⟩)
  simp only [wk, wd, UInt8.reduceToNat, reduceIte, reduceCtorEq, Nat.reduceEqDiff, Nat.reduceAdd, Nat.reduceMul, Nat.reduceSub, Nat.reduceLeDiff, Int.reduceNeg, Int.reduceAdd, Int.reduceSub, Int.reduceMul, Int.reduceLT, Int.reduceLE, Int.reduceEq, Int.reduceToNat, Nat.reduceBEq, Nat.reduceLT, Y_unf cc_gemotlaw14_PlaceDuties_k0.eq_1, Y_unf cc_gemotlaw14_PlaceDuties_k1.eq_1, Y_unf cc_gemotlaw14_PlaceDuties_k2.eq_1, Y_unf cc_gemotlaw14_PlaceDuties_k3.eq_1, Y_unf cc_gemotlaw14_PlaceDuties_k4.eq_1, Y_unf cc_gemotlaw14_PlaceDuties_k5.eq_1, Y_unf cc_gemotlaw14_PlaceDuties_k6.eq_1, Y_unf cc_gemotlaw14_PlaceDuties_k7.eq_1, Y_unf cc_gemotlaw14_PlaceDuties_k8.eq_1, Y_unf cc_gemotlaw14_PlaceDuties_k9.eq_1, Y_unf cc_gemotlaw14_PlaceDuties_k10.eq_1, Y_unf cc_gemotlaw14_PlaceDuties_k11.eq_1, Y_unf cc_gemotlaw14_PlaceDuties_c12.eq_1, Y_unf cc_gemotlaw14_PlaceDuties_k13.eq_1, Y_unf cc_gemotlaw14_PlaceDuties_k14.eq_1, Y_unf cc_gemotlaw14_PlaceDuties_k15.eq_1, Y_unf cc_gemotlaw14_PlaceDuties_l16.eq_1, Y_unf cc_gemotlaw14_PlaceDuties_k17.eq_1, Y_unf cc_gemotlaw14_PlaceDuties_k18.eq_1, Y_unf cc_gemotlaw14_PlaceDuties_k19.eq_1, Y_unf cc_gemotlaw14_PlaceDuties_k20.eq_1, Y_unf cc_gemotlaw14_PlaceDuties_l21.eq_1, Y_unf cc_gemotlaw14_PlaceDuties_k22.eq_1, Y_unf cc_gemotlaw14_PlaceDuties_k23.eq_1, Y_unf cc_gemotlaw14_PlaceDuties_k24.eq_1, Y_unf cc_gemotlaw14_PlaceDuties_k25.eq_1, Y_unf cc_gemotlaw14_PlaceDuties_l26.eq_1, Y_unf cc_gemotlaw14_PlaceDuties_k27.eq_1, Y_unf cc_gemotlaw14_PlaceDuties_k28.eq_1, Y_unf cc_gemotlaw14_PlaceDuties_k29.eq_1, Y_unf cc_gemotlaw14_PlaceDuties_k30.eq_1, Y_unf cc_gemotlaw14_PlaceDuties_k31.eq_1, Y_unf cc_gemotlaw14_PlaceDuties_k32.eq_1, Y_unf cc_gemotlaw14_PlaceDuties_k33.eq_1, Y_unf cc_gemotlaw14_PlaceDuties_k34.eq_1, Y_unf cc_gemotlaw14_PlaceDuties.eq_1]
  refine c_Nodes ht (fun ys r5 hys hpw hr5 => ⟨trivial, ?_⟩)
  have hyl := hys.length_eq
  have hwc := walk_count t []
  have hlp := T.labs_pos t
  have hl8 := ht.len
  have hml := T.mem_len t
  simp only [List.length_map] at hyl
  obtain ⟨c5, rfl⟩ := strs_list hr5 (by intro h; rw [h] at hyl; simp at hyl; omega)
  simp only [wk, wd, UInt8.reduceToNat, reduceIte, reduceCtorEq, Nat.reduceEqDiff, Nat.reduceAdd, Nat.reduceMul, Nat.reduceSub, Nat.reduceLeDiff, Int.reduceNeg, Int.reduceAdd, Int.reduceSub, Int.reduceMul, Int.reduceLT, Int.reduceLE, Int.reduceEq, Int.reduceToNat, Nat.reduceBEq, Nat.reduceLT, Y_unf cc_gemotlaw14_PlaceDuties_k0.eq_1, Y_unf cc_gemotlaw14_PlaceDuties_k1.eq_1, Y_unf cc_gemotlaw14_PlaceDuties_k2.eq_1, Y_unf cc_gemotlaw14_PlaceDuties_k3.eq_1, Y_unf cc_gemotlaw14_PlaceDuties_k4.eq_1, Y_unf cc_gemotlaw14_PlaceDuties_k5.eq_1, Y_unf cc_gemotlaw14_PlaceDuties_k6.eq_1, Y_unf cc_gemotlaw14_PlaceDuties_k7.eq_1, Y_unf cc_gemotlaw14_PlaceDuties_k8.eq_1, Y_unf cc_gemotlaw14_PlaceDuties_k9.eq_1, Y_unf cc_gemotlaw14_PlaceDuties_k10.eq_1, Y_unf cc_gemotlaw14_PlaceDuties_k11.eq_1, Y_unf cc_gemotlaw14_PlaceDuties_c12.eq_1, Y_unf cc_gemotlaw14_PlaceDuties_k13.eq_1, Y_unf cc_gemotlaw14_PlaceDuties_k14.eq_1, Y_unf cc_gemotlaw14_PlaceDuties_k15.eq_1, Y_unf cc_gemotlaw14_PlaceDuties_l16.eq_1, Y_unf cc_gemotlaw14_PlaceDuties_k17.eq_1, Y_unf cc_gemotlaw14_PlaceDuties_k18.eq_1, Y_unf cc_gemotlaw14_PlaceDuties_k19.eq_1, Y_unf cc_gemotlaw14_PlaceDuties_k20.eq_1, Y_unf cc_gemotlaw14_PlaceDuties_l21.eq_1, Y_unf cc_gemotlaw14_PlaceDuties_k22.eq_1, Y_unf cc_gemotlaw14_PlaceDuties_k23.eq_1, Y_unf cc_gemotlaw14_PlaceDuties_k24.eq_1, Y_unf cc_gemotlaw14_PlaceDuties_k25.eq_1, Y_unf cc_gemotlaw14_PlaceDuties_l26.eq_1, Y_unf cc_gemotlaw14_PlaceDuties_k27.eq_1, Y_unf cc_gemotlaw14_PlaceDuties_k28.eq_1, Y_unf cc_gemotlaw14_PlaceDuties_k29.eq_1, Y_unf cc_gemotlaw14_PlaceDuties_k30.eq_1, Y_unf cc_gemotlaw14_PlaceDuties_k31.eq_1, Y_unf cc_gemotlaw14_PlaceDuties_k32.eq_1, Y_unf cc_gemotlaw14_PlaceDuties_k33.eq_1, Y_unf cc_gemotlaw14_PlaceDuties_k34.eq_1, Y_unf cc_gemotlaw14_PlaceDuties.eq_1]
  refine c_Members ht (fun r6 hr6 => ⟨trivial, ?_⟩)
  obtain ⟨c6, rfl⟩ := ints_list hr6
  simp only [wk, wd, UInt8.reduceToNat, reduceIte, reduceCtorEq, Nat.reduceEqDiff, Nat.reduceAdd, Nat.reduceMul, Nat.reduceSub, Nat.reduceLeDiff, Int.reduceNeg, Int.reduceAdd, Int.reduceSub, Int.reduceMul, Int.reduceLT, Int.reduceLE, Int.reduceEq, Int.reduceToNat, Nat.reduceBEq, Nat.reduceLT, Y_unf cc_gemotlaw14_PlaceDuties_k0.eq_1, Y_unf cc_gemotlaw14_PlaceDuties_k1.eq_1, Y_unf cc_gemotlaw14_PlaceDuties_k2.eq_1, Y_unf cc_gemotlaw14_PlaceDuties_k3.eq_1, Y_unf cc_gemotlaw14_PlaceDuties_k4.eq_1, Y_unf cc_gemotlaw14_PlaceDuties_k5.eq_1, Y_unf cc_gemotlaw14_PlaceDuties_k6.eq_1, Y_unf cc_gemotlaw14_PlaceDuties_k7.eq_1, Y_unf cc_gemotlaw14_PlaceDuties_k8.eq_1, Y_unf cc_gemotlaw14_PlaceDuties_k9.eq_1, Y_unf cc_gemotlaw14_PlaceDuties_k10.eq_1, Y_unf cc_gemotlaw14_PlaceDuties_k11.eq_1, Y_unf cc_gemotlaw14_PlaceDuties_c12.eq_1, Y_unf cc_gemotlaw14_PlaceDuties_k13.eq_1, Y_unf cc_gemotlaw14_PlaceDuties_k14.eq_1, Y_unf cc_gemotlaw14_PlaceDuties_k15.eq_1, Y_unf cc_gemotlaw14_PlaceDuties_l16.eq_1, Y_unf cc_gemotlaw14_PlaceDuties_k17.eq_1, Y_unf cc_gemotlaw14_PlaceDuties_k18.eq_1, Y_unf cc_gemotlaw14_PlaceDuties_k19.eq_1, Y_unf cc_gemotlaw14_PlaceDuties_k20.eq_1, Y_unf cc_gemotlaw14_PlaceDuties_l21.eq_1, Y_unf cc_gemotlaw14_PlaceDuties_k22.eq_1, Y_unf cc_gemotlaw14_PlaceDuties_k23.eq_1, Y_unf cc_gemotlaw14_PlaceDuties_k24.eq_1, Y_unf cc_gemotlaw14_PlaceDuties_k25.eq_1, Y_unf cc_gemotlaw14_PlaceDuties_l26.eq_1, Y_unf cc_gemotlaw14_PlaceDuties_k27.eq_1, Y_unf cc_gemotlaw14_PlaceDuties_k28.eq_1, Y_unf cc_gemotlaw14_PlaceDuties_k29.eq_1, Y_unf cc_gemotlaw14_PlaceDuties_k30.eq_1, Y_unf cc_gemotlaw14_PlaceDuties_k31.eq_1, Y_unf cc_gemotlaw14_PlaceDuties_k32.eq_1, Y_unf cc_gemotlaw14_PlaceDuties_k33.eq_1, Y_unf cc_gemotlaw14_PlaceDuties_k34.eq_1, Y_unf cc_gemotlaw14_PlaceDuties.eq_1]
  refine Lp_of (α := Nat × List Bs) (fun a tm σ' => σ' = σ ∧ ys.drop a.1 = a.2 ∧ a.1 ≤ ys.length ∧ tm 4 = .str t.text ∧ tm 5 = .list (ys.map .str) ys.length c5 ∧ tm 6 = .list (t.mem.map aI) t.mem.length c6 ∧ tm 7 = .int .i64 a.1 ∧ tm 103 = .tup [])
    (fun a => a.2.length) (a := (0, ys)) ⟨rfl, rfl, by simp, rfl, rfl, rfl, rfl, rfl⟩ ?_
  rintro J hJ ⟨i, rest⟩ tm σ' ⟨rfl, hd, hi, u4, u5, u6, u7, u103⟩
  simp only at hd hi u7
  cases rest with
  | nil =>
    have := drop_nil hd hi
    have hlt : ((i : Int) < ys.length) = False := eq_false (by omega)
    have w2 : IntKind.i64.wrap (2 * (t.mem.length : Int)) = ((2 * t.mem.length : Nat) : Int) := by rw [wrap_i64 (by omega) (by omega)]; omega
    have w3 : IntKind.i64.wrap (((2 * t.mem.length : Nat) : Int) - 1) = ((2 * t.mem.length - 1 : Nat) : Int) := by rw [wrap_i64 (by omega) (by omega)]; omega
    have hfin : ((ys.length : Int) = ((2 * t.mem.length - 1 : Nat) : Int)) = True := eq_true (by omega)
    simp only [wk, wd, UInt8.reduceToNat, reduceIte, reduceCtorEq, Nat.reduceEqDiff, Nat.reduceAdd, Nat.reduceMul, Nat.reduceSub, Nat.reduceLeDiff, Int.reduceNeg, Int.reduceAdd, Int.reduceSub, Int.reduceMul, Int.reduceLT, Int.reduceLE, Int.reduceEq, Int.reduceToNat, Nat.reduceBEq, Nat.reduceLT, Y_unf cc_gemotlaw14_PlaceDuties_k0.eq_1, Y_unf cc_gemotlaw14_PlaceDuties_k1.eq_1, Y_unf cc_gemotlaw14_PlaceDuties_k2.eq_1, Y_unf cc_gemotlaw14_PlaceDuties_k3.eq_1, Y_unf cc_gemotlaw14_PlaceDuties_k4.eq_1, Y_unf cc_gemotlaw14_PlaceDuties_k5.eq_1, Y_unf cc_gemotlaw14_PlaceDuties_k6.eq_1, Y_unf cc_gemotlaw14_PlaceDuties_k7.eq_1, Y_unf cc_gemotlaw14_PlaceDuties_k8.eq_1, Y_unf cc_gemotlaw14_PlaceDuties_k9.eq_1, Y_unf cc_gemotlaw14_PlaceDuties_k10.eq_1, Y_unf cc_gemotlaw14_PlaceDuties_k11.eq_1, Y_unf cc_gemotlaw14_PlaceDuties_c12.eq_1, Y_unf cc_gemotlaw14_PlaceDuties_k13.eq_1, Y_unf cc_gemotlaw14_PlaceDuties_k14.eq_1, Y_unf cc_gemotlaw14_PlaceDuties_k15.eq_1, Y_unf cc_gemotlaw14_PlaceDuties_l16.eq_1, Y_unf cc_gemotlaw14_PlaceDuties_k17.eq_1, Y_unf cc_gemotlaw14_PlaceDuties_k18.eq_1, Y_unf cc_gemotlaw14_PlaceDuties_k19.eq_1, Y_unf cc_gemotlaw14_PlaceDuties_k20.eq_1, Y_unf cc_gemotlaw14_PlaceDuties_l21.eq_1, Y_unf cc_gemotlaw14_PlaceDuties_k22.eq_1, Y_unf cc_gemotlaw14_PlaceDuties_k23.eq_1, Y_unf cc_gemotlaw14_PlaceDuties_k24.eq_1, Y_unf cc_gemotlaw14_PlaceDuties_k25.eq_1, Y_unf cc_gemotlaw14_PlaceDuties_l26.eq_1, Y_unf cc_gemotlaw14_PlaceDuties_k27.eq_1, Y_unf cc_gemotlaw14_PlaceDuties_k28.eq_1, Y_unf cc_gemotlaw14_PlaceDuties_k29.eq_1, Y_unf cc_gemotlaw14_PlaceDuties_k30.eq_1, Y_unf cc_gemotlaw14_PlaceDuties_k31.eq_1, Y_unf cc_gemotlaw14_PlaceDuties_k32.eq_1, Y_unf cc_gemotlaw14_PlaceDuties_k33.eq_1, Y_unf cc_gemotlaw14_PlaceDuties_k34.eq_1, Y_unf cc_gemotlaw14_PlaceDuties.eq_1, u4, u5, u6, u7, u103, hlt, w2, w3, hfin]
    exact hq
  | cons n rest =>
    obtain ⟨h1', h2, h4⟩ := drop_cons hd
    have hlt : ((i : Int) < ys.length) = True := eq_true (by omega)
    have hle : (i ≤ ys.length) = True := eq_true (by omega)
    have hdm : (ys.map AV.str).drop i = .str n :: rest.map .str := by rw [← List.map_drop, hd]; rfl
    have hw : IntKind.i64.wrap ((i : Int) + 1) = ((i + 1 : Nat) : Int) := by rw [wrap_i64 (by omega) (by omega)]; omega
    obtain ⟨s, hns⟩ := nodes_sub hys (List.mem_of_getElem? h2)
    have htimes := times_eq ht hns
    simp only [wk, wd, UInt8.reduceToNat, reduceIte, reduceCtorEq, Nat.reduceEqDiff, Nat.reduceAdd, Nat.reduceMul, Nat.reduceSub, Nat.reduceLeDiff, Int.reduceNeg, Int.reduceAdd, Int.reduceSub, Int.reduceMul, Int.reduceLT, Int.reduceLE, Int.reduceEq, Int.reduceToNat, Nat.reduceBEq, Nat.reduceLT, Y_unf cc_gemotlaw14_PlaceDuties_k0.eq_1, Y_unf cc_gemotlaw14_PlaceDuties_k1.eq_1, Y_unf cc_gemotlaw14_PlaceDuties_k2.eq_1, Y_unf cc_gemotlaw14_PlaceDuties_k3.eq_1, Y_unf cc_gemotlaw14_PlaceDuties_k4.eq_1, Y_unf cc_gemotlaw14_PlaceDuties_k5.eq_1, Y_unf cc_gemotlaw14_PlaceDuties_k6.eq_1, Y_unf cc_gemotlaw14_PlaceDuties_k7.eq_1, Y_unf cc_gemotlaw14_PlaceDuties_k8.eq_1, Y_unf cc_gemotlaw14_PlaceDuties_k9.eq_1, Y_unf cc_gemotlaw14_PlaceDuties_k10.eq_1, Y_unf cc_gemotlaw14_PlaceDuties_k11.eq_1, Y_unf cc_gemotlaw14_PlaceDuties_c12.eq_1, Y_unf cc_gemotlaw14_PlaceDuties_k13.eq_1, Y_unf cc_gemotlaw14_PlaceDuties_k14.eq_1, Y_unf cc_gemotlaw14_PlaceDuties_k15.eq_1, Y_unf cc_gemotlaw14_PlaceDuties_l16.eq_1, Y_unf cc_gemotlaw14_PlaceDuties_k17.eq_1, Y_unf cc_gemotlaw14_PlaceDuties_k18.eq_1, Y_unf cc_gemotlaw14_PlaceDuties_k19.eq_1, Y_unf cc_gemotlaw14_PlaceDuties_k20.eq_1, Y_unf cc_gemotlaw14_PlaceDuties_l21.eq_1, Y_unf cc_gemotlaw14_PlaceDuties_k22.eq_1, Y_unf cc_gemotlaw14_PlaceDuties_k23.eq_1, Y_unf cc_gemotlaw14_PlaceDuties_k24.eq_1, Y_unf cc_gemotlaw14_PlaceDuties_k25.eq_1, Y_unf cc_gemotlaw14_PlaceDuties_l26.eq_1, Y_unf cc_gemotlaw14_PlaceDuties_k27.eq_1, Y_unf cc_gemotlaw14_PlaceDuties_k28.eq_1, Y_unf cc_gemotlaw14_PlaceDuties_k29.eq_1, Y_unf cc_gemotlaw14_PlaceDuties_k30.eq_1, Y_unf cc_gemotlaw14_PlaceDuties_k31.eq_1, Y_unf cc_gemotlaw14_PlaceDuties_k32.eq_1, Y_unf cc_gemotlaw14_PlaceDuties_k33.eq_1, Y_unf cc_gemotlaw14_PlaceDuties_k34.eq_1, Y_unf cc_gemotlaw14_PlaceDuties.eq_1, u4, u5, u6, u7, u103, hlt]
    refine Lp_of (α := Nat × List Int) (fun a tm σ'' => σ'' = σ' ∧ t.mem.drop a.1 = a.2 ∧ a.1 ≤ t.mem.length ∧ tm 4 = .str t.text ∧ tm 5 = .list (ys.map .str) ys.length c5 ∧ tm 6 = .list (t.mem.map aI) t.mem.length c6 ∧ tm 7 = .int .i64 i ∧ tm 103 = .tup [] ∧
        tm 8 = .int .i64 (times t n (t.mem.take a.1)) ∧ tm 9 = .int .i64 a.1)
      (fun a => a.2.length) (a := (0, t.mem)) ⟨rfl, rfl, by simp, u4, u5, u6, u7, u103, rfl, rfl⟩ ?_
    rintro J2 hJ2 ⟨j, rest2⟩ tm2 σ'' ⟨rfl, hd2, hi2, v4, v5, v6, v7, v103, v8, v9⟩
    simp only at hd2 hi2 v8 v9
    cases rest2 with
    | nil =>
      have := drop_nil hd2 hi2
      have hlt2 : ((j : Int) < t.mem.length) = False := eq_false (by omega)
      rw [List.take_of_length_le (by omega), htimes] at v8
      by_cases hn0 : n = []
      · rw [if_pos hn0] at v8
        simp only [wk, wd, UInt8.reduceToNat, reduceIte, reduceCtorEq, Nat.reduceEqDiff, Nat.reduceAdd, Nat.reduceMul, Nat.reduceSub, Nat.reduceLeDiff, Int.reduceNeg, Int.reduceAdd, Int.reduceSub, Int.reduceMul, Int.reduceLT, Int.reduceLE, Int.reduceEq, Int.reduceToNat, Nat.reduceBEq, Nat.reduceLT, Y_unf cc_gemotlaw14_PlaceDuties_k0.eq_1, Y_unf cc_gemotlaw14_PlaceDuties_k1.eq_1, Y_unf cc_gemotlaw14_PlaceDuties_k2.eq_1, Y_unf cc_gemotlaw14_PlaceDuties_k3.eq_1, Y_unf cc_gemotlaw14_PlaceDuties_k4.eq_1, Y_unf cc_gemotlaw14_PlaceDuties_k5.eq_1, Y_unf cc_gemotlaw14_PlaceDuties_k6.eq_1, Y_unf cc_gemotlaw14_PlaceDuties_k7.eq_1, Y_unf cc_gemotlaw14_PlaceDuties_k8.eq_1, Y_unf cc_gemotlaw14_PlaceDuties_k9.eq_1, Y_unf cc_gemotlaw14_PlaceDuties_k10.eq_1, Y_unf cc_gemotlaw14_PlaceDuties_k11.eq_1, Y_unf cc_gemotlaw14_PlaceDuties_c12.eq_1, Y_unf cc_gemotlaw14_PlaceDuties_k13.eq_1, Y_unf cc_gemotlaw14_PlaceDuties_k14.eq_1, Y_unf cc_gemotlaw14_PlaceDuties_k15.eq_1, Y_unf cc_gemotlaw14_PlaceDuties_l16.eq_1, Y_unf cc_gemotlaw14_PlaceDuties_k17.eq_1, Y_unf cc_gemotlaw14_PlaceDuties_k18.eq_1, Y_unf cc_gemotlaw14_PlaceDuties_k19.eq_1, Y_unf cc_gemotlaw14_PlaceDuties_k20.eq_1, Y_unf cc_gemotlaw14_PlaceDuties_l21.eq_1, Y_unf cc_gemotlaw14_PlaceDuties_k22.eq_1, Y_unf cc_gemotlaw14_PlaceDuties_k23.eq_1, Y_unf cc_gemotlaw14_PlaceDuties_k24.eq_1, Y_unf cc_gemotlaw14_PlaceDuties_k25.eq_1, Y_unf cc_gemotlaw14_PlaceDuties_l26.eq_1, Y_unf cc_gemotlaw14_PlaceDuties_k27.eq_1, Y_unf cc_gemotlaw14_PlaceDuties_k28.eq_1, Y_unf cc_gemotlaw14_PlaceDuties_k29.eq_1, Y_unf cc_gemotlaw14_PlaceDuties_k30.eq_1, Y_unf cc_gemotlaw14_PlaceDuties_k31.eq_1, Y_unf cc_gemotlaw14_PlaceDuties_k32.eq_1, Y_unf cc_gemotlaw14_PlaceDuties_k33.eq_1, Y_unf cc_gemotlaw14_PlaceDuties_k34.eq_1, Y_unf cc_gemotlaw14_PlaceDuties.eq_1, v4, v5, v6, v7, v103, v8, v9, hlt2, hlt, hle, hdm, List.length_map, hn0, hw]
        exact ⟨(i + 1, rest), hJ _ _ _ ⟨rfl, h4, h1', v4, v5, v6, rfl, v103⟩, Nat.lt_succ_self _⟩
      · rw [if_neg hn0] at v8
        simp only [wk, wd, UInt8.reduceToNat, reduceIte, reduceCtorEq, Nat.reduceEqDiff, Nat.reduceAdd, Nat.reduceMul, Nat.reduceSub, Nat.reduceLeDiff, Int.reduceNeg, Int.reduceAdd, Int.reduceSub, Int.reduceMul, Int.reduceLT, Int.reduceLE, Int.reduceEq, Int.reduceToNat, Nat.reduceBEq, Nat.reduceLT, Y_unf cc_gemotlaw14_PlaceDuties_k0.eq_1, Y_unf cc_gemotlaw14_PlaceDuties_k1.eq_1, Y_unf cc_gemotlaw14_PlaceDuties_k2.eq_1, Y_unf cc_gemotlaw14_PlaceDuties_k3.eq_1, Y_unf cc_gemotlaw14_PlaceDuties_k4.eq_1, Y_unf cc_gemotlaw14_PlaceDuties_k5.eq_1, Y_unf cc_gemotlaw14_PlaceDuties_k6.eq_1, Y_unf cc_gemotlaw14_PlaceDuties_k7.eq_1, Y_unf cc_gemotlaw14_PlaceDuties_k8.eq_1, Y_unf cc_gemotlaw14_PlaceDuties_k9.eq_1, Y_unf cc_gemotlaw14_PlaceDuties_k10.eq_1, Y_unf cc_gemotlaw14_PlaceDuties_k11.eq_1, Y_unf cc_gemotlaw14_PlaceDuties_c12.eq_1, Y_unf cc_gemotlaw14_PlaceDuties_k13.eq_1, Y_unf cc_gemotlaw14_PlaceDuties_k14.eq_1, Y_unf cc_gemotlaw14_PlaceDuties_k15.eq_1, Y_unf cc_gemotlaw14_PlaceDuties_l16.eq_1, Y_unf cc_gemotlaw14_PlaceDuties_k17.eq_1, Y_unf cc_gemotlaw14_PlaceDuties_k18.eq_1, Y_unf cc_gemotlaw14_PlaceDuties_k19.eq_1, Y_unf cc_gemotlaw14_PlaceDuties_k20.eq_1, Y_unf cc_gemotlaw14_PlaceDuties_l21.eq_1, Y_unf cc_gemotlaw14_PlaceDuties_k22.eq_1, Y_unf cc_gemotlaw14_PlaceDuties_k23.eq_1, Y_unf cc_gemotlaw14_PlaceDuties_k24.eq_1, Y_unf cc_gemotlaw14_PlaceDuties_k25.eq_1, Y_unf cc_gemotlaw14_PlaceDuties_l26.eq_1, Y_unf cc_gemotlaw14_PlaceDuties_k27.eq_1, Y_unf cc_gemotlaw14_PlaceDuties_k28.eq_1, Y_unf cc_gemotlaw14_PlaceDuties_k29.eq_1, Y_unf cc_gemotlaw14_PlaceDuties_k30.eq_1, Y_unf cc_gemotlaw14_PlaceDuties_k31.eq_1, Y_unf cc_gemotlaw14_PlaceDuties_k32.eq_1, Y_unf cc_gemotlaw14_PlaceDuties_k33.eq_1, Y_unf cc_gemotlaw14_PlaceDuties_k34.eq_1, Y_unf cc_gemotlaw14_PlaceDuties.eq_1, v4, v5, v6, v7, v103, v8, v9, hlt2, hlt, hle, hdm, List.length_map, hn0, hw]
        exact ⟨(i + 1, rest), hJ _ _ _ ⟨rfl, h4, h1', v4, v5, v6, rfl, v103⟩, Nat.lt_succ_self _⟩
    | cons p rest2 =>
      obtain ⟨g1, g2, g4⟩ := drop_cons hd2
      have hlt2 : ((j : Int) < t.mem.length) = True := eq_true (by omega)
      have hle2 : (j ≤ t.mem.length) = True := eq_true (by omega)
      have hdm2 : (t.mem.map aI).drop j = .int .i64 p :: rest2.map aI := by rw [← List.map_drop, hd2]; rfl
      have hw2 : IntKind.i64.wrap ((j : Int) + 1) = ((j + 1 : Nat) : Int) := by rw [wrap_i64 (by omega) (by omega)]; omega
      have hpm : p ∈ t.mem := List.mem_of_getElem? g2
      obtain ⟨hpl, hpb⟩ := pathL_len ht p
      have hdlt := duties_lt ht hpm
      have hdp := duties_pos ht hpm
      have hdt := duties_prefix ht hpm
      have htt := times_take (t := t) (n := n) g2
      simp only [wk, wd, UInt8.reduceToNat, reduceIte, reduceCtorEq, Nat.reduceEqDiff, Nat.reduceAdd, Nat.reduceMul, Nat.reduceSub, Nat.reduceLeDiff, Int.reduceNeg, Int.reduceAdd, Int.reduceSub, Int.reduceMul, Int.reduceLT, Int.reduceLE, Int.reduceEq, Int.reduceToNat, Nat.reduceBEq, Nat.reduceLT, Y_unf cc_gemotlaw14_PlaceDuties_k0.eq_1, Y_unf cc_gemotlaw14_PlaceDuties_k1.eq_1, Y_unf cc_gemotlaw14_PlaceDuties_k2.eq_1, Y_unf cc_gemotlaw14_PlaceDuties_k3.eq_1, Y_unf cc_gemotlaw14_PlaceDuties_k4.eq_1, Y_unf cc_gemotlaw14_PlaceDuties_k5.eq_1, Y_unf cc_gemotlaw14_PlaceDuties_k6.eq_1, Y_unf cc_gemotlaw14_PlaceDuties_k7.eq_1, Y_unf cc_gemotlaw14_PlaceDuties_k8.eq_1, Y_unf cc_gemotlaw14_PlaceDuties_k9.eq_1, Y_unf cc_gemotlaw14_PlaceDuties_k10.eq_1, Y_unf cc_gemotlaw14_PlaceDuties_k11.eq_1, Y_unf cc_gemotlaw14_PlaceDuties_c12.eq_1, Y_unf cc_gemotlaw14_PlaceDuties_k13.eq_1, Y_unf cc_gemotlaw14_PlaceDuties_k14.eq_1, Y_unf cc_gemotlaw14_PlaceDuties_k15.eq_1, Y_unf cc_gemotlaw14_PlaceDuties_l16.eq_1, Y_unf cc_gemotlaw14_PlaceDuties_k17.eq_1, Y_unf cc_gemotlaw14_PlaceDuties_k18.eq_1, Y_unf cc_gemotlaw14_PlaceDuties_k19.eq_1, Y_unf cc_gemotlaw14_PlaceDuties_k20.eq_1, Y_unf cc_gemotlaw14_PlaceDuties_l21.eq_1, Y_unf cc_gemotlaw14_PlaceDuties_k22.eq_1, Y_unf cc_gemotlaw14_PlaceDuties_k23.eq_1, Y_unf cc_gemotlaw14_PlaceDuties_k24.eq_1, Y_unf cc_gemotlaw14_PlaceDuties_k25.eq_1, Y_unf cc_gemotlaw14_PlaceDuties_l26.eq_1, Y_unf cc_gemotlaw14_PlaceDuties_k27.eq_1, Y_unf cc_gemotlaw14_PlaceDuties_k28.eq_1, Y_unf cc_gemotlaw14_PlaceDuties_k29.eq_1, Y_unf cc_gemotlaw14_PlaceDuties_k30.eq_1, Y_unf cc_gemotlaw14_PlaceDuties_k31.eq_1, Y_unf cc_gemotlaw14_PlaceDuties_k32.eq_1, Y_unf cc_gemotlaw14_PlaceDuties_k33.eq_1, Y_unf cc_gemotlaw14_PlaceDuties_k34.eq_1, Y_unf cc_gemotlaw14_PlaceDuties.eq_1, v4, v5, v6, v7, v103, v8, v9, hlt2, hle2, hdm2, List.length_map]
      refine c_Duties ht p (fun r hr => ⟨trivial, ?_⟩)
      simp only [wk, wd, UInt8.reduceToNat, reduceIte, reduceCtorEq, Nat.reduceEqDiff, Nat.reduceAdd, Nat.reduceMul, Nat.reduceSub, Nat.reduceLeDiff, Int.reduceNeg, Int.reduceAdd, Int.reduceSub, Int.reduceMul, Int.reduceLT, Int.reduceLE, Int.reduceEq, Int.reduceToNat, Nat.reduceBEq, Nat.reduceLT, Y_unf cc_gemotlaw14_PlaceDuties_k0.eq_1, Y_unf cc_gemotlaw14_PlaceDuties_k1.eq_1, Y_unf cc_gemotlaw14_PlaceDuties_k2.eq_1, Y_unf cc_gemotlaw14_PlaceDuties_k3.eq_1, Y_unf cc_gemotlaw14_PlaceDuties_k4.eq_1, Y_unf cc_gemotlaw14_PlaceDuties_k5.eq_1, Y_unf cc_gemotlaw14_PlaceDuties_k6.eq_1, Y_unf cc_gemotlaw14_PlaceDuties_k7.eq_1, Y_unf cc_gemotlaw14_PlaceDuties_k8.eq_1, Y_unf cc_gemotlaw14_PlaceDuties_k9.eq_1, Y_unf cc_gemotlaw14_PlaceDuties_k10.eq_1, Y_unf cc_gemotlaw14_PlaceDuties_k11.eq_1, Y_unf cc_gemotlaw14_PlaceDuties_c12.eq_1, Y_unf cc_gemotlaw14_PlaceDuties_k13.eq_1, Y_unf cc_gemotlaw14_PlaceDuties_k14.eq_1, Y_unf cc_gemotlaw14_PlaceDuties_k15.eq_1, Y_unf cc_gemotlaw14_PlaceDuties_l16.eq_1, Y_unf cc_gemotlaw14_PlaceDuties_k17.eq_1, Y_unf cc_gemotlaw14_PlaceDuties_k18.eq_1, Y_unf cc_gemotlaw14_PlaceDuties_k19.eq_1, Y_unf cc_gemotlaw14_PlaceDuties_k20.eq_1, Y_unf cc_gemotlaw14_PlaceDuties_l21.eq_1, Y_unf cc_gemotlaw14_PlaceDuties_k22.eq_1, Y_unf cc_gemotlaw14_PlaceDuties_k23.eq_1, Y_unf cc_gemotlaw14_PlaceDuties_k24.eq_1, Y_unf cc_gemotlaw14_PlaceDuties_k25.eq_1, Y_unf cc_gemotlaw14_PlaceDuties_l26.eq_1, Y_unf cc_gemotlaw14_PlaceDuties_k27.eq_1, Y_unf cc_gemotlaw14_PlaceDuties_k28.eq_1, Y_unf cc_gemotlaw14_PlaceDuties_k29.eq_1, Y_unf cc_gemotlaw14_PlaceDuties_k30.eq_1, Y_unf cc_gemotlaw14_PlaceDuties_k31.eq_1, Y_unf cc_gemotlaw14_PlaceDuties_k32.eq_1, Y_unf cc_gemotlaw14_PlaceDuties_k33.eq_1, Y_unf cc_gemotlaw14_PlaceDuties_k34.eq_1, Y_unf cc_gemotlaw14_PlaceDuties.eq_1, v4, v5, v6, v7, v103, v8, v9, hlt2, hle2, hdm2, List.length_map]
      have hlv : evLenL r = some (.int .i64 ((duL t p).length : Nat)) := by
        rcases hr with ⟨rfl, hh⟩ | ⟨n, cap, rfl, hh⟩
        · have : duL t p = [] := by simpa using hh
          rw [this]; rfl
        · simp only [List.length_map, Nat.mul_one] at hh
          rw [hh]; rfl
      refine Lp_of (α := Nat × List Bs) (fun a tm σ2 => σ2 = σ'' ∧ (duL t p).drop a.1 = a.2 ∧ a.1 ≤ (duL t p).length ∧ tm 4 = .str t.text ∧ tm 5 = .list (ys.map .str) ys.length c5 ∧ tm 6 = .list (t.mem.map aI) t.mem.length c6 ∧ tm 7 = .int .i64 i ∧ tm 103 = .tup [] ∧
          tm 9 = .int .i64 j ∧ tm 10 = r ∧ tm 11 = .int .i64 a.1 ∧ tm 8 = .int .i64 (times t n (t.mem.take j) + ((duL t p).take a.1).count n : Nat))
        (fun a => a.2.length) (a := (0, duL t p)) ⟨rfl, rfl, by simp, v4, v5, v6, v7, v103, v9, rfl, rfl, by simp only [upd_at, List.take_zero, List.count_nil, Nat.add_zero]; exact v8⟩ ?_
      rintro J3 hJ3 ⟨k, rest3⟩ tm3 σ2 ⟨rfl, hd3, hi3, w4, w5, w6, w7, w103, w9, w10, w11, w8⟩
      simp only at hd3 hi3 w8 w11
      cases rest3 with
      | nil =>
        have := drop_nil hd3 hi3
        have hlt3 : ((k : Int) < (duL t p).length) = False := eq_false (by omega)
        have e3 : (duL t p).take k = duL t p := List.take_of_length_le (by omega)
        rw [e3, ← htt] at w8
        simp only [wk, wd, UInt8.reduceToNat, reduceIte, reduceCtorEq, Nat.reduceEqDiff, Nat.reduceAdd, Nat.reduceMul, Nat.reduceSub, Nat.reduceLeDiff, Int.reduceNeg, Int.reduceAdd, Int.reduceSub, Int.reduceMul, Int.reduceLT, Int.reduceLE, Int.reduceEq, Int.reduceToNat, Nat.reduceBEq, Nat.reduceLT, Y_unf cc_gemotlaw14_PlaceDuties_k0.eq_1, Y_unf cc_gemotlaw14_PlaceDuties_k1.eq_1, Y_unf cc_gemotlaw14_PlaceDuties_k2.eq_1, Y_unf cc_gemotlaw14_PlaceDuties_k3.eq_1, Y_unf cc_gemotlaw14_PlaceDuties_k4.eq_1, Y_unf cc_gemotlaw14_PlaceDuties_k5.eq_1, Y_unf cc_gemotlaw14_PlaceDuties_k6.eq_1, Y_unf cc_gemotlaw14_PlaceDuties_k7.eq_1, Y_unf cc_gemotlaw14_PlaceDuties_k8.eq_1, Y_unf cc_gemotlaw14_PlaceDuties_k9.eq_1, Y_unf cc_gemotlaw14_PlaceDuties_k10.eq_1, Y_unf cc_gemotlaw14_PlaceDuties_k11.eq_1, Y_unf cc_gemotlaw14_PlaceDuties_c12.eq_1, Y_unf cc_gemotlaw14_PlaceDuties_k13.eq_1, Y_unf cc_gemotlaw14_PlaceDuties_k14.eq_1, Y_unf cc_gemotlaw14_PlaceDuties_k15.eq_1, Y_unf cc_gemotlaw14_PlaceDuties_l16.eq_1, Y_unf cc_gemotlaw14_PlaceDuties_k17.eq_1, Y_unf cc_gemotlaw14_PlaceDuties_k18.eq_1, Y_unf cc_gemotlaw14_PlaceDuties_k19.eq_1, Y_unf cc_gemotlaw14_PlaceDuties_k20.eq_1, Y_unf cc_gemotlaw14_PlaceDuties_l21.eq_1, Y_unf cc_gemotlaw14_PlaceDuties_k22.eq_1, Y_unf cc_gemotlaw14_PlaceDuties_k23.eq_1, Y_unf cc_gemotlaw14_PlaceDuties_k24.eq_1, Y_unf cc_gemotlaw14_PlaceDuties_k25.eq_1, Y_unf cc_gemotlaw14_PlaceDuties_l26.eq_1, Y_unf cc_gemotlaw14_PlaceDuties_k27.eq_1, Y_unf cc_gemotlaw14_PlaceDuties_k28.eq_1, Y_unf cc_gemotlaw14_PlaceDuties_k29.eq_1, Y_unf cc_gemotlaw14_PlaceDuties_k30.eq_1, Y_unf cc_gemotlaw14_PlaceDuties_k31.eq_1, Y_unf cc_gemotlaw14_PlaceDuties_k32.eq_1, Y_unf cc_gemotlaw14_PlaceDuties_k33.eq_1, Y_unf cc_gemotlaw14_PlaceDuties_k34.eq_1, Y_unf cc_gemotlaw14_PlaceDuties.eq_1, w4, w5, w6, w7, w103, w8, w9, w10, w11, hlv, hlt3, hlt2, hle2, hdm2, List.length_map]
        refine c_Path ht p (fun r' hr' => ⟨trivial, ?_⟩)
        obtain ⟨c', rfl⟩ := strs_list hr' (by intro h; rw [h] at hdlt; simp at hdlt)
        have hge : (((pathL t p).length : Int) ≤ ((duL t p).length : Int)) = False := eq_false (by omega)
        have sl1 : evSubL 1 ((pathL t p).map .str) (pathL t p).length (some 0) (some ((duL t p).length : Int)) = some (.list ((duL t p).map .str) (duL t p).length none) := by
          simp only [evSubL]
          rw [if_pos ⟨by omega, by omega, by omega, by simp⟩]
          have e4 : ((pathL t p).map AV.str).take (duL t p).length = (duL t p).map AV.str := by rw [← List.map_take, ← hdt]
          simp only [Int.toNat_natCast, Nat.mul_one, Int.toNat_zero, Nat.zero_mul, List.drop_zero, e4, Int.sub_zero]
        simp only [wk, wd, UInt8.reduceToNat, reduceIte, reduceCtorEq, Nat.reduceEqDiff, Nat.reduceAdd, Nat.reduceMul, Nat.reduceSub, Nat.reduceLeDiff, Int.reduceNeg, Int.reduceAdd, Int.reduceSub, Int.reduceMul, Int.reduceLT, Int.reduceLE, Int.reduceEq, Int.reduceToNat, Nat.reduceBEq, Nat.reduceLT, Y_unf cc_gemotlaw14_PlaceDuties_k0.eq_1, Y_unf cc_gemotlaw14_PlaceDuties_k1.eq_1, Y_unf cc_gemotlaw14_PlaceDuties_k2.eq_1, Y_unf cc_gemotlaw14_PlaceDuties_k3.eq_1, Y_unf cc_gemotlaw14_PlaceDuties_k4.eq_1, Y_unf cc_gemotlaw14_PlaceDuties_k5.eq_1, Y_unf cc_gemotlaw14_PlaceDuties_k6.eq_1, Y_unf cc_gemotlaw14_PlaceDuties_k7.eq_1, Y_unf cc_gemotlaw14_PlaceDuties_k8.eq_1, Y_unf cc_gemotlaw14_PlaceDuties_k9.eq_1, Y_unf cc_gemotlaw14_PlaceDuties_k10.eq_1, Y_unf cc_gemotlaw14_PlaceDuties_k11.eq_1, Y_unf cc_gemotlaw14_PlaceDuties_c12.eq_1, Y_unf cc_gemotlaw14_PlaceDuties_k13.eq_1, Y_unf cc_gemotlaw14_PlaceDuties_k14.eq_1, Y_unf cc_gemotlaw14_PlaceDuties_k15.eq_1, Y_unf cc_gemotlaw14_PlaceDuties_l16.eq_1, Y_unf cc_gemotlaw14_PlaceDuties_k17.eq_1, Y_unf cc_gemotlaw14_PlaceDuties_k18.eq_1, Y_unf cc_gemotlaw14_PlaceDuties_k19.eq_1, Y_unf cc_gemotlaw14_PlaceDuties_k20.eq_1, Y_unf cc_gemotlaw14_PlaceDuties_l21.eq_1, Y_unf cc_gemotlaw14_PlaceDuties_k22.eq_1, Y_unf cc_gemotlaw14_PlaceDuties_k23.eq_1, Y_unf cc_gemotlaw14_PlaceDuties_k24.eq_1, Y_unf cc_gemotlaw14_PlaceDuties_k25.eq_1, Y_unf cc_gemotlaw14_PlaceDuties_l26.eq_1, Y_unf cc_gemotlaw14_PlaceDuties_k27.eq_1, Y_unf cc_gemotlaw14_PlaceDuties_k28.eq_1, Y_unf cc_gemotlaw14_PlaceDuties_k29.eq_1, Y_unf cc_gemotlaw14_PlaceDuties_k30.eq_1, Y_unf cc_gemotlaw14_PlaceDuties_k31.eq_1, Y_unf cc_gemotlaw14_PlaceDuties_k32.eq_1, Y_unf cc_gemotlaw14_PlaceDuties_k33.eq_1, Y_unf cc_gemotlaw14_PlaceDuties_k34.eq_1, Y_unf cc_gemotlaw14_PlaceDuties.eq_1, w4, w5, w6, w7, w103, w8, w9, w10, w11, hlv, hge, sl1]
        refine Cl_pure0 (c_same hr (strs_lit (duL t p) none) (by omega)) ?_; simp only [wk, wd, UInt8.reduceToNat, reduceIte, reduceCtorEq, Nat.reduceEqDiff, Nat.reduceAdd, Nat.reduceMul, Nat.reduceSub, Nat.reduceLeDiff, Int.reduceNeg, Int.reduceAdd, Int.reduceSub, Int.reduceMul, Int.reduceLT, Int.reduceLE, Int.reduceEq, Int.reduceToNat, Nat.reduceBEq, Nat.reduceLT, Y_unf cc_gemotlaw14_PlaceDuties_k0.eq_1, Y_unf cc_gemotlaw14_PlaceDuties_k1.eq_1, Y_unf cc_gemotlaw14_PlaceDuties_k2.eq_1, Y_unf cc_gemotlaw14_PlaceDuties_k3.eq_1, Y_unf cc_gemotlaw14_PlaceDuties_k4.eq_1, Y_unf cc_gemotlaw14_PlaceDuties_k5.eq_1, Y_unf cc_gemotlaw14_PlaceDuties_k6.eq_1, Y_unf cc_gemotlaw14_PlaceDuties_k7.eq_1, Y_unf cc_gemotlaw14_PlaceDuties_k8.eq_1, Y_unf cc_gemotlaw14_PlaceDuties_k9.eq_1, Y_unf cc_gemotlaw14_PlaceDuties_k10.eq_1, Y_unf cc_gemotlaw14_PlaceDuties_k11.eq_1, Y_unf cc_gemotlaw14_PlaceDuties_c12.eq_1, Y_unf cc_gemotlaw14_PlaceDuties_k13.eq_1, Y_unf cc_gemotlaw14_PlaceDuties_k14.eq_1, Y_unf cc_gemotlaw14_PlaceDuties_k15.eq_1, Y_unf cc_gemotlaw14_PlaceDuties_l16.eq_1, Y_unf cc_gemotlaw14_PlaceDuties_k17.eq_1, Y_unf cc_gemotlaw14_PlaceDuties_k18.eq_1, Y_unf cc_gemotlaw14_PlaceDuties_k19.eq_1, Y_unf cc_gemotlaw14_PlaceDuties_k20.eq_1, Y_unf cc_gemotlaw14_PlaceDuties_l21.eq_1, Y_unf cc_gemotlaw14_PlaceDuties_k22.eq_1, Y_unf cc_gemotlaw14_PlaceDuties_k23.eq_1, Y_unf cc_gemotlaw14_PlaceDuties_k24.eq_1, Y_unf cc_gemotlaw14_PlaceDuties_k25.eq_1, Y_unf cc_gemotlaw14_PlaceDuties_l26.eq_1, Y_unf cc_gemotlaw14_PlaceDuties_k27.eq_1, Y_unf cc_gemotlaw14_PlaceDuties_k28.eq_1, Y_unf cc_gemotlaw14_PlaceDuties_k29.eq_1, Y_unf cc_gemotlaw14_PlaceDuties_k30.eq_1, Y_unf cc_gemotlaw14_PlaceDuties_k31.eq_1, Y_unf cc_gemotlaw14_PlaceDuties_k32.eq_1, Y_unf cc_gemotlaw14_PlaceDuties_k33.eq_1, Y_unf cc_gemotlaw14_PlaceDuties_k34.eq_1, Y_unf cc_gemotlaw14_PlaceDuties.eq_1]
        by_cases hm1 : 1 < t.mem.length
        · have hm2 : ((1 : Int) < (t.mem.length : Int)) = True := eq_true (by omega)
          have hd0 : (((duL t p).length : Int) = 0) = False := eq_false (by have := hdp hm1; omega)
          simp only [wk, wd, UInt8.reduceToNat, reduceIte, reduceCtorEq, Nat.reduceEqDiff, Nat.reduceAdd, Nat.reduceMul, Nat.reduceSub, Nat.reduceLeDiff, Int.reduceNeg, Int.reduceAdd, Int.reduceSub, Int.reduceMul, Int.reduceLT, Int.reduceLE, Int.reduceEq, Int.reduceToNat, Nat.reduceBEq, Nat.reduceLT, Y_unf cc_gemotlaw14_PlaceDuties_k0.eq_1, Y_unf cc_gemotlaw14_PlaceDuties_k1.eq_1, Y_unf cc_gemotlaw14_PlaceDuties_k2.eq_1, Y_unf cc_gemotlaw14_PlaceDuties_k3.eq_1, Y_unf cc_gemotlaw14_PlaceDuties_k4.eq_1, Y_unf cc_gemotlaw14_PlaceDuties_k5.eq_1, Y_unf cc_gemotlaw14_PlaceDuties_k6.eq_1, Y_unf cc_gemotlaw14_PlaceDuties_k7.eq_1, Y_unf cc_gemotlaw14_PlaceDuties_k8.eq_1, Y_unf cc_gemotlaw14_PlaceDuties_k9.eq_1, Y_unf cc_gemotlaw14_PlaceDuties_k10.eq_1, Y_unf cc_gemotlaw14_PlaceDuties_k11.eq_1, Y_unf cc_gemotlaw14_PlaceDuties_c12.eq_1, Y_unf cc_gemotlaw14_PlaceDuties_k13.eq_1, Y_unf cc_gemotlaw14_PlaceDuties_k14.eq_1, Y_unf cc_gemotlaw14_PlaceDuties_k15.eq_1, Y_unf cc_gemotlaw14_PlaceDuties_l16.eq_1, Y_unf cc_gemotlaw14_PlaceDuties_k17.eq_1, Y_unf cc_gemotlaw14_PlaceDuties_k18.eq_1, Y_unf cc_gemotlaw14_PlaceDuties_k19.eq_1, Y_unf cc_gemotlaw14_PlaceDuties_k20.eq_1, Y_unf cc_gemotlaw14_PlaceDuties_l21.eq_1, Y_unf cc_gemotlaw14_PlaceDuties_k22.eq_1, Y_unf cc_gemotlaw14_PlaceDuties_k23.eq_1, Y_unf cc_gemotlaw14_PlaceDuties_k24.eq_1, Y_unf cc_gemotlaw14_PlaceDuties_k25.eq_1, Y_unf cc_gemotlaw14_PlaceDuties_l26.eq_1, Y_unf cc_gemotlaw14_PlaceDuties_k27.eq_1, Y_unf cc_gemotlaw14_PlaceDuties_k28.eq_1, Y_unf cc_gemotlaw14_PlaceDuties_k29.eq_1, Y_unf cc_gemotlaw14_PlaceDuties_k30.eq_1, Y_unf cc_gemotlaw14_PlaceDuties_k31.eq_1, Y_unf cc_gemotlaw14_PlaceDuties_k32.eq_1, Y_unf cc_gemotlaw14_PlaceDuties_k33.eq_1, Y_unf cc_gemotlaw14_PlaceDuties_k34.eq_1, Y_unf cc_gemotlaw14_PlaceDuties.eq_1, w4, w5, w6, w7, w103, w8, w9, w10, w11, hlv, hge, hm2, hd0, hw2]
          exact ⟨(j + 1, rest2), hJ2 _ _ _ ⟨rfl, g4, g1, w4, w5, w6, w7, w103, w8, rfl⟩, Nat.lt_succ_self _⟩
        · have hm2 : ((1 : Int) < (t.mem.length : Int)) = False := eq_false (by omega)
          simp only [wk, wd, UInt8.reduceToNat, reduceIte, reduceCtorEq, Nat.reduceEqDiff, Nat.reduceAdd, Nat.reduceMul, Nat.reduceSub, Nat.reduceLeDiff, Int.reduceNeg, Int.reduceAdd, Int.reduceSub, Int.reduceMul, Int.reduceLT, Int.reduceLE, Int.reduceEq, Int.reduceToNat, Nat.reduceBEq, Nat.reduceLT, Y_unf cc_gemotlaw14_PlaceDuties_k0.eq_1, Y_unf cc_gemotlaw14_PlaceDuties_k1.eq_1, Y_unf cc_gemotlaw14_PlaceDuties_k2.eq_1, Y_unf cc_gemotlaw14_PlaceDuties_k3.eq_1, Y_unf cc_gemotlaw14_PlaceDuties_k4.eq_1, Y_unf cc_gemotlaw14_PlaceDuties_k5.eq_1, Y_unf cc_gemotlaw14_PlaceDuties_k6.eq_1, Y_unf cc_gemotlaw14_PlaceDuties_k7.eq_1, Y_unf cc_gemotlaw14_PlaceDuties_k8.eq_1, Y_unf cc_gemotlaw14_PlaceDuties_k9.eq_1, Y_unf cc_gemotlaw14_PlaceDuties_k10.eq_1, Y_unf cc_gemotlaw14_PlaceDuties_k11.eq_1, Y_unf cc_gemotlaw14_PlaceDuties_c12.eq_1, Y_unf cc_gemotlaw14_PlaceDuties_k13.eq_1, Y_unf cc_gemotlaw14_PlaceDuties_k14.eq_1, Y_unf cc_gemotlaw14_PlaceDuties_k15.eq_1, Y_unf cc_gemotlaw14_PlaceDuties_l16.eq_1, Y_unf cc_gemotlaw14_PlaceDuties_k17.eq_1, Y_unf cc_gemotlaw14_PlaceDuties_k18.eq_1, Y_unf cc_gemotlaw14_PlaceDuties_k19.eq_1, Y_unf cc_gemotlaw14_PlaceDuties_k20.eq_1, Y_unf cc_gemotlaw14_PlaceDuties_l21.eq_1, Y_unf cc_gemotlaw14_PlaceDuties_k22.eq_1, Y_unf cc_gemotlaw14_PlaceDuties_k23.eq_1, Y_unf cc_gemotlaw14_PlaceDuties_k24.eq_1, Y_unf cc_gemotlaw14_PlaceDuties_k25.eq_1, Y_unf cc_gemotlaw14_PlaceDuties_l26.eq_1, Y_unf cc_gemotlaw14_PlaceDuties_k27.eq_1, Y_unf cc_gemotlaw14_PlaceDuties_k28.eq_1, Y_unf cc_gemotlaw14_PlaceDuties_k29.eq_1, Y_unf cc_gemotlaw14_PlaceDuties_k30.eq_1, Y_unf cc_gemotlaw14_PlaceDuties_k31.eq_1, Y_unf cc_gemotlaw14_PlaceDuties_k32.eq_1, Y_unf cc_gemotlaw14_PlaceDuties_k33.eq_1, Y_unf cc_gemotlaw14_PlaceDuties_k34.eq_1, Y_unf cc_gemotlaw14_PlaceDuties.eq_1, w4, w5, w6, w7, w103, w8, w9, w10, w11, hlv, hge, hm2, hw2]
          exact ⟨(j + 1, rest2), hJ2 _ _ _ ⟨rfl, g4, g1, w4, w5, w6, w7, w103, w8, rfl⟩, Nat.lt_succ_self _⟩
      | cons y rest3 =>
        obtain ⟨f1, f2, f4⟩ := drop_cons hd3
        obtain ⟨c10, rfl⟩ := strs_list hr (by intro h; rw [h] at f1; simp at f1)
        have hlt3 : ((k : Int) < (duL t p).length) = True := eq_true (by omega)
        have hle3 : (k ≤ (duL t p).length) = True := eq_true (by omega)
        have hdm3 : ((duL t p).map AV.str).drop k = .str y :: rest3.map .str := by rw [← List.map_drop, hd3]; rfl
        have hw3 : IntKind.i64.wrap ((k : Int) + 1) = ((k + 1 : Nat) : Int) := by rw [wrap_i64 (by omega) (by omega)]; omega
        have hcnt : ((duL t p).take (k + 1)).count n = ((duL t p).take k).count n + if y = n then 1 else 0 := by
          rw [List.take_add_one, f2]; simp [List.count_append, List.count_cons]
        by_cases hyn : y = n
        · rw [if_pos hyn] at hcnt
          have hsz : times t n (t.mem.take j) + ((duL t p).take k).count n < 4611686018427387904 := by
            have b1 := times_le (n := n) (l := t.mem.take j) ht hns (fun x hx => List.mem_of_mem_take hx)
            have b2 : ((duL t p).take k).count n ≤ (duL t p).count n := (List.take_sublist _ _).count_le n
            have b3 := count_du ht hns hpm
            have b4 : (t.mem.take j).length ≤ t.mem.length := by simp; omega
            split at b3 <;> omega
          have hw4 : IntKind.i64.wrap (((times t n (t.mem.take j) + ((duL t p).take k).count n : Nat) : Int) + 1) = ((times t n (t.mem.take j) + ((duL t p).take (k + 1)).count n : Nat) : Int) := by rw [hcnt, wrap_i64 (by omega) (by omega)]; omega
          simp only [wk, wd, UInt8.reduceToNat, reduceIte, reduceCtorEq, Nat.reduceEqDiff, Nat.reduceAdd, Nat.reduceMul, Nat.reduceSub, Nat.reduceLeDiff, Int.reduceNeg, Int.reduceAdd, Int.reduceSub, Int.reduceMul, Int.reduceLT, Int.reduceLE, Int.reduceEq, Int.reduceToNat, Nat.reduceBEq, Nat.reduceLT, Y_unf cc_gemotlaw14_PlaceDuties_k0.eq_1, Y_unf cc_gemotlaw14_PlaceDuties_k1.eq_1, Y_unf cc_gemotlaw14_PlaceDuties_k2.eq_1, Y_unf cc_gemotlaw14_PlaceDuties_k3.eq_1, Y_unf cc_gemotlaw14_PlaceDuties_k4.eq_1, Y_unf cc_gemotlaw14_PlaceDuties_k5.eq_1, Y_unf cc_gemotlaw14_PlaceDuties_k6.eq_1, Y_unf cc_gemotlaw14_PlaceDuties_k7.eq_1, Y_unf cc_gemotlaw14_PlaceDuties_k8.eq_1, Y_unf cc_gemotlaw14_PlaceDuties_k9.eq_1, Y_unf cc_gemotlaw14_PlaceDuties_k10.eq_1, Y_unf cc_gemotlaw14_PlaceDuties_k11.eq_1, Y_unf cc_gemotlaw14_PlaceDuties_c12.eq_1, Y_unf cc_gemotlaw14_PlaceDuties_k13.eq_1, Y_unf cc_gemotlaw14_PlaceDuties_k14.eq_1, Y_unf cc_gemotlaw14_PlaceDuties_k15.eq_1, Y_unf cc_gemotlaw14_PlaceDuties_l16.eq_1, Y_unf cc_gemotlaw14_PlaceDuties_k17.eq_1, Y_unf cc_gemotlaw14_PlaceDuties_k18.eq_1, Y_unf cc_gemotlaw14_PlaceDuties_k19.eq_1, Y_unf cc_gemotlaw14_PlaceDuties_k20.eq_1, Y_unf cc_gemotlaw14_PlaceDuties_l21.eq_1, Y_unf cc_gemotlaw14_PlaceDuties_k22.eq_1, Y_unf cc_gemotlaw14_PlaceDuties_k23.eq_1, Y_unf cc_gemotlaw14_PlaceDuties_k24.eq_1, Y_unf cc_gemotlaw14_PlaceDuties_k25.eq_1, Y_unf cc_gemotlaw14_PlaceDuties_l26.eq_1, Y_unf cc_gemotlaw14_PlaceDuties_k27.eq_1, Y_unf cc_gemotlaw14_PlaceDuties_k28.eq_1, Y_unf cc_gemotlaw14_PlaceDuties_k29.eq_1, Y_unf cc_gemotlaw14_PlaceDuties_k30.eq_1, Y_unf cc_gemotlaw14_PlaceDuties_k31.eq_1, Y_unf cc_gemotlaw14_PlaceDuties_k32.eq_1, Y_unf cc_gemotlaw14_PlaceDuties_k33.eq_1, Y_unf cc_gemotlaw14_PlaceDuties_k34.eq_1, Y_unf cc_gemotlaw14_PlaceDuties.eq_1, w4, w5, w6, w7, w103, w8, w9, w10, w11, hlt3, hle3, hdm3, hlt, hle, hdm, List.length_map, hyn, hw3, hw4]
          exact ⟨(k + 1, rest3), hJ3 _ _ _ ⟨rfl, f4, f1, w4, w5, w6, w7, w103, w9, w10, rfl, rfl⟩, Nat.lt_succ_self _⟩
        · rw [if_neg hyn] at hcnt
          simp only [wk, wd, UInt8.reduceToNat, reduceIte, reduceCtorEq, Nat.reduceEqDiff, Nat.reduceAdd, Nat.reduceMul, Nat.reduceSub, Nat.reduceLeDiff, Int.reduceNeg, Int.reduceAdd, Int.reduceSub, Int.reduceMul, Int.reduceLT, Int.reduceLE, Int.reduceEq, Int.reduceToNat, Nat.reduceBEq, Nat.reduceLT, Y_unf cc_gemotlaw14_PlaceDuties_k0.eq_1, Y_unf cc_gemotlaw14_PlaceDuties_k1.eq_1, Y_unf cc_gemotlaw14_PlaceDuties_k2.eq_1, Y_unf cc_gemotlaw14_PlaceDuties_k3.eq_1, Y_unf cc_gemotlaw14_PlaceDuties_k4.eq_1, Y_unf cc_gemotlaw14_PlaceDuties_k5.eq_1, Y_unf cc_gemotlaw14_PlaceDuties_k6.eq_1, Y_unf cc_gemotlaw14_PlaceDuties_k7.eq_1, Y_unf cc_gemotlaw14_PlaceDuties_k8.eq_1, Y_unf cc_gemotlaw14_PlaceDuties_k9.eq_1, Y_unf cc_gemotlaw14_PlaceDuties_k10.eq_1, Y_unf cc_gemotlaw14_PlaceDuties_k11.eq_1, Y_unf cc_gemotlaw14_PlaceDuties_c12.eq_1, Y_unf cc_gemotlaw14_PlaceDuties_k13.eq_1, Y_unf cc_gemotlaw14_PlaceDuties_k14.eq_1, Y_unf cc_gemotlaw14_PlaceDuties_k15.eq_1, Y_unf cc_gemotlaw14_PlaceDuties_l16.eq_1, Y_unf cc_gemotlaw14_PlaceDuties_k17.eq_1, Y_unf cc_gemotlaw14_PlaceDuties_k18.eq_1, Y_unf cc_gemotlaw14_PlaceDuties_k19.eq_1, Y_unf cc_gemotlaw14_PlaceDuties_k20.eq_1, Y_unf cc_gemotlaw14_PlaceDuties_l21.eq_1, Y_unf cc_gemotlaw14_PlaceDuties_k22.eq_1, Y_unf cc_gemotlaw14_PlaceDuties_k23.eq_1, Y_unf cc_gemotlaw14_PlaceDuties_k24.eq_1, Y_unf cc_gemotlaw14_PlaceDuties_k25.eq_1, Y_unf cc_gemotlaw14_PlaceDuties_l26.eq_1, Y_unf cc_gemotlaw14_PlaceDuties_k27.eq_1, Y_unf cc_gemotlaw14_PlaceDuties_k28.eq_1, Y_unf cc_gemotlaw14_PlaceDuties_k29.eq_1, Y_unf cc_gemotlaw14_PlaceDuties_k30.eq_1, Y_unf cc_gemotlaw14_PlaceDuties_k31.eq_1, Y_unf cc_gemotlaw14_PlaceDuties_k32.eq_1, Y_unf cc_gemotlaw14_PlaceDuties_k33.eq_1, Y_unf cc_gemotlaw14_PlaceDuties_k34.eq_1, Y_unf cc_gemotlaw14_PlaceDuties.eq_1, w4, w5, w6, w7, w103, w8, w9, w10, w11, hlt3, hle3, hdm3, hlt, hle, hdm, List.length_map, hyn, hw3]
          exact ⟨(k + 1, rest3), hJ3 _ _ _ ⟨rfl, f4, f1, w4, w5, w6, w7, w103, w9, w10, rfl, by simp only [upd_at]; rw [hcnt]; exact w8⟩, Nat.lt_succ_self _⟩
end Go.Proofs.Tryd
