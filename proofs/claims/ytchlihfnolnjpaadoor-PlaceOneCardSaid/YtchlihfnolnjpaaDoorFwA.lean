/- A framework for contracts of functions over an abstract memory, by its author; nothing of the program stands in it. -/
import Derived.RangeFuncIn
import Derived.OrdersIn
import Derived.Laws.Append
import Derived.Laws.NewBlocks
import GoSem.Builtin.Append
import GoSem.Instr.MapUpdate
import GoSem.Builtin.Delete
import GoSem.Dispatch
import Derived.Laws.StructEq
set_option linter.unusedVariables false
set_option linter.unusedSimpArgs false
namespace Go.Abs

/-- Abstract values. -/
inductive AV where
  | bool (b : Bool) | int (k : IntKind) (n : Int) | str (s : List UInt8)
  | pnil | snil | mnil | fnil | inil
  | ptr (id gen off : Nat)
  | eptr (xs : List AV)
  | list (xs : List AV) (len : Nat) (cap : Option Nat)
  | sl (id gen off len : Nat)
  | map (id : Nat) | it (id : Nat) | yl (id : Nat)
  | fn (f : FuncId) (caps : List AV)
  | agg (cs : List AV) | tup (vs : List AV)
  | iface (t : TypeId) (v : AV)
  deriving Inhabited

/-- Where an identity lies: its block, where its cells begin there, how many cells an element has, how many cells there are from there on. -/
structure Loc where
  b : Nat
  base : Nat
  es : Nat
  cap : Nat

/-- What the relation rests on: where each identity lies, how often it was given a new row, up to where rows are kept for good, and what lies outside. -/
structure Ctx where
  base : Nat
  rho : Nat → Option Loc
  gen : Nat → Nat
  lim : Nat → Nat

mutual
/-- An abstract value stands for a machine's value in a world. -/
def VRel (C : Ctx) (w : World) : AV → Value → Prop
  | .bool b, v => v = .bool b
  | .int k n, v => v = .int k n
  | .str s, v => v = .string ⟨s.toArray⟩
  | .pnil, v => v = .pointer none
  | .snil, v => v = .slice none 0 0
  | .mnil, v => v = .map none
  | .fnil, v => v = .nilFunc
  | .inil, v => v = .nilIface
  | .ptr id gen off, v => ∃ a, v = .pointer (some a) ∧ gen ≤ C.gen id ∧ (C.gen id = gen → ∃ L, C.rho id = some L ∧ a = ⟨L.b, L.base + off, none⟩)
  | .eptr xs, v => ∃ b o us, v = .pointer (some ⟨b, o, none⟩) ∧ o + xs.length ≤ C.lim b ∧ us.length = xs.length ∧
      (∀ i u, us[i]? = some u → w.cell? ⟨b, o + i, none⟩ = some u) ∧ VRels C w xs us
  | .list xs len cap, v => ∃ b o c us, v = .slice (some ⟨b, o, none⟩) len c ∧ len ≤ c ∧ (∀ k, cap = some k → c = k) ∧ o + xs.length ≤ C.lim b ∧ us.length = xs.length ∧
      (∀ i u, us[i]? = some u → w.cell? ⟨b, o + i, none⟩ = some u) ∧ VRels C w xs us
  | .sl id gen off len, v => ∃ a c, v = .slice (some a) len c ∧ len ≤ c ∧ gen ≤ C.gen id ∧ (C.gen id = gen → ∃ L o, C.rho id = some L ∧ a = ⟨L.b, L.base + o, none⟩ ∧ o ≤ off ∧ (c = 0 ∨ o = off) ∧ off + c * L.es ≤ L.cap)
  | .map id, v => ∃ b, v = .map (some b) ∧ (C.gen id = 0 → ∃ L, C.rho id = some L ∧ b = L.b)
  | .it id, v => ∃ a, v = .pointer (some a) ∧ (C.gen id = 0 → ∃ L, C.rho id = some L ∧ a = ⟨L.b, 0, none⟩)
  | .yl id, v => ∃ b, v = .func (.yield b) #[] #[] ∧ (C.gen id = 0 → ∃ L, C.rho id = some L ∧ b = L.b)
  | .fn f caps, v => ∃ us : List Value, v = .func (.func f) #[] us.toArray ∧ VRels C w caps us
  | .agg cs, v => ∃ us : List Value, v = .agg us.toArray ∧ VRels C w cs us
  | .tup vs, v => ∃ us : List Value, v = .tuple us.toArray ∧ VRels C w vs us
  | .iface t x, v => ∃ u, v = .iface t u ∧ VRel C w x u
def VRels (C : Ctx) (w : World) : List AV → List Value → Prop
  | [], us => us = []
  | x :: xs, us => ∃ u r, us = u :: r ∧ VRel C w x u ∧ VRels C w xs r
end

theorem VRels.length {C : Ctx} {w : World} : ∀ {xs : List AV} {us : List Value}, VRels C w xs us → us.length = xs.length
  | [], _, h => by simp only [VRels] at h; subst h; rfl
  | x :: xs, _, h => by
    simp only [VRels] at h
    obtain ⟨u, r, rfl, _, h⟩ := h
    simp [VRels.length h]

theorem VRels.get {C : Ctx} {w : World} : ∀ {xs : List AV} {us : List Value}, VRels C w xs us → ∀ (i : Nat) (x : AV), xs[i]? = some x → ∃ u, us[i]? = some u ∧ VRel C w x u
  | [], _, h, i, x, hx => by simp at hx
  | y :: xs, _, h, i, x, hx => by
    simp only [VRels] at h
    obtain ⟨u, r, rfl, h1, h2⟩ := h
    cases i with
    | zero => simp at hx; subst hx; exact ⟨u, by simp, h1⟩
    | succ i => simp at hx; obtain ⟨v, hv, h3⟩ := VRels.get h2 i x hx; exact ⟨v, by simpa using hv, h3⟩

theorem VRels.of_get {C : Ctx} {w : World} : ∀ {xs : List AV} {us : List Value}, us.length = xs.length → (∀ (i : Nat) (x : AV), xs[i]? = some x → ∃ u, us[i]? = some u ∧ VRel C w x u) → VRels C w xs us
  | [], us, hl, h => by simp only [VRels]; exact List.eq_nil_of_length_eq_zero hl
  | x :: xs, [], hl, h => by simp at hl
  | x :: xs, u :: us, hl, h => by
    simp only [VRels]
    refine ⟨u, us, rfl, ?_, VRels.of_get (by simpa using hl) fun i y hy => ?_⟩
    · obtain ⟨v, hv, h1⟩ := h 0 x (by simp)
      simp at hv; subst hv; exact h1
    · obtain ⟨v, hv, h1⟩ := h (i + 1) y (by simpa using hy)
      exact ⟨v, by simpa using hv, h1⟩

theorem VRels.append {C : Ctx} {w : World} {xs ys : List AV} {us vs : List Value} (h : VRels C w xs us) (k : VRels C w ys vs) : VRels C w (xs ++ ys) (us ++ vs) := by
  refine VRels.of_get (by simp [h.length, k.length]) fun i x hx => ?_
  have hl := h.length
  by_cases hi : i < xs.length
  · rw [List.getElem?_append_left hi] at hx
    obtain ⟨u, hu, h1⟩ := h.get i x hx
    exact ⟨u, by rw [List.getElem?_append_left (by omega)]; exact hu, h1⟩
  · rw [List.getElem?_append_right (by omega)] at hx
    obtain ⟨u, hu, h1⟩ := k.get _ x hx
    exact ⟨u, by rw [List.getElem?_append_right (by omega), hl]; exact hu, h1⟩

theorem VRels.take {C : Ctx} {w : World} {xs : List AV} {us : List Value} (h : VRels C w xs us) (n : Nat) : VRels C w (xs.take n) (us.take n) := by
  refine VRels.of_get (by simp [h.length]) fun i x hx => ?_
  rw [List.getElem?_take] at hx
  split at hx
  · obtain ⟨u, hu, h1⟩ := h.get i x hx
    exact ⟨u, by rw [List.getElem?_take, if_pos (by assumption)]; exact hu, h1⟩
  · cases hx

theorem VRels.drop {C : Ctx} {w : World} {xs : List AV} {us : List Value} (h : VRels C w xs us) (n : Nat) : VRels C w (xs.drop n) (us.drop n) := by
  refine VRels.of_get (by simp [h.length]) fun i x hx => ?_
  rw [List.getElem?_drop] at hx
  obtain ⟨u, hu, h1⟩ := h.get _ x hx
  exact ⟨u, by rw [List.getElem?_drop]; exact hu, h1⟩

theorem VRels.set {C : Ctx} {w : World} {xs : List AV} {us : List Value} (h : VRels C w xs us) (n : Nat) {x : AV} {u : Value} (hx : VRel C w x u) : VRels C w (xs.set n x) (us.set n u) := by
  refine VRels.of_get (by simp [h.length]) fun i y hy => ?_
  have hl := h.length
  rw [List.getElem?_set] at hy
  split at hy
  · split at hy
    · simp at hy; subst hy
      exact ⟨u, by rw [List.getElem?_set, if_pos (by assumption), if_pos (by omega)], hx⟩
    · cases hy
  · obtain ⟨v, hv, h1⟩ := h.get i y hy
    exact ⟨v, by rw [List.getElem?_set, if_neg (by assumption)]; exact hv, h1⟩

theorem VRels.replicate {C : Ctx} {w : World} {x : AV} {u : Value} (h : VRel C w x u) (n : Nat) : VRels C w (List.replicate n x) (List.replicate n u) := by
  refine VRels.of_get (by simp) fun i y hy => ?_
  rw [List.getElem?_replicate] at hy
  split at hy
  · simp at hy; subst hy
    exact ⟨u, by rw [List.getElem?_replicate, if_pos (by assumption)], h⟩
  · cases hy

theorem VRels.nil {C : Ctx} {w : World} : VRels C w [] [] := by simp only [VRels]
theorem VRels.cons {C : Ctx} {w : World} {x : AV} {u : Value} {xs : List AV} {us : List Value} (h : VRel C w x u) (k : VRels C w xs us) : VRels C w (x :: xs) (u :: us) := by
  simp only [VRels]; exact ⟨u, us, rfl, h, k⟩
theorem VRels.one {C : Ctx} {w : World} {x : AV} {u : Value} (h : VRel C w x u) : VRels C w [x] [u] := .cons h .nil

/-- How the world, and what the relation rests on, may go on. -/
structure Evol (C : Ctx) (w : World) (C' : Ctx) (w' : World) : Prop where
  os : w'.os = w.os
  tape : w'.tape = w.tape
  output : w'.output = w.output
  drawn : w.drawn ≤ w'.drawn
  size : w.heap.size ≤ w'.heap.size
  base : C'.base = C.base
  old : ∀ k, k < C.base → w'.heap[k]? = w.heap[k]?
  lim : ∀ b, C.lim b ≤ C'.lim b
  prot : ∀ b o u, o < C.lim b → w.cell? ⟨b, o, none⟩ = some u → w'.cell? ⟨b, o, none⟩ = some u
  gen : ∀ id, C.gen id ≤ C'.gen id
  rho : ∀ id p, C.rho id = some p → C'.gen id = C.gen id → C'.rho id = some p

theorem Evol.refl (C : Ctx) (w : World) : Evol C w C w :=
  ⟨rfl, rfl, rfl, Nat.le_refl _, Nat.le_refl _, rfl, fun _ _ => rfl, fun _ => Nat.le_refl _, fun _ _ _ _ h => h, fun _ => Nat.le_refl _, fun _ _ h _ => h⟩

theorem Evol.trans {C₁ C₂ C₃ : Ctx} {w₁ w₂ w₃ : World} (h : Evol C₁ w₁ C₂ w₂) (k : Evol C₂ w₂ C₃ w₃) : Evol C₁ w₁ C₃ w₃ where
  os := k.os.trans h.os
  tape := k.tape.trans h.tape
  output := k.output.trans h.output
  drawn := Nat.le_trans h.drawn k.drawn
  size := Nat.le_trans h.size k.size
  base := k.base.trans h.base
  old := fun i hi => (k.old i (by rw [h.base]; exact hi)).trans (h.old i hi)
  lim := fun b => Nat.le_trans (h.lim b) (k.lim b)
  prot := fun b o u ho hc => k.prot b o u (Nat.lt_of_lt_of_le ho (h.lim b)) (h.prot b o u ho hc)
  gen := fun id => Nat.le_trans (h.gen id) (k.gen id)
  rho := fun id p hp hg => by
    have h1 := h.gen id
    have h2 := k.gen id
    exact k.rho id p (h.rho id p hp (by omega)) (by omega)

mutual
/-- What a value stood for it stands for still. -/
theorem VRel.evol {C C' : Ctx} {w w' : World} (h : Evol C w C' w') : ∀ (x : AV) (v : Value), VRel C w x v → VRel C' w' x v
  | .bool b, v, r => by simpa only [VRel] using r
  | .int k n, v, r => by simpa only [VRel] using r
  | .str s, v, r => by simpa only [VRel] using r
  | .pnil, v, r => by simpa only [VRel] using r
  | .snil, v, r => by simpa only [VRel] using r
  | .mnil, v, r => by simpa only [VRel] using r
  | .fnil, v, r => by simpa only [VRel] using r
  | .inil, v, r => by simpa only [VRel] using r
  | .ptr id gen off, v, r => by
    simp only [VRel] at r ⊢
    have hg := h.gen id
    obtain ⟨a, hv, h1, h2⟩ := r
    refine ⟨a, hv, by omega, fun he => ?_⟩
    obtain ⟨L, hr, ha⟩ := h2 (by omega)
    exact ⟨L, h.rho id _ hr (by omega), ha⟩
  | .eptr xs, v, r => by
    simp only [VRel] at r ⊢
    obtain ⟨b, o, us, hv, hl, hlen, hc, hx⟩ := r
    refine ⟨b, o, us, hv, Nat.le_trans hl (h.lim b), hlen, fun i u hu => ?_, VRels.evol h xs us hx⟩
    have hi : i < us.length := (List.getElem?_eq_some_iff.1 hu).1
    exact h.prot b (o + i) u (by omega) (hc i u hu)
  | .list xs len cap, v, r => by
    simp only [VRel] at r ⊢
    obtain ⟨b, o, c, us, hv, h1, h2, hl, hlen, hc, hx⟩ := r
    refine ⟨b, o, c, us, hv, h1, h2, Nat.le_trans hl (h.lim b), hlen, fun i u hu => ?_, VRels.evol h xs us hx⟩
    have hi : i < us.length := (List.getElem?_eq_some_iff.1 hu).1
    exact h.prot b (o + i) u (by omega) (hc i u hu)
  | .sl id gen off len, v, r => by
    simp only [VRel] at r ⊢
    have hg := h.gen id
    obtain ⟨a, c, hv, hc, h1, h2⟩ := r
    refine ⟨a, c, hv, hc, by omega, fun he => ?_⟩
    obtain ⟨L, o, hr, ha⟩ := h2 (by omega)
    exact ⟨L, o, h.rho id _ hr (by omega), ha⟩
  | .map id, v, r => by
    simp only [VRel] at r ⊢
    obtain ⟨b, hv, h2⟩ := r
    refine ⟨b, hv, fun hg => ?_⟩
    have := h.gen id
    obtain ⟨L, hr, hb⟩ := h2 (by omega)
    exact ⟨L, h.rho id _ hr (by omega), hb⟩
  | .it id, v, r => by
    simp only [VRel] at r ⊢
    obtain ⟨b, hv, h2⟩ := r
    refine ⟨b, hv, fun hg => ?_⟩
    have := h.gen id
    obtain ⟨L, hr, hb⟩ := h2 (by omega)
    exact ⟨L, h.rho id _ hr (by omega), hb⟩
  | .yl id, v, r => by
    simp only [VRel] at r ⊢
    obtain ⟨b, hv, h2⟩ := r
    refine ⟨b, hv, fun hg => ?_⟩
    have := h.gen id
    obtain ⟨L, hr, hb⟩ := h2 (by omega)
    exact ⟨L, h.rho id _ hr (by omega), hb⟩
  | .fn f caps, v, r => by
    simp only [VRel] at r ⊢
    obtain ⟨us, hv, hx⟩ := r
    exact ⟨us, hv, VRels.evol h caps us hx⟩
  | .agg cs, v, r => by
    simp only [VRel] at r ⊢
    obtain ⟨us, hv, hx⟩ := r
    exact ⟨us, hv, VRels.evol h cs us hx⟩
  | .tup cs, v, r => by
    simp only [VRel] at r ⊢
    obtain ⟨us, hv, hx⟩ := r
    exact ⟨us, hv, VRels.evol h cs us hx⟩
  | .iface t x, v, r => by
    simp only [VRel] at r ⊢
    obtain ⟨u, hv, hx⟩ := r
    exact ⟨u, hv, VRel.evol h x u hx⟩
theorem VRels.evol {C C' : Ctx} {w w' : World} (h : Evol C w C' w') : ∀ (xs : List AV) (us : List Value), VRels C w xs us → VRels C' w' xs us
  | [], us, r => by simpa only [VRels] using r
  | x :: xs, us, r => by
    simp only [VRels] at r ⊢
    obtain ⟨u, t, he, h1, h2⟩ := r
    exact ⟨u, t, he, VRel.evol h x u h1, VRels.evol h xs t h2⟩
end
end Go.Abs
set_option linter.unusedVariables false
set_option linter.unusedSimpArgs false
namespace Go.Abs

/-- What lies at an identity. -/
inductive Blk where
  | arr (es : Nat) (cells : List AV) (gen fz : Nat)
  | mapI (k : IntKind) (es : List (Int × AV))
  | mapS (es : List (List UInt8 × AV))
  | loop (st : LoopState) (jump : Option Code) (tm : List AV) (ps : Array Tmp) (asg body : Code)
  | defd
  | siter (s : List UInt8) (pos : Nat)
  | gone

structure St where
  heap : Nat → Option Blk
  nx : Nat

def St.set (σ : St) (id : Nat) (B : Blk) : St := ⟨fun i => if i = id then some B else σ.heap i, σ.nx⟩
def St.new (σ : St) (B : Blk) : St := ⟨fun i => if i = σ.nx then some B else σ.heap i, σ.nx + 1⟩

def World.setBlk (w : World) (b : Nat) (o : Obj) : World := { w with heap := w.heap.setIfInBounds b o }

/-- The entries of a map, by what they hold. -/
def entI (C : Ctx) (w : World) (k : IntKind) : List (Int × AV) → List MapEntry → Prop
  | [], ms => ms = []
  | e :: es, ms => ∃ m r, ms = m :: r ∧ m.key = .int k e.1 ∧ VRel C w e.2 m.val ∧ entI C w k es r
def entS (C : Ctx) (w : World) : List (List UInt8 × AV) → List MapEntry → Prop
  | [], ms => ms = []
  | e :: es, ms => ∃ m r, ms = m :: r ∧ m.key = .string ⟨e.1.toArray⟩ ∧ VRel C w e.2 m.val ∧ entS C w es r

def Thawed (cs : Array Value) (fr : Nat × Nat) : Prop := ∀ o, o < cs.size → ¬ (fr.1 ≤ o ∧ o < fr.2)

def BRel (C : Ctx) (w : World) (id : Nat) : Blk → Prop
  | .arr es cells gen fz => C.gen id = gen ∧ ∃ L cs ty fr us, C.rho id = some L ∧ L.es = es ∧ w.heap[L.b]? = some (.cells cs ty fr) ∧ Thawed cs fr ∧
      cs.size = L.base + L.cap ∧ cells.length ≤ L.cap ∧ C.lim L.b ≤ L.base + fz ∧
      us.length = cells.length ∧ (∀ i u, us[i]? = some u → cs[L.base + i]? = some u) ∧ VRels C w cells us
  | .mapI k es => C.gen id = 0 ∧ ∃ L ms clock, C.rho id = some L ∧ w.heap[L.b]? = some (.map ms clock) ∧ entI C w k es ms.toList
  | .mapS es => C.gen id = 0 ∧ ∃ L ms clock, C.rho id = some L ∧ w.heap[L.b]? = some (.map ms clock) ∧ entS C w es ms.toList
  | .defd => C.gen id = 0 ∧ ∃ L, C.rho id = some L ∧ w.heap[L.b]? = some (.deferred (some []))
  | .loop st jump tm ps asg body => C.gen id = 0 ∧ ∃ L fn ts d, C.rho id = some L ∧ w.heap[L.b]? = some (.loop { state := st, pending := jump, fn, tmps := ts, params := ps, assign := asg, body, defers := d }) ∧ VRels C w tm ts.toList
  | .siter s pos => C.gen id = 0 ∧ ∃ L, C.rho id = some L ∧ w.heap[L.b]? = some (.stringIter ⟨s.toArray⟩ pos)
  | .gone => True

structure Rel (C : Ctx) (σ : St) (w : World) : Prop where
  base : C.base ≤ w.heap.size
  fresh : ∀ id, σ.nx ≤ id → C.rho id = none ∧ C.gen id = 0
  inj : ∀ i j L M, C.rho i = some L → C.rho j = some M → L.b = M.b → i = j
  own : ∀ i L, C.rho i = some L → C.base ≤ L.b ∧ L.b < w.heap.size
  lim : ∀ b, w.heap.size ≤ b → C.lim b = 0
  blk : ∀ id B, σ.heap id = some B → BRel C w id B
  dom : ∀ id B, σ.heap id = some B → id < σ.nx

theorem entI.evol {C C' : Ctx} {w w' : World} (h : Evol C w C' w') {k : IntKind} : ∀ {es : List (Int × AV)} {ms : List MapEntry}, entI C w k es ms → entI C' w' k es ms
  | [], _, r => by simpa only [entI] using r
  | e :: es, _, r => by
    simp only [entI] at r ⊢
    obtain ⟨m, t, he, h1, h2, h3⟩ := r
    exact ⟨m, t, he, h1, VRel.evol h _ _ h2, entI.evol h h3⟩
theorem entS.evol {C C' : Ctx} {w w' : World} (h : Evol C w C' w') : ∀ {es : List (List UInt8 × AV)} {ms : List MapEntry}, entS C w es ms → entS C' w' es ms
  | [], _, r => by simpa only [entS] using r
  | e :: es, _, r => by
    simp only [entS] at r ⊢
    obtain ⟨m, t, he, h1, h2, h3⟩ := r
    exact ⟨m, t, he, h1, VRel.evol h _ _ h2, entS.evol h h3⟩

/-- What lies at an identity lies there still, where its block was not touched. -/
theorem BRel.evol {C C' : Ctx} {w w' : World} (h : Evol C w C' w') {id : Nat} (hg : C'.gen id = C.gen id) (hb : ∀ L, C.rho id = some L → w'.heap[L.b]? = w.heap[L.b]? ∧ C'.lim L.b = C.lim L.b) :
    ∀ (B : Blk), BRel C w id B → BRel C' w' id B
  | .arr es cells gen fz, r => by
    simp only [BRel] at r ⊢
    obtain ⟨h0, L, cs, ty, fr, us, h1, h2, h3, h4, h5, h6, h7, h8, h9, h10⟩ := r
    exact ⟨by omega, L, cs, ty, fr, us, h.rho id _ h1 hg, h2, by rw [(hb L h1).1]; exact h3, h4, h5, h6, by rw [(hb L h1).2]; exact h7, h8, h9, VRels.evol h _ _ h10⟩
  | .mapI k es, r => by
    simp only [BRel] at r ⊢
    obtain ⟨h0, L, ms, cl, h1, h2, h3⟩ := r
    exact ⟨by omega, L, ms, cl, h.rho id _ h1 hg, by rw [(hb L h1).1]; exact h2, h3.evol h⟩
  | .mapS es, r => by
    simp only [BRel] at r ⊢
    obtain ⟨h0, L, ms, cl, h1, h2, h3⟩ := r
    exact ⟨by omega, L, ms, cl, h.rho id _ h1 hg, by rw [(hb L h1).1]; exact h2, h3.evol h⟩
  | .defd, r => by
    simp only [BRel] at r ⊢
    obtain ⟨h0, L, h1, h2⟩ := r
    exact ⟨by omega, L, h.rho id _ h1 hg, by rw [(hb L h1).1]; exact h2⟩
  | .loop st jump tm ps asg body, r => by
    simp only [BRel] at r ⊢
    obtain ⟨h0, L, fn, ts, d, h1, h2, h3⟩ := r
    exact ⟨by omega, L, fn, ts, d, h.rho id _ h1 hg, by rw [(hb L h1).1]; exact h2, VRels.evol h _ _ h3⟩
  | .siter s pos, r => by
    simp only [BRel] at r ⊢
    obtain ⟨h0, L, h1, h2⟩ := r
    exact ⟨by omega, L, h.rho id _ h1 hg, by rw [(hb L h1).1]; exact h2⟩
  | .gone, _ => by simp only [BRel]

theorem VRel.rho_lt {C : Ctx} {σ : St} {w : World} (R : Rel C σ w) {id : Nat} {L : Loc} (h : C.rho id = some L) : id < σ.nx := by
  rcases Nat.lt_or_ge id σ.nx with hh | hh
  · exact hh
  · rw [(R.fresh id hh).1] at h; cases h

/-- A new identity at a new block. -/
def Ctx.put (C : Ctx) (id : Nat) (L : Loc) : Ctx := { C with rho := fun i => if i = id then some L else C.rho i }

theorem Evol.alloc {C : Ctx} {σ : St} {w : World} (R : Rel C σ w) (o : Obj) (L : Loc) : Evol C w (C.put σ.nx L) (w.alloc o) where
  os := rfl
  tape := rfl
  output := rfl
  drawn := Nat.le_refl _
  size := by simp
  base := rfl
  old := fun k hk => by
    have := R.base
    show (w.heap.push o)[k]? = _
    rw [Array.getElem?_push, if_neg (by omega)]
  lim := fun b => Nat.le_refl _
  prot := fun b o' u ho hc => by
    have := World.block_lt_of_cell? w _ hc
    rw [World.cell?_alloc_lt _ _ _ this]; exact hc
  gen := fun id => Nat.le_refl _
  rho := fun id p hp _ => by
    have := VRel.rho_lt R hp
    simp only [Ctx.put]; rw [if_neg (by omega)]; exact hp

theorem Rel.alloc {C : Ctx} {σ : St} {w : World} (R : Rel C σ w) (o : Obj) (es cap : Nat) (B : Blk) (hB : BRel (C.put σ.nx ⟨w.heap.size, 0, es, cap⟩) (w.alloc o) σ.nx B) :
    Rel (C.put σ.nx ⟨w.heap.size, 0, es, cap⟩) (σ.new B) (w.alloc o) where
  base := by have := R.base; simp [Ctx.put]; omega
  fresh := fun id hid => by
    simp only [St.new] at hid
    have := R.fresh id (by omega)
    simp only [Ctx.put]; rw [if_neg (by omega)]; exact this
  inj := fun i j L M hi hj hb => by
    simp only [Ctx.put] at hi hj
    split at hi <;> split at hj
    · omega
    · simp at hi; subst hi
      have := (R.own j M hj).2
      simp at hb; omega
    · simp at hj; subst hj
      have := (R.own i L hi).2
      simp at hb; omega
    · exact R.inj i j L M hi hj hb
  own := fun i L hi => by
    simp only [Ctx.put] at hi
    have := R.base
    split at hi
    · simp at hi; subst hi; simp [Ctx.put]; omega
    · have := R.own i L hi; simp [Ctx.put]; omega
  lim := fun b hb => R.lim b (by simp at hb; omega)
  blk := fun id B' hB' => by
    simp only [St.new] at hB'
    split at hB'
    · simp at hB'; subst hB'; rename_i he; subst he; exact hB
    · rename_i hne
      have E := Evol.alloc R o ⟨w.heap.size, 0, es, cap⟩
      refine BRel.evol E rfl (fun L hL => ⟨?_, rfl⟩) B' (R.blk id B' hB')
      have := (R.own id L hL).2
      show (w.heap.push o)[L.b]? = _
      rw [Array.getElem?_push, if_neg (by omega)]
  dom := fun id B' hB' => by
    simp only [St.new] at hB' ⊢
    split at hB'
    · omega
    · have := R.dom id B' hB'; omega

/-- New cells. -/
theorem Rel.alloc_arr {C : Ctx} {σ : St} {w : World} (R : Rel C σ w) (es : Nat) (ty : TypeId) (cells : List AV) (us : List Value) (rest : List Value) (h : VRels C w cells us) :
    let C' := C.put σ.nx ⟨w.heap.size, 0, es, us.length + rest.length⟩
    Rel C' (σ.new (.arr es cells 0 0)) (w.alloc (.cells (us ++ rest).toArray ty)) ∧ Evol C w C' (w.alloc (.cells (us ++ rest).toArray ty)) := by
  intro C'
  have E := Evol.alloc R (.cells (us ++ rest).toArray ty) ⟨w.heap.size, 0, es, us.length + rest.length⟩
  refine ⟨R.alloc _ es _ _ ?_, E⟩
  simp only [BRel]
  refine ⟨(R.fresh _ (Nat.le_refl _)).2, ⟨w.heap.size, 0, es, us.length + rest.length⟩, (us ++ rest).toArray, ty, (0, 0), us, by simp [Ctx.put], rfl, ?_, fun o _ hh => by simp at hh, by simp, ?_, ?_, h.length, ?_, VRels.evol E _ _ h⟩
  · show (w.heap.push _)[w.heap.size]? = _
    simp
  · have := h.length; simp; omega
  · show C.lim w.heap.size ≤ _
    rw [R.lim _ (Nat.le_refl _)]; simp
  · intro i u hu
    have hi : i < us.length := (List.getElem?_eq_some_iff.1 hu).1
    simp only [Nat.zero_add, List.getElem?_toArray]
    rw [List.getElem?_append_left hi]; exact hu
end Go.Abs
set_option linter.unusedVariables false
set_option linter.unusedSimpArgs false
namespace Go.Abs

def lput {α : Type} : List α → Nat → List α → List α
  | xs, _, [] => xs
  | xs, o, y :: ys => lput (xs.set o y) (o + 1) ys

theorem lput_length {α : Type} : ∀ (ys xs : List α) (o : Nat), (lput xs o ys).length = xs.length
  | [], _, _ => rfl
  | y :: ys, xs, o => by simp [lput, lput_length ys]

theorem VRels.lput {C : Ctx} {w : World} : ∀ {ys : List AV} {vs : List Value} {xs : List AV} {us : List Value} (o : Nat), VRels C w xs us → VRels C w ys vs → VRels C w (Abs.lput xs o ys) (Abs.lput us o vs)
  | [], vs, xs, us, o, h, k => by simp only [VRels] at k; subst k; exact h
  | y :: ys, vs, xs, us, o, h, k => by
    simp only [VRels] at k
    obtain ⟨u, r, rfl, k1, k2⟩ := k
    exact VRels.lput (o + 1) (h.set o k1) k2

def aput (cs : Array Value) (o : Nat) (us : List Value) : Array Value := us.foldl (fun (p : Array Value × Nat) u => (p.1.setIfInBounds p.2 u, p.2 + 1)) (cs, o) |>.1

theorem aput_nil (cs : Array Value) (o : Nat) : aput cs o [] = cs := rfl
theorem aput_cons (cs : Array Value) (o : Nat) (u : Value) (us : List Value) : aput cs o (u :: us) = aput (cs.setIfInBounds o u) (o + 1) us := rfl
theorem aput_size : ∀ (us : List Value) (cs : Array Value) (o : Nat), (aput cs o us).size = cs.size
  | [], _, _ => rfl
  | u :: us, cs, o => by rw [aput_cons, aput_size us]; simp
theorem aput_get_lt : ∀ (us : List Value) (cs : Array Value) (o i : Nat), i < o → (aput cs o us)[i]? = cs[i]?
  | [], _, _, _, _ => rfl
  | u :: us, cs, o, i, h => by
    rw [aput_cons, aput_get_lt us _ _ _ (by omega), Array.getElem?_setIfInBounds_ne (by omega)]
theorem aput_get_ge : ∀ (us : List Value) (cs : Array Value) (o i : Nat), o + us.length ≤ i → (aput cs o us)[i]? = cs[i]?
  | [], _, _, _, _ => rfl
  | u :: us, cs, o, i, h => by
    simp at h
    rw [aput_cons, aput_get_ge us _ _ _ (by omega), Array.getElem?_setIfInBounds_ne (by omega)]
theorem aput_get : ∀ (us : List Value) (cs : Array Value) (o i : Nat), o + us.length ≤ cs.size → i < us.length → (aput cs o us)[o + i]? = us[i]?
  | [], _, _, _, _, h => by simp at h
  | u :: us, cs, o, i, hs, h => by
    simp at hs
    rw [aput_cons]
    cases i with
    | zero => rw [aput_get_lt _ _ _ _ (by omega)]; simp; rw [Array.getElem?_setIfInBounds_self_of_lt (by omega)]
    | succ i =>
      have := aput_get us (cs.setIfInBounds o u) (o + 1) i (by simp; omega) (by simpa using h)
      rw [show o + (i + 1) = o + 1 + i from by omega, this]; simp

theorem World.setBlk_heap (w : World) (b : Nat) (o : Obj) (h : b < w.heap.size) : (World.setBlk w b o).heap[b]? = some o := by
  simp [World.setBlk, h]
theorem World.setBlk_other (w : World) (b k : Nat) (o : Obj) (h : k ≠ b) : (World.setBlk w b o).heap[k]? = w.heap[k]? := by
  simp only [World.setBlk]; rw [Array.getElem?_setIfInBounds_ne (by omega)]
theorem World.setBlk_size (w : World) (b : Nat) (o : Obj) : (World.setBlk w b o).heap.size = w.heap.size := by simp [World.setBlk]

theorem setCell_setBlk {w : World} {b o : Nat} {cs : Array Value} {ty : TypeId} {fr : Nat × Nat} (h : w.heap[b]? = some (.cells cs ty fr)) (v : Value) :
    w.setCell ⟨b, o, none⟩ v = World.setBlk w b (.cells (cs.setIfInBounds o v) ty fr) := by
  unfold World.setCell World.setBlk
  congr 1
  apply Array.ext_getElem?
  intro i
  rw [Array.getElem?_modify]
  by_cases hi : b = i
  · subst hi
    obtain ⟨hlt, he⟩ := Array.getElem?_eq_some_iff.1 h
    simp [h, hlt, he]
  · rw [if_neg hi, Array.getElem?_setIfInBounds_ne hi]

theorem setBlk_setBlk (w : World) (b : Nat) (o o' : Obj) : World.setBlk (World.setBlk w b o) b o' = World.setBlk w b o' := by
  simp [World.setBlk]

/-- The cell of a row. -/
theorem cell_of {w : World} {b : Nat} {cs : Array Value} {ty : TypeId} {fr : Nat × Nat} (h : w.heap[b]? = some (.cells cs ty fr)) (o : Nat) : w.cell? ⟨b, o, none⟩ = cs[o]? := by
  simp [World.cell?, h]
theorem frozen_of {w : World} {b : Nat} {cs : Array Value} {ty : TypeId} {fr : Nat × Nat} (h : w.heap[b]? = some (.cells cs ty fr)) (ht : Thawed cs fr) {o : Nat} (ho : o < cs.size) : w.frozen? ⟨b, o, none⟩ = false := by
  have := ht o ho
  obtain ⟨lo, hi⟩ := fr
  simp [World.frozen?, h] at this ⊢
  omega

theorem addr_add (b o n : Nat) : (⟨b, o, none⟩ : Addr).add n = ⟨b, o + n, none⟩ := by
  unfold Addr.add; split <;> simp_all

/-- Stores of cells, one behind the other. -/
theorem run_storeCells (P : Program) : ∀ (us : List Value) (w : World) (b o i : Nat) (cs : Array Value) (ty : TypeId) (fr : Nat × Nat), w.heap[b]? = some (.cells cs ty fr) → Thawed cs fr →
    (∀ u ∈ us, u.oneCell' = true) → o + i + us.length ≤ cs.size →
    (storeCells ⟨b, o, none⟩ us i).run P w = .ok () (if us = [] then w else World.setBlk w b (.cells (aput cs (o + i) us) ty fr))
  | [], w, b, o, i, cs, ty, fr, h, ht, hu, hs => by simp [storeCells]
  | u :: us, w, b, o, i, cs, ty, fr, h, ht, hu, hs => by
    simp at hs
    have hlt : o + i < cs.size := by omega
    have hstore : (store ((⟨b, o, none⟩ : Addr).add i) u).run P w = .ok () (w.setCell ⟨b, o + i, none⟩ u) := by
      rw [addr_add, run_store P w _ u .plain (hu u (by simp)), cell_of h, Array.getElem?_eq_getElem hlt]
      simp [frozen_of h ht hlt]
    simp only [storeCells, Sem.run_bind, hstore, Result.andThen_ok]
    rw [setCell_setBlk h]
    have hb : b < w.heap.size := (Array.getElem?_eq_some_iff.1 h).1
    have h' : (World.setBlk w b (.cells (cs.setIfInBounds (o + i) u) ty fr)).heap[b]? = some (.cells (cs.setIfInBounds (o + i) u) ty fr) := World.setBlk_heap _ _ _ hb
    rw [run_storeCells P us _ b o (i + 1) _ ty fr h' (fun j hj => ht j (by simpa using hj)) (fun v hv => hu v (by simp [hv])) (by simp; omega)]
    simp only [List.cons_ne_nil, if_false, aput_cons]
    split
    · rename_i he; subst he; rfl
    · rw [setBlk_setBlk]; rfl

theorem run_loadCellsFrom (P : Program) (w : World) (b o : Nat) : ∀ (n i : Nat) (acc : Array Value) (us : List Value), us.length = n → (∀ j u, us[j]? = some u → w.cell? ⟨b, o + i + j, none⟩ = some u) →
    (loadCellsFrom ⟨b, o, none⟩ i n acc).run P w = .ok (acc ++ us.toArray) w
  | 0, i, acc, us, hl, hc => by
    have : us = [] := List.eq_nil_of_length_eq_zero hl
    subst this; simp [loadCellsFrom]
  | n + 1, i, acc, us, hl, hc => by
    cases us with
    | nil => simp at hl
    | cons u us =>
      have h0 := hc 0 u (by simp)
      simp at h0
      have hload : (load ((⟨b, o, none⟩ : Addr).add i)).run P w = .ok u w := by rw [addr_add]; simp [h0]
      simp only [loadCellsFrom, Sem.run_bind, hload, Result.andThen_ok]
      rw [run_loadCellsFrom P w b o n (i + 1) (acc.push u) us (by simpa using hl) (fun j v hv => by
        have := hc (j + 1) v (by simpa using hv)
        rw [show o + (i + 1) + j = o + i + (j + 1) from by omega]; exact this)]
      simp

theorem run_loadCells (P : Program) (w : World) (b o n : Nat) (us : List Value) (hl : us.length = n) (hc : ∀ j u, us[j]? = some u → w.cell? ⟨b, o + j, none⟩ = some u) :
    (loadCells ⟨b, o, none⟩ n).run P w = .ok us.toArray w := by
  unfold loadCells
  rw [run_loadCellsFrom P w b o n 0 #[] us hl (by simpa using hc)]
  simp

/-- What is stored into an identity's cells. -/
theorem Rel.store {C : Ctx} {σ : St} {w : World} (R : Rel C σ w) {id es gen fz off : Nat} {cells ys : List AV} {vs : List Value} (hid : σ.heap id = some (.arr es cells gen fz))
    (hfz : fz ≤ off) (hoff : off + ys.length ≤ cells.length) (hv : VRels C w ys vs) (hone : ∀ u ∈ vs, u.oneCell' = true) (P : Program) :
    ∃ L w', C.rho id = some L ∧ C.gen id = gen ∧ (storeCells ⟨L.b, L.base + off, none⟩ vs).run P w = .ok () w' ∧ Rel C (σ.set id (.arr es (Abs.lput cells off ys) gen fz)) w' ∧ Evol C w C w' := by
  obtain ⟨h0, L, cs, ty, fr, us, h1, h2, h3, h4, h5, h6, h7, h8, h9, h10⟩ := R.blk id _ hid
  have hlen := hv.length
  have hb : L.b < w.heap.size := (R.own id L h1).2
  have hrun := run_storeCells P vs w L.b (L.base + off) 0 cs ty fr h3 h4 hone (by omega)
  refine ⟨L, _, h1, h0, hrun, ?_⟩
  by_cases hnil : vs = []
  · subst hnil
    have : ys = [] := List.eq_nil_of_length_eq_zero (by simpa using hlen.symm)
    subst this
    simp only [if_true]
    refine ⟨⟨R.base, R.fresh, R.inj, R.own, R.lim, fun i B hB => ?_, fun i B hB => ?_⟩, Evol.refl _ _⟩
    · simp only [St.set] at hB
      split at hB
      · simp at hB; subst hB; rename_i he; subst he; exact R.blk _ _ hid
      · exact R.blk i B hB
    · simp only [St.set] at hB
      split at hB
      · rename_i he; subst he; exact R.dom _ _ hid
      · exact R.dom i B hB
  · simp only [if_neg hnil]
    have E : Evol C w C (World.setBlk w L.b (.cells (aput cs (L.base + off + 0) vs) ty fr)) := by
      refine ⟨rfl, rfl, rfl, (by first | exact Nat.le_refl _ | exact Nat.le_succ _), by simp [World.setBlk_size], rfl, fun k hk => ?_, fun _ => Nat.le_refl _, fun b o u ho hc => ?_, fun _ => Nat.le_refl _, fun _ _ h _ => h⟩
      · exact World.setBlk_other _ _ _ _ (by have := (R.own id L h1).1; omega)
      · by_cases hbb : b = L.b
        · subst hbb
          rw [cell_of h3] at hc
          rw [cell_of (World.setBlk_heap _ _ _ hb), aput_get_lt _ _ _ _ (by omega)]; exact hc
        · have := World.setBlk_other w L.b b (.cells (aput cs (L.base + off + 0) vs) ty fr) hbb
          simp only [World.cell?, this]; exact hc
    refine ⟨⟨by rw [World.setBlk_size]; exact R.base, R.fresh, R.inj, fun i M hM => by rw [World.setBlk_size]; exact R.own i M hM, fun b hbz => R.lim b (by rw [World.setBlk_size] at hbz; exact hbz), fun i B hB => ?_, fun i B hB => ?_⟩, E⟩
    · simp only [St.set] at hB
      split at hB
      · simp at hB; subst hB; rename_i he; subst he
        simp only [BRel]
        refine ⟨h0, L, aput cs (L.base + off) vs, ty, fr, Abs.lput us off vs, h1, h2, World.setBlk_heap _ _ _ hb, fun o ho => h4 o (by rw [aput_size] at ho; exact ho), by rw [aput_size]; exact h5, by rw [lput_length]; exact h6, h7, by rw [lput_length, lput_length]; exact h8, ?_, VRels.evol E _ _ (VRels.lput off h10 hv)⟩
        intro j u hu
        have key : ∀ (vs us : List Value) (cs : Array Value) (off : Nat), off + vs.length ≤ us.length → L.base + us.length ≤ cs.size → (∀ i u, us[i]? = some u → cs[L.base + i]? = some u) → ∀ j u, (Abs.lput us off vs)[j]? = some u → (aput cs (L.base + off) vs)[L.base + j]? = some u := by
          intro vs
          induction vs with
          | nil => intro us cs off _ _ h j u hu; exact h j u hu
          | cons v vs ih =>
            intro us cs off hle hsz h j u hu
            simp at hle
            rw [aput_cons, show L.base + off + 1 = L.base + (off + 1) from by omega]
            refine ih (us.set off v) _ (off + 1) (by simp; omega) (by simpa using hsz) (fun i u hi => ?_) j u hu
            rw [List.getElem?_set] at hi
            split at hi
            · rename_i he; subst he
              split at hi
              · simp at hi; subst hi
                rw [Array.getElem?_setIfInBounds_self_of_lt (by omega)]
              · cases hi
            · rename_i he
              rw [Array.getElem?_setIfInBounds_ne (by omega)]; exact h i u hi
        exact key vs us cs off (by omega) (by omega) h9 j u hu
      · rename_i hne
        refine BRel.evol E rfl (fun M hM => ⟨?_, rfl⟩) B (R.blk i B hB)
        refine World.setBlk_other _ _ _ _ (fun he => hne (R.inj i id M L hM h1 he))
    · simp only [St.set] at hB
      split at hB
      · rename_i he; subst he; exact R.dom _ _ hid
      · exact R.dom i B hB
end Go.Abs
set_option linter.unusedVariables false
set_option linter.unusedSimpArgs false
namespace Go.Abs

def Ctx.keep (C : Ctx) (b n : Nat) : Ctx := { C with lim := fun i => if i = b then n else C.lim i }

/-- A new row that is kept for good. -/
theorem Rel.alloc_list {C : Ctx} {σ : St} {w : World} (R : Rel C σ w) (ty : TypeId) (cells : List AV) (us : List Value) (len : Nat) (h : VRels C w cells us) :
    let C' := C.keep w.heap.size us.length
    let w' := w.alloc (.cells us.toArray ty)
    Rel C' σ w' ∧ Evol C w C' w' ∧ VRel C' w' (.list cells len (some len)) (.slice (some ⟨w.heap.size, 0, none⟩) len len) := by
  intro C' w'
  have hbase := R.base
  have hl0 : C.lim w.heap.size = 0 := R.lim _ (Nat.le_refl _)
  have E : Evol C w C' w' := by
    refine ⟨rfl, rfl, rfl, (by first | exact Nat.le_refl _ | exact Nat.le_succ _), by simp [w'], rfl, fun k hk => ?_, fun b => ?_, fun b o u ho hc => ?_, fun _ => Nat.le_refl _, fun _ _ h _ => h⟩
    · show (w.heap.push _)[k]? = _
      rw [Array.getElem?_push, if_neg (by omega)]
    · simp only [C', Ctx.keep]; split
      · rename_i he; subst he; omega
      · exact Nat.le_refl _
    · have := World.block_lt_of_cell? w _ hc
      simp only [w']; rw [World.cell?_alloc_lt _ _ _ this]; exact hc
  have hold : ∀ k, k < w.heap.size → w'.heap[k]? = w.heap[k]? := fun k hk => by
    show (w.heap.push _)[k]? = _
    rw [Array.getElem?_push, if_neg (by omega)]
  refine ⟨⟨by simp [C', Ctx.keep, w']; omega, R.fresh, R.inj, fun i L hL => ?_, fun b hb => ?_, fun i B hB => ?_, R.dom⟩, E, ?_⟩
  · have := R.own i L hL; simp [C', Ctx.keep, w']; omega
  · simp [w'] at hb
    simp only [C', Ctx.keep]; rw [if_neg (by omega)]; exact R.lim b (by omega)
  · refine BRel.evol E rfl (fun L hL => ⟨hold _ (R.own i L hL).2, ?_⟩) B (R.blk i B hB)
    simp only [C', Ctx.keep]; rw [if_neg (by have := (R.own i L hL).2; omega)]
  · simp only [VRel]
    refine ⟨w.heap.size, 0, len, us, rfl, Nat.le_refl _, fun k hk => by simpa using hk, ?_, h.length, fun i u hu => ?_, VRels.evol E _ _ h⟩
    · simp only [C', Ctx.keep, if_true]; have := h.length; omega
    · have hi := (List.getElem?_eq_some_iff.1 hu).1
      simp [w']; simpa using hu

theorem Rel.drew {C : Ctx} {σ : St} {w : World} (R : Rel C σ w) : Rel C σ w.drew ∧ Evol C w C w.drew := by
  have E : Evol C w C w.drew := ⟨rfl, rfl, rfl, Nat.le_succ _, Nat.le_refl _, rfl, fun _ _ => rfl, fun _ => Nat.le_refl _, fun _ _ _ _ h => h, fun _ => Nat.le_refl _, fun _ _ h _ => h⟩
  exact ⟨⟨R.base, R.fresh, R.inj, R.own, R.lim, fun i B hB => BRel.evol E rfl (fun _ _ => ⟨rfl, rfl⟩) B (R.blk i B hB), R.dom⟩, E⟩

theorem growBy_le (n : Nat) : ∀ (r c : Nat), c ≤ 2 * n + 192 → Builtin.growBy n r c ≤ 2 * n + 192
  | 0, c, h => h
  | r + 1, c, h => by
    unfold Builtin.growBy
    split
    · exact h
    · exact growBy_le n r _ (by omega)

theorem nextslicecap_le (need c : Nat) (h : c < need) : Builtin.nextslicecap need c ≤ 2 * need + 192 := by
  unfold Builtin.nextslicecap
  split
  · omega
  · split
    · omega
    · exact growBy_le _ _ _ (by omega)

/-- What an element type is like. -/
structure ElemOf (P : Program) (sT xT : TypeId) (e : TypeId) (es bytes : Nat) (z : Value) : Prop where
  sl : P.underlying sT = some (.slice e)
  xt : ∃ d, P.underlying xT = some d ∧ ∀ k, d ≠ .int k
  info : ∃ i, P.info? e = some i ∧ i.size = es ∧ i.bytes = bytes ∧ i.zero = some z
  pos : 0 < es
  bytesLe : bytes ≤ 16384

/-- What is appended, as cells. -/
def Source (C : Ctx) (w : World) (P : Program) (es k : Nat) (ys : List AV) (x : Value) : Prop :=
  ∃ vs : List Value, VRels C w ys vs ∧ (Builtin.lenOf x).run P w = .ok k w ∧ ys.length = k * es ∧
    ∀ w', (∀ b o u, w.cell? ⟨b, o, none⟩ = some u → w'.cell? ⟨b, o, none⟩ = some u) → (Builtin.firstCells es k x).run P w' = .ok vs.toArray w'

theorem run_append_room {P : Program} {sT xT e : TypeId} {es bytes : Nat} {z : Value} (H : ElemOf P sT xT e es bytes z) (w : World) (b o len c k : Nat) (x : Value) (vs : List Value)
    (hk : (Builtin.lenOf x).run P w = .ok k w) (hx : (Builtin.firstCells es k x).run P w = .ok vs.toArray w) (hroom : len + k ≤ c) {w' : World}
    (hst : (storeCells ⟨b, o + len * es, none⟩ vs).run P w = .ok () w') (T : TypeId) :
    (Builtin.append_ #[sT, xT] T #[.slice (some ⟨b, o, none⟩) len c, x]).run P w = .ok (.slice (some ⟨b, o, none⟩) (len + k) c) w' := by
  obtain ⟨d, hd, hdi⟩ := H.xt
  obtain ⟨i, hi, hs, _, _⟩ := H.info
  have hsz : (sizeOf e).run P w = .ok es w := by simp [sizeOf, typeInfo, hi, hs]
  have hz : (match d with | .int _ => true | _ => false) = false := by
    cases d with
    | int q => exact absurd rfl (hdi q)
    | _ => rfl
  simp only [Builtin.append_]
  simp [underlying, H.sl, hd, hsz, hz, hk, hroom, hx, addr_add, hst]

theorem run_append_grow {P : Program} {sT xT e : TypeId} {es bytes : Nat} {z : Value} (H : ElemOf P sT xT e es bytes z) (w : World) (s : Value) (a : Option Addr) (len c k : Nat) (x : Value) (us vs : List Value)
    (hs : s = .slice a len c) (hk : (Builtin.lenOf x).run P w = .ok k w) (hgrow : c < len + k) (hle : len + k ≤ 4294967296)
    (hus : ∀ w', (∀ b o u, w.cell? ⟨b, o, none⟩ = some u → w'.cell? ⟨b, o, none⟩ = some u) → (Builtin.firstCells es len s).run P w' = .ok us.toArray w')
    (hx : ∀ w', (∀ b o u, w.cell? ⟨b, o, none⟩ = some u → w'.cell? ⟨b, o, none⟩ = some u) → (Builtin.firstCells es k x).run P w' = .ok vs.toArray w') (T : TypeId) :
    ∃ cap rest, len + k ≤ cap ∧ rest.length = (cap - (len + k)) * z.cells.size ∧
      (Builtin.append_ #[sT, xT] T #[s, x]).run P w = .ok (.slice (some ⟨w.heap.size, 0, none⟩) (len + k) cap) (w.drew.alloc (.cells ((us ++ vs) ++ rest).toArray e)) := by
  subst hs
  obtain ⟨d, hd, hdi⟩ := H.xt
  obtain ⟨i, hi, hsz0, hby, hze⟩ := H.info
  have hsz : ∀ w', (sizeOf e).run P w' = .ok es w' := fun w' => by simp [sizeOf, typeInfo, hi, hsz0]
  have hz : (match d with | .int _ => true | _ => false) = false := by
    cases d with
    | int q => exact absurd rfl (hdi q)
    | _ => rfl
  have hcap : ¬ (Builtin.nextslicecap (len + k) c * bytes > 2 ^ 48) := by
    have h1 := nextslicecap_le (len + k) c hgrow
    have h2 := H.bytesLe
    have : Builtin.nextslicecap (len + k) c * bytes ≤ (2 * 4294967296 + 192) * 16384 := Nat.mul_le_mul (by omega) h2
    omega
  have hmax : ¬ (((len + k : Nat) : Int) > IntKind.i64.max) := by
    have : IntKind.i64.max = 9223372036854775807 := by decide
    omega
  let q : Question := .appendCap (len + k) c e
  let cap := q.cut (w.tape w.drawn q)
  have hcapge : len + k ≤ cap := by simp only [cap, q, Question.cut]; omega
  refine ⟨cap, (Builtin.zeroCells z.cells (cap - (len + k))).toList, hcapge, by simp [Builtin.zeroCells], ?_⟩
  have hforced : q.forced = false := rfl
  have hw : ∀ b o u, w.cell? ⟨b, o, none⟩ = some u → w.drew.cell? ⟨b, o, none⟩ = some u := fun _ _ _ h => h
  have h1 := hus w.drew hw
  have h2 := hx w.drew hw
  simp only [Builtin.append_]
  simp [underlying, H.sl, hd, hsz, hz, hk, show ¬ (len + k ≤ c) from by omega, typeInfo, hi, hby, show ¬ (2 ^ 48 < Builtin.nextslicecap (len + k) c * bytes) from hcap, h1, h2, zeroValue, hze, newRow]
  have hm2 : ¬ (IntKind.i64.max < (len : Int) + (k : Int)) := by simpa using hmax
  rw [if_neg (by omega), if_neg (by simp [Question.forced])]
  simp only [cap, q]
  congr 2
  congr 1
  apply Array.ext'
  simp

/-- What is appended to a slice that owns its row. -/
theorem Rel.append_sl {P : Program} {sT xT e : TypeId} {es bytes : Nat} {z : Value} (H : ElemOf P sT xT e es bytes z) (hz : z.cells.size = es) {C : Ctx} {σ : St} {w : World} (R : Rel C σ w)
    {id gen fz off len k : Nat} {cells ys : List AV} (hid : σ.heap id = some (.arr es cells gen fz)) (hin : off + len * es ≤ cells.length) (hfz : fz ≤ off + len * es)
    (hk0 : 0 < k) (hle : len + k ≤ 4294967296) {s x : Value} (hs : VRel C w (.sl id gen off len) s) (hx : Source C w P es k ys x)
    (hone : ∀ vs : List Value, VRels C w ys vs → ∀ u ∈ vs, u.oneCell' = true) (T : TypeId) :
    ∃ C' w' v, (Builtin.append_ #[sT, xT] T #[s, x]).run P w = .ok v w' ∧
      Rel C' (σ.set id (.arr es ((cells.drop off).take (len * es) ++ ys) (gen + 1) (fz - off))) w' ∧ Evol C w C' w' ∧ VRel C' w' (.sl id (gen + 1) 0 (len + k)) v := by
  obtain ⟨h0, L, cs, ty, fr, us, h1, h2, h3, h4, h5, h6, h7, h8, h9, h10⟩ := R.blk id _ hid
  simp only [VRel] at hs
  obtain ⟨a, c, hs, hc1, hg, hs2⟩ := hs
  obtain ⟨L', o', hL', ha, hoo, hoc, hc2⟩ := hs2 h0
  rw [h1] at hL'; cases hL'
  subst ha
  obtain ⟨vs, hv, hlen, hyl, hfc⟩ := hx
  have hvl := hv.length
  have hb : L.b < w.heap.size := (R.own id L h1).2
  have hbase := R.base
  have hpos := H.pos
  rw [h2] at hc2
  have hidlt : id < σ.nx := R.dom _ _ hid
  -- the cells that the slice has
  have hold : ∀ i u, ((us.drop off).take (len * es))[i]? = some u → cs[L.base + off + i]? = some u := by
    intro i u hu
    rw [List.getElem?_take] at hu
    split at hu
    · rw [List.getElem?_drop] at hu
      have := h9 _ u hu
      rw [show L.base + off + i = L.base + (off + i) from by omega]; exact this
    · cases hu
  by_cases hroom : len + k ≤ c
  · -- in its own row
    have hmul : (len + k) * es ≤ c * es := Nat.mul_le_mul_right es hroom
    have hsum : (len + k) * es = len * es + k * es := Nat.add_mul _ _ _
    have hone' := hone vs hv
    have hoo2 : off = o' := by
      rcases hoc with h | h
      · omega
      · exact h.symm
    subst hoo2
    have hst := run_storeCells P vs w L.b (L.base + off + len * es) 0 cs ty fr h3 h4 hone' (by omega)
    have hne : vs ≠ [] := by
      intro he; rw [he] at hvl; simp at hvl
      have : 0 < k * es := Nat.mul_pos hk0 hpos
      omega
    rw [if_neg hne] at hst
    have hrun := run_append_room H w L.b (L.base + off) len c k x vs hlen (hfc w fun _ _ _ h => h) hroom hst T
    subst hs
    let L2 : Loc := ⟨L.b, L.base + off, es, L.cap - off⟩
    let C' : Ctx := { C with rho := fun i => if i = id then some L2 else C.rho i, gen := fun i => if i = id then gen + 1 else C.gen i }
    let w' := World.setBlk w L.b (.cells (aput cs (L.base + off + len * es + 0) vs) ty fr)
    have E : Evol C w C' w' := by
      refine ⟨rfl, rfl, rfl, (by first | exact Nat.le_refl _ | exact Nat.le_succ _), by simp [w', World.setBlk_size], rfl, fun q hq => ?_, fun _ => Nat.le_refl _, fun b o u ho hc => ?_, fun i => ?_, fun i p hp hgi => ?_⟩
      · exact World.setBlk_other _ _ _ _ (by have := (R.own id L h1).1; omega)
      · by_cases hbb : b = L.b
        · subst hbb
          rw [cell_of h3] at hc
          simp only [w']
          rw [cell_of (World.setBlk_heap _ _ _ hb), aput_get_lt _ _ _ _ (by omega)]; exact hc
        · have := World.setBlk_other w L.b b (.cells (aput cs (L.base + off + len * es + 0) vs) ty fr) hbb
          simp only [w', World.cell?, this]; exact hc
      · simp only [C']; split
        · rename_i he; subst he; omega
        · exact Nat.le_refl _
      · simp only [C'] at hgi ⊢
        split at hgi
        · rename_i he; subst he; omega
        · rename_i he; rw [if_neg he]; exact hp
    refine ⟨C', w', _, hrun, ⟨by simp only [w', World.setBlk_size]; exact hbase, fun i hi => ?_, fun i j M N hi hj hbb => ?_, fun i M hM => ?_, fun b hbz => R.lim b (by simpa [w', World.setBlk_size] using hbz), fun i B hB => ?_, fun i B hB => ?_⟩, E, ?_⟩
    · have hi' : σ.nx ≤ i := hi
      simp only [C']; rw [if_neg (by omega), if_neg (by omega)]; exact R.fresh i hi'
    · simp only [C'] at hi hj
      split at hi <;> split at hj
      · omega
      · simp at hi; subst hi; rename_i he hne2; subst he
        exact R.inj _ _ L N h1 hj hbb
      · simp at hj; subst hj; rename_i hne2 he; subst he
        exact R.inj _ _ M L hi h1 hbb
      · exact R.inj i j M N hi hj hbb
    · simp only [C'] at hM
      simp only [w', World.setBlk_size]
      split at hM
      · simp at hM; subst hM; exact R.own id L h1
      · exact R.own i M hM
    · simp only [St.set] at hB
      split at hB
      · simp at hB; subst hB; rename_i he; subst he
        simp only [BRel]
        refine ⟨by simp [C'], L2, aput cs (L.base + off + len * es) vs, ty, fr, (us.drop off).take (len * es) ++ vs, by simp [C'], rfl, World.setBlk_heap _ _ _ hb,
          fun o ho => h4 o (by rw [aput_size] at ho; exact ho), by rw [aput_size]; simp only [L2]; omega, ?_, ?_, ?_, ?_, ?_⟩
        · simp only [List.length_append, List.length_take, List.length_drop, L2]; omega
        · simp only [C', L2]; omega
        · simp only [List.length_append, List.length_take, List.length_drop]; omega
        · intro j u hu
          simp only [L2]
          have hl1 : ((us.drop off).take (len * es)).length = len * es := by simp only [List.length_take, List.length_drop]; omega
          by_cases hj : j < len * es
          · rw [List.getElem?_append_left (by omega)] at hu
            rw [aput_get_lt _ _ _ _ (by omega)]; exact hold j u hu
          · rw [List.getElem?_append_right (by omega), hl1] at hu
            have hjl := (List.getElem?_eq_some_iff.1 hu).1
            have := aput_get vs cs (L.base + off + len * es) (j - len * es) (by omega) hjl
            rw [show L.base + off + j = L.base + off + len * es + (j - len * es) from by omega, this]; exact hu
        · exact VRels.append ((VRels.evol E _ _ ((h10.drop off).take (len * es)))) (VRels.evol E _ _ hv)
      · rename_i hne2
        refine BRel.evol E (by simp only [C']; rw [if_neg hne2]) (fun M hM => ⟨?_, rfl⟩) B (R.blk i B hB)
        exact World.setBlk_other _ _ _ _ (fun he => hne2 (R.inj i id M L hM h1 he))
    · simp only [St.set] at hB
      split at hB
      · rename_i he; subst he; exact hidlt
      · exact R.dom i B hB
    · simp only [VRel]
      refine ⟨_, c, rfl, hroom, by simp [C'], fun _ => ⟨L2, 0, by simp [C'], by simp [L2], Nat.le_refl _, .inr rfl, ?_⟩⟩
      simp only [L2]; omega
  · -- in a new row
    have hsrc : ∀ w', (∀ b o u, w.cell? ⟨b, o, none⟩ = some u → w'.cell? ⟨b, o, none⟩ = some u) → (Builtin.firstCells es len s).run P w' = .ok ((us.drop off).take (len * es)).toArray w' := by
      intro w' hw'
      subst hs
      simp only [Builtin.firstCells]
      rcases hoc with hz0 | rfl
      · have : len = 0 := by omega
        subst this
        simp [loadCells, loadCellsFrom]
      refine run_loadCells P w' L.b (L.base + o') (len * es) _ (by simp only [List.length_take, List.length_drop]; omega) fun j u hu => ?_
      exact hw' _ _ _ (by rw [cell_of h3]; exact hold j u hu)
    obtain ⟨cap, rest, hcap, hrl, hrun⟩ := run_append_grow H w s (some ⟨L.b, L.base + o', none⟩) len c k x ((us.drop off).take (len * es)) vs hs hlen (by omega) hle hsrc hfc T
    let L2 : Loc := ⟨w.heap.size, 0, es, cap * es⟩
    let C' : Ctx := { C with rho := fun i => if i = id then some L2 else C.rho i, gen := fun i => if i = id then gen + 1 else C.gen i }
    let w' := w.drew.alloc (.cells (((us.drop off).take (len * es) ++ vs) ++ rest).toArray e)
    have hheap : ∀ q, q < w.heap.size → w'.heap[q]? = w.heap[q]? := fun q hq => by
      show (w.heap.push _)[q]? = _
      rw [Array.getElem?_push, if_neg (by omega)]
    have E : Evol C w C' w' := by
      refine ⟨rfl, rfl, rfl, (by first | exact Nat.le_refl _ | exact Nat.le_succ _), by simp [w'], rfl, fun q hq => hheap q (by omega), fun _ => Nat.le_refl _, fun b o u ho hc => ?_, fun i => ?_, fun i p hp hgi => ?_⟩
      · have := World.block_lt_of_cell? w _ hc
        exact (World.cell?_alloc_lt w.drew _ _ this).trans hc
      · simp only [C']; split
        · rename_i he; subst he; omega
        · exact Nat.le_refl _
      · simp only [C'] at hgi ⊢
        split at hgi
        · rename_i he; subst he; omega
        · rename_i he; rw [if_neg he]; exact hp
    refine ⟨C', w', _, hrun, ⟨by simp [w', C']; omega, fun i hi => ?_, fun i j M N hi hj hbb => ?_, fun i M hM => ?_, fun b hbz => R.lim b (by simp [w'] at hbz; omega), fun i B hB => ?_, fun i B hB => ?_⟩, E, ?_⟩
    · have hi' : σ.nx ≤ i := hi
      simp only [C']; rw [if_neg (by omega), if_neg (by omega)]; exact R.fresh i hi'
    · simp only [C'] at hi hj
      split at hi <;> split at hj
      · omega
      · simp at hi; subst hi
        have := (R.own j N hj).2; simp [L2] at hbb; omega
      · simp at hj; subst hj
        have := (R.own i M hi).2; simp [L2] at hbb; omega
      · exact R.inj i j M N hi hj hbb
    · simp only [C'] at hM
      split at hM
      · simp at hM; subst hM; simp [w', L2, C']; omega
      · have := R.own i M hM; simp [w', C']; omega
    · simp only [St.set] at hB
      split at hB
      · simp at hB; subst hB; rename_i he; subst he
        simp only [BRel]
        have hmul : (len + k) * es ≤ cap * es := Nat.mul_le_mul_right es hcap
        have hsum : (len + k) * es = len * es + k * es := Nat.add_mul _ _ _
        have hsub : (cap - (len + k)) * es = cap * es - (len + k) * es := Nat.sub_mul _ _ _
        refine ⟨by simp [C'], L2, ((us.drop off).take (len * es) ++ vs ++ rest).toArray, e, (0, 0), (us.drop off).take (len * es) ++ vs, by simp [C'], rfl, ?_, fun o _ hh => by simp at hh, ?_, ?_, ?_, ?_, ?_, ?_⟩
        · show (w.heap.push _)[w.heap.size]? = _
          simp
        · simp only [List.size_toArray, List.length_append, List.length_take, List.length_drop, hrl, hz, L2]; omega
        · simp only [List.length_append, List.length_take, List.length_drop, L2]; omega
        · simp only [C', L2]; rw [R.lim _ (Nat.le_refl _)]; omega
        · simp only [List.length_append, List.length_take, List.length_drop]; omega
        · intro j u hu
          have hj := (List.getElem?_eq_some_iff.1 hu).1
          simp only [L2, Nat.zero_add, List.getElem?_toArray]
          rw [List.getElem?_append_left hj]; exact hu
        · exact VRels.append (VRels.evol E _ _ ((h10.drop off).take (len * es))) (VRels.evol E _ _ hv)
      · rename_i hne2
        refine BRel.evol E (by simp only [C']; rw [if_neg hne2]) (fun M hM => ⟨hheap _ (R.own i M hM).2, rfl⟩) B (R.blk i B hB)
    · simp only [St.set] at hB
      split at hB
      · rename_i he; subst he; exact hidlt
      · exact R.dom i B hB
    · simp only [VRel]
      refine ⟨_, cap, rfl, hcap, by simp [C'], fun _ => ⟨L2, 0, by simp [C'], by simp [L2], Nat.le_refl _, .inr rfl, by simp [L2]⟩⟩

/-- What is appended to nothing, or to a row that is full: a new identity. -/
theorem Rel.append_new {P : Program} {sT xT e : TypeId} {es bytes : Nat} {z : Value} (H : ElemOf P sT xT e es bytes z) (hz : z.cells.size = es) {C : Ctx} {σ : St} {w : World} (R : Rel C σ w)
    {len k : Nat} {xs ys : List AV} (hk0 : 0 < k) (hle : len + k ≤ 4294967296) {s x : Value} (hxs : xs.length = len * es)
    (hs : (VRel C w .snil s ∧ len = 0) ∨ VRel C w (.list xs len (some len)) s) (hx : Source C w P es k ys x) (T : TypeId) :
    ∃ C' w' v, (Builtin.append_ #[sT, xT] T #[s, x]).run P w = .ok v w' ∧
      Rel C' (σ.new (.arr es (xs ++ ys) 0 0)) w' ∧ Evol C w C' w' ∧ VRel C' w' (.sl σ.nx 0 0 (len + k)) v := by
  obtain ⟨vs, hv, hlen, hyl, hfc⟩ := hx
  have hvl := hv.length
  have hsh : ∃ a c us, s = .slice a len c ∧ c < len + k ∧ VRels C w xs us ∧
      (∀ w', (∀ b o u, w.cell? ⟨b, o, none⟩ = some u → w'.cell? ⟨b, o, none⟩ = some u) → (Builtin.firstCells es len s).run P w' = .ok us.toArray w') := by
    rcases hs with ⟨hs, rfl⟩ | hs
    · simp only [VRel] at hs
      have : xs = [] := List.eq_nil_of_length_eq_zero (by simpa using hxs)
      subst this
      exact ⟨none, 0, [], hs, by omega, VRels.nil, fun w' _ => by subst hs; simp [Builtin.firstCells]⟩
    · simp only [VRel] at hs
      obtain ⟨b, o, c, us, hs, _, hcap, _, hul, hc, hx⟩ := hs
      have := hcap len rfl
      subst this
      refine ⟨_, _, us, hs, by omega, hx, fun w' hw' => ?_⟩
      subst hs
      exact run_loadCells P w' b o _ us (by omega) fun j u hu => hw' _ _ _ (hc j u hu)
  obtain ⟨a, c, us, hse, hc, hus, hsrc⟩ := hsh
  obtain ⟨cap, rest, hcap, hrl, hrun⟩ := run_append_grow H w s a len c k x us vs hse hlen (by omega) hle hsrc hfc T
  obtain ⟨RD, ED⟩ := R.drew
  have hul := hus.length
  have hall := VRels.append (VRels.evol ED _ _ hus) (VRels.evol ED _ _ hv)
  obtain ⟨R', E'⟩ := RD.alloc_arr es e (xs ++ ys) (us ++ vs) rest hall
  refine ⟨_, _, _, hrun, R', ED.trans E', ?_⟩
  simp only [VRel]
  refine ⟨_, cap, rfl, hcap, Nat.zero_le _, fun _ => ⟨⟨w.drew.heap.size, 0, es, (us ++ vs).length + rest.length⟩, 0, by simp [Ctx.put], by simp, Nat.le_refl _, .inr rfl, ?_⟩⟩
  have hsub : (cap - (len + k)) * es = cap * es - (len + k) * es := Nat.sub_mul _ _ _
  have hmul : (len + k) * es ≤ cap * es := Nat.mul_le_mul_right es hcap
  have hsum : (len + k) * es = len * es + k * es := Nat.add_mul _ _ _
  simp only [hrl, hz, List.length_append]; omega
end Go.Abs
set_option linter.unusedVariables false
set_option linter.unusedSimpArgs false
namespace Go.Abs

theorem ba_beq (a b : List UInt8) : ((⟨a.toArray⟩ : ByteArray) == ⟨b.toArray⟩) = decide (a = b) := by
  show (a.toArray == b.toArray) = _
  by_cases h : a = b
  · subst h; simp
  · rw [decide_eq_false h]; simpa using h

def getI (es : List (Int × AV)) (k : Int) : Option AV := match es with
  | [] => none
  | e :: es => if k = e.1 then some e.2 else getI es k
def putI (es : List (Int × AV)) (k : Int) (v : AV) : List (Int × AV) := match es with
  | [] => [(k, v)]
  | e :: es => if k = e.1 then (k, v) :: es else e :: putI es k v
def delI (es : List (Int × AV)) (k : Int) : List (Int × AV) := match es with
  | [] => []
  | e :: es => if k = e.1 then es else e :: delI es k
def getS (es : List (List UInt8 × AV)) (k : List UInt8) : Option AV := match es with
  | [] => none
  | e :: es => if k = e.1 then some e.2 else getS es k
def putS (es : List (List UInt8 × AV)) (k : List UInt8) (v : AV) : List (List UInt8 × AV) := match es with
  | [] => [(k, v)]
  | e :: es => if k = e.1 then (k, v) :: es else e :: putS es k v

theorem findNowI {C : Ctx} {w : World} {kk : IntKind} {jj : IntKind} (k : Int) : ∀ (es : List (Int × AV)) (ms : List MapEntry) (i : Nat), entI C w kk es ms →
    (∃ r, Instr.findNow (.int jj) (.int kk k) ms i = some r ∧
      match getI es k with
      | some v => ∃ j m, r = some (i + j, m.val) ∧ ms[j]? = some m ∧ m.key = .int kk k ∧ VRel C w v m.val ∧
          (∀ v' (u : Value), VRel C w v' u → ∀ f : MapEntry → MapEntry, (f m).key = .int kk k → (f m).val = u → entI C w kk (putI es k v') (ms.modify j f)) ∧ entI C w kk (delI es k) (ms.eraseIdx j)
      | none => r = none ∧ (∀ v' (m : MapEntry), m.key = .int kk k → VRel C w v' m.val → entI C w kk (putI es k v') (ms ++ [m])) ∧ delI es k = es)
  | [], ms, i, h => by
    simp only [entI] at h; subst h
    refine ⟨none, by simp [Instr.findNow], ?_⟩
    simp only [getI]
    refine ⟨trivial, fun v' m hk hv => ?_, rfl⟩
    simp only [putI, entI, List.nil_append]
    exact ⟨m, [], rfl, hk, hv, rfl⟩
  | e :: es, ms, i, h => by
    simp only [entI] at h
    obtain ⟨m, r, rfl, hk, hv, hr⟩ := h
    by_cases he : k = e.1
    · refine ⟨some (i, m.val), by simp [Instr.findNow, Instr.sameNow, hk, he], ?_⟩
      simp only [getI, if_pos he]
      refine ⟨0, m, by simp, by simp, by rw [hk, he], hv, fun v' u hu f hf1 hf2 => ?_, ?_⟩
      · simp only [putI, if_pos he, List.modify_zero_cons, entI]
        exact ⟨f m, r, rfl, hf1, by rw [hf2]; exact hu, hr⟩
      · simp only [delI, if_pos he, List.eraseIdx_zero, List.tail_cons]; exact hr
    · obtain ⟨q, hq, hm⟩ := findNowI (jj := jj) k es r (i + 1) hr
      have hne : (k == e.1) = false := by simpa using he
      refine ⟨q, by simp [Instr.findNow, Instr.sameNow, hk, hne, hq], ?_⟩
      simp only [getI, if_neg he]
      cases hg : getI es k with
      | none =>
        simp only [hg] at hm
        obtain ⟨h1, h2, h3⟩ := hm
        refine ⟨h1, fun v' m' hk' hv' => ?_, by simp only [delI, if_neg he, h3]⟩
        simp only [putI, if_neg he, entI, List.cons_append]
        exact ⟨m, r ++ [m'], rfl, hk, hv, h2 v' m' hk' hv'⟩
      | some v =>
        simp only [hg] at hm
        obtain ⟨j, m2, h1, h2, h3, h4, h5, h6⟩ := hm
        refine ⟨j + 1, m2, by rw [h1]; congr 2; omega, by simpa using h2, h3, h4, fun v' u hu f hf1 hf2 => ?_, ?_⟩
        · simp only [putI, if_neg he, List.modify_succ_cons, entI]
          exact ⟨m, _, rfl, hk, hv, h5 v' u hu f hf1 hf2⟩
        · simp only [delI, if_neg he, List.eraseIdx_cons_succ, entI]
          exact ⟨m, _, rfl, hk, hv, h6⟩

theorem findNowS {C : Ctx} {w : World} (k : List UInt8) : ∀ (es : List (List UInt8 × AV)) (ms : List MapEntry) (i : Nat), entS C w es ms →
    (∃ r, Instr.findNow .string (.string ⟨k.toArray⟩) ms i = some r ∧
      match getS es k with
      | some v => ∃ j m, r = some (i + j, m.val) ∧ ms[j]? = some m ∧ m.key = .string ⟨k.toArray⟩ ∧ VRel C w v m.val ∧
          (∀ v' (u : Value), VRel C w v' u → ∀ f : MapEntry → MapEntry, (f m).key = .string ⟨k.toArray⟩ → (f m).val = u → entS C w (putS es k v') (ms.modify j f))
      | none => r = none ∧ (∀ v' (m : MapEntry), m.key = .string ⟨k.toArray⟩ → VRel C w v' m.val → entS C w (putS es k v') (ms ++ [m])))
  | [], ms, i, h => by
    simp only [entS] at h; subst h
    refine ⟨none, by simp [Instr.findNow], ?_⟩
    simp only [getS]
    refine ⟨trivial, fun v' m hk hv => ?_⟩
    simp only [putS, entS, List.nil_append]
    exact ⟨m, [], rfl, hk, hv, rfl⟩
  | e :: es, ms, i, h => by
    simp only [entS] at h
    obtain ⟨m, r, rfl, hk, hv, hr⟩ := h
    by_cases he : k = e.1
    · refine ⟨some (i, m.val), by simp [Instr.findNow, Instr.sameNow, hk, he, ba_beq], ?_⟩
      simp only [getS, if_pos he]
      refine ⟨0, m, by simp, by simp, by rw [hk, he], hv, fun v' u hu f hf1 hf2 => ?_⟩
      simp only [putS, if_pos he, List.modify_zero_cons, entS]
      exact ⟨f m, r, rfl, hf1, by rw [hf2]; exact hu, hr⟩
    · obtain ⟨q, hq, hm⟩ := findNowS k es r (i + 1) hr
      refine ⟨q, by simp [Instr.findNow, Instr.sameNow, hk, ba_beq, he, hq], ?_⟩
      simp only [getS, if_neg he]
      cases hg : getS es k with
      | none =>
        simp only [hg] at hm
        obtain ⟨h1, h2⟩ := hm
        refine ⟨h1, fun v' m' hk' hv' => ?_⟩
        simp only [putS, if_neg he, entS, List.cons_append]
        exact ⟨m, r ++ [m'], rfl, hk, hv, h2 v' m' hk' hv'⟩
      | some v =>
        simp only [hg] at hm
        obtain ⟨j, m2, h1, h2, h3, h4, h5⟩ := hm
        refine ⟨j + 1, m2, by rw [h1]; congr 2; omega, by simpa using h2, h3, h4, fun v' u hu f hf1 hf2 => ?_⟩
        simp only [putS, if_neg he, List.modify_succ_cons, entS]
        exact ⟨m, _, rfl, hk, hv, h5 v' u hu f hf1 hf2⟩

/-- A world in which one block is another one. -/
theorem Rel.setObj {C : Ctx} {σ : St} {w : World} (R : Rel C σ w) {id : Nat} {L : Loc} (hL : C.rho id = some L) {o o' : Obj} (ho : w.heap[L.b]? = some o) (hc : ∀ c t f, o ≠ .cells c t f)
    (B : Blk) (hid : id < σ.nx) (hB : Evol C w C (World.setBlk w L.b o') → BRel C (World.setBlk w L.b o') id B) :
    Rel C (σ.set id B) (World.setBlk w L.b o') ∧ Evol C w C (World.setBlk w L.b o') := by
  have hb := R.own id L hL
  have E : Evol C w C (World.setBlk w L.b o') := by
    refine ⟨rfl, rfl, rfl, (by first | exact Nat.le_refl _ | exact Nat.le_succ _), by simp [World.setBlk_size], rfl, fun q hq => World.setBlk_other _ _ _ _ (by omega), fun _ => Nat.le_refl _, fun b p u hp hu => ?_, fun _ => Nat.le_refl _, fun _ _ h _ => h⟩
    by_cases hbb : b = L.b
    · subst hbb
      simp only [World.cell?, ho] at hu
      cases o <;> simp_all
    · have := World.setBlk_other w L.b b o' hbb
      simp only [World.cell?, this]; exact hu
  refine ⟨⟨by rw [World.setBlk_size]; exact R.base, R.fresh, R.inj, fun i M hM => by rw [World.setBlk_size]; exact R.own i M hM, fun b hbz => R.lim b (by rw [World.setBlk_size] at hbz; exact hbz), fun i B' hB' => ?_, fun i B' hB' => ?_⟩, E⟩
  · simp only [St.set] at hB'
    split at hB'
    · simp at hB'; subst hB'; rename_i he; subst he; exact hB E
    · rename_i hne
      refine BRel.evol E rfl (fun M hM => ⟨?_, rfl⟩) B' (R.blk i B' hB')
      exact World.setBlk_other _ _ _ _ (fun he => hne (R.inj i id M L hM hL he))
  · simp only [St.set] at hB'
    split at hB'
    · rename_i he; subst he; exact hid
    · exact R.dom i B' hB'

theorem run_setObj (P : Program) (w : World) (r : Nat) (o o' : Obj) (h : w.heap[r]? = some o) (hc : ∀ c t f, o ≠ .cells c t f) : (Go.setObj r o').run P w = .ok () (World.setBlk w r o') := by
  cases o <;> first | (exact absurd rfl (hc _ _ _)) | (simp only [Go.setObj, Sem.run, h]; rfl)
theorem run_getObj (P : Program) (w : World) (r : Nat) (o : Obj) (h : w.heap[r]? = some o) (hc : ∀ c t f, o ≠ .cells c t f) : (Go.getObj r).run P w = .ok o w := by
  cases o <;> first | (exact absurd rfl (hc _ _ _)) | simp only [Go.getObj, Sem.run, h]

/-- Rows that are kept for good from now on: what a slice that owns them shows is a value. -/
theorem Rel.freeze {C : Ctx} {σ : St} {w : World} (R : Rel C σ w) {id es gen fz off len : Nat} {cells : List AV} (hid : σ.heap id = some (.arr es cells gen fz)) (hin : off + len * es ≤ cells.length)
    {v : Value} (hv : VRel C w (.sl id gen off len) v) :
    ∃ C', Rel C' (σ.set id (.arr es cells gen (max fz (off + len * es)))) w ∧ Evol C w C' w ∧ VRel C' w (.list ((cells.drop off).take (len * es)) len none) v := by
  obtain ⟨h0, L, cs, ty, fr, us, h1, h2, h3, h4, h5, h6, h7, h8, h9, h10⟩ := R.blk id _ hid
  simp only [VRel] at hv
  obtain ⟨a, c, hs, hc1, hg, hs2⟩ := hv
  obtain ⟨L', o', hL', ha, hoo, hoc, hc2⟩ := hs2 h0
  rw [h1] at hL'; cases hL'
  subst ha
  have hb := R.own id L h1
  let C' : Ctx := { C with lim := fun b => if b = L.b then max (C.lim b) (L.base + off + len * es) else C.lim b }
  have E : Evol C w C' w := by
    refine ⟨rfl, rfl, rfl, Nat.le_refl _, Nat.le_refl _, rfl, fun _ _ => rfl, fun b => ?_, fun _ _ _ _ h => h, fun _ => Nat.le_refl _, fun _ _ h _ => h⟩
    simp only [C']; split <;> omega
  refine ⟨C', ⟨R.base, R.fresh, R.inj, R.own, fun b hbz => ?_, fun i B hB => ?_, fun i B hB => ?_⟩, E, ?_⟩
  · simp only [C']; rw [if_neg (by omega)]; exact R.lim b hbz
  · simp only [St.set] at hB
    split at hB
    · simp at hB; subst hB; rename_i he; subst he
      simp only [BRel]
      exact ⟨h0, L, cs, ty, fr, us, h1, h2, h3, h4, h5, h6, by simp only [C', if_true]; omega, h8, h9, VRels.evol E _ _ h10⟩
    · rename_i hne
      refine BRel.evol E rfl (fun M hM => ⟨rfl, ?_⟩) B (R.blk i B hB)
      simp only [C']; rw [if_neg (fun he => hne (R.inj i id M L hM h1 he))]
  · simp only [St.set] at hB
    split at hB
    · rename_i he; subst he; exact R.dom _ _ hid
    · exact R.dom i B hB
  · simp only [VRel]
    refine ⟨L.b, L.base + o', c, (us.drop off).take (len * es), hs, hc1, (fun k hk => by cases hk), ?_, by simp only [List.length_take, List.length_drop]; omega, fun i u hu => ?_, VRels.evol E _ _ ((h10.drop off).take (len * es))⟩
    · simp only [C', if_true, List.length_take, List.length_drop]; omega
    · rw [cell_of h3]
      rw [List.getElem?_take] at hu
      split at hu
      · rename_i hlt
        have hoe : off = o' := by
          rcases hoc with h | h
          · have : len = 0 := by omega
            subst this; omega
          · exact h.symm
        subst hoe
        rw [List.getElem?_drop] at hu
        have := h9 _ u hu
        rw [show L.base + off + i = L.base + (off + i) from by omega]; exact this
      · cases hu
end Go.Abs
set_option linter.unusedVariables false
set_option linter.unusedSimpArgs false
namespace Go.Abs

inductive Opd where
  | t (n : Nat) | c (v : AV) | f (n : FuncId)

abbrev Tm := Nat → AV
def undefA : AV := .tup []
def rd (tm : Tm) : Opd → AV
  | .t n => tm n
  | .c v => v
  | .f n => .fn n []
def upd (tm : Tm) (d : Nat) (v : AV) : Tm := fun i => if i = d then v else tm i
def rds (tm : Tm) : List Opd → List AV
  | [] => []
  | x :: xs => rd tm x :: rds tm xs

def AV.cells : AV → List AV
  | .agg cs => cs
  | v => [v]
/-- Is it what one cell holds? -/
def AV.one : AV → Bool
  | .agg _ | .tup _ => false
  | _ => true

inductive COp where
  | mv (x : Opd) | pick (c a b : Opd)
  | alloc (ty : TypeId) (z : List AV) | box (ty : TypeId) (x : Opd)
  | build (z : List AV) (ps : List (Nat × Nat × Opd))
  | bslice (ty : TypeId) (z : List AV) (es n : Nat) (ps : List (Nat × Opd))
  | mslice (ty : TypeId) (z : List AV) (es bytes : Nat) (l c : Opd)
  | load1 (a : Opd) | loadA (n : Nat) (a : Opd) | store (n : Nat) (a v : Opd) | nilc (x : Opd)
  | bin (op : BinOp) (x y : Opd) | not (x : Opd) | neg (x : Opd)
  | convI (k : IntKind) (x : Opd) | b2s (x : Opd) | s2b (ty : TypeId) (x : Opd)
  | mkfn (f : FuncId) (caps : List Opd) | mkmapI (k : IntKind) | mkmapS
  | slstr (x : Opd) (lo hi : Option Opd) | slsl (es : Nat) (x : Opd) (lo hi : Option Opd)
  | faddr (off : Nat) (x : Opd) | field1 (off : Nat) (x : Opd) | fieldA (off n : Nat) (x : Opd)
  | iaddr (es : Nat) (x i : Opd) | istr (x i : Opd)
  | lookI (k : IntKind) (z : AV) (x i : Opd) (ok : Bool) | lookS (z : AV) (x i : Opd) (ok : Bool)
  | updI (k : IntKind) (m i v : Opd) | updS (m i v : Opd)
  | extr (x : Opd) (i : Nat) | lenS (x : Opd) | lenL (x : Opd) | lenM (x : Opd)
  | app (es : Nat) (a b : Opd) | max (x y : Opd) | min (x y : Opd)
  | eq2 (k : Nat) (neg : Bool) (x y : Opd)
  | rangeS (x : Opd) | nextS (x : Opd)
  | clr (es : Nat) (z : List AV) (x : Opd)

/-- What two numbers, texts or truths are together. -/
def binA (op : BinOp) : AV → AV → Option AV
  | .int k a, .int k' b =>
    if op = .shl ∨ op = .shr then
      if b < 0 then none else match op with
        | .shl => some (.int k (k.wrap (a * 2 ^ (Nat.min b.toNat k.bits))))
        | _ => some (.int k (a.fdiv (2 ^ (Nat.min b.toNat k.bits))))
    else if k ≠ k' then none else match op with
      | .add => some (.int k (k.wrap (a + b)))
      | .sub => some (.int k (k.wrap (a - b)))
      | .mul => some (.int k (k.wrap (a * b)))
      | .quo => if b = 0 then none else some (.int k (k.wrap (a.tdiv b)))
      | .rem => if b = 0 then none else some (.int k (a.tmod b))
      | .and => some (.int k (k.wrap ((BitVec.ofInt k.bits a &&& BitVec.ofInt k.bits b).toNat)))
      | .or => some (.int k (k.wrap ((BitVec.ofInt k.bits a ||| BitVec.ofInt k.bits b).toNat)))
      | .xor => some (.int k (k.wrap ((BitVec.ofInt k.bits a ^^^ BitVec.ofInt k.bits b).toNat)))
      | .eql => some (.bool (decide (a = b)))
      | .neq => some (.bool (!decide (a = b)))
      | .lss => some (.bool (decide (a < b)))
      | .leq => some (.bool (decide (a ≤ b)))
      | .gtr => some (.bool (decide (b < a)))
      | .geq => some (.bool (decide (b ≤ a)))
      | _ => none
  | .str a, .str b => match op with
    | .add => if a.length + b.length ≤ 4611686018427387904 then some (.str (a ++ b)) else none
    | .eql => some (.bool (decide (a = b)))
    | .neq => some (.bool (!decide (a = b)))
    | .lss => some (.bool (Op.bytesLess a b))
    | .leq => some (.bool (Op.bytesLess a b || decide (a = b)))
    | .gtr => some (.bool (!(Op.bytesLess a b || decide (a = b))))
    | .geq => some (.bool (!Op.bytesLess a b))
    | _ => none
  | _, _ => none

/-- Parts laid into cells. -/
def fillA : List AV → List (Nat × List AV) → List AV
  | cs, [] => cs
  | cs, (o, p) :: r => fillA (lput cs o p) r
def rdps (tm : Tm) : List (Nat × Nat × Opd) → List (Nat × List AV)
  | [] => []
  | (o, _, x) :: r => (o, (rd tm x).cells) :: rdps tm r
def sizesOk (tm : Tm) : List (Nat × Nat × Opd) → Bool
  | [] => true
  | (_, n, x) :: r => (rd tm x).cells.length == n && sizesOk tm r
def rdqs (tm : Tm) (es : Nat) : List (Nat × Opd) → List (Nat × List AV)
  | [] => []
  | (i, x) :: r => (i * es, (rd tm x).cells) :: rdqs tm es r
def sizesOkq (tm : Tm) (es : Nat) : List (Nat × Opd) → Bool
  | [] => true
  | (_, x) :: r => (rd tm x).cells.length == es && sizesOkq tm es r
def reps {α : Type} (z : List α) : Nat → List α
  | 0 => []
  | n + 1 => z ++ reps z n

/-- Cells as bytes. -/
def bytesOf : List AV → Option (List UInt8)
  | [] => some []
  | x :: xs => match x, bytesOf xs with
    | .int .u8 n, some r => some (UInt8.ofNat n.toNat :: r)
    | _, _ => none
/-- What is appended, as cells and how many. -/
def srcA (es : Nat) (σ : St) : AV → Option (List AV × Nat)
  | .snil => some ([], 0)
  | .str s => some (s.map fun b => .int .u8 b.toNat, s.length)
  | .list ys k _ => some (ys, k)
  | .sl id gen off len => match σ.heap id with
    | some (.arr es' cells g fz) => if g = gen ∧ es' = es ∧ off + len * es ≤ cells.length then some ((cells.drop off).take (len * es), len) else none
    | _ => none
  | _ => none

def bound (tm : Tm) (d : Nat) : Option Opd → Option Int
  | none => some d
  | some x => match rd tm x with
    | .int _ n => some n
    | _ => none

/-- Does an identity own its row still? -/
def live (σ : St) (id gen : Nat) : Prop := match σ.heap id with
  | some (.arr _ _ g _) => g = gen
  | _ => False
def liveE (σ : St) (id gen es : Nat) : Prop := match σ.heap id with
  | some (.arr e _ g _) => g = gen ∧ e = es
  | _ => False

/-! Are two values one? (0: truths, 1: pointers, one of them nil, 2: slices, 3: maps, 4: functions, 5: two numbers each.) -/
def eqA0 : AV → AV → Option Bool
  | .bool a, .bool b => some (a == b)
  | _, _ => none
def eqA1 : AV → AV → Option Bool
  | .pnil, .pnil => some true
  | .pnil, .ptr _ _ _ => some false
  | .ptr _ _ _, .pnil => some false
  | .pnil, .eptr _ => some false
  | .eptr _, .pnil => some false
  | _, _ => none
def eqA2 : AV → AV → Option Bool
  | .snil, .snil => some true
  | .sl _ _ _ _, .snil => some false
  | .list _ _ _, .snil => some false
  | _, _ => none
def eqA3 : AV → AV → Option Bool
  | .mnil, .mnil => some true
  | .map _, .mnil => some false
  | _, _ => none
def eqA4 : AV → AV → Option Bool
  | .fnil, .fnil => some true
  | .fn _ _, .fnil => some false
  | _, _ => none
def eqA5 : AV → AV → Option Bool
  | .agg [.int k a, .int k' b], .agg [.int l c, .int l' d] => if k = l ∧ k' = l' then some (decide (a = c ∧ b = d)) else none
  | _, _ => none
def eqA (k : Nat) (x y : AV) : Option Bool := match k with
  | 0 => eqA0 x y
  | 1 => eqA1 x y
  | 2 => eqA2 x y
  | 3 => eqA3 x y
  | 4 => eqA4 x y
  | 5 => eqA5 x y
  | _ => none

/-- WHAT AN OPERATION DOES: behind it K holds of its value and the memory. -/
def aop (co : COp) (tm : Tm) (σ : St) (K : AV → St → Prop) : Prop :=
  match co with
  | .mv x => K (rd tm x) σ
  | .pick c a b => match rd tm c with
    | .bool t => K (if t then rd tm a else rd tm b) σ
    | _ => False
  | .alloc ty z => K (.ptr σ.nx 0 0) (σ.new (.arr z.length z 0 0))
  | .box ty x => K (.ptr σ.nx 0 0) (σ.new (.arr (rd tm x).cells.length (rd tm x).cells 0 0))
  | .build z ps => sizesOk tm ps = true ∧ K (.agg (fillA z (rdps tm ps))) σ
  | .bslice ty z es n ps => sizesOkq tm es ps = true ∧ K (.list (fillA (reps z n) (rdqs tm es ps)) n (some n)) σ
  | .mslice ty z es bytes l c => match rd tm l, rd tm c with
    | .int _ l, .int _ c => 0 ≤ l ∧ l ≤ c ∧ c ≤ 1073741824 ∧ K (.sl σ.nx 0 0 l.toNat) (σ.new (.arr es (reps z c.toNat) 0 0))
    | _, _ => False
  | .load1 a => match rd tm a with
    | .ptr id gen off => match σ.heap id with
      | some (.arr _ cells g _) => g = gen ∧ ∃ v, cells[off]? = some v ∧ K v σ
      | _ => False
    | .eptr xs => match xs with
      | v :: _ => K v σ
      | [] => False
    | _ => False
  | .loadA n a => match rd tm a with
    | .ptr id gen off => match σ.heap id with
      | some (.arr _ cells g _) => g = gen ∧ off + n ≤ cells.length ∧ K (.agg ((cells.drop off).take n)) σ
      | _ => False
    | .eptr xs => n ≤ xs.length ∧ K (.agg (xs.take n)) σ
    | _ => False
  | .store n a v => match rd tm a with
    | .ptr id gen off => match σ.heap id with
      | some (.arr es cells g fz) => g = gen ∧ fz ≤ off ∧ (rd tm v).cells.length = n ∧ off + n ≤ cells.length ∧ (rd tm v).cells.all AV.one = true ∧
          K undefA (σ.set id (.arr es (lput cells off (rd tm v).cells) g fz))
      | _ => False
    | _ => False
  | .nilc x => match rd tm x with
    | .ptr id gen off => K (.ptr id gen off) σ
    | .eptr xs => K (.eptr xs) σ
    | .fn f caps => K (.fn f caps) σ
    | _ => False
  | .bin op x y => ∃ v, binA op (rd tm x) (rd tm y) = some v ∧ K v σ
  | .not x => match rd tm x with
    | .bool b => K (.bool (!b)) σ
    | _ => False
  | .neg x => match rd tm x with
    | .int k n => K (.int k (k.wrap (0 - n))) σ
    | _ => False
  | .convI k x => match rd tm x with
    | .int _ n => K (.int k (k.wrap n)) σ
    | _ => False
  | .mkfn f caps => K (.fn f (rds tm caps)) σ
  | .mkmapI k => K (.map σ.nx) (σ.new (.mapI k []))
  | .mkmapS => K (.map σ.nx) (σ.new (.mapS []))
  | .slstr x lo hi => match rd tm x with
    | .str s => ∃ l h, bound tm 0 lo = some l ∧ bound tm s.length hi = some h ∧ 0 ≤ l ∧ l ≤ h ∧ h ≤ s.length ∧ K (.str ((s.take h.toNat).drop l.toNat)) σ
    | _ => False
  | .slsl es x lo hi => match rd tm x with
    | .sl id gen off len => ∃ l h, bound tm 0 lo = some l ∧ bound tm len hi = some h ∧ 0 ≤ l ∧ l ≤ h ∧ h ≤ len ∧
        liveE σ id gen es ∧ 0 < es ∧ K (.sl id gen (off + l.toNat * es) (h - l).toNat) σ
    | .list xs len _ => ∃ l h, bound tm 0 lo = some l ∧ bound tm len hi = some h ∧ 0 ≤ l ∧ l ≤ h ∧ h ≤ len ∧ xs.length = len * es ∧
        K (.list ((xs.take (h.toNat * es)).drop (l.toNat * es)) (h - l).toNat none) σ
    | .snil => ∃ l h, bound tm 0 lo = some l ∧ bound tm 0 hi = some h ∧ l = 0 ∧ h = 0 ∧ K .snil σ
    | _ => False
  | .faddr off x => match rd tm x with
    | .ptr id gen o => K (.ptr id gen (o + off)) σ
    | .eptr xs => off ≤ xs.length ∧ K (.eptr (xs.drop off)) σ
    | _ => False
  | .field1 off x => match rd tm x with
    | .agg cs => ∃ v, cs[off]? = some v ∧ K v σ
    | _ => False
  | .fieldA off n x => match rd tm x with
    | .agg cs => off + n ≤ cs.length ∧ K (.agg ((cs.drop off).take n)) σ
    | _ => False
  | .iaddr es x i => match rd tm x, rd tm i with
    | .sl id gen off len, .int _ n => 0 ≤ n ∧ n < len ∧ K (.ptr id gen (off + n.toNat * es)) σ
    | .list xs len _, .int _ n => 0 ≤ n ∧ n < len ∧ n.toNat * es ≤ xs.length ∧ K (.eptr (xs.drop (n.toNat * es))) σ
    | _, _ => False
  | .istr x i => match rd tm x, rd tm i with
    | .str s, .int _ n => 0 ≤ n ∧ ∃ b, s[n.toNat]? = some b ∧ K (.int .u8 b.toNat) σ
    | _, _ => False
  | .lookI k z x i ok => match rd tm x, rd tm i with
    | .map id, .int k' n => k' = k ∧ match σ.heap id with
      | some (.mapI k' es) => k' = k ∧ K (match getI es n with
        | some v => if ok then .tup [v, .bool true] else v
        | none => if ok then .tup [z, .bool false] else z) σ
      | _ => False
    | .mnil, .int k' n => k' = k ∧ K (if ok then .tup [z, .bool false] else z) σ
    | _, _ => False
  | .lookS z x i ok => match rd tm x, rd tm i with
    | .map id, .str n => match σ.heap id with
      | some (.mapS es) => K (match getS es n with
        | some v => if ok then .tup [v, .bool true] else v
        | none => if ok then .tup [z, .bool false] else z) σ
      | _ => False
    | _, _ => False
  | .updI k m i v => match rd tm m, rd tm i with
    | .map id, .int k' n => k' = k ∧ match σ.heap id with
      | some (.mapI k' es) => k' = k ∧ K undefA (σ.set id (.mapI k (putI es n (rd tm v))))
      | _ => False
    | _, _ => False
  | .updS m i v => match rd tm m, rd tm i with
    | .map id, .str n => match σ.heap id with
      | some (.mapS es) => K undefA (σ.set id (.mapS (putS es n (rd tm v))))
      | _ => False
    | _, _ => False
  | .extr x i => match rd tm x with
    | .tup vs => ∃ v, vs[i]? = some v ∧ K v σ
    | _ => False
  | .lenS x => match rd tm x with
    | .str s => K (.int .i64 s.length) σ
    | _ => False
  | .lenL x => match rd tm x with
    | .sl id gen off len => K (.int .i64 len) σ
    | .list _ len _ => K (.int .i64 len) σ
    | .snil => K (.int .i64 0) σ
    | _ => False
  | .lenM x => match rd tm x with
    | .mnil => K (.int .i64 0) σ
    | .map id => match σ.heap id with
      | some (.mapI _ es) => K (.int .i64 es.length) σ
      | some (.mapS es) => K (.int .i64 es.length) σ
      | _ => False
    | _ => False
  | .app es a b => match srcA es σ (rd tm b) with
    | none => False
    | some (ys, k) => ys.length = k * es ∧ ys.all AV.one = true ∧
      if k = 0 then (match rd tm a with
        | .snil => K .snil σ
        | .sl id gen off len => live σ id gen ∧ K (.sl id gen off len) σ
        | .list xs len cap => K (.list xs len none) σ
        | _ => False)
      else match rd tm a with
        | .snil => k ≤ 1073741824 ∧ K (.sl σ.nx 0 0 k) (σ.new (.arr es ys 0 0))
        | .list xs len cap => cap = some len ∧ xs.length = len * es ∧ len + k ≤ 1073741824 ∧ K (.sl σ.nx 0 0 (len + k)) (σ.new (.arr es (xs ++ ys) 0 0))
        | .sl id gen off len => match σ.heap id with
          | some (.arr es' cells g fz) => g = gen ∧ es' = es ∧ off + len * es ≤ cells.length ∧ fz ≤ off + len * es ∧ len + k ≤ 1073741824 ∧
              K (.sl id (gen + 1) 0 (len + k)) (σ.set id (.arr es ((cells.drop off).take (len * es) ++ ys) (gen + 1) (fz - off)))
          | _ => False
        | _ => False
  | .max x y => match rd tm x, rd tm y with
    | .int k a, .int k' b => K (.int k (if b > a then b else a)) σ
    | _, _ => False
  | .min x y => match rd tm x, rd tm y with
    | .int k a, .int k' b => K (.int k (if b < a then b else a)) σ
    | _, _ => False
  | .eq2 k n x y => ∃ b, eqA k (rd tm x) (rd tm y) = some b ∧ K (.bool (if n then !b else b)) σ
  | .rangeS x => match rd tm x with
    | .str s => K (.it σ.nx) (σ.new (.siter s 0))
    | _ => False
  | .nextS x => match rd tm x with
    | .it id => match σ.heap id with
      | some (.siter s p) => match s[p]? with
        | some b => b.toNat < 128 ∧ K (.tup [.bool true, .int .i64 p, .int .i32 b.toNat]) (σ.set id (.siter s (p + 1)))
        | none => K (.tup [.bool false]) σ
      | _ => False
    | _ => False
  | .clr es z x => match rd tm x with
    | .snil => K (.tup []) σ
    | .mnil => K (.tup []) σ
    | .sl id gen off len => match σ.heap id with
      | some (.arr es' cells g fz) => 0 < es ∧ g = gen ∧ es' = es ∧ fz ≤ off ∧ off + len * es ≤ cells.length ∧ z.all AV.one = true ∧ K (.tup []) (if len = 0 then σ else σ.set id (.arr es (lput cells off (reps z len)) g fz))
      | _ => False
    | .map id => match σ.heap id with
      | some (.mapI k _) => K (.tup []) (σ.set id (.mapI k []))
      | some (.mapS _) => K (.tup []) (σ.set id (.mapS []))
      | _ => False
    | _ => False
  | .b2s x => match rd tm x with
    | .snil => K (.str []) σ
    | .str _ => False
    | v => match srcA 1 σ v with
      | some (ys, k) => ys.length = k ∧ (match bytesOf ys with
        | some bs => K (.str bs) σ
        | none => False)
      | none => False
  | .s2b ty x => match rd tm x with
    | .str s => K (.list (s.map fun b => .int .u8 b.toNat) s.length none) σ
    | _ => False
end Go.Abs
set_option linter.unusedVariables false
set_option linter.unusedSimpArgs false
namespace Go.Abs

def TRel (C : Ctx) (w : World) (tm : Tm) (ts : Array Value) (n : Nat) : Prop := ts.size = n ∧ ∀ t, t < n → VRel C w (tm t) (ts.getD t undef)

theorem TRel.evol {C C' : Ctx} {w w' : World} {tm : Tm} {ts : Array Value} {n : Nat} (h : TRel C w tm ts n) (E : Evol C w C' w') : TRel C' w' tm ts n :=
  ⟨h.1, fun t ht => VRel.evol E _ _ (h.2 t ht)⟩

theorem TRel.put {C : Ctx} {w : World} {tm : Tm} {ts : Array Value} {n d : Nat} {x : AV} {v : Value} (h : TRel C w tm ts n) (hd : d < n) (hx : VRel C w x v) : TRel C w (upd tm d x) (ts.setIfInBounds d v) n := by
  refine ⟨by simp [h.1], fun t ht => ?_⟩
  have hs := h.1
  simp only [upd]
  by_cases he : t = d
  · subst he
    rw [if_pos rfl]
    simpa [Array.getD_eq_getD_getElem?, Array.getElem?_setIfInBounds_self_of_lt (show t < ts.size by omega)] using hx
  · rw [if_neg he]
    have := h.2 t ht
    simpa [Array.getD_eq_getD_getElem?, Array.getElem?_setIfInBounds_ne (show d ≠ t from fun e => he e.symm)] using this

def cv1 : Value → Option AV
  | .bool b => some (.bool b)
  | .int k n => some (.int k n)
  | .string s => some (.str s.data.toList)
  | .pointer none => some .pnil
  | .slice none 0 0 => some .snil
  | .map none => some .mnil
  | .nilFunc => some .fnil
  | .nilIface => some .inil
  | _ => none
def cvs : List Value → Option (List AV)
  | [] => some []
  | v :: vs => match cv1 v, cvs vs with
    | some a, some r => some (a :: r)
    | _, _ => none
def cv : Value → Option AV
  | .agg cs => (cvs cs.toList).map .agg
  | .tuple vs => (cvs vs.toList).map .tup
  | v => cv1 v

theorem cv1_sound {C : Ctx} {w : World} : ∀ {v : Value} {x : AV}, cv1 v = some x → VRel C w x v := by
  intro v x h
  unfold cv1 at h
  split at h <;> first | (cases h; simp only [VRel]) | cases h

theorem cvs_sound {C : Ctx} {w : World} : ∀ {vs : List Value} {xs : List AV}, cvs vs = some xs → VRels C w xs vs
  | [], xs, h => by simp [cvs] at h; subst h; exact VRels.nil
  | v :: vs, xs, h => by
    simp only [cvs] at h
    split at h
    · cases h; rename_i a r h1 h2
      exact VRels.cons (cv1_sound h1) (cvs_sound h2)
    · cases h

theorem cv_sound {C : Ctx} {w : World} {v : Value} {x : AV} (h : cv v = some x) : VRel C w x v := by
  unfold cv at h
  split at h
  · rename_i cs
    simp only [Option.map_eq_some_iff] at h
    obtain ⟨xs, hx, rfl⟩ := h
    simp only [VRel]; exact ⟨cs.toList, by simp, cvs_sound hx⟩
  · rename_i cs
    simp only [Option.map_eq_some_iff] at h
    obtain ⟨xs, hx, rfl⟩ := h
    simp only [VRel]; exact ⟨cs.toList, by simp, cvs_sound hx⟩
  · exact cv1_sound h

theorem cv1_one {v : Value} {x : AV} (h : cv1 v = some x) : x.one = true := by
  unfold cv1 at h
  split at h <;> first | (cases h; rfl) | cases h
theorem cvs_one : ∀ {vs : List Value} {xs : List AV}, cvs vs = some xs → xs.all AV.one = true
  | [], xs, h => by simp [cvs] at h; subst h; rfl
  | v :: vs, xs, h => by
    simp only [cvs] at h
    split at h
    · cases h; rename_i a r h1 h2
      simp only [List.all_cons, cv1_one h1, cvs_one h2, Bool.and_self]
    · cases h

def co (n : Nat) : Operand → Option Opd
  | .tmp t => if t < n then some (.t t) else none
  | .const v => (cv v).map .c
  | .func f => some (.f f)
  | .global _ => none

theorem co_sound {C : Ctx} {w : World} {tm : Tm} {a : Act} {n : Nat} (h : TRel C w tm a.tmps n) {x : Operand} {y : Opd} (hx : co n x = some y) : VRel C w (rd tm y) (a.eval x) := by
  cases x with
  | tmp t =>
    simp only [co] at hx
    split at hx
    · cases hx; exact h.2 t (by assumption)
    · cases hx
  | const v =>
    simp only [co, Option.map_eq_some_iff] at hx
    obtain ⟨z, hz, rfl⟩ := hx
    exact cv_sound hz
  | func f => simp only [co] at hx; cases hx; simp only [rd, Act.eval, VRel]; exact ⟨[], rfl, VRels.nil⟩
  | global g => simp [co] at hx

def cos (n : Nat) : List Operand → Option (List Opd)
  | [] => some []
  | x :: xs => match co n x, cos n xs with
    | some a, some r => some (a :: r)
    | _, _ => none
theorem cos_sound {C : Ctx} {w : World} {tm : Tm} {a : Act} {n : Nat} (h : TRel C w tm a.tmps n) : ∀ {xs : List Operand} {ys : List Opd}, cos n xs = some ys → VRels C w (rds tm ys) (xs.map a.eval)
  | [], ys, hx => by simp [cos] at hx; subst hx; exact VRels.nil
  | x :: xs, ys, hx => by
    simp only [cos] at hx
    split at hx
    · cases hx; rename_i b r h1 h2
      exact VRels.cons (co_sound h h1) (cos_sound h h2)
    · cases hx

theorem VRel.cells {C : Ctx} {w : World} {x : AV} {v : Value} (h : VRel C w x v) : VRels C w x.cells v.cells.toList := by
  have hone : ∀ v', v' = v → (∀ cs, v' ≠ .agg cs) → v'.cells.toList = [v'] := fun v' _ hn => by
    cases v' <;> first | (exact absurd rfl (hn _)) | simp [Value.cells]
  by_cases hc : ∃ cs, x = .agg cs
  · obtain ⟨cs, rfl⟩ := hc
    simp only [VRel] at h
    obtain ⟨us, rfl, h⟩ := h; simpa [Value.cells, AV.cells] using h
  · have hx : x.cells = [x] := by cases x <;> first | (exact absurd ⟨_, rfl⟩ hc) | rfl
    have hv : ∀ cs, v ≠ .agg cs := by
      intro cs he; subst he
      cases x <;> simp only [VRel] at h <;> first | (exact absurd ⟨_, rfl⟩ hc) | (simp at h) | (obtain ⟨_, h⟩ := h; simp at h) | (obtain ⟨_, _, h⟩ := h; simp at h) | (obtain ⟨_, _, _, h⟩ := h; simp at h) | (obtain ⟨_, _, _, _, h⟩ := h; simp at h)
    rw [hx, hone v rfl hv]
    exact VRels.one h

theorem VRel.one' {C : Ctx} {w : World} {x : AV} {v : Value} (h : VRel C w x v) (hx : x.one = true) : v.oneCell' = true := by
  cases x <;> simp only [VRel] at h <;> first
    | (simp [AV.one] at hx; done)
    | (subst h; rfl)
    | (obtain ⟨_, rfl, _⟩ := h; rfl)
    | (obtain ⟨_, _, rfl, _⟩ := h; rfl)
    | (obtain ⟨_, _, _, rfl, _⟩ := h; rfl)
    | (obtain ⟨_, _, _, _, rfl, _⟩ := h; rfl)

theorem VRels.one_all {C : Ctx} {w : World} : ∀ {xs : List AV} {us : List Value}, VRels C w xs us → xs.all AV.one = true → ∀ u ∈ us, u.oneCell' = true
  | [], us, h, _ => by simp only [VRels] at h; subst h; simp
  | x :: xs, us, h, ha => by
    simp only [VRels] at h
    obtain ⟨u, r, rfl, h1, h2⟩ := h
    simp only [List.all_cons, Bool.and_eq_true] at ha
    intro v hv
    simp only [List.mem_cons] at hv
    rcases hv with rfl | hv
    · exact h1.one' ha.1
    · exact VRels.one_all h2 ha.2 v hv

/-- Behind an operation K holds of what the machine has then. -/
def Goes (P : Program) (a : Act) (o : Oper) (C : Ctx) (w : World) (K : AV → St → Prop) : Prop :=
  ∃ r σ' C' w' res v, K r σ' ∧ (execOp a.eval o).run P w = .ok res w' ∧ (res = .value v ∨ (res = .skip ∧ v = undef)) ∧ VRel C' w' r v ∧ Rel C' σ' w' ∧ Evol C w C' w'

theorem Goes.value {P : Program} {a : Act} {o : Oper} {C C' : Ctx} {σ' : St} {w w' : World} {K : AV → St → Prop} {r : AV} {v : Value} (hK : K r σ') (hr : (execOp a.eval o).run P w = .ok (.value v) w')
    (hv : VRel C' w' r v) (R : Rel C' σ' w') (E : Evol C w C' w') : Goes P a o C w K := ⟨r, σ', C', w', _, v, hK, hr, .inl rfl, hv, R, E⟩
theorem Goes.skip {P : Program} {a : Act} {o : Oper} {C C' : Ctx} {σ' : St} {w w' : World} {K : AV → St → Prop} (hK : K undefA σ') (hr : (execOp a.eval o).run P w = .ok .skip w')
    (R : Rel C' σ' w') (E : Evol C w C' w') : Goes P a o C w K := ⟨undefA, σ', C', w', _, undef, hK, hr, .inr ⟨rfl, rfl⟩, by simp only [undefA, VRel]; exact ⟨[], rfl, VRels.nil⟩, R, E⟩
theorem Goes.pure {P : Program} {a : Act} {o : Oper} {C : Ctx} {σ : St} {w : World} {K : AV → St → Prop} {r : AV} {v : Value} (hK : K r σ) (hr : (execOp a.eval o).run P w = .ok (.value v) w)
    (hv : VRel C w r v) (R : Rel C σ w) : Goes P a o C w K := .value hK hr hv R (Evol.refl C w)

theorem vrel_put_ptr (C : Ctx) (w : World) (id : Nat) (L : Loc) : VRel (C.put id L) w (.ptr id 0 0) (.pointer (some ⟨L.b, L.base + 0, none⟩)) := by
  simp only [VRel]; exact ⟨_, rfl, Nat.zero_le _, fun _ => ⟨L, by simp [Ctx.put], rfl⟩⟩
theorem vrel_put_map (C : Ctx) (w : World) (id : Nat) (L : Loc) : VRel (C.put id L) w (.map id) (.map (some L.b)) := by
  simp only [VRel]; exact ⟨_, rfl, fun _ => ⟨L, by simp [Ctx.put], rfl⟩⟩
theorem vrel_put_sl (C : Ctx) (w : World) (id : Nat) (L : Loc) (len c : Nat) (h : len ≤ c) (h2 : c * L.es ≤ L.cap) : VRel (C.put id L) w (.sl id 0 0 len) (.slice (some ⟨L.b, L.base + 0, none⟩) len c) := by
  simp only [VRel]; exact ⟨_, c, rfl, h, Nat.zero_le _, fun _ => ⟨L, 0, by simp [Ctx.put], rfl, Nat.le_refl _, .inr rfl, by omega⟩⟩

section
variable {P : Program} {a : Act} {C : Ctx} {σ : St} {w : World} {K : AV → St → Prop} {tm : Tm} {n : Nat} {dst : Option Tmp} {T : TypeId} {pos : String} {after : Array Edge} {g : Option (Nat × Bool)}

theorem goes_move (R : Rel C σ w) (H : TRel C w tm a.tmps n) {x : Operand} {y : Opd} (hx : co n x = some y) (h : aop (.mv y) tm σ K) : Goes P a ⟨dst, .move x, T, pos, after, g⟩ C w K :=
  .pure h (by simp [execOp]) (co_sound H hx) R
theorem goes_assign (R : Rel C σ w) (H : TRel C w tm a.tmps n) {x : Operand} {y : Opd} (hx : co n x = some y) (h : aop (.mv y) tm σ K) : Goes P a ⟨dst, .assign x, T, pos, after, g⟩ C w K :=
  .pure h (by simp [execOp]) (co_sound H hx) R

theorem goes_pick (R : Rel C σ w) (H : TRel C w tm a.tmps n) {x y z : Operand} {x' y' z' : Opd} (hx : co n x = some x') (hy : co n y = some y') (hz : co n z = some z')
    (h : aop (.pick x' y' z') tm σ K) : Goes P a ⟨dst, .pick x y z, T, pos, after, g⟩ C w K := by
  have h1 := co_sound H hx
  have h2 := co_sound H hy
  have h3 := co_sound H hz
  simp only [aop] at h
  split at h
  · rename_i t ht
    rw [ht] at h1
    simp only [VRel] at h1
    cases t
    · exact .pure h (by simp [execOp, h1, asBool]) h3 R
    · exact .pure h (by simp [execOp, h1, asBool]) h2 R
  · exact h.elim

theorem goes_box (R : Rel C σ w) (H : TRel C w tm a.tmps n) {x : Operand} {y : Opd} {e : TypeId} (hx : co n x = some y) (h : aop (.box e y) tm σ K) : Goes P a ⟨dst, .box e x, T, pos, after, g⟩ C w K := by
  have h1 := (co_sound H hx).cells
  simp only [aop] at h
  obtain ⟨R', E'⟩ := R.alloc_arr (rd tm y).cells.length e (rd tm y).cells (a.eval x).cells.toList [] h1
  refine .value h ?_ (vrel_put_ptr _ _ _ _) R' E'
  simp [execOp, Instr.box, newVar, newRow]

theorem goes_alloc (R : Rel C σ w) {e : TypeId} {i : TypeInfo} {z : Value} {zs : List AV} (hi : P.info? e = some i) (hz : i.zero = some z) (hzs : cvs z.cells.toList = some zs) (h : aop (.alloc e zs) tm σ K) :
    Goes P a ⟨dst, .alloc e, T, pos, after, g⟩ C w K := by
  simp only [aop] at h
  obtain ⟨R', E'⟩ := R.alloc_arr zs.length e zs z.cells.toList [] (cvs_sound hzs)
  have hzv : (zeroValue e).run P w = .ok z w := by simp [zeroValue, typeInfo, hi, hz]
  refine .value h ?_ (vrel_put_ptr _ _ _ _) R' E'
  simp [execOp, Instr.alloc, hzv, newVar, newRow]

def aggD : TypeDesc → Bool
  | .struct _ | .array _ _ => true
  | _ => false
theorem isAgg_run {t : TypeId} {d : TypeDesc} (h : P.underlying t = some d) (w : World) : (isAgg t).run P w = .ok (aggD d) w := by
  unfold isAgg
  simp only [Sem.run_bind, run_underlying h, Result.andThen_ok]
  cases d <;> rfl
theorem sizeOf_run {t : TypeId} {i : TypeInfo} (h : P.info? t = some i) (w : World) : (sizeOf t).run P w = .ok i.size w := by
  simp [sizeOf, typeInfo, h]

theorem Rel.cell {R : Rel C σ w} {id es gen fz off : Nat} {cells : List AV} (hid : σ.heap id = some (.arr es cells gen fz)) {x : AV} (hx : cells[off]? = some x) :
    ∃ L u, C.rho id = some L ∧ C.gen id = gen ∧ w.cell? ⟨L.b, L.base + off, none⟩ = some u ∧ VRel C w x u := by
  obtain ⟨h0, L, cs, ty, fr, us, h1, h2, h3, h4, h5, h6, h7, h8, h9, h10⟩ := R.blk id _ hid
  obtain ⟨u, hu, hv⟩ := h10.get off x hx
  exact ⟨L, u, h1, h0, by rw [cell_of h3]; exact h9 off u hu, hv⟩

theorem goes_load1 (R : Rel C σ w) (H : TRel C w tm a.tmps n) {x : Operand} {y : Opd} {t : TypeId} {d : TypeDesc} (hd : P.underlying t = some d) (hag : (aggD d) = false)
    (hx : co n x = some y) (h : aop (.load1 y) tm σ K) : Goes P a ⟨dst, .load t x, T, pos, after, g⟩ C w K := by
  have h1 := co_sound H hx
  have hagg := isAgg_run hd w
  rw [hag] at hagg
  simp only [aop] at h
  split at h
  · rename_i id gen off hrd
    rw [hrd] at h1
    simp only [VRel] at h1
    split at h
    · rename_i es cells gg fz hid
      obtain ⟨rfl, v, hv, hK⟩ := h
      obtain ⟨ad, hval, _, h2⟩ := h1
      obtain ⟨L, u, hL, hg, hc, hvu⟩ := Rel.cell (R := R) hid hv
      obtain ⟨L', hL', had⟩ := h2 hg
      rw [hL] at hL'; cases hL'; subst had
      refine .pure hK ?_ hvu R
      simp [execOp, Instr.loadAt, Instr.sureAddr, hval, loadVar, hagg, hc]
    · exact h.elim
  · rename_i xs hrd
    rw [hrd] at h1
    simp only [VRel] at h1
    obtain ⟨b, o, us, hval, _, _, hc, hxs⟩ := h1
    split at h
    · rename_i v r
      simp only [VRels] at hxs
      obtain ⟨u, us', rfl, hvu, _⟩ := hxs
      refine .pure h ?_ hvu R
      have := hc 0 u (by simp)
      simp at this
      simp [execOp, Instr.loadAt, Instr.sureAddr, hval, loadVar, hagg, this]
    · exact h.elim
  · exact h.elim

theorem goes_loadA (R : Rel C σ w) (H : TRel C w tm a.tmps n) {x : Operand} {y : Opd} {t : TypeId} {d : TypeDesc} {i : TypeInfo} (hd : P.underlying t = some d) (hag : (aggD d) = true)
    (hi : P.info? t = some i) (hx : co n x = some y) (h : aop (.loadA i.size y) tm σ K) : Goes P a ⟨dst, .load t x, T, pos, after, g⟩ C w K := by
  have h1 := co_sound H hx
  have hagg := isAgg_run hd w
  rw [hag] at hagg
  simp only [aop] at h
  split at h
  · rename_i id gen off hrd
    rw [hrd] at h1
    simp only [VRel] at h1
    split at h
    · rename_i es cells gg fz hid
      obtain ⟨rfl, hle, hK⟩ := h
      obtain ⟨ad, hval, _, h2⟩ := h1
      obtain ⟨h0, L, cs, ty, fr, us, g1, g2, g3, g4, g5, g6, g7, g8, g9, g10⟩ := R.blk id _ hid
      obtain ⟨L', hL', had⟩ := h2 h0
      rw [g1] at hL'; cases hL'; subst had
      have hrun := run_loadCells P w L.b (L.base + off) i.size ((us.drop off).take i.size) (by simp only [List.length_take, List.length_drop]; omega) (fun j u hu => by
        rw [List.getElem?_take] at hu
        split at hu
        · rw [List.getElem?_drop] at hu
          rw [cell_of g3, show L.base + off + j = L.base + (off + j) from by omega]; exact g9 _ u hu
        · cases hu)
      refine .pure hK ?_ (show VRel C w _ (.agg ((us.drop off).take i.size).toArray) from ?_) R
      · simp [execOp, Instr.loadAt, Instr.sureAddr, hval, loadVar, hagg, sizeOf_run hi, hrun]
      · simp only [VRel]; exact ⟨_, rfl, (g10.drop off).take _⟩
    · exact h.elim
  · rename_i xs hrd
    rw [hrd] at h1
    simp only [VRel] at h1
    obtain ⟨b, o, us, hval, _, hul, hc, hxs⟩ := h1
    obtain ⟨hle, hK⟩ := h
    have hrun := run_loadCells P w b o i.size (us.take i.size) (by simp only [List.length_take]; omega) (fun j u hu => by
      rw [List.getElem?_take] at hu
      split at hu
      · exact hc _ u hu
      · cases hu)
    refine .pure hK ?_ (show VRel C w _ (.agg (us.take i.size).toArray) from ?_) R
    · simp [execOp, Instr.loadAt, Instr.sureAddr, hval, loadVar, hagg, sizeOf_run hi, hrun]
    · simp only [VRel]; exact ⟨_, rfl, hxs.take _⟩
  · exact h.elim

theorem goes_store (R : Rel C σ w) (H : TRel C w tm a.tmps n) {x v : Operand} {y u : Opd} {t : TypeId} {i : TypeInfo} (hi : P.info? t = some i) (hx : co n x = some y) (hv : co n v = some u)
    (h : aop (.store i.size y u) tm σ K) : Goes P a ⟨dst, .store t x v, T, pos, after, g⟩ C w K := by
  have h1 := co_sound H hx
  have h2 := (co_sound H hv).cells
  have hl := h2.length
  simp only [aop] at h
  split at h
  · rename_i id gen off hrd
    rw [hrd] at h1
    simp only [VRel] at h1
    split at h
    · rename_i es cells gg fz hid
      obtain ⟨rfl, hfz, hn, hle, hone, hK⟩ := h
      obtain ⟨ad, hval, _, hp⟩ := h1
      obtain ⟨L, w', hL, hg, hst, R', E'⟩ := R.store hid hfz (by omega) h2 (h2.one_all hone) P
      obtain ⟨L', hL', had⟩ := hp hg
      rw [hL] at hL'; cases hL'; subst had
      refine .skip hK ?_ R' E'
      have hsz : (a.eval v).cells.size = i.size := by simpa [hn] using hl
      simp [execOp, Instr.storeAt, Instr.sureAddr, hval, storeVar, sizeOf_run hi, hsz, hst]
    · exact h.elim
  · exact h.elim
end
end Go.Abs
set_option linter.unusedVariables false
set_option linter.unusedSimpArgs false
namespace Go.Abs

theorem ba_toList (l : List UInt8) : (⟨l.toArray⟩ : ByteArray).toList = l := by
  have key : ∀ (n : Nat) (l : List UInt8) (i : Nat) (acc : List UInt8), l.length - i = n → i ≤ l.length → ByteArray.toList.loop ⟨l.toArray⟩ i acc = acc.reverse ++ l.drop i := by
    intro n
    induction n with
    | zero =>
      intro l i acc h hi
      unfold ByteArray.toList.loop
      have : ¬ i < (⟨l.toArray⟩ : ByteArray).size := by show ¬ i < l.toArray.size; simp; omega
      rw [if_neg this, List.drop_eq_nil_of_le (by omega)]; simp
    | succ n ih =>
      intro l i acc h hi
      unfold ByteArray.toList.loop
      have hlt : i < l.length := by omega
      have : i < (⟨l.toArray⟩ : ByteArray).size := by show i < l.toArray.size; simp; omega
      rw [if_pos this, ih l (i + 1) _ (by omega) (by omega)]
      have hg : (⟨l.toArray⟩ : ByteArray).get! i = l[i] := by
        show l.toArray[i]! = _
        simp [hlt]
      rw [hg, List.reverse_cons, List.append_assoc, List.singleton_append, ← List.drop_eq_getElem_cons hlt]
  unfold ByteArray.toList
  rw [key l.length l 0 [] (by omega) (by omega)]; simp
theorem ba_size (l : List UInt8) : (⟨l.toArray⟩ : ByteArray).size = l.length := by show l.toArray.size = _; simp
theorem ba_append (l m : List UInt8) : (⟨l.toArray⟩ : ByteArray) ++ ⟨m.toArray⟩ = ⟨(l ++ m).toArray⟩ := by
  apply ByteArray.ext
  rw [ByteArray.data_append]; simp
theorem ba_extract (l : List UInt8) (i j : Nat) : (⟨l.toArray⟩ : ByteArray).extract i j = ⟨((l.take j).drop i).toArray⟩ := by
  apply ByteArray.ext
  rw [ByteArray.data_extract]
  apply Array.ext'
  simp [List.extract_eq_take_drop, List.drop_take]
theorem ba_get (l : List UInt8) (i : Nat) : (⟨l.toArray⟩ : ByteArray)[i]? = l[i]? := by
  by_cases h : i < l.length
  · rw [getElem?_pos (⟨l.toArray⟩ : ByteArray) i (by rw [ba_size]; exact h), List.getElem?_eq_getElem h]
    congr 1
  · rw [getElem?_neg (⟨l.toArray⟩ : ByteArray) i (by rw [ba_size]; exact h), List.getElem?_eq_none (by omega)]

section
variable {P : Program} {a : Act} {C : Ctx} {σ : St} {w : World} {K : AV → St → Prop} {tm : Tm} {n : Nat} {dst : Option Tmp} {T : TypeId} {pos : String} {after : Array Edge} {g : Option (Nat × Bool)}

theorem goes_nilc (R : Rel C σ w) (H : TRel C w tm a.tmps n) {x : Operand} {y : Opd} (hx : co n x = some y) (h : aop (.nilc y) tm σ K) : Goes P a ⟨dst, .nilCheck x, T, pos, after, g⟩ C w K := by
  have h1 := co_sound H hx
  simp only [aop] at h
  split at h
  · rename_i id gen off hrd
    rw [hrd] at h1
    have h2 := h1
    simp only [VRel] at h2
    obtain ⟨ad, hv, _⟩ := h2
    exact .pure (v := a.eval x) h (by simp [execOp, hv]) h1 R
  · rename_i xs hrd
    rw [hrd] at h1
    have h2 := h1
    simp only [VRel] at h2
    obtain ⟨b, o, us, hv, _⟩ := h2
    exact .pure (v := a.eval x) h (by simp [execOp, hv]) h1 R
  · rename_i f caps hrd
    rw [hrd] at h1
    have h2 := h1
    simp only [VRel] at h2
    obtain ⟨us, hv, _⟩ := h2
    exact .pure (v := a.eval x) h (by simp [execOp, hv]) h1 R
  · exact h.elim

theorem eqGuard_run (op : BinOp) (t : TypeId) (x y : Operand) (u v : Value) (w : World) (h1 : u ≠ .nilIface) (h2 : ∀ cs, u ≠ .agg cs) : (eqGuard op t x y u v).run P w = .ok () w := by
  cases u <;> first | (exact absurd rfl h1) | (exact absurd rfl (h2 _)) | (cases op <;> rfl)

theorem beqI (a b : Int) : (a == b) = decide (a = b) := by rw [Bool.eq_iff_iff]; simp
theorem bneI (a b : Int) : (a != b) = !decide (a = b) := by rw [Bool.eq_iff_iff]; simp
theorem beqL (a b : List UInt8) : (a == b) = decide (a = b) := by rw [Bool.eq_iff_iff]; simp
def valA : AV → Value
  | .int k n => .int k n
  | .bool b => .bool b
  | .str s => .string ⟨s.toArray⟩
  | _ => .nilFunc
theorem binA_sound {op : BinOp} {t : TypeId} {x y r : AV} {u v : Value} (h : binA op x y = some r) (hx : VRel C w x u) (hy : VRel C w y v) :
    (binOp op t u v).run P w = .ok (valA r) w ∧ VRel C w r (valA r) ∧ u ≠ .nilIface ∧ ∀ cs, u ≠ .agg cs := by
  unfold binA at h
  split at h
  · rename_i k p k' q
    simp only [VRel] at hx hy
    subst hx hy
    split at h
    · rename_i hop
      split at h
      · cases h
      · rename_i hq
        rcases hop with rfl | rfl
        · cases h
          exact ⟨by simp [binOp, Op.shift, hq, valA], by simp only [VRel, valA], by simp, by simp⟩
        · cases h
          exact ⟨by simp [binOp, Op.shift, hq, valA], by simp only [VRel, valA], by simp, by simp⟩
    · rename_i hop
      split at h
      · cases h
      · rename_i hk
        have hk' : k = k' := by simpa using hk
        subst hk'
        cases op <;> simp only [] at h <;> first
          | (exact absurd (Or.inl rfl) hop)
          | (exact absurd (Or.inr rfl) hop)
          | (cases h; done)
          | (cases h; exact ⟨by simp [binOp, Op.intArith, Op.intBits, Op.intCmp, valA, beqI, bneI], by simp only [VRel, valA], by simp, by simp⟩)
          | (split at h
             · cases h
             · rename_i hz
               cases h; exact ⟨by simp [binOp, Op.intDiv, hz, valA], by simp only [VRel, valA], by simp, by simp⟩)
          | skip
  · rename_i p q
    simp only [VRel] at hx hy
    subst hx hy
    cases op <;> simp only [] at h <;> first
      | (cases h; done)
      | (cases h; exact ⟨by simp [binOp, Op.stringOp, ba_toList, valA, beqL], by simp only [VRel, valA], by simp, by simp⟩)
      | skip
    split at h
    · cases h
      rename_i hle
      refine ⟨?_, by simp only [VRel, valA], by simp, by simp⟩
      have hm : ¬ (((p.length + q.length : Nat) : Int) > IntKind.i64.max) := by
        have : IntKind.i64.max = 9223372036854775807 := by decide
        omega
      simp [binOp, Op.stringOp, ba_size, if_neg hm, ba_append, valA]
      omega
    · cases h
  · cases h

theorem goes_bin (R : Rel C σ w) (H : TRel C w tm a.tmps n) {op : BinOp} {t yt : TypeId} {x y : Operand} {x' y' : Opd} (hx : co n x = some x') (hy : co n y = some y') (h : aop (.bin op x' y') tm σ K) :
    Goes P a ⟨dst, .binOp op t x y yt, T, pos, after, g⟩ C w K := by
  simp only [aop] at h
  obtain ⟨r, hr, hK⟩ := h
  obtain ⟨h1, h2, h3, h4⟩ := binA_sound (P := P) (t := t) hr (co_sound H hx) (co_sound H hy)
  exact .pure hK (by simp [execOp, eqGuard_run op t x y _ _ w h3 h4, h1]) h2 R

theorem goes_not (R : Rel C σ w) (H : TRel C w tm a.tmps n) {t : TypeId} {x : Operand} {x' : Opd} (hx : co n x = some x') (h : aop (.not x') tm σ K) :
    Goes P a ⟨dst, .unOp .not t x, T, pos, after, g⟩ C w K := by
  have h1 := co_sound H hx
  simp only [aop] at h
  split at h
  · rename_i b hb
    rw [hb] at h1; simp only [VRel] at h1
    exact .pure (v := .bool (!b)) h (by simp [execOp, h1, Op.unary]) (by simp only [VRel]) R
  · exact h.elim

theorem goes_neg (R : Rel C σ w) (H : TRel C w tm a.tmps n) {t : TypeId} {x : Operand} {x' : Opd} (hx : co n x = some x') (h : aop (.neg x') tm σ K) :
    Goes P a ⟨dst, .unOp .neg t x, T, pos, after, g⟩ C w K := by
  have h1 := co_sound H hx
  simp only [aop] at h
  split at h
  · rename_i k m hb
    rw [hb] at h1; simp only [VRel] at h1
    exact .pure (v := .int k (k.wrap (0 - m))) h (by simp [execOp, h1, Op.unary, Op.intArith]) (by simp only [VRel]) R
  · exact h.elim

theorem goes_convI (R : Rel C σ w) (H : TRel C w tm a.tmps n) {s d : TypeId} {k : IntKind} {sd : TypeDesc} (hs : P.underlying s = some sd) (hd : P.underlying d = some (.int k)) {x : Operand} {x' : Opd} (hx : co n x = some x') (h : aop (.convI k x') tm σ K) :
    Goes P a ⟨dst, .convert s d x, T, pos, after, g⟩ C w K := by
  have h1 := co_sound H hx
  simp only [aop] at h
  split at h
  · rename_i k' m hb
    rw [hb] at h1; simp only [VRel] at h1
    refine .pure (v := .int k (k.wrap m)) h ?_ (by simp only [VRel]) R
    simp [execOp, h1, convert, run_underlying hs, run_underlying hd, Conv.intToInt]
  · exact h.elim

theorem goes_mkfn (R : Rel C σ w) (H : TRel C w tm a.tmps n) {f : FuncId} {cs : Array Operand} {cs' : List Opd} (hx : cos n cs.toList = some cs') (h : aop (.mkfn f cs') tm σ K) :
    Goes P a ⟨dst, .makeFunc (.func f) #[] cs, T, pos, after, g⟩ C w K := by
  have h1 := cos_sound H hx
  refine .pure (v := .func (.func f) #[] (cs.map a.eval)) h (by simp [execOp, Instr.makeFunc]) ?_ R
  simp only [VRel]
  exact ⟨_, by simp; rw [← Array.toList_map], h1⟩

theorem goes_faddr (R : Rel C σ w) (H : TRel C w tm a.tmps n) {s : TypeId} {f : Nat} {fs : Array Field} {fd : Field} {i : TypeInfo} (hs : P.underlying s = some (.struct fs)) (hf : fs[f]? = some fd) (hi : P.info? fd.type = some i) (hp : i.size ≠ 0)
    {x : Operand} {x' : Opd} (hx : co n x = some x') (h : aop (.faddr fd.offset x') tm σ K) : Goes P a ⟨dst, .fieldAddr s x f, T, pos, after, g⟩ C w K := by
  have h1 := co_sound H hx
  have hrun : ∀ ad, a.eval x = .pointer (some ad) → (execOp a.eval ⟨dst, .fieldAddr s x f, T, pos, after, g⟩).run P w = .ok (.value (.pointer (some (ad.add fd.offset)))) w := by
    intro ad he
    simp [execOp, Instr.fieldAt, run_underlying hs, hf, Instr.sureAddr, he, fieldPlace, sizeOf_run hi, hp]
  simp only [aop] at h
  split at h
  · rename_i id gen o hrd
    rw [hrd] at h1
    simp only [VRel] at h1
    obtain ⟨ad, hv, hg, h2⟩ := h1
    refine .pure h (hrun ad hv) ?_ R
    simp only [VRel]
    refine ⟨_, rfl, hg, fun he => ?_⟩
    obtain ⟨L, hL, rfl⟩ := h2 he
    exact ⟨L, hL, by rw [addr_add, Nat.add_assoc]⟩
  · rename_i xs hrd
    rw [hrd] at h1
    simp only [VRel] at h1
    obtain ⟨b, o, us, hv, hl, hul, hc, hxs⟩ := h1
    obtain ⟨hle, h⟩ := h
    refine .pure h (hrun _ hv) ?_ R
    simp only [VRel]
    rw [addr_add]
    refine ⟨b, o + fd.offset, us.drop fd.offset, rfl, by simp; omega, by simp; omega, fun i u hu => ?_, hxs.drop _⟩
    rw [List.getElem?_drop] at hu
    rw [show o + fd.offset + i = o + (fd.offset + i) from by omega]; exact hc _ u hu
  · exact h.elim

theorem part_run {t : TypeId} {d : TypeDesc} {i : TypeInfo} (hd : P.underlying t = some d) (hi : P.info? t = some i) (us : List Value) (off : Nat) (w : World) :
    (part t us.toArray off).run P w = if (aggD d) then .ok (.agg ((us.drop off).take i.size).toArray) w else
      match us[off]? with | some v => .ok v w | none => .halt (.stuck "part: no such cell") w := by
  simp only [part, Sem.run_bind, isAgg_run hd, Result.andThen_ok]
  cases hq : aggD d
  · simp only [Bool.false_eq_true, if_false, List.getElem?_toArray]
    cases us[off]? <;> rfl
  · simp only [if_true, Sem.run_map, Sem.run_bind, sizeOf_run hi, Result.andThen_ok, Sem.run_pure]
    congr 2
    apply Array.ext'
    simp [List.extract_eq_take_drop]

theorem goes_field1 (R : Rel C σ w) (H : TRel C w tm a.tmps n) {s : TypeId} {f : Nat} {fs : Array Field} {fd : Field} {i : TypeInfo} {d : TypeDesc} (hs : P.underlying s = some (.struct fs)) (hf : fs[f]? = some fd) (hi : P.info? fd.type = some i)
    (hd : P.underlying fd.type = some d) (hag : (aggD d) = false)
    {x : Operand} {x' : Opd} (hx : co n x = some x') (h : aop (.field1 fd.offset x') tm σ K) : Goes P a ⟨dst, .field s x f, T, pos, after, g⟩ C w K := by
  have h1 := co_sound H hx
  simp only [aop] at h
  split at h
  · rename_i cs hrd
    rw [hrd] at h1; simp only [VRel] at h1
    obtain ⟨us, hv, hus⟩ := h1
    obtain ⟨v, hvv, hK⟩ := h
    obtain ⟨u, hu, hr⟩ := hus.get _ _ hvv
    refine .pure hK ?_ hr R
    simp [execOp, Instr.field, run_underlying hs, hf, hv, asAgg, part_run hd hi, hag, hu]
  · exact h.elim

theorem goes_fieldA (R : Rel C σ w) (H : TRel C w tm a.tmps n) {s : TypeId} {f : Nat} {fs : Array Field} {fd : Field} {i : TypeInfo} {d : TypeDesc} (hs : P.underlying s = some (.struct fs)) (hf : fs[f]? = some fd) (hi : P.info? fd.type = some i)
    (hd : P.underlying fd.type = some d) (hag : (aggD d) = true)
    {x : Operand} {x' : Opd} (hx : co n x = some x') (h : aop (.fieldA fd.offset i.size x') tm σ K) : Goes P a ⟨dst, .field s x f, T, pos, after, g⟩ C w K := by
  have h1 := co_sound H hx
  simp only [aop] at h
  split at h
  · rename_i cs hrd
    rw [hrd] at h1; simp only [VRel] at h1
    obtain ⟨us, hv, hus⟩ := h1
    obtain ⟨hle, hK⟩ := h
    refine .pure (v := .agg ((us.drop fd.offset).take i.size).toArray) hK ?_ (by simp only [VRel]; exact ⟨_, rfl, (hus.drop _).take _⟩) R
    simp [execOp, Instr.field, run_underlying hs, hf, hv, asAgg, part_run hd hi, hag]
  · exact h.elim

theorem goes_iaddr (R : Rel C σ w) (H : TRel C w tm a.tmps n) {t e : TypeId} {i : TypeInfo} (ht : P.underlying t = some (.slice e)) (hi : P.info? e = some i)
    {x y : Operand} {x' y' : Opd} (hx : co n x = some x') (hy : co n y = some y') (h : aop (.iaddr i.size x' y') tm σ K) : Goes P a ⟨dst, .indexAddr t x y, T, pos, after, g⟩ C w K := by
  have h1 := co_sound H hx
  have h2 := co_sound H hy
  have hrun : ∀ ad len c k m, a.eval x = .slice (some ad) len c → a.eval y = .int k m → 0 ≤ m → m < len →
      (execOp a.eval ⟨dst, .indexAddr t x y, T, pos, after, g⟩).run P w = .ok (.value (.pointer (some (ad.add (m.toNat * i.size))))) w := by
    intro ad len c k m h1 h2 h3 h4
    simp [execOp, Instr.indexAt, asIntOf, h1, h2, run_underlying ht, h3, h4, sizeOf_run hi]
  simp only [aop] at h
  split at h
  · rename_i id gen off len k m hrd hrd2
    rw [hrd] at h1; rw [hrd2] at h2
    simp only [VRel] at h1 h2
    obtain ⟨hm0, hm1, hK⟩ := h
    obtain ⟨ad, c, hv, hc, hg, h3⟩ := h1
    refine .pure hK (hrun _ _ _ _ _ hv h2 hm0 hm1) ?_ R
    simp only [VRel]
    refine ⟨_, rfl, hg, fun he => ?_⟩
    obtain ⟨L, o', hL, rfl, _, hoc, _⟩ := h3 he
    have : o' = off := by
      rcases hoc with h | h
      · omega
      · exact h
    subst this
    exact ⟨L, hL, by rw [addr_add, Nat.add_assoc]⟩
  · rename_i xs len cap k m hrd hrd2
    rw [hrd] at h1; rw [hrd2] at h2
    simp only [VRel] at h1 h2
    obtain ⟨hm0, hm1, hle, hK⟩ := h
    obtain ⟨b, o, c, us, hv, hc, _, hl, hul, hcell, hxs⟩ := h1
    refine .pure hK (hrun _ _ _ _ _ hv h2 hm0 hm1) ?_ R
    simp only [VRel]
    rw [addr_add]
    refine ⟨b, _, us.drop (m.toNat * i.size), rfl, by simp; omega, by simp; omega, fun j u hu => ?_, hxs.drop _⟩
    rw [List.getElem?_drop] at hu
    rw [show o + m.toNat * i.size + j = o + (m.toNat * i.size + j) from by omega]; exact hcell _ u hu
  · exact h.elim

theorem goes_istr (R : Rel C σ w) (H : TRel C w tm a.tmps n) {t : TypeId} (ht : P.underlying t = some .string)
    {x y : Operand} {x' y' : Opd} (hx : co n x = some x') (hy : co n y = some y') (h : aop (.istr x' y') tm σ K) : Goes P a ⟨dst, .index t x y, T, pos, after, g⟩ C w K := by
  have h1 := co_sound H hx
  have h2 := co_sound H hy
  simp only [aop] at h
  split at h
  · rename_i s k m hrd hrd2
    rw [hrd] at h1; rw [hrd2] at h2
    simp only [VRel] at h1 h2
    obtain ⟨hm0, b, hb, hK⟩ := h
    refine .pure (v := .int .u8 b.toNat) hK ?_ (by simp only [VRel]) R
    simp [execOp, Instr.index, asIntOf, h1, h2, run_underlying ht, hm0, ba_get, hb]
  · exact h.elim

theorem goes_extr (R : Rel C σ w) (H : TRel C w tm a.tmps n) {i : Nat} {x : Operand} {x' : Opd} (hx : co n x = some x') (h : aop (.extr x' i) tm σ K) : Goes P a ⟨dst, .extract x i, T, pos, after, g⟩ C w K := by
  have h1 := co_sound H hx
  simp only [aop] at h
  split at h
  · rename_i vs hrd
    rw [hrd] at h1; simp only [VRel] at h1
    obtain ⟨us, hv, hus⟩ := h1
    obtain ⟨v, hvv, hK⟩ := h
    obtain ⟨u, hu, hr⟩ := hus.get _ _ hvv
    refine .pure hK ?_ hr R
    simp [execOp, Instr.extract, hv, hu]
  · exact h.elim
end
end Go.Abs
set_option linter.unusedVariables false
set_option linter.unusedSimpArgs false
namespace Go.Abs

def oneInt (P : Program) (t : TypeId) : Bool := match P.underlying t with
  | some (.int _) => true
  | _ => false
def eqTy (P : Program) (t : TypeId) : Option Nat := match P.underlying t with
  | some .bool => some 0
  | some (.pointer _) => some 1
  | some (.slice _) => some 2
  | some (.map _ _) => some 3
  | some (.func _ _ _) => some 4
  | some (.struct fs) => match fs.toList with
    | [f, g] => if f.name != "_" && g.name != "_" && f.offset == 0 && g.offset == 1 && oneInt P f.type && oneInt P g.type && !P.stoodInHeld t && !P.eqGuardType P.depth t then some 5 else none
    | _ => none
  | _ => none
theorem oneInt_some {P : Program} {t : TypeId} (h : oneInt P t = true) : ∃ k, P.underlying t = some (.int k) := by
  unfold oneInt at h
  split at h
  · exact ⟨_, by assumption⟩
  · cases h

section
variable {P : Program} {C : Ctx} {σ : St} {w : World} {tm : Tm} {n : Nat} {a : Act} {dst : Option Tmp} {T : TypeId} {pos : _} {after : _} {g : _} {K : AV → St → Prop}

theorem part_int {t : TypeId} {k : IntKind} (h : P.underlying t = some (.int k)) {xs : Array Value} {o : Nat} {v : Value} (hv : xs[o]? = some v) : (part t xs o).run P w = .ok v w := by
  simp [part, isAgg, run_underlying h, hv]

theorem in_bool (d : Nat) {t : TypeId} (hu : P.underlying t = some .bool) (a b : Bool) : (Op.equalIn (d + 1) t (.bool a) (.bool b)).run P w = .ok (a == b) w := by
  simp [Op.equalIn, run_underlying hu]
theorem in_ptr0 (d : Nat) {t e : TypeId} (hu : P.underlying t = some (.pointer e)) (b : Option Addr) : (Op.equalIn (d + 1) t (.pointer none) (.pointer b)).run P w = .ok b.isNone w := by
  simp [Op.equalIn, run_underlying hu]
theorem in_ptr1 (d : Nat) {t e : TypeId} (hu : P.underlying t = some (.pointer e)) (b : Addr) : (Op.equalIn (d + 1) t (.pointer (some b)) (.pointer none)).run P w = .ok false w := by
  simp [Op.equalIn, run_underlying hu]
theorem in_sl0 (d : Nat) {t e : TypeId} (hu : P.underlying t = some (.slice e)) (b : Option Addr) (l c : Nat) : (Op.equalIn (d + 1) t (.slice b l c) (.slice none 0 0)).run P w = .ok b.isNone w := by
  cases b <;> simp [Op.equalIn, run_underlying hu]
theorem in_map0 (d : Nat) {t e e' : TypeId} (hu : P.underlying t = some (.map e e')) (b : Option Nat) : (Op.equalIn (d + 1) t (.map b) (.map none)).run P w = .ok b.isNone w := by
  cases b <;> simp [Op.equalIn, run_underlying hu]
theorem in_fn0 (d : Nat) {t : TypeId} {x y z} (hu : P.underlying t = some (.func x y z)) : (Op.equalIn (d + 1) t .nilFunc .nilFunc).run P w = .ok true w := by
  simp [Op.equalIn, run_underlying hu]
theorem in_fn1 (d : Nat) {t : TypeId} {x y z} (hu : P.underlying t = some (.func x y z)) (f : Fn) (as bs : Array Value) : (Op.equalIn (d + 1) t (.func f as bs) .nilFunc).run P w = .ok false w := by
  simp [Op.equalIn, run_underlying hu]
theorem equal_in (t : TypeId) (x y : Value) : Op.equal t x y = Op.equalIn (9999 + 1) t x y := rfl

theorem eqA_sound {t : TypeId} {k : Nat} (ht : eqTy P t = some k) {x y : AV} {b : Bool} (h : eqA k x y = some b) {u v : Value} (hx : VRel C w x u) (hy : VRel C w y v) (op : BinOp) (hop : op = .eql ∨ op = .neq) (ox oy : Operand) :
    (eqGuard op t ox oy u v).run P w = .ok () w ∧ (Op.equal t u v).run P w = .ok b w ∧ (∀ k n, u ≠ .int k n) ∧ (∀ k n, u ≠ .float k n) ∧ (∀ k n m, u ≠ .complex k n m) ∧ (∀ s, u ≠ .string s) := by
  unfold eqTy at ht
  split at ht
  · rename_i hu; cases ht
    simp only [eqA] at h
    unfold eqA0 at h
    split at h <;> cases h
    simp only [VRel] at hx hy
    subst hx hy
    exact ⟨by rcases hop with rfl | rfl <;> simp [eqGuard], by rw [equal_in, in_bool _ hu], by simp, by simp, by simp, by simp⟩
  · rename_i e hu; cases ht
    simp only [eqA] at h
    unfold eqA1 at h
    split at h <;> cases h <;> simp only [VRel] at hx hy
    · subst hx hy
      exact ⟨by rcases hop with rfl | rfl <;> simp [eqGuard], by rw [equal_in, in_ptr0 _ hu]; rfl, by simp, by simp, by simp, by simp⟩
    · subst hx; obtain ⟨q, rfl, _⟩ := hy
      exact ⟨by rcases hop with rfl | rfl <;> simp [eqGuard], by rw [equal_in, in_ptr0 _ hu]; rfl, by simp, by simp, by simp, by simp⟩
    · subst hy; obtain ⟨q, rfl, _⟩ := hx
      exact ⟨by rcases hop with rfl | rfl <;> simp [eqGuard], by rw [equal_in, in_ptr1 _ hu], by simp, by simp, by simp, by simp⟩
    · subst hx; obtain ⟨q, o, us, rfl, _⟩ := hy
      exact ⟨by rcases hop with rfl | rfl <;> simp [eqGuard], by rw [equal_in, in_ptr0 _ hu]; rfl, by simp, by simp, by simp, by simp⟩
    · subst hy; obtain ⟨q, o, us, rfl, _⟩ := hx
      exact ⟨by rcases hop with rfl | rfl <;> simp [eqGuard], by rw [equal_in, in_ptr1 _ hu], by simp, by simp, by simp, by simp⟩
  · rename_i e hu; cases ht
    simp only [eqA] at h
    unfold eqA2 at h
    split at h <;> cases h <;> simp only [VRel] at hx hy
    · subst hx hy
      exact ⟨by rcases hop with rfl | rfl <;> simp [eqGuard], by rw [equal_in, in_sl0 _ hu]; rfl, by simp, by simp, by simp, by simp⟩
    · subst hy; obtain ⟨q, c, rfl, _⟩ := hx
      exact ⟨by rcases hop with rfl | rfl <;> simp [eqGuard], by rw [equal_in, in_sl0 _ hu]; rfl, by simp, by simp, by simp, by simp⟩
    · subst hy; obtain ⟨q, o, c, us, rfl, _⟩ := hx
      exact ⟨by rcases hop with rfl | rfl <;> simp [eqGuard], by rw [equal_in, in_sl0 _ hu]; rfl, by simp, by simp, by simp, by simp⟩
  · rename_i e hu; cases ht
    simp only [eqA] at h
    unfold eqA3 at h
    split at h <;> cases h <;> simp only [VRel] at hx hy
    · subst hx hy
      exact ⟨by rcases hop with rfl | rfl <;> simp [eqGuard], by rw [equal_in, in_map0 _ hu]; rfl, by simp, by simp, by simp, by simp⟩
    · subst hy; obtain ⟨q, rfl, _⟩ := hx
      exact ⟨by rcases hop with rfl | rfl <;> simp [eqGuard], by rw [equal_in, in_map0 _ hu]; rfl, by simp, by simp, by simp, by simp⟩
  · rename_i e hu; cases ht
    simp only [eqA] at h
    unfold eqA4 at h
    split at h <;> cases h <;> simp only [VRel] at hx hy
    · subst hx hy
      exact ⟨by rcases hop with rfl | rfl <;> simp [eqGuard], by rw [equal_in, in_fn0 _ hu], by simp, by simp, by simp, by simp⟩
    · subst hy; obtain ⟨q, rfl, _⟩ := hx
      exact ⟨by rcases hop with rfl | rfl <;> simp [eqGuard], by rw [equal_in, in_fn1 _ hu], by simp, by simp, by simp, by simp⟩
  · rename_i fs hu
    split at ht
    · rename_i f g hfs
      split at ht
      · rename_i hc
        cases ht
        simp only [Bool.and_eq_true, bne_iff_ne, beq_iff_eq, Bool.not_eq_true'] at hc
        obtain ⟨⟨⟨⟨⟨⟨⟨c1, c2⟩, c3⟩, c4⟩, c5⟩, c6⟩, c7⟩, c8⟩ := hc
        obtain ⟨k1, h1⟩ := oneInt_some c5
        obtain ⟨k2, h2⟩ := oneInt_some c6
        simp only [eqA] at h
        unfold eqA5 at h
        split at h <;> try (cases h; done)
        rename_i ka xa kb xb la xc lb xd
        split at h
        · rename_i hk
          obtain ⟨rfl, rfl⟩ := hk
          cases h
          simp only [VRel, VRels] at hx hy
          obtain ⟨us, rfl, u1, r1, rfl, rfl, u2, r2, rfl, rfl, rfl⟩ := hx
          obtain ⟨vs, rfl, v1, s1, rfl, rfl, v2, s2, rfl, rfl, rfl⟩ := hy
          have hfo : P.fieldsOf t = fs := by simp [Program.fieldsOf, hu]
          refine ⟨by rcases hop with rfl | rfl <;> simp [eqGuard, c8], ?_, by simp, by simp, by simp, by simp⟩
          have hs := run_equalIn_struct (P := P) w 9999 t #[.int ka xa, .int kb xb] #[.int ka xc, .int kb xd] (by rw [hfo]; exact hu) c7
          rw [equal_in]
          rw [show ([Value.int ka xa, Value.int kb xb].toArray) = #[.int ka xa, .int kb xb] from rfl, show ([Value.int ka xc, Value.int kb xd].toArray) = #[.int ka xc, .int kb xd] from rfl, hs, hfo, hfs]
          simp only [Op.eqFields, c1, c2, c3, c4, ne_eq, not_false_eq_true, if_true, Sem.run_bind]
          rw [part_int h1 (v := .int ka xa) (by simp)]
          simp only [Result.andThen_ok]
          rw [part_int h1 (v := .int ka xc) (by simp)]
          simp only [Result.andThen_ok]
          rw [show (9999 : Nat) = 9998 + 1 from rfl, run_equalIn_int w 9998 f.type ka k1 xa xc h1]
          simp only [Result.andThen_ok]
          by_cases hq : xa = xc
          · subst hq
            simp only [beq_self_eq_true, Bool.not_true, Bool.false_eq_true, if_false, Sem.run_bind]
            rw [part_int h2 (v := .int kb xb) (by simp)]
            simp only [Result.andThen_ok]
            rw [part_int h2 (v := .int kb xd) (by simp)]
            simp only [Result.andThen_ok]
            rw [run_equalIn_int w 9998 g.type kb k2 xb xd h2]
            simp only [Result.andThen_ok]
            by_cases hr : xb = xd
            · subst hr; simp
            · simp [hr]
          · have : (xa == xc) = false := by simpa using hq
            simp [this, hq]
        · cases h
      · cases ht
    · cases ht
  · cases ht

theorem goes_eq2 (R : Rel C σ w) (H : TRel C w tm a.tmps n) {op : BinOp} {t yt : TypeId} {k : Nat} (ht : eqTy P t = some k) (hop : op = .eql ∨ op = .neq) {x y : Operand} {x' y' : Opd} (hx : co n x = some x') (hy : co n y = some y')
    (h : aop (.eq2 k (decide (op = .neq)) x' y') tm σ K) : Goes P a ⟨dst, .binOp op t x y yt, T, pos, after, g⟩ C w K := by
  simp only [aop] at h
  obtain ⟨b, hb, hK⟩ := h
  obtain ⟨h1, h2, h3, h4, h5, h6⟩ := eqA_sound ht hb (co_sound H hx) (co_sound H hy) op hop x y
  refine .pure (v := .bool (if decide (op = BinOp.neq) = true then !b else b)) hK ?_ (by simp only [VRel]) R
  simp only [execOp, Sem.run_bind, h1, Result.andThen_ok]
  rcases hop with rfl | rfl
  · have : binOp .eql t (a.eval x) (a.eval y) = (do pure (.bool (← Op.equal t (a.eval x) (a.eval y)))) := by
      unfold binOp
      split <;> simp_all
    rw [this]; simp only [Sem.run_bind, h2, Result.andThen_ok, Sem.run_pure]; rfl
  · have : binOp .neq t (a.eval x) (a.eval y) = (do pure (.bool (!(← Op.equal t (a.eval x) (a.eval y))))) := by
      unfold binOp
      split <;> simp_all
    rw [this]; simp only [Sem.run_bind, h2, Result.andThen_ok, Sem.run_pure]; rfl
end
end Go.Abs
set_option linter.unusedVariables false
set_option linter.unusedSimpArgs false
namespace Go.Abs

def coO (n : Nat) : Option Operand → Option (Option Opd)
  | none => some none
  | some x => (co n x).map some

section
variable {P : Program} {a : Act} {C : Ctx} {σ : St} {w : World} {K : AV → St → Prop} {tm : Tm} {n : Nat} {dst : Option Tmp} {T : TypeId} {pos : String} {after : Array Edge} {g : Option (Nat × Bool)}

theorem bound_sound (H : TRel C w tm a.tmps n) {x : Option Operand} {x' : Option Opd} (hx : coO n x = some x') {d : Nat} {m : Int} (h : bound tm d x' = some m) :
    (x = none ∧ m = d) ∨ ∃ k, x.map a.eval = some (.int k m) := by
  cases x with
  | none => simp [coO] at hx; subst hx; simp [bound] at h; exact .inl ⟨rfl, by omega⟩
  | some x =>
    simp only [coO, Option.map_eq_some_iff] at hx
    obtain ⟨y, hy, rfl⟩ := hx
    have h1 := co_sound H hy
    simp only [bound] at h
    split at h
    · rename_i k q hq
      cases h
      rw [hq] at h1; simp only [VRel] at h1
      exact .inr ⟨k, by simp [h1]⟩
    · cases h

theorem sliceBounds_run (H : TRel C w tm a.tmps n) {lo hi : Option Operand} {lo' hi' : Option Opd} (hlo : coO n lo = some lo') (hhi : coO n hi = some hi') {l h : Int} {len cap : Nat} (hl : bound tm 0 lo' = some l) (hh : bound tm len hi' = some h)
    (h0 : 0 ≤ l) (h1 : l ≤ h) (h2 : h ≤ len) (hc : len ≤ cap) (b : Bool) :
    (Instr.sliceBounds b len cap (lo.map a.eval) (hi.map a.eval) none).run P w = .ok (l.toNat, h.toNat, cap) w := by
  have hL := bound_sound H hlo hl
  have hH := bound_sound H hhi hh
  unfold Instr.sliceBounds
  rcases hH with ⟨rfl, rfl⟩ | ⟨k, hk⟩
  · rcases hL with ⟨rfl, rfl⟩ | ⟨k2, hk2⟩
    · simp
    · simp [hk2, Instr.sliceBound, asIntOf, h0, h1]
  · rcases hL with ⟨rfl, rfl⟩ | ⟨k2, hk2⟩
    · simp [hk, Instr.sliceBound, asIntOf, show (0 : Int) ≤ h by omega, show h ≤ (cap : Int) by omega]
    · simp [hk, hk2, Instr.sliceBound, asIntOf, show (0 : Int) ≤ h by omega, show h ≤ (cap : Int) by omega, h0, show l ≤ max h 0 by omega]

theorem goes_slstr (R : Rel C σ w) (H : TRel C w tm a.tmps n) {t : TypeId} (ht : P.underlying t = some .string) {x : Operand} {lo hi : Option Operand} {x' : Opd} {lo' hi' : Option Opd} (hx : co n x = some x')
    (hlo : coO n lo = some lo') (hhi : coO n hi = some hi') (h : aop (.slstr x' lo' hi') tm σ K) : Goes P a ⟨dst, .slice t x lo hi none, T, pos, after, g⟩ C w K := by
  have h1 := co_sound H hx
  simp only [aop] at h
  split at h
  · rename_i s hrd
    rw [hrd] at h1; simp only [VRel] at h1
    obtain ⟨l, q, hl, hq, h0, hlq, hqs, hK⟩ := h
    have hb := sliceBounds_run (P := P) H hlo hhi hl hq h0 hlq hqs (Nat.le_refl _) false
    refine .pure (v := .string ⟨((s.take q.toNat).drop l.toNat).toArray⟩) hK ?_ (by simp only [VRel]) R
    simp [execOp, Instr.sliceAt, run_underlying ht, Instr.slice, h1, ba_size, hb, ba_extract]
  · exact h.elim

theorem goes_slsl (R : Rel C σ w) (H : TRel C w tm a.tmps n) {t e : TypeId} {i : TypeInfo} (ht : P.underlying t = some (.slice e)) (hi0 : P.info? e = some i) {x : Operand} {lo hi : Option Operand} {x' : Opd} {lo' hi' : Option Opd} (hx : co n x = some x')
    (hlo : coO n lo = some lo') (hhi : coO n hi = some hi') (h : aop (.slsl i.size x' lo' hi') tm σ K) : Goes P a ⟨dst, .slice t x lo hi none, T, pos, after, g⟩ C w K := by
  have h1 := co_sound H hx
  simp only [aop] at h
  split at h
  · rename_i id gen off len hrd
    rw [hrd] at h1; simp only [VRel] at h1
    obtain ⟨l, q, hl, hq, h0, hlq, hqs, hlive, hpos, hK⟩ := h
    obtain ⟨ad, c, hv, hc, hg, h3⟩ := h1
    have hb := sliceBounds_run (P := P) H hlo hhi hl hq h0 hlq hqs hc true
    have hmul : l.toNat * i.size ≤ c * i.size := Nat.mul_le_mul_right _ (by omega)
    simp only [liveE] at hlive
    split at hlive
    · rename_i es cells gg fz hid
      obtain ⟨rfl, rfl⟩ := hlive
      obtain ⟨g0, L, cs, ty, fr, us, g1, g2, _⟩ := R.blk id _ hid
      obtain ⟨L', o', hL', rfl, hoo, hoc, hcap⟩ := h3 g0
      rw [g1] at hL'; cases hL'
      rw [g2] at hcap
      refine .pure (v := .slice (some (if c = l.toNat then ⟨L.b, L.base + o', none⟩ else ⟨L.b, L.base + o' + l.toNat * i.size, none⟩)) (q.toNat - l.toNat) (c - l.toNat)) hK ?_ ?_ R
      · simp [execOp, Instr.sliceAt, run_underlying ht, Instr.slice, hv, hb, sizeOf_run hi0, addr_add]
        split <;> rfl
      · have hsub : (c - l.toNat) * i.size = c * i.size - l.toNat * i.size := Nat.sub_mul _ _ _
        have hlen : (q - l).toNat = q.toNat - l.toNat := by omega
        rw [hlen]
        simp only [VRel]
        refine ⟨_, _, rfl, by omega, hg, fun _ => ?_⟩
        by_cases hcl : c = l.toNat
        · rw [if_pos hcl]
          exact ⟨L, o', g1, rfl, by omega, .inl (by omega), by rw [g2]; omega⟩
        · rw [if_neg hcl]
          have hoe : o' = off := by
            rcases hoc with h | h
            · omega
            · exact h
          subst hoe
          exact ⟨L, o' + l.toNat * i.size, g1, by rw [Nat.add_assoc], Nat.le_refl _, .inr rfl, by rw [g2]; omega⟩
    · exact hlive.elim
  · rename_i xs len cap hrd
    rw [hrd] at h1; simp only [VRel] at h1
    obtain ⟨l, q, hl, hq, h0, hlq, hqs, hxl, hK⟩ := h
    obtain ⟨b, o, c, us, hv, hc, _, hlim, hul, hcell, hus⟩ := h1
    have hb := sliceBounds_run (P := P) H hlo hhi hl hq h0 hlq hqs hc true
    have hm1 : l.toNat * i.size ≤ q.toNat * i.size := Nat.mul_le_mul_right _ (by omega)
    have hm2 : q.toNat * i.size ≤ len * i.size := Nat.mul_le_mul_right _ (by omega)
    refine .pure (v := .slice (some (if c = l.toNat then ⟨b, o, none⟩ else ⟨b, o + l.toNat * i.size, none⟩)) (q.toNat - l.toNat) (c - l.toNat)) hK ?_ ?_ R
    · simp [execOp, Instr.sliceAt, run_underlying ht, Instr.slice, hv, hb, sizeOf_run hi0, addr_add]
      split <;> rfl
    · have hlen : (q - l).toNat = q.toNat - l.toNat := by omega
      rw [hlen]
      simp only [VRel]
      by_cases hcl : c = l.toNat
      · rw [if_pos hcl]
        have hql : q.toNat = l.toNat := by omega
        refine ⟨b, o, _, [], rfl, by omega, (fun k hk => by cases hk), ?_, ?_, (fun i u hu => by simp at hu), ?_⟩
        · simp only [List.length_drop, List.length_take, hql]; omega
        · simp only [List.length_drop, List.length_take, hql, List.length_nil]; omega
        · have : (xs.take (q.toNat * i.size)).drop (l.toNat * i.size) = [] := by
            rw [hql]; apply List.drop_eq_nil_of_le; simp; omega
          rw [this]; exact VRels.nil
      · rw [if_neg hcl]
        refine ⟨b, o + l.toNat * i.size, _, (us.take (q.toNat * i.size)).drop (l.toNat * i.size), rfl, by omega, (fun k hk => by cases hk), ?_, ?_, (fun j u hu => ?_), (hus.take _).drop _⟩
        · simp only [List.length_drop, List.length_take]; omega
        · simp only [List.length_drop, List.length_take]; omega
        · rw [List.getElem?_drop, List.getElem?_take] at hu
          split at hu
          · rw [show o + l.toNat * i.size + j = o + (l.toNat * i.size + j) from by omega]; exact hcell _ u hu
          · cases hu
  · rename_i hrd
    rw [hrd] at h1; simp only [VRel] at h1
    obtain ⟨l, q, hl, hq, rfl, rfl, hK⟩ := h
    have hb := sliceBounds_run (P := P) (len := 0) (cap := 0) H hlo hhi hl hq (by omega) (by omega) (by omega) (by omega) true
    refine .pure (v := .slice none 0 0) hK ?_ (by simp only [VRel]) R
    simp at hb
    simp [execOp, Instr.sliceAt, run_underlying ht, Instr.slice, h1, hb, sizeOf_run hi0]
  · exact h.elim
end
end Go.Abs
