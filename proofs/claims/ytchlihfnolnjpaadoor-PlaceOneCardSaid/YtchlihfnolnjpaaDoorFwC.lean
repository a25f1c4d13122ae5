/- A framework for contracts of functions over an abstract memory, by its author; nothing of the program stands in it. -/
import Derived.Test.YtchlihfnolnjpaaDoorFwB
import Derived.RangeFuncRecord
import Derived.Scope
set_option linter.unusedVariables false
set_option linter.unusedSimpArgs false
namespace Go.Abs

inductive Ex where
  | norm | ret | exit (id : Nat)

inductive CC where
  | skip | region (s : Sch) | seq (a b : CC) | cond (c : Opd) (a b : CC) | block (id : Nat) (c : CC) | loop (c : CC) | exit (id : Nat) | ret | scope (c : CC)
  | rfunc (n : Nat) (g : Opd) (ps : Array Tmp) (asg body : Code)

def tmL (tm : Tm) (n : Nat) : List AV := (List.range n).map tm
def pushD (tm : Tm) (n : Nat) (x : AV) : Tm := upd tm n (match tm n with | .tup l => .tup (x :: l) | y => y)
/-- Behind a range over a function. -/
def afterLoop (Q : Ex → Tm → St → Prop) (l : Nat) (tm : Tm) (σ : St) : Prop := match σ.heap l with
  | some (.loop st jump tl ps a b) => st ≠ .busy ∧ match jump with
    | none => Q .norm tm (σ.set l (.loop .exhausted none tl ps a b))
    | some .ret => Q .ret tm (σ.set l (.loop .exhausted (some .ret) tl ps a b))
    | some (.exit id) => Q (.exit id) tm (σ.set l (.loop .exhausted (some (.exit id)) tl ps a b))
    | _ => False
  | _ => False

/-- WHAT A TEXT DOES: behind it Q holds. -/
def awp (P : Program) : CC → (Ex → Tm → St → Prop) → Tm → St → Prop
  | .skip, Q, tm, σ => Q .norm tm σ
  | .region s, Q, tm, σ => asch P s (Q .norm) tm σ
  | .seq a b, Q, tm, σ => awp P a (fun e tm σ => match e with | .norm => awp P b Q tm σ | e => Q e tm σ) tm σ
  | .cond c a b, Q, tm, σ => match rd tm c with
    | .bool t => if t then awp P a Q tm σ else awp P b Q tm σ
    | _ => False
  | .block id c, Q, tm, σ => awp P c (fun e tm σ => match e with | .exit i => if i = id then Q .norm tm σ else Q (.exit i) tm σ | e => Q e tm σ) tm σ
  | .loop c, Q, tm, σ => ∃ (I : Tm → St → Prop) (μ : Tm → St → Nat), I tm σ ∧ ∀ tm σ, I tm σ → awp P c (fun e tm' σ' => match e with | .norm => I tm' σ' ∧ μ tm' σ' < μ tm σ | e => Q e tm' σ') tm σ
  | .exit id, Q, tm, σ => Q (.exit id) tm σ
  | .ret, Q, tm, σ => Q .ret tm σ
  | .scope c, Q, tm, σ => awp P c Q tm σ
  | .rfunc n g ps asg body, Q, tm, σ => match rd tm g with
    | .fn f caps => callable P f = true ∧ CallsA P f (.yl (σ.nx + 1) :: caps) ((σ.new .defd).new (.loop .ready none (tmL tm n) ps asg body)) fun _ σ' => afterLoop Q (σ.nx + 1) (pushD tm n (.map σ.nx)) σ'
    | _ => False

def compC (P : Program) (n : Nat) (top : Bool) : Code → Option CC
  | .skip => some .skip
  | .label _ => some .skip
  | .region _ ops draw => (compR P n ops draw).bind fun s => some (.region s)
  | .seq a b => (compC P n top a).bind fun x => (compC P n top b).bind fun y => some (.seq x y)
  | .cond c a b => (co n c).bind fun z => (compC P n top a).bind fun x => (compC P n top b).bind fun y => some (.cond z x y)
  | .block id c => (compC P n top c).bind fun x => some (.block id x)
  | .loop c => (compC P n top c).bind fun x => some (.loop x)
  | .exit id => some (.exit id)
  | .ret => some .ret
  | .scope c => (compC P n top c).bind fun x => some (.scope x)
  | .rangeFunc g ps asg body => if top then (co n g).bind fun y => some (.rfunc n y ps asg body) else none
  | _ => none

/-- What is asked at a text's end, for the machine. -/
inductive ExR : Ex → Exit → Prop
  | norm : ExR .norm .normal
  | ret : ExR .ret .ret
  | exit (id : Nat) : ExR (.exit id) (.exit id)
def DRel (C : Ctx) (w : World) (x : AV) (ds : List Deferred) : Prop := ∃ (xs : List AV) (rs : List Nat), x = .tup xs ∧ ds = rs.map (fun r => { target := .collected r, args := #[] }) ∧ VRels C w xs (rs.map fun r => Value.map (some r))
def Lift (n : Nat) (C0 : Ctx) (w0 : World) (Q : Ex → Tm → St → Prop) : Exit → Act → World → Prop :=
  fun e a w => ∃ ex tm σ C, ExR ex e ∧ Q ex tm σ ∧ Rel C σ w ∧ TRel C w tm a.tmps n ∧ Evol C0 w0 C w ∧ DRel C w (tm n) a.defers

theorem DRel.evol {C C' : Ctx} {w w' : World} {x : AV} {ds : List Deferred} (h : DRel C w x ds) (E : Evol C w C' w') : DRel C' w' x ds := by
  obtain ⟨xs, rs, h1, h2, h3⟩ := h
  exact ⟨xs, rs, h1, h2, VRels.evol E _ _ h3⟩

theorem exists_min (p : Nat → Prop) (h : ∃ k, p k) : ∃ k, p k ∧ ∀ j, j < k → ¬ p j := by
  obtain ⟨k, hk⟩ := h
  induction k using Nat.strongRecOn with
  | _ k ih =>
    by_cases hj : ∃ j, j < k ∧ p j
    · obtain ⟨j, hj, hp⟩ := hj; exact ih j hj hp
    · exact ⟨k, hk, fun j h1 h2 => hj ⟨j, h1, h2⟩⟩
open Classical in
noncomputable def minOf (p : Nat → Prop) : Nat := if h : ∃ k, p k ∧ ∀ j, j < k → ¬ p j then Classical.choose h else 0
theorem minOf_spec {p : Nat → Prop} (h : ∃ k, p k) : p (minOf p) ∧ ∀ j, p j → minOf p ≤ j := by
  have h' := exists_min p h
  unfold minOf
  rw [dif_pos h']
  have := Classical.choose_spec h'
  exact ⟨this.1, fun j hj => Nat.le_of_not_lt fun hlt => this.2 j hlt hj⟩

section
variable {P : Program} {b : Frame} {a : Act} {k : List Item} {cs : List Frame} {w : World} {Q : Exit → Act → World → Prop} {F : Fence} {n : Nat}
theorem stepR_scope {c : Code} : step P (lone (b.atR a (.code (.scope c) :: k)) cs w) = .next (lone (b.atR a (.code c :: .inScope c :: k)) cs w) :=
  step_lone_go (by simp [stepG, stepG.exec, Frame.atR])
theorem stepR_inScope {c : Code} : step P (lone (b.atR a (.inScope c :: k)) cs w) = .next (lone (b.atR a k) cs w) :=
  step_lone_go (by simp [stepG, stepG.exec, Frame.atR])
theorem wpIn_scope {c : Code} (h : c.wpIn F n P (Exit.noGoto Q) a w) : (Code.scope c).wpIn F n P Q a w := by
  intro b k cs hro hb hr
  have h0 : (lone (b.atR a (.code (.scope c) :: k)) cs w).fenced P F := fenced_calm hb hr rfl
  obtain ⟨e, a₁, w₁, hq, harr⟩ := h b (.inScope c :: k) cs hro hb hr
  cases e with
  | normal => exact ⟨.normal, a₁, w₁, hq, .head h0 stepR_scope (StepsIn.trans harr (.one (fenced_calm hb hr rfl) stepR_inScope))⟩
  | exit id' =>
    have hx : exitTo id' (.inScope c :: k) = exitTo id' k := by simp [exitTo]
    exact ⟨.exit id', a₁, w₁, hq, fun k' hk => .head h0 stepR_scope (harr.1 k' (by rw [hx]; exact hk)),
      fun hr' hk => let ⟨k₁, h1, h2⟩ := harr.2 hr' (by rw [hx]; exact hk); ⟨k₁, h1, .head h0 stepR_scope h2⟩⟩
  | goto l => exact hq.elim
  | ret => exact ⟨_, a₁, w₁, hq, .of_steps (.one h0 stepR_scope) harr⟩
  | panic ch => exact ⟨_, a₁, w₁, hq, .of_steps (.one h0 stepR_scope) harr⟩
  | outgrown => exact ⟨_, a₁, w₁, hq, .of_steps (.one h0 stepR_scope) harr⟩
end

section
variable {P : Program} {n : Nat} {C0 : Ctx} {w0 : World} {r : Option Nat} {m : Nat}

theorem TRel.pushD {C : Ctx} {w : World} {tm : Tm} {ts : Array Value} {x : AV} (h : TRel C w tm ts n) : TRel C w (pushD tm n x) ts n := by
  refine ⟨h.1, fun t ht => ?_⟩
  have := h.2 t ht
  simp only [Abs.pushD, upd]
  rw [if_neg (by omega)]; exact this

theorem tmL_rel {C : Ctx} {w : World} {tm : Tm} {ts : Array Value} (h : TRel C w tm ts n) : VRels C w (tmL tm n) ts.toList := by
  have key : ∀ k, k ≤ n → VRels C w ((List.range k).map tm) (ts.toList.take k) := by
    intro k
    induction k with
    | zero => intro _; simpa using VRels.nil
    | succ k ih =>
      intro hk
      have hlt : k < ts.size := by rw [h.1]; omega
      rw [List.range_succ, List.map_append, List.take_add_one]
      refine VRels.append (ih (by omega)) ?_
      have : ts.toList[k]?.toList = [ts.getD k undef] := by simp [hlt, Array.getD]
      rw [this]
      exact VRels.one (h.2 k (by omega))
  have := key n (Nat.le_refl _)
  rwa [List.take_of_length_le (by have := h.1; simp; omega)] at this

theorem rfunc_sound {g : Operand} {ps : Array Tmp} {asg body : Code} {y : Opd} (hg : co n g = some y) {C : Ctx} {σ : St} {w : World} {tm : Tm} {a : Act} {Q : Ex → Tm → St → Prop} (R : Rel C σ w) (H : TRel C w tm a.tmps n)
    (E : Evol C0 w0 C w) (D : DRel C w (tm n) a.defers) (h : awp P (.rfunc n y ps asg body) Q tm σ) : (Code.rangeFunc g ps asg body).wpIn (Wide none) m P (Lift n C0 w0 Q) a w := by
  have hv := co_sound H hg
  simp only [awp] at h
  split at h
  · rename_i f caps hrd
    obtain ⟨hcb, hcall⟩ := h
    rw [hrd] at hv
    simp only [VRel] at hv
    obtain ⟨lb, hval, hlb⟩ := hv
    refine wpIn_rangeFunc fun fn _ => ?_
    -- the block for the deferred calls, and the record
    have R1 := R.alloc (.deferred (some [])) 0 0 .defd (by simp only [BRel]; exact ⟨(R.fresh _ (Nat.le_refl _)).2, ⟨w.heap.size, 0, 0, 0⟩, by simp [Ctx.put], World.alloc_heap_new _ _⟩)
    have E1 := Evol.alloc R (.deferred (some [])) ⟨w.heap.size, 0, 0, 0⟩
    generalize hC1 : C.put σ.nx ⟨w.heap.size, 0, 0, 0⟩ = C1 at R1 E1
    generalize hw1 : w.alloc (.deferred (some [])) = w1 at R1 E1
    have H1 := H.evol E1
    let rec_ : Loop := { state := .ready, pending := none, fn, tmps := a.tmps, params := ps, assign := asg, body, defers := w.heap.size }
    have E2 := Evol.alloc R1 (.loop rec_) ⟨w1.heap.size, 0, 0, 0⟩
    have R2 := R1.alloc (.loop rec_) 0 0 (.loop .ready none (tmL tm n) ps asg body) (by
      simp only [BRel]
      refine ⟨(R1.fresh _ (Nat.le_refl _)).2, ⟨w1.heap.size, 0, 0, 0⟩, fn, a.tmps, w.heap.size, by simp [Ctx.put], World.alloc_heap_new _ _, ?_⟩
      exact VRels.evol E2 _ _ (tmL_rel H1))
    have hnx1 : (σ.new .defd).nx = σ.nx + 1 := rfl
    rw [hnx1] at R2 E2
    have hyl : VRel (C1.put (σ.nx + 1) ⟨w1.heap.size, 0, 0, 0⟩) (w1.alloc (.loop rec_)) (.yl (σ.nx + 1)) (.func (.yield w1.heap.size) #[] #[]) := by
      simp only [VRel]
      exact ⟨w1.heap.size, rfl, fun _ => ⟨⟨w1.heap.size, 0, 0, 0⟩, by simp [Ctx.put], rfl⟩⟩
    have hmk : VRel (C1.put (σ.nx + 1) ⟨w1.heap.size, 0, 0, 0⟩) (w1.alloc (.loop rec_)) (.map σ.nx) (.map (some w.heap.size)) := by
      refine VRel.evol E2 _ _ ?_
      simp only [VRel]
      exact ⟨w.heap.size, rfl, fun _ => ⟨⟨w.heap.size, 0, 0, 0⟩, by rw [← hC1]; simp [Ctx.put], rfl⟩⟩
    generalize hC2 : C1.put (σ.nx + 1) ⟨w1.heap.size, 0, 0, 0⟩ = C2 at R2 E2 hyl hmk
    generalize hw2 : w1.alloc (.loop rec_) = w2 at R2 E2 hyl hmk
    have hc := hcall C2 w2 (.func (.yield w1.heap.size) #[] #[] :: lb) R2 (VRels.cons hyl (VRels.evol (E1.trans E2) _ _ hlb))
    refine ⟨w1.heap.size, [{ target := .collected w.heap.size, args := #[] }], w2, { target := .fn (.func f) lb.toArray, args := #[.func (.yield w1.heap.size) #[] #[]] }, w2, f,
      #[.func (.yield w1.heap.size) #[] #[]] ++ lb.toArray, w2, ?_, ?_, fun _ _ => trivial, ?_, fun hh => by simp [Wide, Fence.wide] at hh, ?_⟩
    · show (Instr.enterLoop fn a.tmps ps asg body none).run P w = _
      rw [run_enterLoop_outer, ← hw2, ← hw1]
      simp [rec_]
    · simp only [resolve, hval]
      simp [Act.eval, Deferred.ofValue]
    · simp only [invoke, Sem.run_bind, Sem.run_pure, Result.andThen_ok]
      rw [callFunc_run hcb]
    · refine (calls_wide (r := none) (n := m - 1) (show Calls P f _ w2 _ from ?_) : _)
      have he : (#[.func (.yield w1.heap.size) #[] #[]] ++ lb.toArray : Array Value) = (Value.func (.yield w1.heap.size) #[] #[] :: lb).toArray := by apply Array.ext'; simp
      rw [he]
      refine hc.mono fun e w' => ?_
      rintro ⟨v, x, σ', C', rfl, hq, hv', R', E'⟩
      unfold afterLoop at hq
      split at hq
      · rename_i st jump tl ps' a' b' hl
        obtain ⟨hbusy, hq⟩ := hq
        have hB := R'.blk _ _ hl
        have hB0 := hB
        simp only [BRel] at hB
        obtain ⟨hg0, L, fn', ts, dd, hL, hheap, htl⟩ := hB
        have hLb : L.b = w1.heap.size := by
          have := VRel.evol E' _ _ hyl
          simp only [VRel] at this
          obtain ⟨b, hb, hb2⟩ := this
          cases hb
          obtain ⟨L', hL', hb'⟩ := hb2 hg0
          rw [hL] at hL'; cases hL'; exact hb'.symm
        have hset := R'.setObj hL (o := .loop { state := st, pending := jump, fn := fn', tmps := ts, params := ps', assign := a', body := b', defers := dd })
          (o' := .loop { state := .exhausted, pending := jump, fn := fn', tmps := ts, params := ps', assign := a', body := b', defers := dd }) hheap (by intros; simp)
          (.loop .exhausted jump tl ps' a' b') (R'.dom _ _ hl) (fun Ev => by
            simp only [BRel]
            refine ⟨hg0, L, fn', ts, dd, hL, ?_, VRels.evol Ev _ _ htl⟩
            have := R'.own _ _ hL
            simp only [World.setBlk, Array.getElem?_setIfInBounds_self_of_lt this.2])
        obtain ⟨R3, E3⟩ := hset
        rw [hLb] at hheap R3 E3
        have hend : (Instr.endLoop w1.heap.size).run P w' = .ok jump (World.setBlk w' w1.heap.size (.loop { state := .exhausted, pending := jump, fn := fn', tmps := ts, params := ps', assign := a', body := b', defers := dd })) := by
          exact run_endLoop hheap hbusy
        have EE := ((E1.trans E2).trans E').trans E3
        have hD : DRel C' (World.setBlk w' w1.heap.size (.loop { state := .exhausted, pending := jump, fn := fn', tmps := ts, params := ps', assign := a', body := b', defers := dd })) (pushD tm n (.map σ.nx) n)
            ([{ target := .collected w.heap.size, args := #[] }] ++ a.defers) := by
          obtain ⟨xs, rs, h1, h2, h3⟩ := D
          refine ⟨.map σ.nx :: xs, w.heap.size :: rs, ?_, ?_, ?_⟩
          · simp [pushD, upd, h1]
          · simp [h2]
          · simp only [List.map_cons]
            exact VRels.cons (VRel.evol (E'.trans E3) _ _ hmk) (VRels.evol EE _ _ h3)
        have HH := (H.evol EE).pushD (x := .map σ.nx)
        refine ⟨jump, _, hend, ?_⟩
        split at hq
        · exact ⟨.norm, _, _, C', .norm, hq, R3, HH, E.trans EE, hD⟩
        · exact wpIn_ret ⟨.ret, _, _, C', .ret, hq, R3, HH, E.trans EE, hD⟩
        · exact wpIn_exit ⟨.exit _, _, _, C', .exit _, hq, R3, HH, E.trans EE, hD⟩
        · exact hq.elim
      · exact hq.elim
  · exact h.elim

theorem code_sound {top : Bool} (htop : top = true → r = none) : ∀ (c : Code) (cc : CC), compC P n top c = some cc → ∀ (C : Ctx) (σ : St) (w : World) (tm : Tm) (a : Act) (Q : Ex → Tm → St → Prop), Rel C σ w → TRel C w tm a.tmps n →
    Evol C0 w0 C w → DRel C w (tm n) a.defers → awp P cc Q tm σ → c.wpIn (Wide r) m P (Lift n C0 w0 Q) a w := by
  intro c
  induction c with
  | skip =>
    intro cc hc C σ w tm a Q R H E D h
    simp only [compC] at hc; cases hc
    exact wpIn_skip ⟨.norm, tm, σ, C, .norm, h, R, H, E, D⟩
  | label l =>
    intro cc hc C σ w tm a Q R H E D h
    simp only [compC] at hc; cases hc
    exact wpIn_label ⟨.norm, tm, σ, C, .norm, h, R, H, E, D⟩
  | exit id =>
    intro cc hc C σ w tm a Q R H E D h
    simp only [compC] at hc; cases hc
    exact wpIn_exit ⟨.exit id, tm, σ, C, .exit id, h, R, H, E, D⟩
  | ret =>
    intro cc hc C σ w tm a Q R H E D h
    simp only [compC] at hc; cases hc
    exact wpIn_ret ⟨.ret, tm, σ, C, .ret, h, R, H, E, D⟩
  | region id ops draw =>
    intro cc hc C σ w tm a Q R H E D h
    simp only [compC] at hc
    obtain ⟨s, hs, hc⟩ := Option.bind_eq_some_iff.1 hc
    cases hc
    refine region_sound (ds := a.defers) (gh := tm n) (K := Q .norm) hs R H (Evol.refl C w) ⟨rfl, rfl⟩ h fun tm' σ' C' w' a' hK R' H' E' G' => ?_
    refine ⟨.norm, tm', σ', C', .norm, hK, R', H', E.trans E', ?_⟩
    rw [G'.2, G'.1]; exact D.evol E'
  | seq x y ihx ihy =>
    intro cc hc C σ w tm a Q R H E D h
    simp only [compC] at hc
    obtain ⟨x', hx, hc⟩ := Option.bind_eq_some_iff.1 hc
    obtain ⟨y', hy, hc⟩ := Option.bind_eq_some_iff.1 hc
    cases hc
    refine wpIn_seq (wpIn_mono (ihx x' hx C σ w tm a _ R H E D h) fun e a' w' => ?_)
    rintro ⟨ex, tm', σ', C', hex, hq, R', H', E', D'⟩
    cases hex with
    | norm => exact ihy y' hy C' σ' w' tm' a' Q R' H' E' D' hq
    | ret => exact ⟨.ret, tm', σ', C', .ret, hq, R', H', E', D'⟩
    | exit id => exact ⟨.exit id, tm', σ', C', .exit id, hq, R', H', E', D'⟩
  | cond c x y ihx ihy =>
    intro cc hc C σ w tm a Q R H E D h
    simp only [compC] at hc
    obtain ⟨z, hz, hc⟩ := Option.bind_eq_some_iff.1 hc
    obtain ⟨x', hx, hc⟩ := Option.bind_eq_some_iff.1 hc
    obtain ⟨y', hy, hc⟩ := Option.bind_eq_some_iff.1 hc
    cases hc
    have hv := co_sound H hz
    simp only [awp] at h
    split at h
    · rename_i t hrd
      rw [hrd] at hv; simp only [VRel] at hv
      refine wpIn_cond hv ?_
      cases t with
      | true => exact ihx x' hx C σ w tm a Q R H E D h
      | false => exact ihy y' hy C σ w tm a Q R H E D h
    · exact h.elim
  | block id x ih =>
    intro cc hc C σ w tm a Q R H E D h
    simp only [compC] at hc
    obtain ⟨x', hx, hc⟩ := Option.bind_eq_some_iff.1 hc
    cases hc
    refine wpIn_block (wpIn_mono (ih x' hx C σ w tm a _ R H E D h) fun e a' w' => ?_)
    rintro ⟨ex, tm', σ', C', hex, hq, R', H', E', D'⟩
    cases hex with
    | norm => exact ⟨.norm, tm', σ', C', .norm, hq, R', H', E', D'⟩
    | ret => exact ⟨.ret, tm', σ', C', .ret, hq, R', H', E', D'⟩
    | exit i =>
      simp only [Exit.inBlock]
      simp only at hq
      split
      · rename_i he; rw [if_pos he] at hq; exact ⟨.norm, tm', σ', C', .norm, hq, R', H', E', D'⟩
      · rename_i he; rw [if_neg he] at hq; exact ⟨.exit i, tm', σ', C', .exit i, hq, R', H', E', D'⟩
  | scope x ih =>
    intro cc hc C σ w tm a Q R H E D h
    simp only [compC] at hc
    obtain ⟨x', hx, hc⟩ := Option.bind_eq_some_iff.1 hc
    cases hc
    refine wpIn_scope (wpIn_mono (ih x' hx C σ w tm a Q R H E D h) fun e a' w' => ?_)
    rintro ⟨ex, tm', σ', C', hex, hrest⟩
    cases hex with
    | norm => exact ⟨.norm, tm', σ', C', .norm, hrest⟩
    | ret => exact ⟨.ret, tm', σ', C', .ret, hrest⟩
    | exit id => exact ⟨.exit id, tm', σ', C', .exit id, hrest⟩
  | loop x ih =>
    intro cc hc C σ w tm a Q R H E D h
    simp only [compC] at hc
    obtain ⟨x', hx, hc⟩ := Option.bind_eq_some_iff.1 hc
    cases hc
    simp only [awp] at h
    obtain ⟨I, μ, h0, hround⟩ := h
    let J : Act → World → Nat → Prop := fun a w k => ∃ tm σ C, I tm σ ∧ μ tm σ = k ∧ Rel C σ w ∧ TRel C w tm a.tmps n ∧ Evol C0 w0 C w ∧ DRel C w (tm n) a.defers
    refine wpIn_loop (fun a w => ∃ k, J a w k) (fun a w => minOf (J a w)) ⟨_, tm, σ, C, h0, rfl, R, H, E, D⟩ fun a1 w1 hI => ?_
    obtain ⟨⟨tm1, σ1, C1, hi, hk, R1, H1, E1, D1⟩, _⟩ := minOf_spec hI
    refine wpIn_mono (ih x' hx C1 σ1 w1 tm1 a1 _ R1 H1 E1 D1 (hround tm1 σ1 hi)) fun e a' w' => ?_
    rintro ⟨ex, tm', σ', C', hex, hq, R', H', E', D'⟩
    cases hex with
    | norm =>
      have hJ : J a' w' (μ tm' σ') := ⟨tm', σ', C', hq.1, rfl, R', H', E', D'⟩
      refine ⟨⟨_, hJ⟩, ?_⟩
      have := (minOf_spec (p := J a' w') ⟨_, hJ⟩).2 _ hJ
      have h2 := hq.2
      omega
    | ret => exact ⟨.ret, tm', σ', C', .ret, hq, R', H', E', D'⟩
    | exit id => exact ⟨.exit id, tm', σ', C', .exit id, hq, R', H', E', D'⟩
  | rangeFunc g ps asg body iha ihb =>
    intro cc hc C σ w tm a Q R H E D h
    simp only [compC] at hc
    split at hc
    · rename_i ht
      obtain ⟨y, hy, hc⟩ := Option.bind_eq_some_iff.1 hc
      cases hc
      have hr : r = none := htop ht
      subst hr
      exact rfunc_sound hy R H E D h
    · cases hc
  | goto l => intro cc hc; simp [compC] at hc
  | refuse s => intro cc hc; simp [compC] at hc
end
end Go.Abs
set_option linter.unusedVariables false
set_option linter.unusedSimpArgs false
namespace Go.Abs

/-- A result: a temporary, or what a cell holds. -/
inductive RV where
  | tmp (t : Nat) | cell1 (t : Nat) | cellA (t n : Nat)
def rvOf (P : Program) (n : Nat) : ResultVar → Option RV
  | .tmp t => if t < n then some (.tmp t) else none
  | .cell a t => (P.underlying t).bind fun d => (P.info? t).bind fun i => if a < n then some (if aggD d then .cellA a i.size else .cell1 a) else none
def rvsOf (P : Program) (n : Nat) : List ResultVar → Option (List RV)
  | [] => some []
  | x :: xs => (rvOf P n x).bind fun y => (rvsOf P n xs).bind fun ys => some (y :: ys)
def resK : List RV → Tm → St → (List AV → Prop) → Prop
  | [], tm, σ, K => K []
  | .tmp t :: r, tm, σ, K => resK r tm σ fun vs => K (tm t :: vs)
  | .cell1 t :: r, tm, σ, K => aop (.load1 (.t t)) tm σ fun v _ => resK r tm σ fun vs => K (v :: vs)
  | .cellA t n :: r, tm, σ, K => aop (.loadA n (.t t)) tm σ fun v _ => resK r tm σ fun vs => K (v :: vs)
def pack : List AV → AV
  | [v] => v
  | vs => .tup vs
/-- The blocks of loops that were gone through are shut. -/
def finA : List AV → St → (St → Prop) → Prop
  | [], σ, K => K σ
  | x :: xs, σ, K => match x with
    | .map id => match σ.heap id with
      | some .defd => finA xs (σ.set id .gone) K
      | _ => False
    | _ => False
def endK (rvs : List RV) (n : Nat) (tm : Tm) (σ : St) (Q : AV → St → Prop) : Prop := match tm n with
  | .tup xs => finA xs σ fun σ' => resK rvs tm σ' fun vs => Q (pack vs) σ'
  | _ => False

theorem asAddr_run (P : Program) (w : World) (a : Addr) : (asAddr (.pointer (some a))).run P w = .ok a w := by simp [asAddr]

section
variable {P : Program} {C : Ctx} {σ : St} {w : World} {n : Nat} {tm : Tm}

theorem loadVar_run1 (R : Rel C σ w) {t : TypeId} {d : TypeDesc} (hd : P.underlying t = some d) (hag : (aggD d) = false) {y : Opd} {v : Value} (h1 : VRel C w (rd tm y) v) {K : AV → St → Prop}
    (h : aop (.load1 y) tm σ K) : ∃ x a u, K x σ ∧ v = .pointer (some a) ∧ (loadVar t a).run P w = .ok u w ∧ VRel C w x u := by
  have hagg := isAgg_run hd w
  rw [hag] at hagg
  simp only [aop] at h
  split at h
  · rename_i id gen off hrd
    rw [hrd] at h1
    simp only [VRel] at h1
    split at h
    · rename_i es cells gg fz hid
      obtain ⟨rfl, x, hv, hK⟩ := h
      obtain ⟨ad, hval, _, h2⟩ := h1
      obtain ⟨L, u, hL, hg, hc, hvu⟩ := Rel.cell (R := R) hid hv
      obtain ⟨L', hL', had⟩ := h2 hg
      rw [hL] at hL'; cases hL'; subst had
      exact ⟨x, _, u, hK, hval, by simp [loadVar, hagg, hc], hvu⟩
    · exact h.elim
  · rename_i xs hrd
    rw [hrd] at h1
    simp only [VRel] at h1
    obtain ⟨b, o, us, hval, _, _, hc, hxs⟩ := h1
    split at h
    · simp only [VRels] at hxs
      obtain ⟨u, us', rfl, hvu, _⟩ := hxs
      have := hc 0 u (by simp)
      simp at this
      exact ⟨_, _, u, h, hval, by simp [loadVar, hagg, this], hvu⟩
    · exact h.elim
  · exact h.elim

theorem loadVar_runA (R : Rel C σ w) {t : TypeId} {d : TypeDesc} {i : TypeInfo} (hd : P.underlying t = some d) (hag : (aggD d) = true) (hi : P.info? t = some i) {y : Opd} {v : Value} (h1 : VRel C w (rd tm y) v) {K : AV → St → Prop}
    (h : aop (.loadA i.size y) tm σ K) : ∃ x a u, K x σ ∧ v = .pointer (some a) ∧ (loadVar t a).run P w = .ok u w ∧ VRel C w x u := by
  have hagg := isAgg_run hd w
  rw [hag] at hagg
  simp only [aop] at h
  split at h
  · rename_i id gen off hrd
    rw [hrd] at h1
    simp only [VRel] at h1
    split at h
    · rename_i es cells gg fz hid
      obtain ⟨rfl, hle, hK⟩ := h
      obtain ⟨ad, hval, _, h2⟩ := h1
      obtain ⟨h0, L, cs, ty, fr, us, g1, g2, g3, g4, g5, g6, g7, g8, g9, g10⟩ := R.blk id _ hid
      obtain ⟨L', hL', had⟩ := h2 h0
      rw [g1] at hL'; cases hL'; subst had
      have hrun := run_loadCells P w L.b (L.base + off) i.size ((us.drop off).take i.size) (by simp only [List.length_take, List.length_drop]; omega) (fun j u hu => by
        rw [List.getElem?_take] at hu
        split at hu
        · rw [List.getElem?_drop] at hu
          rw [cell_of g3, show L.base + off + j = L.base + (off + j) from by omega]; exact g9 _ u hu
        · cases hu)
      refine ⟨_, _, .agg ((us.drop off).take i.size).toArray, hK, hval, ?_, ?_⟩
      · simp [loadVar, hagg, sizeOf_run hi, hrun]
      · simp only [VRel]; exact ⟨_, rfl, (g10.drop off).take _⟩
    · exact h.elim
  · rename_i xs hrd
    rw [hrd] at h1
    simp only [VRel] at h1
    obtain ⟨b, o, us, hval, _, hul, hc, hxs⟩ := h1
    obtain ⟨hle, hK⟩ := h
    have hrun := run_loadCells P w b o i.size (us.take i.size) (by simp only [List.length_take]; omega) (fun j u hu => by
      rw [List.getElem?_take] at hu
      split at hu
      · exact hc _ u hu
      · cases hu)
    refine ⟨_, _, .agg (us.take i.size).toArray, hK, hval, ?_, ?_⟩
    · simp [loadVar, hagg, sizeOf_run hi, hrun]
    · simp only [VRel]; exact ⟨_, rfl, hxs.take _⟩
  · exact h.elim

/-- The machine's reading of a function's results. -/
def resRun (P : Program) (ts : Array Value) (w : World) : ResultVar → Value → Prop
  | .tmp t, v => v = ts.getD t undef
  | .cell a t, v => ∃ ad, ts.getD a undef = .pointer (some ad) ∧ (loadVar t ad).run P w = .ok v w

theorem resK_sound (R : Rel C σ w) {ts : Array Value} (H : TRel C w tm ts n) : ∀ {l : List ResultVar} {rvs : List RV} {K : List AV → Prop}, rvsOf P n l = some rvs → resK rvs tm σ K →
    ∃ (xs : List AV) (us : List Value), K xs ∧ VRels C w xs us ∧ l.length = us.length ∧ ∀ (i : Nat) (x : ResultVar) (u : Value), l[i]? = some x → us[i]? = some u → resRun P ts w x u
  | [], rvs, K, hl, h => by
    simp [rvsOf] at hl; subst hl
    exact ⟨[], [], h, VRels.nil, rfl, fun i x u hx => by simp at hx⟩
  | y :: l, rvs, K, hl, h => by
    simp only [rvsOf] at hl
    obtain ⟨rv, hrv, hl⟩ := Option.bind_eq_some_iff.1 hl
    obtain ⟨rs, hrs, hl⟩ := Option.bind_eq_some_iff.1 hl
    cases hl
    have step : ∀ (x : AV) (u : Value), resRun P ts w y u → VRel C w x u → resK rs tm σ (fun vs => K (x :: vs)) → ∃ (xs : List AV) (us : List Value), K xs ∧ VRels C w xs us ∧ (y :: l).length = us.length ∧ ∀ (i : Nat) (z : ResultVar) (u : Value), (y :: l)[i]? = some z → us[i]? = some u → resRun P ts w z u := by
      intro x u hu hx hk
      obtain ⟨xs, us, h1, h2, h3, h4⟩ := resK_sound R H hrs hk
      refine ⟨x :: xs, u :: us, h1, VRels.cons hx h2, by simp [h3], fun i z v hz hv => ?_⟩
      cases i with
      | zero => simp at hz hv; subst hz; subst hv; exact hu
      | succ i => simp at hz hv; exact h4 i z v hz hv
    cases y with
    | tmp t =>
      simp only [rvOf] at hrv
      split at hrv
      · rename_i hlt
        cases hrv
        simp only [resK] at h
        exact step _ _ rfl (H.2 t hlt) h
      · cases hrv
    | cell a t =>
      simp only [rvOf] at hrv
      obtain ⟨d, hd, hrv⟩ := Option.bind_eq_some_iff.1 hrv
      obtain ⟨i, hi, hrv⟩ := Option.bind_eq_some_iff.1 hrv
      split at hrv
      · rename_i hlt
        cases hrv
        have hv := H.2 a hlt
        cases hag : aggD d with
        | false =>
          simp only [hag, Bool.false_eq_true, if_false, resK] at h
          obtain ⟨x, ad, u, hk, he, hr, hx⟩ := loadVar_run1 (P := P) (tm := tm) R hd hag (y := .t a) hv h
          exact step x u ⟨ad, he, hr⟩ hx hk
        | true =>
          simp only [hag, if_true, resK] at h
          obtain ⟨x, ad, u, hk, he, hr, hx⟩ := loadVar_runA (P := P) (tm := tm) R hd hag hi (y := .t a) hv h
          exact step x u ⟨ad, he, hr⟩ hx hk
      · cases hrv

theorem mapM_run {P : Program} {w : World} (f : ResultVar → Sem Value) : ∀ (l : List ResultVar) (us : List Value), l.length = us.length → (∀ (i : Nat) (x : ResultVar) (u : Value), l[i]? = some x → us[i]? = some u → (f x).run P w = .ok u w) → (l.mapM f).run P w = .ok us w
  | [], [], _, _ => by simp
  | x :: l, u :: us, hl, h => by
    have h0 := h 0 x u rfl rfl
    have ih := mapM_run f l us (by simpa using hl) fun i y v hy hv => h (i + 1) y v (by simpa using hy) (by simpa using hv)
    simp [List.mapM_cons, h0, ih]
  | [], u :: us, hl, _ => by simp at hl
  | x :: l, [], hl, _ => by simp at hl

def packV : List Value → Value
  | [u] => u
  | us => .tuple us.toArray

theorem results_run {fn : Func} {ts : Array Value} {us : List Value} (hl : fn.results.toList.length = us.length) (h : ∀ (i : Nat) (x : ResultVar) (u : Value), fn.results.toList[i]? = some x → us[i]? = some u → resRun P ts w x u) :
    (results fn ts).run P w = .ok (packV us) w := by
  unfold results
  rw [Array.mapM_eq_mapM_toList]
  simp only [Sem.run_bind, Sem.run_map]
  rw [mapM_run _ fn.results.toList us hl (fun i x u hx hu => ?_)]
  · simp only [Result.andThen_ok, Sem.run_pure]
    cases us with
    | nil => simp [packV]
    | cons u us => cases us <;> simp [packV]
  · have := h i x u hx hu
    cases x with
    | tmp t => simp only [resRun] at this; subst this; simp
    | cell a t =>
      obtain ⟨ad, he, hr⟩ := this
      simp [he, asAddr, hr]
end
end Go.Abs
set_option linter.unusedVariables false
set_option linter.unusedSimpArgs false
namespace Go.Abs

def tm0 (args : List AV) : Tm := fun i => args.getD i undefA

section
variable {P : Program}

theorem leaves_sound {F : Fence} {m : Nat} {fn : Func} {ts : Array Value} {R : Ending → World → Prop} {C : Ctx} : ∀ (xs : List AV) (rs : List Nat) (σ : St) (w : World) (K : St → Prop), Rel C σ w → VRels C w xs (rs.map fun r => Value.map (some r)) → finA xs σ K →
    (∀ σ' w', K σ' → Rel C σ' w' → Evol C w C w' → LeavesInM F m P fn ts R [] .returning w') → LeavesInM F m P fn ts R (rs.map fun r => { target := .collected r, args := #[] }) .returning w
  | [], rs, σ, w, K, Rl, V, h, hQ => by
    cases rs with
    | nil => exact hQ σ w h Rl (Evol.refl C w)
    | cons r rs => simp only [List.map_cons, VRels] at V; cases V
  | x :: xs, [], σ, w, K, Rl, V, h, hQ => by
    simp only [List.map_nil, VRels] at V
    obtain ⟨u, r, he, _⟩ := V
    cases he
  | x :: xs, r :: rs, σ, w, K, Rl, V, h, hQ => by
    simp only [List.map_cons, VRels] at V
    obtain ⟨u, t, he, hx, hxs⟩ := V
    simp only [List.cons.injEq] at he
    obtain ⟨rfl, rfl⟩ := he
    simp only [finA] at h
    split at h
    · rename_i id
      split at h
      · rename_i hid
        have hB := Rl.blk _ _ hid
        simp only [BRel] at hB
        obtain ⟨h0, L, hL, hheap⟩ := hB
        simp only [VRel] at hx
        obtain ⟨b, hb, hb2⟩ := hx
        cases hb
        obtain ⟨L', hL', rfl⟩ := hb2 h0
        rw [hL] at hL'; cases hL'
        obtain ⟨R3, E3⟩ := Rl.setObj hL hheap (by intros; simp) (o' := .deferred none) .gone (Rl.dom _ _ hid) (fun _ => by simp only [BRel])
        refine ⟨by simp, .inl ⟨L.b, _, rfl, run_takeDeferred hheap, ?_⟩⟩
        exact leaves_sound xs rs _ _ K R3 (VRels.evol E3 _ _ hxs) h fun σ' w' hk R' E' => hQ σ' w' hk R' (E3.trans E')
      · exact h.elim
    · exact h.elim

theorem pack_rel {C : Ctx} {w : World} {xs : List AV} {us : List Value} (h : VRels C w xs us) : VRel C w (pack xs) (packV us) := by
  have hl := h.length
  match xs, us, h with
  | [], [], h => simp only [pack, packV, VRel]; exact ⟨[], rfl, VRels.nil⟩
  | [x], [u], h =>
    simp only [VRels] at h
    obtain ⟨u', r, he, hx, _⟩ := h
    cases he; exact hx
  | x :: y :: xs, u :: v :: us, h => simp only [pack, packV, VRel]; exact ⟨_, rfl, h⟩
  | [], u :: us, h => simp at hl
  | [x], [], h => simp at hl
  | [x], u :: v :: us, h => simp at hl
  | x :: y :: xs, [], h => simp at hl
  | x :: y :: xs, [u], h => simp at hl

theorem trel_init {C : Ctx} {w : World} {args : List AV} {us : List Value} {n : Nat} (V : VRels C w args us) (hn : args.length ≤ n) : TRel C w (tm0 args) (us.toArray ++ Array.replicate (n - us.toArray.size) undef) n := by
  have hl := V.length
  refine ⟨by simp; omega, fun t ht => ?_⟩
  rcases Nat.lt_or_ge t args.length with h | h
  · obtain ⟨u, hu, hv⟩ := V.get t args[t] (List.getElem?_eq_getElem h)
    have hlt : t < us.length := by omega
    have : tm0 args t = args[t] := by simp [tm0, List.getD, h]
    rw [this]
    have : (us.toArray ++ Array.replicate (n - us.toArray.size) undef).getD t undef = u := by
      have := (List.getElem?_eq_some_iff.1 hu)
      obtain ⟨_, rfl⟩ := this
      have h1 : t < (us.toArray ++ Array.replicate (n - us.toArray.size) undef).size := by simp; omega
      rw [Array.getD, dif_pos h1]
      simp [Array.getElem_append, hlt]
    rw [this]; exact hv
  · have h1 : tm0 args t = undefA := by simp [tm0, List.getD, List.getElem?_eq_none h]
    have h2 : (us.toArray ++ Array.replicate (n - us.toArray.size) undef).getD t undef = undef := by
      by_cases h3 : t < (us.toArray ++ Array.replicate (n - us.toArray.size) undef).size
      · rw [Array.getD, dif_pos h3]
        have hge : us.toArray.size ≤ t := by simp; omega
        simp only [Array.getInternal_eq_getElem]
        rw [Array.getElem_append_right hge]
        simp
      · rw [Array.getD, dif_neg h3]
    rw [h1, h2]
    simp only [undefA, VRel]; exact ⟨[], rfl, VRels.nil⟩

def fnPost (rvs : List RV) (n : Nat) (Q : AV → St → Prop) : Ex → Tm → St → Prop := fun e tm σ => match e with
  | .norm => endK rvs n tm σ Q
  | .ret => endK rvs n tm σ Q
  | .exit _ => False

/-- A FUNCTION's CONTRACT. -/
theorem calls_of_awp {f : FuncId} {fn : Func} {c : Code} {cc : CC} {rvs : List RV} (hf : P.funcs[f]? = some fn) (hb : fn.body = some c) (hc : compC P fn.ntmps true c = some cc)
    (hr : rvsOf P fn.ntmps fn.results.toList = some rvs) {args : List AV} (hn : args.length ≤ fn.ntmps) {σ : St} {Q : AV → St → Prop} (h : awp P cc (fnPost rvs fn.ntmps Q) (tm0 args) σ) : CallsA P f args σ Q := by
  intro C w us R V
  have H := trel_init V hn
  have hgh : DRel C w (tm0 args fn.ntmps) [] := by
    refine ⟨[], [], ?_, rfl, VRels.nil⟩
    simp [tm0, List.getD, List.getElem?_eq_none hn, undefA]
  have hw := code_sound (P := P) (n := fn.ntmps) (C0 := C) (w0 := w) (r := none) (m := 0) (top := true) (fun _ => rfl) c cc hc C σ w (tm0 args)
    { tmps := us.toArray ++ Array.replicate (fn.ntmps - us.toArray.size) undef, defers := [] } _ R H (Evol.refl C w) hgh h
  refine (callsIn_wide (n := 0)).1 (callsIn_of_wp_marks hf hb trivial (wpIn_mono hw fun e a' w' => ?_) rfl)
  rintro ⟨ex, tm, σ', C', hex, hq, R', H', E', D'⟩
  have fin : endK rvs fn.ntmps tm σ' Q → LeavesInM Fence.wide 0 P fn a'.tmps (fun e w' => ∃ v r σ' C', e = .returned v ∧ Q r σ' ∧ VRel C' w' r v ∧ Rel C' σ' w' ∧ Evol C w C' w') a'.defers .returning w' := by
    intro hq
    obtain ⟨xs, rs, h1, h2, h3⟩ := D'
    simp only [endK, h1] at hq
    rw [h2]
    refine leaves_sound xs rs σ' w' _ R' h3 hq fun σ2 w2 hk R2 E2 => ?_
    obtain ⟨ys, vs, hK, hV, hlen, hres⟩ := resK_sound R2 (H'.evol E2) hr hk
    exact ⟨_, results_run hlen hres, _, _, σ2, C', rfl, hK, pack_rel hV, R2, E'.trans E2⟩
  cases hex with
  | norm => exact fin hq
  | ret => exact fin hq
  | exit id => exact hq.elim

/-- What a round ends in. -/
def roundEnd (l : Nat) (Q : AV → St → Prop) : Ex → Tm → St → Prop := fun e _ σ => match σ.heap l with
  | some (.loop st j tl ps a b) => match e with
    | .norm => Q (.bool true) (σ.set l (.loop .ready none tl ps a b))
    | .ret => Q (.bool false) (σ.set l (.loop .done (some .ret) tl ps a b))
    | .exit id => Q (.bool false) (σ.set l (.loop .done (some (.exit id)) tl ps a b))
  | _ => False
/-- A round begins. -/
def roundBegin (P : Program) (l : Nat) (cb : CC) (Q : AV → St → Prop) : Ex → Tm → St → Prop := fun e tm σ => match e with
  | .norm => match σ.heap l with
    | some (.loop .ready j tl ps a b) => awp P cb (roundEnd l Q) tm (σ.set l (.loop .busy j tl ps a b))
    | _ => False
  | _ => False
/-- yield's arguments in the loop's temporaries. -/
def putPs : Tm → List Nat → List AV → Tm
  | tm, p :: ps, x :: xs => putPs (upd tm p x) ps xs
  | tm, _, _ => tm

theorem putPs_rel {C : Ctx} {w : World} {n : Nat} : ∀ {ps : List Nat} {xs : List AV} {us : List Value} {tm : Tm} {ts : Array Value}, TRel C w tm ts n → VRels C w xs us → (∀ p ∈ ps, p < n) →
    TRel C w (putPs tm ps xs) ((ps.zip us).foldl (fun ts (t, a) => ts.setIfInBounds t a) ts) n ∧ putPs tm ps xs n = tm n
  | [], xs, us, tm, ts, H, V, hp => by simp only [putPs, List.zip_nil_left, List.foldl_nil]; exact ⟨H, trivial⟩
  | p :: ps, [], us, tm, ts, H, V, hp => by
    simp only [VRels] at V; subst V
    simp only [putPs, List.zip_nil_right, List.foldl_nil]; exact ⟨H, trivial⟩
  | p :: ps, x :: xs, us, tm, ts, H, V, hp => by
    simp only [VRels] at V
    obtain ⟨u, r, rfl, hx, hr⟩ := V
    have hpn := hp p (by simp)
    obtain ⟨h1, h2⟩ := putPs_rel (ps := ps) (H.put hpn hx) hr (fun q hq => hp q (by simp [hq]))
    refine ⟨by simpa [putPs] using h1, ?_⟩
    simp only [putPs, h2, upd]
    rw [if_neg (by omega)]

theorem loop_at {C : Ctx} {σ : St} {w : World} (R : Rel C σ w) {l b0 : Nat} {st : LoopState} {j : Option Code} {tl : List AV} {ps : Array Tmp} {a b : Code} (hl : σ.heap l = some (.loop st j tl ps a b))
    (hy : VRel C w (.yl l) (.func (.yield b0) #[] #[])) : ∃ fn ts d, w.heap[b0]? = some (.loop { state := st, pending := j, fn, tmps := ts, params := ps, assign := a, body := b, defers := d }) ∧ VRels C w tl ts.toList ∧
      ∀ st' j', Rel C (σ.set l (.loop st' j' tl ps a b)) (w.putObj b0 (.loop { state := st', pending := j', fn, tmps := ts, params := ps, assign := a, body := b, defers := d })) ∧
        Evol C w C (w.putObj b0 (.loop { state := st', pending := j', fn, tmps := ts, params := ps, assign := a, body := b, defers := d })) := by
  have hB := R.blk _ _ hl
  simp only [BRel] at hB
  obtain ⟨h0, L, fn, ts, d, hL, hheap, htl⟩ := hB
  simp only [VRel] at hy
  obtain ⟨b', hb, hb2⟩ := hy
  cases hb
  obtain ⟨L', hL', rfl⟩ := hb2 h0
  rw [hL] at hL'; cases hL'
  refine ⟨fn, ts, d, hheap, htl, fun st' j' => ?_⟩
  exact R.setObj hL hheap (by intros; simp) (o' := .loop { state := st', pending := j', fn, tmps := ts, params := ps, assign := a, body := b, defers := d }) (.loop st' j' tl ps a b) (R.dom _ _ hl) (fun Ev => by
    simp only [BRel]
    refine ⟨h0, L, fn, ts, d, hL, ?_, VRels.evol Ev _ _ htl⟩
    have := R.own _ _ hL
    simp only [World.setBlk, Array.getElem?_setIfInBounds_self_of_lt this.2])

/-- A ROUND's CONTRACT. -/
theorem yields_of_awp {l : Nat} {σ : St} {st : LoopState} {j : Option Code} {tl : List AV} {ps : Array Tmp} {a b : Code} (hl : σ.heap l = some (.loop st j tl ps a b)) {ca cb : CC}
    (ha : compC P tl.length false a = some ca) (hb : compC P tl.length false b = some cb) (hps : ps.toList.all (fun p => decide (p < tl.length)) = true) {args : List AV} (hn : args.length = ps.size) {Q : AV → St → Prop}
    (h : awp P ca (roundBegin P l cb Q) (putPs (tm0 tl) ps.toList args) σ) : YieldsA P l args σ Q := by
  intro C w us b0 R V hy
  obtain ⟨fn, ts, d, hheap, htl, _⟩ := loop_at R hl hy
  have hlt := htl.length
  have H0 : TRel C w (tm0 tl) ts tl.length := by
    have := trel_init htl (Nat.le_refl tl.length)
    have he : (ts.toList.toArray ++ Array.replicate (tl.length - ts.toList.toArray.size) undef) = ts := by
      have : tl.length - ts.toList.toArray.size = 0 := by simp; simp at hlt; omega
      rw [this]; simp
    rwa [he] at this
  obtain ⟨H1, hgh⟩ := putPs_rel (ps := ps.toList) H0 V (fun p hp => by
    have := List.all_eq_true.1 hps p hp; simpa using this)
  have hfold : (Array.foldl (fun tmps (x : Tmp × Value) => match x with | (t, a) => tmps.setIfInBounds t a) ts (ps.zip us.toArray)) = (ps.toList.zip us).foldl (fun ts (t, a) => ts.setIfInBounds t a) ts := by
    rw [← Array.foldl_toList]; simp [Array.toList_zip]
  refine ⟨fn, _, a, b, w, run_yield hheap (by simp; rw [V.length]; exact hn), fun r m => ?_⟩
  refine roundIn_of_wpIn trivial ?_
  have hD : DRel C w (putPs (tm0 tl) ps.toList args tl.length) [] := by
    refine ⟨[], [], ?_, rfl, VRels.nil⟩
    rw [hgh]; simp [tm0, List.getD, undefA]
  have hfe : (Wide r).inRound b0 = Wide (some b0) := rfl
  rw [hfe]
  have hw := code_sound (P := P) (n := tl.length) (C0 := C) (w0 := w) (r := some b0) (m := m) (top := false) (fun hh => by cases hh) a ca ha C σ w _
    { tmps := _, defers := [] } _ R H1 (Evol.refl C w) hD h
  simp only [hfold]
  refine wpIn_mono hw fun e a' w' => ?_
  rintro ⟨ex, tm, σ', C', hex, hq, R', H', E', D'⟩
  cases hex with
  | ret => exact hq.elim
  | exit id => exact hq.elim
  | norm =>
    simp only [roundBegin] at hq
    split at hq
    · rename_i j' tl' ps' aa bb hl'
      have hy' := VRel.evol E' _ _ hy
      obtain ⟨fn2, ts2, d2, hheap2, _, hset⟩ := loop_at R' hl' hy'
      obtain ⟨R2, E2⟩ := hset .busy j'
      refine ⟨_, run_beginRound hheap2 rfl, ?_⟩
      have hw2 := code_sound (P := P) (n := tl.length) (C0 := C) (w0 := w) (r := some b0) (m := m) (top := false) (fun hh => by cases hh) b cb hb C' _ _ tm a' _ R2 (H'.evol E2) (E'.trans E2) (D'.evol E2) hq
      refine wpIn_mono hw2 fun e a3 w3 => ?_
      rintro ⟨ex, tm3, σ3, C3, hex, hq3, R3, H3, E3, D3⟩
      simp only [roundEnd] at hq3
      split at hq3
      · rename_i st3 j3 tl3 ps3 a4 b4 hl3
        have hy3 := VRel.evol E3 _ _ hy
        obtain ⟨fn3, ts3, d3, hheap3, _, hset3⟩ := loop_at R3 hl3 hy3
        cases hex with
        | norm =>
          obtain ⟨R5, E5⟩ := hset3 .ready none
          exact ⟨_, _, run_endRound none hheap3, _, _, _, C3, rfl, hq3, by simp [VRel], R5, E3.trans E5⟩
        | ret =>
          obtain ⟨R5, E5⟩ := hset3 .done (some .ret)
          exact ⟨_, _, run_endRound (some .ret) hheap3, _, _, _, C3, rfl, hq3, by simp [VRel], R5, E3.trans E5⟩
        | exit id =>
          obtain ⟨R5, E5⟩ := hset3 .done (some (.exit id))
          exact ⟨_, _, run_endRound (some (.exit id)) hheap3, _, _, _, C3, rfl, hq3, by simp [VRel], R5, E3.trans E5⟩
      · exact hq3.elim
    · exact hq.elim
end
end Go.Abs
set_option linter.unusedVariables false
set_option linter.unusedSimpArgs false
namespace Go.Abs
section
variable {P : Program}
theorem asch_mono {K K' : Tm → St → Prop} (hK : ∀ tm σ, K tm σ → K' tm σ) : ∀ {r : Sch} {tm : Tm} {σ : St}, asch P r K tm σ → asch P r K' tm σ
  | .done, tm, σ, h => hK _ _ h
  | .op o hs r, tm, σ, h => aopO_mono (fun tm' σ' hk => ⟨hk.1, asch_mono hK hk.2⟩) h
  | .both a b, tm, σ, h => ⟨asch_mono hK h.1, asch_mono hK h.2⟩

theorem afterLoop_mono {Q Q' : Ex → Tm → St → Prop} (hQ : ∀ e tm σ, Q e tm σ → Q' e tm σ) {l : Nat} {tm : Tm} {σ : St} (h : afterLoop Q l tm σ) : afterLoop Q' l tm σ := by
  unfold afterLoop at *
  split at h
  · refine ⟨h.1, ?_⟩
    have h := h.2
    split at h <;> first | exact hQ _ _ _ h | exact h.elim
  · exact h.elim

theorem awp_mono : ∀ {c : CC} {Q Q' : Ex → Tm → St → Prop}, (∀ e tm σ, Q e tm σ → Q' e tm σ) → ∀ {tm : Tm} {σ : St}, awp P c Q tm σ → awp P c Q' tm σ
  | .skip, Q, Q', hQ, tm, σ, h => hQ _ _ _ h
  | .region r, Q, Q', hQ, tm, σ, h => asch_mono (hQ .norm) h
  | .seq a b, Q, Q', hQ, tm, σ, h => awp_mono (c := a) (fun e tm σ hk => by
      cases e with
      | norm => exact awp_mono (c := b) hQ hk
      | ret => exact hQ _ _ _ hk
      | exit i => exact hQ _ _ _ hk) h
  | .cond c a b, Q, Q', hQ, tm, σ, h => by
    simp only [awp] at h ⊢
    split at h
    · split at h
      · rename_i hb; rw [if_pos hb]; exact awp_mono hQ h
      · rename_i hb; rw [if_neg hb]; exact awp_mono hQ h
    · exact h.elim
  | .block id c, Q, Q', hQ, tm, σ, h => awp_mono (c := c) (fun e tm σ hk => by
      cases e with
      | norm => exact hQ _ _ _ hk
      | ret => exact hQ _ _ _ hk
      | exit i =>
        simp only at hk ⊢
        split at hk
        · rename_i hb; rw [if_pos hb]; exact hQ _ _ _ hk
        · rename_i hb; rw [if_neg hb]; exact hQ _ _ _ hk) h
  | .loop c, Q, Q', hQ, tm, σ, h => by
    obtain ⟨I, μ, h0, hr⟩ := h
    exact ⟨I, μ, h0, fun tm σ hi => awp_mono (c := c) (fun e tm σ hk => by
      cases e with
      | norm => exact hk
      | ret => exact hQ _ _ _ hk
      | exit i => exact hQ _ _ _ hk) (hr tm σ hi)⟩
  | .exit id, Q, Q', hQ, tm, σ, h => hQ _ _ _ h
  | .ret, Q, Q', hQ, tm, σ, h => hQ _ _ _ h
  | .scope c, Q, Q', hQ, tm, σ, h => awp_mono (c := c) hQ h
  | .rfunc n g ps asg body, Q, Q', hQ, tm, σ, h => by
    simp only [awp] at h ⊢
    split at h
    · exact ⟨h.1, h.2.mono fun r σ' hk => afterLoop_mono hQ hk⟩
    · exact h.elim

/-- A function, read. -/
structure FE where
  n : Nat
  rv : List RV
  cc : CC
def compF (P : Program) (f : FuncId) : Option FE := (P.funcs[f]?).bind fun fn => fn.body.bind fun c => (compC P fn.ntmps true c).bind fun cc => (rvsOf P fn.ntmps fn.results.toList).bind fun rv => some ⟨fn.ntmps, rv, cc⟩
theorem compF_spec {f : FuncId} {e : FE} (h : compF P f = some e) : ∃ fn c, P.funcs[f]? = some fn ∧ fn.body = some c ∧ compC P fn.ntmps true c = some e.cc ∧ rvsOf P fn.ntmps fn.results.toList = some e.rv ∧ e.n = fn.ntmps := by
  unfold compF at h
  obtain ⟨fn, hfn, h⟩ := Option.bind_eq_some_iff.1 h
  obtain ⟨c, hc, h⟩ := Option.bind_eq_some_iff.1 h
  obtain ⟨cc, hcc, h⟩ := Option.bind_eq_some_iff.1 h
  obtain ⟨rv, hrv, h⟩ := Option.bind_eq_some_iff.1 h
  cases h
  exact ⟨fn, c, hfn, hc, hcc, hrv, rfl⟩

end
end Go.Abs
set_option linter.unusedVariables false
set_option linter.unusedSimpArgs false
namespace Go.Abs

@[reducible] def o1 (d : Nat) (c : COp) (s : Sch) : Sch := .op ⟨some d, none, .prim c⟩ [] s
def tmU : Tm := fun _ => undefA

theorem tm0_0 : tm0 [] = tmU := rfl
theorem tm0_1 (a : AV) : tm0 [a] = upd tmU 0 a := by
  funext i; match i with
  | 0 => rfl
  | i + 1 => rfl
theorem tm0_2 (a b : AV) : tm0 [a, b] = upd (upd tmU 0 a) 1 b := by
  funext i; match i with
  | 0 => rfl
  | 1 => rfl
  | i + 2 => rfl
theorem tm0_3 (a b c : AV) : tm0 [a, b, c] = upd (upd (upd tmU 0 a) 1 b) 2 c := by
  funext i; match i with
  | 0 => rfl
  | 1 => rfl
  | 2 => rfl
  | i + 3 => rfl
theorem tm0_4 (a b c d : AV) : tm0 [a, b, c, d] = upd (upd (upd (upd tmU 0 a) 1 b) 2 c) 3 d := by
  funext i; match i with
  | 0 => rfl
  | 1 => rfl
  | 2 => rfl
  | 3 => rfl
  | i + 4 => rfl
theorem tm0_5 (a b c d e : AV) : tm0 [a, b, c, d, e] = upd (upd (upd (upd (upd tmU 0 a) 1 b) 2 c) 3 d) 4 e := by
  funext i; match i with
  | 0 => rfl
  | 1 => rfl
  | 2 => rfl
  | 3 => rfl
  | 4 => rfl
  | i + 5 => rfl
theorem tm0_6 (a b c d e f : AV) : tm0 [a, b, c, d, e, f] = upd (upd (upd (upd (upd (upd tmU 0 a) 1 b) 2 c) 3 d) 4 e) 5 f := by
  funext i; match i with
  | 0 => rfl
  | 1 => rfl
  | 2 => rfl
  | 3 => rfl
  | 4 => rfl
  | 5 => rfl
  | i + 6 => rfl

theorem tmU_at (i : Nat) : tmU i = .tup [] := rfl
theorem upd_at (tm : Tm) (d i : Nat) (v : AV) : upd tm d v i = if i = d then v else tm i := rfl
theorem St.set_heap (σ : St) (a i : Nat) (B : Blk) : (σ.set a B).heap i = if i = a then some B else σ.heap i := rfl
theorem St.new_heap (σ : St) (i : Nat) (B : Blk) : (σ.new B).heap i = if i = σ.nx then some B else σ.heap i := rfl
theorem St.set_nx (σ : St) (a : Nat) (B : Blk) : (σ.set a B).nx = σ.nx := rfl
theorem St.new_nx (σ : St) (B : Blk) : (σ.new B).nx = σ.nx + 1 := rfl

theorem calls_of_fe {P : Program} {f : FuncId} {n : Nat} {rv : List RV} {cc : CC} (he : compF P f = some ⟨n, rv, cc⟩) {args : List AV} (hn : args.length ≤ n) {σ : St} {Q : AV → St → Prop}
    (h : awp P cc (fnPost rv n Q) (tm0 args) σ) : CallsA P f args σ Q := by
  obtain ⟨fn, c, h1, h2, h3, h4, h5⟩ := compF_spec he
  subst h5
  exact calls_of_awp h1 h2 h3 h4 hn h

/-- A CALL THAT CHANGES NOTHING. -/
def PureC (P : Program) (f : FuncId) (args : List AV) (r : AV) : Prop := ∀ σ Q, Q r σ → CallsA P f args σ Q

/-- A loop, by what it reckons with. -/
theorem awp_loop {P : Program} {α : Type} {c : CC} {Q : Ex → Tm → St → Prop} (st : α → Tm → St → Prop) (μ : α → Nat)
    (h : ∀ a tm σ, st a tm σ → awp P c (fun e tm' σ' => match e with | .norm => ∃ a', st a' tm' σ' ∧ μ a' < μ a | e => Q e tm' σ') tm σ) {a : α} {tm : Tm} {σ : St} (ha : st a tm σ) : awp P (.loop c) Q tm σ := by
  refine ⟨fun tm σ => ∃ a, st a tm σ, fun tm σ => minOf fun n => ∃ a, st a tm σ ∧ μ a = n, ⟨a, ha⟩, fun tm σ hI => ?_⟩
  obtain ⟨a0, h0⟩ := hI
  have hm := minOf_spec (p := fun n => ∃ a, st a tm σ ∧ μ a = n) ⟨μ a0, a0, h0, rfl⟩
  obtain ⟨⟨a, h1, h2⟩, _⟩ := hm
  refine awp_mono (fun e tm' σ' hq => ?_) (h a tm σ h1)
  cases e with
  | norm =>
    obtain ⟨a', h3, h4⟩ := hq
    refine ⟨⟨a', h3⟩, ?_⟩
    have := (minOf_spec (p := fun n => ∃ a, st a tm' σ' ∧ μ a = n) ⟨μ a', a', h3, rfl⟩).2 (μ a') ⟨a', h3, rfl⟩
    simp only []
    omega
  | ret => exact hq
  | exit i => exact hq
end Go.Abs
set_option linter.unusedVariables false
set_option linter.unusedSimpArgs false
namespace Go.Abs

/-! ### Outcomes -/
def ret1 (σ : St) (o : Option AV) : Option (AV × St) := match o with | some v => some (v, σ) | none => none
def evLd1B (gen off : Nat) : Option Blk → Option AV
  | some (.arr _ cells g _) => if g = gen then cells[off]? else none
  | _ => none
def evLd1 (σ : St) : AV → Option AV
  | .ptr id gen off => evLd1B gen off (σ.heap id)
  | .eptr (v :: _) => some v
  | _ => none
def evLdAB (n gen off : Nat) : Option Blk → Option AV
  | some (.arr _ cells g _) => if g = gen ∧ off + n ≤ cells.length then some (.agg ((cells.drop off).take n)) else none
  | _ => none
def evLdA (n : Nat) (σ : St) : AV → Option AV
  | .ptr id gen off => evLdAB n gen off (σ.heap id)
  | .eptr xs => if n ≤ xs.length then some (.agg (xs.take n)) else none
  | _ => none
def evStB (n id gen off : Nat) (v : AV) (σ : St) : Option Blk → Option (AV × St)
  | some (.arr es cells g fz) => if g = gen ∧ fz ≤ off ∧ v.cells.length = n ∧ off + n ≤ cells.length ∧ v.cells.all AV.one = true then some (undefA, σ.set id (.arr es (lput cells off v.cells) g fz)) else none
  | _ => none
def evSt (n : Nat) (σ : St) (v : AV) : AV → Option (AV × St)
  | .ptr id gen off => evStB n id gen off v σ (σ.heap id)
  | _ => none
def evNot : AV → Option AV | .bool b => some (.bool (!b)) | _ => none
def evNeg : AV → Option AV | .int k n => some (.int k (k.wrap (0 - n))) | _ => none
def evNilc : AV → Option AV | .ptr a b c => some (.ptr a b c) | .eptr xs => some (.eptr xs) | .fn f c => some (.fn f c) | _ => none
def evConvI (k : IntKind) : AV → Option AV | .int _ n => some (.int k (k.wrap n)) | _ => none
def evSlstr (l h : Option AV → Nat → Option Int) (lo hi : Option AV) : AV → Option AV
  | .str s => (l lo 0).bind fun a => (h hi s.length).bind fun b => if 0 ≤ a ∧ a ≤ b ∧ b ≤ s.length then some (.str ((s.take b.toNat).drop a.toNat)) else none
  | _ => none
def bnd : Option AV → Nat → Option Int
  | none, d => some d
  | some (.int _ n), _ => some n
  | _, _ => none
def evSubstr (s : List UInt8) : Option Int → Option Int → Option AV
  | some a, some b => if 0 ≤ a ∧ a ≤ b ∧ b ≤ s.length then some (.str ((s.take b.toNat).drop a.toNat)) else none
  | _, _ => none
def evStr (lo hi : Option AV) : AV → Option AV
  | .str s => evSubstr s (bnd lo 0) (bnd hi s.length)
  | _ => none
def evSubSl (es id gen off len : Nat) : Option Blk → Option Int → Option Int → Option AV
  | some (.arr e _ g _), some a, some b => if 0 ≤ a ∧ a ≤ b ∧ b ≤ len ∧ g = gen ∧ e = es ∧ 0 < es then some (.sl id gen (off + a.toNat * es) (b - a).toNat) else none
  | _, _, _ => none
def evSubL (es : Nat) (xs : List AV) (len : Nat) : Option Int → Option Int → Option AV
  | some a, some b => if 0 ≤ a ∧ a ≤ b ∧ b ≤ len ∧ xs.length = len * es then some (.list ((xs.take (b.toNat * es)).drop (a.toNat * es)) (b - a).toNat none) else none
  | _, _ => none
def evSubN : Option Int → Option Int → Option AV
  | some a, some b => if a = 0 ∧ b = 0 then some .snil else none
  | _, _ => none
def evSl (es : Nat) (σ : St) (lo hi : Option AV) : AV → Option AV
  | .sl id gen off len => evSubSl es id gen off len (σ.heap id) (bnd lo 0) (bnd hi len)
  | .list xs len _ => evSubL es xs len (bnd lo 0) (bnd hi len)
  | .snil => evSubN (bnd lo 0) (bnd hi 0)
  | _ => none
def evFaddr (off : Nat) : AV → Option AV
  | .ptr id gen o => some (.ptr id gen (o + off))
  | .eptr xs => if off ≤ xs.length then some (.eptr (xs.drop off)) else none
  | _ => none
def evField1 (off : Nat) : AV → Option AV | .agg cs => cs[off]? | _ => none
def evFieldA (off n : Nat) : AV → Option AV | .agg cs => if off + n ≤ cs.length then some (.agg ((cs.drop off).take n)) else none | _ => none
def evIaddr (es : Nat) : AV → AV → Option AV
  | .sl id gen off len, .int _ n => if 0 ≤ n ∧ n < len then some (.ptr id gen (off + n.toNat * es)) else none
  | .list xs len _, .int _ n => if 0 ≤ n ∧ n < len ∧ n.toNat * es ≤ xs.length then some (.eptr (xs.drop (n.toNat * es))) else none
  | _, _ => none
def evIstr : AV → AV → Option AV
  | .str s, .int _ n => if 0 ≤ n then (s[n.toNat]?).map fun b => .int .u8 b.toNat else none
  | _, _ => none
def okv (z : AV) (ok : Bool) : Option AV → AV
  | some v => if ok then .tup [v, .bool true] else v
  | none => if ok then .tup [z, .bool false] else z
def evLookIB (k k2 : IntKind) (n : Int) (z : AV) (ok : Bool) : Option Blk → Option AV
  | some (.mapI k' es) => if k2 = k ∧ k' = k then some (okv z ok (getI es n)) else none
  | _ => none
def evLookI (k : IntKind) (z : AV) (ok : Bool) (σ : St) : AV → AV → Option AV
  | .map id, .int k2 n => evLookIB k k2 n z ok (σ.heap id)
  | .mnil, .int k2 n => if k2 = k then some (okv z ok none) else none
  | _, _ => none
def evLookSB (n : List UInt8) (z : AV) (ok : Bool) : Option Blk → Option AV
  | some (.mapS es) => some (okv z ok (getS es n))
  | _ => none
def evLookS (z : AV) (ok : Bool) (σ : St) : AV → AV → Option AV
  | .map id, .str n => evLookSB n z ok (σ.heap id)
  | _, _ => none
def evUpdIB (k k2 : IntKind) (id : Nat) (n : Int) (v : AV) (σ : St) : Option Blk → Option (AV × St)
  | some (.mapI k' es) => if k2 = k ∧ k' = k then some (undefA, σ.set id (.mapI k (putI es n v))) else none
  | _ => none
def evUpdI (k : IntKind) (σ : St) (v : AV) : AV → AV → Option (AV × St)
  | .map id, .int k2 n => evUpdIB k k2 id n v σ (σ.heap id)
  | _, _ => none
def evUpdSB (id : Nat) (n : List UInt8) (v : AV) (σ : St) : Option Blk → Option (AV × St)
  | some (.mapS es) => some (undefA, σ.set id (.mapS (putS es n v)))
  | _ => none
def evUpdS (σ : St) (v : AV) : AV → AV → Option (AV × St)
  | .map id, .str n => evUpdSB id n v σ (σ.heap id)
  | _, _ => none
def evExtr (i : Nat) : AV → Option AV | .tup vs => vs[i]? | _ => none
def evLenS : AV → Option AV | .str s => some (.int .i64 s.length) | _ => none
def evLenL : AV → Option AV | .sl _ _ _ len => some (.int .i64 len) | .list _ len _ => some (.int .i64 len) | .snil => some (.int .i64 0) | _ => none
def evLenMB : Option Blk → Option AV
  | some (.mapI _ es) => some (.int .i64 es.length)
  | some (.mapS es) => some (.int .i64 es.length)
  | _ => none
def evLenM (σ : St) : AV → Option AV | .mnil => some (.int .i64 0) | .map id => evLenMB (σ.heap id) | _ => none
def evSrcB (es gen off len : Nat) : Option Blk → Option (List AV × Nat)
  | some (.arr es' cells g fz) => if g = gen ∧ es' = es ∧ off + len * es ≤ cells.length then some ((cells.drop off).take (len * es), len) else none
  | _ => none
def evSrc (es : Nat) (σ : St) : AV → Option (List AV × Nat)
  | .snil => some ([], 0)
  | .str s => some (s.map fun b => .int .u8 b.toNat, s.length)
  | .list ys k _ => some (ys, k)
  | .sl id gen off len => evSrcB es gen off len (σ.heap id)
  | _ => none
def evAppB (es : Nat) (σ : St) (ys : List AV) (k id gen off len : Nat) : Option Blk → Option (AV × St)
  | some (.arr es' cells g fz) => if g = gen ∧ es' = es ∧ off + len * es ≤ cells.length ∧ fz ≤ off + len * es ∧ len + k ≤ 1073741824 then
      some (.sl id (gen + 1) 0 (len + k), σ.set id (.arr es ((cells.drop off).take (len * es) ++ ys) (gen + 1) (fz - off))) else none
  | _ => none
def evApp0B (σ : St) (id gen off len : Nat) : Option Blk → Option (AV × St)
  | some (.arr _ _ g _) => if g = gen then some (.sl id gen off len, σ) else none
  | _ => none
def evApp0 (σ : St) : AV → Option (AV × St)
  | .snil => some (.snil, σ)
  | .sl id gen off len => evApp0B σ id gen off len (σ.heap id)
  | .list xs len _ => some (.list xs len none, σ)
  | _ => none
def evAppK (es : Nat) (σ : St) (ys : List AV) (k : Nat) : AV → Option (AV × St)
  | .snil => if k ≤ 1073741824 then some (.sl σ.nx 0 0 k, σ.new (.arr es ys 0 0)) else none
  | .list xs len cap => if cap = some len ∧ xs.length = len * es ∧ len + k ≤ 1073741824 then some (.sl σ.nx 0 0 (len + k), σ.new (.arr es (xs ++ ys) 0 0)) else none
  | .sl id gen off len => evAppB es σ ys k id gen off len (σ.heap id)
  | _ => none
def evApp1 (es : Nat) (σ : St) (a : AV) : Option (List AV × Nat) → Option (AV × St)
  | some (ys, k) => if ys.length = k * es ∧ ys.all AV.one = true then (if k = 0 then evApp0 σ a else evAppK es σ ys k a) else none
  | none => none
def evB2s1 : Option (List AV × Nat) → Option AV
  | some (ys, k) => if ys.length = k then (bytesOf ys).map .str else none
  | none => none
def evB2s (σ : St) : AV → Option AV
  | .snil => some (.str [])
  | .str _ => none
  | .list ys k c => evB2s1 (some (ys, k))
  | .sl id gen off len => evB2s1 (evSrcB 1 gen off len (σ.heap id))
  | _ => none
def evS2b : AV → Option AV | .str s => some (.list (s.map fun b => .int .u8 b.toNat) s.length none) | _ => none
def evMax : AV → AV → Option AV | .int k a, .int _ b => some (.int k (if b > a then b else a)) | _, _ => none
def evMin : AV → AV → Option AV | .int k a, .int _ b => some (.int k (if b < a then b else a)) | _, _ => none
def evEq2 (k : Nat) (n : Bool) (x y : AV) : Option AV := match eqA k x y with | some b => some (.bool (if n then !b else b)) | none => none
def evPick (a b : AV) : AV → Option AV | .bool t => some (if t then a else b) | _ => none
def evMsl (es : Nat) (z : List AV) (σ : St) : AV → AV → Option (AV × St)
  | .int _ l, .int _ c => if 0 ≤ l ∧ l ≤ c ∧ c ≤ 1073741824 then some (.sl σ.nx 0 0 l.toNat, σ.new (.arr es (reps z c.toNat) 0 0)) else none
  | _, _ => none
def rdo (tm : Tm) : Option Opd → Option AV | none => none | some x => some (rd tm x)

def evRange (σ : St) : AV → Option (AV × St) | .str s => some (.it σ.nx, σ.new (.siter s 0)) | _ => none
def evNextC (id : Nat) (s : List UInt8) (p : Nat) (σ : St) : Option UInt8 → Option (AV × St)
  | some b => if b.toNat < 128 then some (.tup [.bool true, .int .i64 p, .int .i32 b.toNat], σ.set id (.siter s (p + 1))) else none
  | none => some (.tup [.bool false], σ)
def evNextB (id : Nat) (σ : St) : Option Blk → Option (AV × St)
  | some (.siter s p) => evNextC id s p σ s[p]?
  | _ => none
def evNext (σ : St) : AV → Option (AV × St) | .it id => evNextB id σ (σ.heap id) | _ => none

def evClrB (es : Nat) (z : List AV) (id gen off len : Nat) (σ : St) : Option Blk → Option (AV × St)
  | some (.arr es' cells g fz) => if 0 < es ∧ g = gen ∧ es' = es ∧ fz ≤ off ∧ off + len * es ≤ cells.length ∧ z.all AV.one = true then some (.tup [], if len = 0 then σ else σ.set id (.arr es (lput cells off (reps z len)) g fz)) else none
  | _ => none
def evClrM (id : Nat) (σ : St) : Option Blk → Option (AV × St)
  | some (.mapI k _) => some (.tup [], σ.set id (.mapI k []))
  | some (.mapS _) => some (.tup [], σ.set id (.mapS []))
  | _ => none
def evClr (es : Nat) (z : List AV) (σ : St) : AV → Option (AV × St)
  | .snil => some (.tup [], σ)
  | .mnil => some (.tup [], σ)
  | .sl id gen off len => evClrB es z id gen off len σ (σ.heap id)
  | .map id => evClrM id σ (σ.heap id)
  | _ => none

/-- An operation's outcome. -/
def ef (c : COp) (tm : Tm) (σ : St) : Option (AV × St) := match c with
  | .mv x => some (rd tm x, σ)
  | .pick c a b => ret1 σ (evPick (rd tm a) (rd tm b) (rd tm c))
  | .alloc _ z => some (.ptr σ.nx 0 0, σ.new (.arr z.length z 0 0))
  | .box _ x => some (.ptr σ.nx 0 0, σ.new (.arr (rd tm x).cells.length (rd tm x).cells 0 0))
  | .build z ps => if sizesOk tm ps = true then some (.agg (fillA z (rdps tm ps)), σ) else none
  | .bslice _ z es n ps => if sizesOkq tm es ps = true then some (.list (fillA (reps z n) (rdqs tm es ps)) n (some n), σ) else none
  | .mslice _ z es _ l c => evMsl es z σ (rd tm l) (rd tm c)
  | .load1 a => ret1 σ (evLd1 σ (rd tm a))
  | .loadA n a => ret1 σ (evLdA n σ (rd tm a))
  | .store n a v => evSt n σ (rd tm v) (rd tm a)
  | .nilc x => ret1 σ (evNilc (rd tm x))
  | .bin op x y => ret1 σ (binA op (rd tm x) (rd tm y))
  | .not x => ret1 σ (evNot (rd tm x))
  | .neg x => ret1 σ (evNeg (rd tm x))
  | .convI k x => ret1 σ (evConvI k (rd tm x))
  | .b2s x => ret1 σ (evB2s σ (rd tm x))
  | .s2b _ x => ret1 σ (evS2b (rd tm x))
  | .mkfn f caps => some (.fn f (rds tm caps), σ)
  | .mkmapI k => some (.map σ.nx, σ.new (.mapI k []))
  | .mkmapS => some (.map σ.nx, σ.new (.mapS []))
  | .slstr x lo hi => ret1 σ (evStr (rdo tm lo) (rdo tm hi) (rd tm x))
  | .slsl es x lo hi => ret1 σ (evSl es σ (rdo tm lo) (rdo tm hi) (rd tm x))
  | .faddr off x => ret1 σ (evFaddr off (rd tm x))
  | .field1 off x => ret1 σ (evField1 off (rd tm x))
  | .fieldA off n x => ret1 σ (evFieldA off n (rd tm x))
  | .iaddr es x i => ret1 σ (evIaddr es (rd tm x) (rd tm i))
  | .istr x i => ret1 σ (evIstr (rd tm x) (rd tm i))
  | .lookI k z x i ok => ret1 σ (evLookI k z ok σ (rd tm x) (rd tm i))
  | .lookS z x i ok => ret1 σ (evLookS z ok σ (rd tm x) (rd tm i))
  | .updI k m i v => evUpdI k σ (rd tm v) (rd tm m) (rd tm i)
  | .updS m i v => evUpdS σ (rd tm v) (rd tm m) (rd tm i)
  | .extr x i => ret1 σ (evExtr i (rd tm x))
  | .lenS x => ret1 σ (evLenS (rd tm x))
  | .lenL x => ret1 σ (evLenL (rd tm x))
  | .lenM x => ret1 σ (evLenM σ (rd tm x))
  | .app es a b => evApp1 es σ (rd tm a) (evSrc es σ (rd tm b))
  | .max x y => ret1 σ (evMax (rd tm x) (rd tm y))
  | .min x y => ret1 σ (evMin (rd tm x) (rd tm y))
  | .eq2 k n x y => ret1 σ (evEq2 k n (rd tm x) (rd tm y))
  | .clr es z x => evClr es z σ (rd tm x)
  | .rangeS x => evRange σ (rd tm x)
  | .nextS x => evNext σ (rd tm x)
end Go.Abs
set_option linter.unusedVariables false
set_option linter.unusedSimpArgs false
namespace Go.Abs

theorem bnd_bound {tm : Tm} {d : Nat} {o : Option Opd} {n : Int} (h : bnd (rdo tm o) d = some n) : bound tm d o = some n := by
  cases o with
  | none => simpa [bnd, rdo, bound] using h
  | some x =>
    simp only [bnd, rdo, bound] at h ⊢
    cases hx : rd tm x <;> simp_all

theorem evSubstr_spec {s : List UInt8} {a b : Option Int} {v : AV} (h : evSubstr s a b = some v) : ∃ l h', a = some l ∧ b = some h' ∧ 0 ≤ l ∧ l ≤ h' ∧ h' ≤ s.length ∧ v = .str ((s.take h'.toNat).drop l.toNat) := by
  unfold evSubstr at h
  split at h
  · split at h
    · cases h; rename_i hh; exact ⟨_, _, rfl, rfl, hh.1, hh.2.1, hh.2.2, rfl⟩
    · cases h
  · cases h

theorem evSrc_eq {es : Nat} {σ : St} {v : AV} : evSrc es σ v = srcA es σ v := by
  cases v <;> simp only [evSrc, srcA, evSrcB]
  rename_i id gen off len
  cases σ.heap id with
  | none => rfl
  | some B => cases B <;> rfl

theorem ef_aop {c : COp} {tm : Tm} {σ σ' : St} {v : AV} {K : AV → St → Prop} (h : ef c tm σ = some (v, σ')) (hK : K v σ') : aop c tm σ K := by
  cases c
  case slstr x lo hi =>
    simp only [ef, aop] at h ⊢
    cases hx : rd tm x <;> simp only [hx, evStr, ret1] at h ⊢ <;> try (cases h; done)
    rename_i s
    cases he : evSubstr s (bnd (rdo tm lo) 0) (bnd (rdo tm hi) s.length) with
    | none => rw [he] at h; cases h
    | some u =>
      rw [he] at h; cases h
      obtain ⟨l, h', h1, h2, h3, h4, h5, rfl⟩ := evSubstr_spec he
      exact ⟨l, h', bnd_bound h1, bnd_bound h2, h3, h4, h5, hK⟩
  case slsl es x lo hi =>
    simp only [ef, aop] at h ⊢
    cases hx : rd tm x <;> simp only [hx, evSl, ret1] at h ⊢ <;> try (cases h; done)
    · generalize ha : bnd (rdo tm lo) 0 = a at h
      generalize hb : bnd (rdo tm hi) 0 = b at h
      cases a <;> cases b <;> simp only [evSubN] at h <;> try (cases h; done)
      split at h <;> rename_i hh
      · rename_i u1 u2
        split at hh <;> rename_i h3
        · cases hh; cases h; exact ⟨_, _, bnd_bound ha, bnd_bound hb, h3.1, h3.2, hK⟩
        · cases hh
      · cases h
    · rename_i xs len cap
      generalize ha : bnd (rdo tm lo) 0 = a at h
      generalize hb : bnd (rdo tm hi) len = b at h
      cases a <;> cases b <;> simp only [evSubL] at h <;> try (cases h; done)
      split at h <;> rename_i hh
      · split at hh <;> rename_i h3
        · cases hh; cases h; exact ⟨_, _, bnd_bound ha, bnd_bound hb, h3.1, h3.2.1, h3.2.2.1, h3.2.2.2, hK⟩
        · cases hh
      · cases h
    · rename_i id gen off len
      generalize ha : bnd (rdo tm lo) 0 = a at h
      generalize hb : bnd (rdo tm hi) len = b at h
      generalize hB : σ.heap id = B at h
      cases B with
      | none => simp [evSubSl] at h
      | some B =>
        cases B <;> cases a <;> cases b <;> simp only [evSubSl] at h <;> try (cases h; done)
        split at h <;> rename_i hh
        · split at hh <;> rename_i h3
          · cases hh; cases h
            exact ⟨_, _, bnd_bound ha, bnd_bound hb, h3.1, h3.2.1, h3.2.2.1, by simp only [liveE, hB]; exact ⟨h3.2.2.2.1, h3.2.2.2.2.1⟩, h3.2.2.2.2.2, hK⟩
          · cases hh
        · cases h
  case app es a b =>
    simp only [ef, aop, evSrc_eq] at h ⊢
    generalize srcA es σ (rd tm b) = s at h ⊢
    cases s with
    | none => simp [evApp1] at h
    | some p =>
      obtain ⟨ys, k⟩ := p
      simp only [evApp1] at h ⊢
      split at h <;> rename_i h1
      · refine ⟨h1.1, h1.2, ?_⟩
        split at h <;> rename_i hk
        · rw [if_pos hk]
          cases hx : rd tm a <;> simp only [hx, evApp0] at h ⊢ <;> try (cases h; done)
          · cases h; exact hK
          · cases h; exact hK
          · rename_i id gen off len
            cases hB : σ.heap id with
            | none => simp [hB, evApp0B] at h
            | some B =>
              cases B <;> simp only [hB, evApp0B] at h <;> try (cases h; done)
              split at h
              · cases h; rename_i hg; exact ⟨by simp only [live, hB]; exact hg, hK⟩
              · cases h
        · rw [if_neg hk]
          cases hx : rd tm a <;> simp only [hx, evAppK] at h ⊢ <;> try (cases h; done)
          · split at h
            · cases h; rename_i h2; exact ⟨h2, hK⟩
            · cases h
          · split at h
            · cases h; rename_i h2; exact ⟨h2.1, h2.2.1, h2.2.2, hK⟩
            · cases h
          · rename_i id gen off len
            cases hB : σ.heap id with
            | none => simp [hB, evAppB] at h
            | some B =>
              cases B <;> simp only [hB, evAppB] at h <;> try (cases h; done)
              split at h
              · cases h; rename_i h2; exact ⟨h2.1, h2.2.1, h2.2.2.1, h2.2.2.2.1, h2.2.2.2.2, hK⟩
              · cases h
      · cases h
  case b2s x =>
    simp only [ef, aop, ret1] at h ⊢
    cases hx : rd tm x <;> simp only [hx, evB2s, srcA] at h ⊢ <;> try (cases h; done)
    · cases h; exact hK
    · rename_i xs len cap
      simp only [evB2s1] at h
      split at h <;> rename_i hh
      · split at hh <;> rename_i h3
        · cases hb : bytesOf xs with
          | none => simp [hb] at hh
          | some bs => simp [hb] at hh; subst hh; cases h; exact ⟨h3, hK⟩
        · cases hh
      · cases h
    · rename_i id gen off len
      cases hB : σ.heap id with
      | none => simp [hB, evSrcB, evB2s1] at h
      | some B =>
        cases B <;> simp only [hB, evSrcB, evB2s1] at h <;> try (cases h; done)
        rename_i es cells g fz
        simp only []
        by_cases h4 : g = gen ∧ es = 1 ∧ off + len * 1 ≤ cells.length
        · rw [if_pos h4] at h ⊢
          simp only [] at h ⊢
          split at h <;> rename_i hh
          · split at hh <;> rename_i h3
            · cases hb : bytesOf (List.take (len * 1) (List.drop off cells)) with
              | none => rw [hb] at hh; simp at hh
              | some bs => rw [hb] at hh; simp only [Option.map_some, Option.some.injEq] at hh; subst hh; cases h; exact ⟨h3, hK⟩
            · cases hh
          · cases h
        · rw [if_neg h4] at h; simp at h
  case lenM x =>
    simp only [ef, aop, ret1] at h ⊢
    cases hx : rd tm x <;> simp only [hx, evLenM] at h ⊢ <;> try (cases h; done)
    · cases h; exact hK
    · rename_i id
      cases hB : σ.heap id with
      | none => simp [hB, evLenMB] at h
      | some B => cases B <;> simp only [hB, evLenMB] at h ⊢ <;> first | (cases h; done) | (cases h; exact hK)
  case lookI k z x i ok =>
    simp only [ef, aop, ret1] at h ⊢
    cases hx : rd tm x <;> simp only [hx, evLookI] at h ⊢ <;> try (cases h; done)
    · cases hi : rd tm i <;> simp only [hi] at h ⊢ <;> try (cases h; done)
      split at h <;> rename_i hh
      · split at hh <;> rename_i h3
        · cases hh; cases h; exact ⟨h3, hK⟩
        · cases hh
      · cases h
    · rename_i id
      cases hi : rd tm i <;> simp only [hi] at h ⊢ <;> try (cases h; done)
      cases hB : σ.heap id with
      | none => simp [hB, evLookIB] at h
      | some B =>
        cases B <;> simp only [hB, evLookIB] at h ⊢ <;> try (cases h; done)
        rename_i es
        split at h <;> rename_i hh
        · split at hh <;> rename_i h3
          · cases hh; cases h; refine ⟨h3.1, h3.2, ?_⟩; revert hK; cases getI es _ <;> exact fun h => h
          · cases hh
        · cases h
  case lookS z x i ok =>
    simp only [ef, aop, ret1] at h ⊢
    cases hx : rd tm x <;> simp only [hx, evLookS] at h ⊢ <;> try (cases h; done)
    rename_i id
    cases hi : rd tm i <;> simp only [hi] at h ⊢ <;> try (cases h; done)
    cases hB : σ.heap id with
    | none => simp [hB, evLookSB] at h
    | some B =>
      cases B <;> simp only [hB, evLookSB] at h ⊢ <;> try (cases h; done)
      rename_i es
      cases h; revert hK; cases getS es _ <;> exact fun h => h
  case updI k m i u =>
    simp only [ef, aop] at h ⊢
    cases hx : rd tm m <;> simp only [hx, evUpdI] at h ⊢ <;> try (cases h; done)
    rename_i id
    cases hi : rd tm i <;> simp only [hi] at h ⊢ <;> try (cases h; done)
    cases hB : σ.heap id with
    | none => simp [hB, evUpdIB] at h
    | some B =>
      cases B <;> simp only [hB, evUpdIB] at h ⊢ <;> try (cases h; done)
      split at h <;> rename_i h3
      · cases h; exact ⟨h3.1, h3.2, hK⟩
      · cases h
  case updS m i u =>
    simp only [ef, aop] at h ⊢
    cases hx : rd tm m <;> simp only [hx, evUpdS] at h ⊢ <;> try (cases h; done)
    rename_i id
    cases hi : rd tm i <;> simp only [hi] at h ⊢ <;> try (cases h; done)
    cases hB : σ.heap id with
    | none => simp [hB, evUpdSB] at h
    | some B =>
      cases B <;> simp only [hB, evUpdSB] at h ⊢ <;> try (cases h; done)
      cases h; exact hK
  case load1 a =>
    simp only [ef, aop, ret1] at h ⊢
    cases hx : rd tm a <;> simp only [hx, evLd1] at h ⊢ <;> try (cases h; done)
    · rename_i id gen off
      cases hB : σ.heap id with
      | none => simp [hB, evLd1B] at h
      | some B =>
        cases B <;> simp only [hB, evLd1B] at h ⊢ <;> try (cases h; done)
        split at h <;> rename_i hh
        · split at hh <;> rename_i h3
          · cases h; exact ⟨h3, _, hh, hK⟩
          · cases hh
        · cases h
    · rename_i xs
      cases xs with
      | nil => simp at h
      | cons x xs => simp only [Option.some.injEq, Prod.mk.injEq] at h; obtain ⟨rfl, rfl⟩ := h; exact hK
  case loadA n a =>
    simp only [ef, aop, ret1] at h ⊢
    cases hx : rd tm a <;> simp only [hx, evLdA] at h ⊢ <;> try (cases h; done)
    · rename_i id gen off
      cases hB : σ.heap id with
      | none => simp [hB, evLdAB] at h
      | some B =>
        cases B <;> simp only [hB, evLdAB] at h ⊢ <;> try (cases h; done)
        split at h <;> rename_i hh
        · split at hh <;> rename_i h3
          · cases hh; cases h; exact ⟨h3.1, h3.2, hK⟩
          · cases hh
        · cases h
    · split at h <;> rename_i hh
      · split at hh <;> rename_i h3
        · cases hh; cases h; exact ⟨h3, hK⟩
        · cases hh
      · cases h
  case store n a u =>
    simp only [ef, aop] at h ⊢
    cases hx : rd tm a <;> simp only [hx, evSt] at h ⊢ <;> try (cases h; done)
    rename_i id gen off
    cases hB : σ.heap id with
    | none => simp [hB, evStB] at h
    | some B =>
      cases B <;> simp only [hB, evStB] at h ⊢ <;> try (cases h; done)
      split at h <;> rename_i h3
      · cases h; exact ⟨h3.1, h3.2.1, h3.2.2.1, h3.2.2.2.1, h3.2.2.2.2, hK⟩
      · cases h
  case bin op x y =>
    simp only [ef, aop, ret1] at h ⊢
    split at h <;> rename_i hh
    · cases h; exact ⟨_, hh, hK⟩
    · cases h
  case build z ps =>
    simp only [ef, aop] at h ⊢
    split at h <;> rename_i hh
    · cases h; exact ⟨hh, hK⟩
    · cases h
  case bslice ty z es n ps =>
    simp only [ef, aop] at h ⊢
    split at h <;> rename_i hh
    · cases h; exact ⟨hh, hK⟩
    · cases h
  case mslice ty z es by_ l c =>
    simp only [ef, aop] at h ⊢
    cases hx : rd tm l <;> cases hy : rd tm c <;> simp only [hx, hy, evMsl] at h ⊢ <;> try (cases h; done)
    split at h <;> rename_i hh
    · cases h; exact ⟨hh.1, hh.2.1, hh.2.2, hK⟩
    · cases h
  case eq2 k n x y =>
    simp only [ef, aop, ret1, evEq2] at h ⊢
    cases he : eqA k (rd tm x) (rd tm y) with
    | none => rw [he] at h; cases h
    | some b => rw [he] at h; cases h; exact ⟨b, rfl, hK⟩
  case clr es z x =>
    simp only [ef, aop] at h ⊢
    cases hx : rd tm x <;> simp only [hx, evClr] at h ⊢ <;> try (cases h; done)
    · cases h; exact hK
    · cases h; exact hK
    · rename_i id gen off len
      cases hB : σ.heap id with
      | none => simp [hB, evClrB] at h
      | some B =>
        cases B <;> simp only [hB, evClrB] at h ⊢ <;> try (cases h; done)
        split at h <;> rename_i h3
        · simp only [Option.some.injEq, Prod.mk.injEq] at h
          obtain ⟨rfl, rfl⟩ := h
          exact ⟨h3.1, h3.2.1, h3.2.2.1, h3.2.2.2.1, h3.2.2.2.2.1, h3.2.2.2.2.2, hK⟩
        · cases h
    · rename_i id
      cases hB : σ.heap id with
      | none => simp [hB, evClrM] at h
      | some B => cases B <;> simp only [hB, evClrM] at h ⊢ <;> first | (cases h; done) | (cases h; exact hK)
  case rangeS x =>
    simp only [ef, aop] at h ⊢
    cases hx : rd tm x <;> simp only [hx, evRange] at h ⊢ <;> try (cases h; done)
    cases h; exact hK
  case nextS x =>
    simp only [ef, aop] at h ⊢
    cases hx : rd tm x <;> simp only [hx, evNext] at h ⊢ <;> try (cases h; done)
    rename_i id
    cases hB : σ.heap id with
    | none => simp [hB, evNextB] at h
    | some B =>
      cases B <;> simp only [hB, evNextB] at h ⊢ <;> try (cases h; done)
      rename_i s p
      cases hc : s[p]? <;> simp only [hc, evNextC] at h ⊢
      · cases h; exact hK
      · split at h
        · cases h; exact ⟨by assumption, hK⟩
        · cases h
  case istr x i =>
    simp only [ef, aop, ret1] at h ⊢
    cases hx : rd tm x <;> cases hy : rd tm i <;> simp only [hx, hy, evIstr] at h ⊢ <;> try (cases h; done)
    split at h <;> rename_i hh
    · split at hh <;> rename_i h3
      · obtain ⟨b, hb, rfl⟩ := Option.map_eq_some_iff.1 hh; cases h; exact ⟨h3, b, hb, hK⟩
      · cases hh
    · cases h
  case max x y =>
    simp only [ef, aop, ret1] at h ⊢
    cases hx : rd tm x <;> cases hy : rd tm y <;> simp only [hx, hy, evMax] at h ⊢ <;> first | (cases h; done) | (cases h; exact hK)
  case min x y =>
    simp only [ef, aop, ret1] at h ⊢
    cases hx : rd tm x <;> cases hy : rd tm y <;> simp only [hx, hy, evMin] at h ⊢ <;> first | (cases h; done) | (cases h; exact hK)
  case iaddr es x i =>
    simp only [ef, aop, ret1] at h ⊢
    cases hx : rd tm x <;> cases hy : rd tm i <;> simp only [hx, hy, evIaddr] at h ⊢ <;> try (cases h; done)
    all_goals
      split at h <;> rename_i hh
      · split at hh <;> rename_i h3
        · cases hh; cases h; simp_all
        · cases hh
      · cases h
  all_goals
    simp only [ef, aop, ret1] at h ⊢
    first
      | (cases h; exact hK)
      | (split at h
         · rename_i hh
           cases h
           simp only [evPick, evNot, evNeg, evNilc, evConvI, evS2b, evFaddr, evField1, evFieldA, evExtr, evLenS, evLenL, evMax, evMin] at hh
           (repeat' split at hh) <;> first
             | (cases hh; done)
             | (cases hh; simp_all; done)
             | (simp_all; done)
         · cases h)
end Go.Abs
set_option linter.unusedVariables false
set_option linter.unusedSimpArgs false
namespace Go.Abs

def kp (h : CO) (tm : Tm) (σ : St) : Prop := match h.k, h.dst with
  | .prim c, some d => wantsA tm h.g = true → ef c tm σ = some (tm d, σ)
  | _, _ => False
def kps : List CO → Tm → St → Prop
  | [], _, _ => True
  | h :: hs, tm, σ => kp h tm σ ∧ kps hs tm σ

section
variable (P : Program)
def bout (d : Option Nat) (hs : List CO) (K : Tm → St → Prop) (tm : Tm) : Option (AV × St) → Prop
  | some (v, σ') => kps hs (updO tm d v) σ' ∧ K (updO tm d v) σ'
  | none => False
def bdc (args : List AV) (σ : St) (K : AV → St → Prop) : AV → Prop
  | .fn f caps => callable P f = true ∧ CallsA P f (args ++ caps) σ K
  | .yl l => YieldsA P l args σ K
  | _ => False
def bop (o : CO) (hs : List CO) (K : Tm → St → Prop) (tm : Tm) (σ : St) : Prop :=
  if wantsA tm o.g = true then (match o.k with
    | .prim c => bout o.dst hs K tm (ef c tm σ)
    | .call f args => CallsA P f (rds tm args) σ fun v σ' => kps hs (updO tm o.dst v) σ' ∧ K (updO tm o.dst v) σ'
    | .dcall x args => bdc P (rds tm args) σ (fun v σ' => kps hs (updO tm o.dst v) σ' ∧ K (updO tm o.dst v) σ') (rd tm x))
  else kps hs (updO tm o.dst undefA) σ ∧ K (updO tm o.dst undefA) σ
def bsch : Sch → (Tm → St → Prop) → Tm → St → Prop
  | .done, K, tm, σ => K tm σ
  | .op o hs s, K, tm, σ => bop P o hs (fun tm' σ' => bsch s K tm' σ') tm σ
  | .both a b, K, tm, σ => bsch a K tm σ ∧ bsch b K tm σ
def bwp : CC → (Ex → Tm → St → Prop) → Tm → St → Prop
  | .skip, Q, tm, σ => Q .norm tm σ
  | .region s, Q, tm, σ => bsch P s (Q .norm) tm σ
  | .seq a b, Q, tm, σ => bwp a (fun e tm σ => match e with | .norm => bwp b Q tm σ | e => Q e tm σ) tm σ
  | .cond c a b, Q, tm, σ => match rd tm c with
    | .bool t => if t then bwp a Q tm σ else bwp b Q tm σ
    | _ => False
  | .block id c, Q, tm, σ => bwp c (fun e tm σ => match e with | .exit i => if i = id then Q .norm tm σ else Q (.exit i) tm σ | e => Q e tm σ) tm σ
  | .loop c, Q, tm, σ => ∃ (I : Tm → St → Prop) (μ : Tm → St → Nat), I tm σ ∧ ∀ tm σ, I tm σ → bwp c (fun e tm' σ' => match e with | .norm => I tm' σ' ∧ μ tm' σ' < μ tm σ | e => Q e tm' σ') tm σ
  | .exit id, Q, tm, σ => Q (.exit id) tm σ
  | .ret, Q, tm, σ => Q .ret tm σ
  | .scope c, Q, tm, σ => bwp c Q tm σ
  | .rfunc n g ps asg body, Q, tm, σ => awp P (.rfunc n g ps asg body) Q tm σ

variable {P}
theorem kp_keeps {h : CO} {tm : Tm} {σ : St} (hk : kp h tm σ) : Keeps P h tm σ := by
  obtain ⟨d, g, k⟩ := h
  unfold kp at hk
  intro hw
  cases k <;> cases d <;> simp only at hk
  rename_i c d
  exact ⟨d, rfl, show aop c tm σ (fun v σ' => v = tm d ∧ σ' = σ) from ef_aop (hk hw) ⟨rfl, rfl⟩⟩
theorem kps_keeps : ∀ {hs : List CO} {tm : Tm} {σ : St}, kps hs tm σ → ∀ h ∈ hs, Keeps P h tm σ
  | [], _, _, _, h, hm => by cases hm
  | x :: xs, tm, σ, hk, h, hm => by
    simp only [kps] at hk
    rcases List.mem_cons.1 hm with rfl | hm
    · exact kp_keeps hk.1
    · exact kps_keeps hk.2 h hm
theorem bop_aop {o : CO} {hs : List CO} {K : Tm → St → Prop} {tm : Tm} {σ : St} (h : bop P o hs K tm σ) : aopO P o tm σ fun tm' σ' => (∀ h ∈ hs, Keeps P h tm' σ') ∧ K tm' σ' := by
  unfold bop at h
  unfold aopO
  split
  · rename_i hw
    rw [if_pos hw] at h
    obtain ⟨d, g, k⟩ := o
    cases k with
    | prim c =>
      simp only at h ⊢
      cases he : ef c tm σ with
      | none => rw [he] at h; cases h
      | some p =>
        obtain ⟨v, σ'⟩ := p
        rw [he] at h
        simp only [bout] at h
        simp only [aopk]
        exact ef_aop he ⟨kps_keeps h.1, h.2⟩
    | call f args => exact CallsA.mono h fun r σ' hq => ⟨kps_keeps hq.1, hq.2⟩
    | dcall x args =>
      simp only [aopk] at h ⊢
      cases hx : rd tm x <;> simp only [hx, bdc] at h ⊢
      · exact h.mono fun r σ' hq => ⟨kps_keeps hq.1, hq.2⟩
      · exact ⟨h.1, h.2.mono fun r σ' hq => ⟨kps_keeps hq.1, hq.2⟩⟩
  · rename_i hw
    rw [if_neg hw] at h
    exact ⟨kps_keeps h.1, h.2⟩
theorem bsch_asch : ∀ {s : Sch} {K : Tm → St → Prop} {tm : Tm} {σ : St}, bsch P s K tm σ → asch P s K tm σ
  | .done, K, tm, σ, h => h
  | .op o hs s, K, tm, σ, h => by
    simp only [bsch] at h
    simp only [asch]
    exact aopO_mono (fun tm σ hh => ⟨hh.1, bsch_asch hh.2⟩) (bop_aop h)
  | .both a b, K, tm, σ, h => ⟨bsch_asch h.1, bsch_asch h.2⟩
theorem bop_mono {o : CO} {hs : List CO} {K K' : Tm → St → Prop} (hK : ∀ tm σ, K tm σ → K' tm σ) {tm : Tm} {σ : St} (h : bop P o hs K tm σ) : bop P o hs K' tm σ := by
  unfold bop at h ⊢
  split
  · rename_i hw
    rw [if_pos hw] at h
    obtain ⟨d, g, k⟩ := o
    cases k with
    | prim c =>
      simp only at h ⊢
      cases he : ef c tm σ with
      | none => rw [he] at h; cases h
      | some p => rw [he] at h; exact ⟨h.1, hK _ _ h.2⟩
    | call f args => exact CallsA.mono h fun r σ' hq => ⟨hq.1, hK _ _ hq.2⟩
    | dcall x args =>
      simp only at h ⊢
      cases hx : rd tm x <;> simp only [hx, bdc] at h ⊢
      · exact h.mono fun r σ' hq => ⟨hq.1, hK _ _ hq.2⟩
      · exact ⟨h.1, h.2.mono fun r σ' hq => ⟨hq.1, hK _ _ hq.2⟩⟩
  · rename_i hw
    rw [if_neg hw] at h
    exact ⟨h.1, hK _ _ h.2⟩
theorem bsch_mono : ∀ {s : Sch} {K K' : Tm → St → Prop}, (∀ tm σ, K tm σ → K' tm σ) → ∀ {tm : Tm} {σ : St}, bsch P s K tm σ → bsch P s K' tm σ
  | .done, K, K', hK, tm, σ, h => hK _ _ h
  | .op o hs s, K, K', hK, tm, σ, h => by
    simp only [bsch] at h ⊢
    exact bop_mono (fun tm σ hh => bsch_mono hK hh) h
  | .both a b, K, K', hK, tm, σ, h => ⟨bsch_mono hK h.1, bsch_mono hK h.2⟩
theorem bwp_mono : ∀ {c : CC} {Q Q' : Ex → Tm → St → Prop}, (∀ e tm σ, Q e tm σ → Q' e tm σ) → ∀ {tm : Tm} {σ : St}, bwp P c Q tm σ → bwp P c Q' tm σ
  | .skip, Q, Q', hQ, tm, σ, h => hQ _ _ _ h
  | .region r, Q, Q', hQ, tm, σ, h => bsch_mono (hQ .norm) h
  | .seq a b, Q, Q', hQ, tm, σ, h => bwp_mono (c := a) (fun e tm σ hk => by
      cases e with
      | norm => exact bwp_mono (c := b) hQ hk
      | ret => exact hQ _ _ _ hk
      | exit i => exact hQ _ _ _ hk) h
  | .cond c a b, Q, Q', hQ, tm, σ, h => by
    simp only [bwp] at h ⊢
    cases hc : rd tm c <;> simp only [hc] at h ⊢
    rename_i t
    cases t
    · simp only [Bool.false_eq_true, if_false] at h ⊢; exact bwp_mono hQ h
    · simp only [if_true] at h ⊢; exact bwp_mono hQ h
  | .block id c, Q, Q', hQ, tm, σ, h => bwp_mono (c := c) (fun e tm σ hk => by
      cases e with
      | norm => exact hQ _ _ _ hk
      | ret => exact hQ _ _ _ hk
      | exit i =>
        simp only at hk ⊢
        split
        · rename_i hi; rw [if_pos hi] at hk; exact hQ _ _ _ hk
        · rename_i hi; rw [if_neg hi] at hk; exact hQ _ _ _ hk) h
  | .loop c, Q, Q', hQ, tm, σ, h => by
    obtain ⟨I, μ, h0, h1⟩ := h
    refine ⟨I, μ, h0, fun tm σ hI => bwp_mono (c := c) (fun e tm' σ' hk => ?_) (h1 tm σ hI)⟩
    cases e with
    | norm => exact hk
    | ret => exact hQ _ _ _ hk
    | exit i => exact hQ _ _ _ hk
  | .exit id, Q, Q', hQ, tm, σ, h => hQ _ _ _ h
  | .ret, Q, Q', hQ, tm, σ, h => hQ _ _ _ h
  | .scope c, Q, Q', hQ, tm, σ, h => bwp_mono (c := c) hQ h
  | .rfunc n g ps asg body, Q, Q', hQ, tm, σ, h => awp_mono hQ h
theorem bwp_awp : ∀ {c : CC} {Q : Ex → Tm → St → Prop} {tm : Tm} {σ : St}, bwp P c Q tm σ → awp P c Q tm σ
  | .skip, Q, tm, σ, h => h
  | .region r, Q, tm, σ, h => bsch_asch h
  | .seq a b, Q, tm, σ, h => by
    simp only [bwp] at h
    simp only [awp]
    refine awp_mono (fun e tm σ hk => ?_) (bwp_awp (c := a) h)
    cases e with
    | norm => exact bwp_awp (c := b) hk
    | ret => exact hk
    | exit i => exact hk
  | .cond c a b, Q, tm, σ, h => by
    simp only [bwp] at h
    simp only [awp]
    cases hc : rd tm c <;> simp only [hc] at h ⊢
    rename_i t
    cases t
    · simp only [Bool.false_eq_true, if_false] at h ⊢; exact bwp_awp h
    · simp only [if_true] at h ⊢; exact bwp_awp h
  | .block id c, Q, tm, σ, h => bwp_awp (c := c) h
  | .loop c, Q, tm, σ, h => by
    obtain ⟨I, μ, h0, h1⟩ := h
    exact ⟨I, μ, h0, fun tm σ hI => bwp_awp (c := c) (h1 tm σ hI)⟩
  | .exit id, Q, tm, σ, h => h
  | .ret, Q, tm, σ, h => h
  | .scope c, Q, tm, σ, h => bwp_awp (c := c) h
  | .rfunc n g ps asg body, Q, tm, σ, h => h
end

/-! ### The walk -/
inductive KI where
  | seq (c : CC) | blk (id : Nat) | lp (J : Tm → St → Prop)
section
variable (P : Program) (Q : Ex → Tm → St → Prop)
def Z : List KI → Ex → Tm → St → Prop
  | [], e => Q e
  | .seq c :: k, e => match e with | .norm => bwp P c (Z k) | e => Z k e
  | .blk id :: k, e => match e with | .exit i => if i = id then Z k .norm else Z k (.exit i) | e => Z k e
  | .lp J :: k, e => match e with | .norm => J | e => Z k e
def Y (c : CC) (k : List KI) (tm : Tm) (σ : St) : Prop := bwp P c (Z P Q k) tm σ
def X (s : Sch) (k : List KI) (tm : Tm) (σ : St) : Prop := bsch P s (Z P Q k .norm) tm σ
def XV (d : Nat) (s : Sch) (k : List KI) (tm : Tm) : Option (AV × St) → Prop
  | some (v, σ') => X P Q s k (upd tm d v) σ'
  | none => False
def XH (d : Option Nat) (hs : List CO) (s : Sch) (k : List KI) (tm : Tm) : Option (AV × St) → Prop
  | some (v, σ') => kps hs (updO tm d v) σ' ∧ X P Q s k (updO tm d v) σ'
  | none => False
def Cl (f : FuncId) (args : List AV) (d : Option Nat) (hs : List CO) (s : Sch) (k : List KI) (tm : Tm) (σ : St) : Prop :=
  CallsA P f args σ fun v σ' => kps hs (updO tm d v) σ' ∧ X P Q s k (updO tm d v) σ'
def Dc (x : AV) (args : List AV) (d : Option Nat) (hs : List CO) (s : Sch) (k : List KI) (tm : Tm) (σ : St) : Prop :=
  bdc P args σ (fun v σ' => kps hs (updO tm d v) σ' ∧ X P Q s k (updO tm d v) σ') x
def Gd (w : Bool) (o : CO) (hs : List CO) (s : Sch) (k : List KI) (tm : Tm) (σ : St) : Prop :=
  if w = true then X P Q (.op ⟨o.dst, none, o.k⟩ hs s) k tm σ else kps hs (updO tm o.dst undefA) σ ∧ X P Q s k (updO tm o.dst undefA) σ
def Cd (v : AV) (a b : CC) (k : List KI) (tm : Tm) (σ : St) : Prop := match v with
  | .bool t => if t then Y P Q a k tm σ else Y P Q b k tm σ
  | _ => False
def Rf (v : AV) (n : Nat) (ps : Array Tmp) (asg body : Code) (k : List KI) (tm : Tm) (σ : St) : Prop := match v with
  | .fn f caps => callable P f = true ∧ CallsA P f (.yl (σ.nx + 1) :: caps) ((σ.new .defd).new (.loop .ready none (tmL tm n) ps asg body)) fun _ σ' => afterLoop (Z P Q k) (σ.nx + 1) (pushD tm n (.map σ.nx)) σ'
  | _ => False
def Lp (c : CC) (k : List KI) (tm : Tm) (σ : St) : Prop := Y P Q (.loop c) k tm σ

variable {P Q} {k : List KI} {tm : Tm} {σ : St}
theorem Y_skip : Y P Q .skip k tm σ = Z P Q k .norm tm σ := Eq.trans rfl rfl
theorem Y_unf {c c' : CC} (h : c = c') {P : Program} {Q : Ex → Tm → St → Prop} {k : List KI} {tm : Tm} {σ : St} : Y P Q c k tm σ = Y P Q c' k tm σ := by rw [h]
theorem Y_region {s : Sch} : Y P Q (.region s) k tm σ = X P Q s k tm σ := Eq.trans rfl rfl
theorem Y_seq {a b : CC} : Y P Q (.seq a b) k tm σ = Y P Q a (.seq b :: k) tm σ := by
  unfold Y
  simp only [bwp]
  congr 1
  funext e tm σ
  cases e <;> rfl
theorem Y_cond {c : Opd} {a b : CC} : Y P Q (.cond c a b) k tm σ = Cd P Q (rd tm c) a b k tm σ := Eq.trans rfl rfl
theorem Cd_true {a b : CC} : Cd P Q (.bool true) a b k tm σ = Y P Q a k tm σ := Eq.trans rfl rfl
theorem Cd_false {a b : CC} : Cd P Q (.bool false) a b k tm σ = Y P Q b k tm σ := Eq.trans rfl rfl
theorem Cd_of {p : Prop} [Decidable p] {a b : CC} (h1 : p → Y P Q a k tm σ) (h2 : ¬ p → Y P Q b k tm σ) : Cd P Q (.bool (decide p)) a b k tm σ := by
  by_cases h : p
  · rw [decide_eq_true h]; exact h1 h
  · rw [decide_eq_false h]; exact h2 h
theorem Cd_bool {t : Bool} {a b : CC} (h1 : t = true → Y P Q a k tm σ) (h2 : t = false → Y P Q b k tm σ) : Cd P Q (.bool t) a b k tm σ := by
  cases t
  · exact h2 rfl
  · exact h1 rfl
theorem Y_block {id : Nat} {c : CC} : Y P Q (.block id c) k tm σ = Y P Q c (.blk id :: k) tm σ := by
  unfold Y
  simp only [bwp]
  congr 1
  funext e tm σ
  cases e <;> first | rfl | (simp only [Z]; split <;> rfl)
theorem Y_exit {id : Nat} : Y P Q (.exit id) k tm σ = Z P Q k (.exit id) tm σ := Eq.trans rfl rfl
theorem Y_ret : Y P Q .ret k tm σ = Z P Q k .ret tm σ := Eq.trans rfl rfl
theorem Y_scope {c : CC} : Y P Q (.scope c) k tm σ = Y P Q c k tm σ := Eq.trans rfl rfl
theorem Y_loop {c : CC} : Y P Q (.loop c) k tm σ = Lp P Q c k tm σ := Eq.trans rfl rfl
theorem Y_rfunc {n : Nat} {g : Opd} {ps : Array Tmp} {asg body : Code} : Y P Q (.rfunc n g ps asg body) k tm σ = Rf P Q (rd tm g) n ps asg body k tm σ := by
  unfold Y Rf
  simp only [bwp, awp]
  all_goals (cases rd tm g <;> rfl)
theorem Z_nil {e : Ex} : Z P Q [] e tm σ = Q e tm σ := Eq.trans rfl rfl
theorem Z_seq {c : CC} : Z P Q (.seq c :: k) .norm tm σ = Y P Q c k tm σ := Eq.trans rfl rfl
theorem Z_seq_ret {c : CC} : Z P Q (.seq c :: k) .ret tm σ = Z P Q k .ret tm σ := Eq.trans rfl rfl
theorem Z_seq_exit {c : CC} {i : Nat} : Z P Q (.seq c :: k) (.exit i) tm σ = Z P Q k (.exit i) tm σ := Eq.trans rfl rfl
theorem Z_blk {id : Nat} : Z P Q (.blk id :: k) .norm tm σ = Z P Q k .norm tm σ := Eq.trans rfl rfl
theorem Z_blk_ret {id : Nat} : Z P Q (.blk id :: k) .ret tm σ = Z P Q k .ret tm σ := Eq.trans rfl rfl
theorem Z_blk_exit {id i : Nat} : Z P Q (.blk id :: k) (.exit i) tm σ = if i = id then Z P Q k .norm tm σ else Z P Q k (.exit i) tm σ := by
  simp only [Z]; split <;> rfl
theorem Z_lp {J : Tm → St → Prop} : Z P Q (.lp J :: k) .norm tm σ = J tm σ := Eq.trans rfl rfl
theorem Z_lp_ret {J : Tm → St → Prop} : Z P Q (.lp J :: k) .ret tm σ = Z P Q k .ret tm σ := Eq.trans rfl rfl
theorem Z_lp_exit {J : Tm → St → Prop} {i : Nat} : Z P Q (.lp J :: k) (.exit i) tm σ = Z P Q k (.exit i) tm σ := Eq.trans rfl rfl
theorem X_done : X P Q .done k tm σ = Z P Q k .norm tm σ := Eq.trans rfl rfl
theorem X_o1 {d : Nat} {c : COp} {s : Sch} : X P Q (o1 d c s) k tm σ = XV P Q d s k tm (ef c tm σ) := by
  unfold X
  simp only [o1, bsch, bop, wantsA, if_true]
  cases ef c tm σ with
  | none => rfl
  | some p => simp only [bout, XV, kps, true_and, updO]; rfl
theorem XV_some {d : Nat} {s : Sch} {v : AV} {σ' : St} : XV P Q d s k tm (some (v, σ')) = X P Q s k (upd tm d v) σ' := Eq.trans rfl rfl
theorem X_op {d : Option Nat} {c : COp} {hs : List CO} {s : Sch} : X P Q (.op ⟨d, none, .prim c⟩ hs s) k tm σ = XH P Q d hs s k tm (ef c tm σ) := by
  unfold X
  simp only [bsch, bop, wantsA, if_true]
  cases ef c tm σ with
  | none => rfl
  | some p => rfl
theorem XH_some {d : Option Nat} {hs : List CO} {s : Sch} {v : AV} {σ' : St} : XH P Q d hs s k tm (some (v, σ')) = (kps hs (updO tm d v) σ' ∧ X P Q s k (updO tm d v) σ') := Eq.trans rfl rfl
theorem X_call {d : Option Nat} {f : FuncId} {args : List Opd} {hs : List CO} {s : Sch} : X P Q (.op ⟨d, none, .call f args⟩ hs s) k tm σ = Cl P Q f (rds tm args) d hs s k tm σ := by
  unfold X
  simp only [bsch, bop, wantsA, if_true]
  rfl
theorem X_dcall {d : Option Nat} {x : Opd} {args : List Opd} {hs : List CO} {s : Sch} : X P Q (.op ⟨d, none, .dcall x args⟩ hs s) k tm σ = Dc P Q (rd tm x) (rds tm args) d hs s k tm σ := by
  unfold X
  simp only [bsch, bop, wantsA, if_true]
  rfl
theorem Dc_fn {f : FuncId} {caps args : List AV} {d : Option Nat} {hs : List CO} {s : Sch} : Dc P Q (.fn f caps) args d hs s k tm σ = (callable P f = true ∧ Cl P Q f (args ++ caps) d hs s k tm σ) := Eq.trans rfl rfl
theorem X_guard {d : Option Nat} {t : Nat} {b : Bool} {kd : Kd} {hs : List CO} {s : Sch} : X P Q (.op ⟨d, some (t, b), kd⟩ hs s) k tm σ = Gd P Q (wantsA tm (some (t, b))) ⟨d, some (t, b), kd⟩ hs s k tm σ := by
  unfold X Gd
  simp only [bsch, bop]
  by_cases h : wantsA tm (some (t, b)) = true
  · rw [if_pos h, if_pos h]; simp only [X, bsch, bop, wantsA, if_true]
  · rw [if_neg h, if_neg h]; rfl
theorem Gd_true {o : CO} {hs : List CO} {s : Sch} : Gd P Q true o hs s k tm σ = X P Q (.op ⟨o.dst, none, o.k⟩ hs s) k tm σ := Eq.trans rfl rfl
theorem Gd_false {o : CO} {hs : List CO} {s : Sch} : Gd P Q false o hs s k tm σ = (kps hs (updO tm o.dst undefA) σ ∧ X P Q s k (updO tm o.dst undefA) σ) := Eq.trans rfl rfl
theorem X_both {a b : Sch} : X P Q (.both a b) k tm σ = (X P Q a k tm σ ∧ X P Q b k tm σ) := Eq.trans rfl rfl

theorem Cl_pure {f : FuncId} {args : List AV} {d : Option Nat} {hs : List CO} {s : Sch} {r : AV} (h : PureC P f args r) (hk : kps hs (updO tm d r) σ) (hx : X P Q s k (updO tm d r) σ) : Cl P Q f args d hs s k tm σ := h σ _ ⟨hk, hx⟩
theorem Cl_pure0 {f : FuncId} {args : List AV} {d : Option Nat} {s : Sch} {r : AV} (h : PureC P f args r) (hx : X P Q s k (updO tm d r) σ) : Cl P Q f args d [] s k tm σ := h σ _ ⟨trivial, hx⟩
theorem Cl_of {f : FuncId} {args : List AV} {d : Option Nat} {hs : List CO} {s : Sch} {R : AV → St → Prop} (h : CallsA P f args σ R) (hx : ∀ v σ', R v σ' → kps hs (updO tm d v) σ' ∧ X P Q s k (updO tm d v) σ') : Cl P Q f args d hs s k tm σ := h.mono hx
theorem Cl_of0 {f : FuncId} {args : List AV} {d : Option Nat} {s : Sch} {R : AV → St → Prop} (h : CallsA P f args σ R) (hx : ∀ v σ', R v σ' → X P Q s k (updO tm d v) σ') : Cl P Q f args d [] s k tm σ := h.mono fun v σ' hr => ⟨trivial, hx v σ' hr⟩

/-- A loop goes on. -/
def Nxt {α : Type} (J : α → Tm → St → Prop) (μ : α → Nat) (m : Nat) (tm : Tm) (σ : St) : Prop := ∃ a, J a tm σ ∧ μ a < m
/-- A loop, by what it reckons with. -/
theorem Lp_of {α : Type} {c : CC} (st : α → Tm → St → Prop) (μ : α → Nat) {a : α} {tm : Tm} {σ : St} (ha : st a tm σ)
    (h : ∀ (J : α → Tm → St → Prop), (∀ a tm σ, st a tm σ → J a tm σ) → ∀ a tm σ, st a tm σ → Y P Q c (.lp (Nxt J μ (μ a)) :: k) tm σ) : Lp P Q c k tm σ := by
  refine ⟨fun tm σ => ∃ a, st a tm σ, fun tm σ => minOf fun n => ∃ a, st a tm σ ∧ μ a = n, ⟨a, ha⟩, fun tm σ hI => ?_⟩
  obtain ⟨a0, h0⟩ := hI
  have hm := minOf_spec (p := fun n => ∃ a, st a tm σ ∧ μ a = n) ⟨μ a0, a0, h0, rfl⟩
  obtain ⟨⟨a, h1, h2⟩, _⟩ := hm
  refine bwp_mono (fun e tm' σ' hq => ?_) (h st (fun _ _ _ h => h) a tm σ h1)
  cases e with
  | norm =>
    obtain ⟨a', h3, h4⟩ := hq
    refine ⟨⟨a', h3⟩, ?_⟩
    have := (minOf_spec (p := fun n => ∃ a, st a tm' σ' ∧ μ a = n) ⟨μ a', a', h3, rfl⟩).2 (μ a') ⟨a', h3, rfl⟩
    simp only []
    omega
  | ret => exact hq
  | exit i => exact hq
end

section
variable (P : Program) (Q : Ex → Tm → St → Prop)
/-- A loop of at most so many rounds. -/
def LpN : Nat → CC → List KI → Tm → St → Prop
  | 0, _, _, _, _ => False
  | n + 1, c, k, tm, σ => Y P Q c (.lp (fun tm' σ' => LpN n c k tm' σ') :: k) tm σ
end
theorem Lp_unroll {P : Program} {Q : Ex → Tm → St → Prop} (n : Nat) {c : CC} {k : List KI} {tm : Tm} {σ : St} (h : LpN P Q n c k tm σ) : Lp P Q c k tm σ := by
  refine Lp_of (α := Nat) (fun n tm σ => LpN P Q n c k tm σ) (fun n => n) (a := n) h (fun J hJ n tm σ h => ?_)
  cases n with
  | zero => cases h
  | succ n =>
    simp only [LpN] at h
    refine bwp_mono (fun e tm' σ' hq => ?_) h
    cases e with
    | norm => exact ⟨n, hJ _ _ _ hq, Nat.lt_succ_self n⟩
    | ret => exact hq
    | exit i => exact hq
theorem LpN_succ {P : Program} {Q : Ex → Tm → St → Prop} {n : Nat} {c : CC} {k : List KI} {tm : Tm} {σ : St} : LpN P Q (n + 1) c k tm σ = Y P Q c (.lp (LpN P Q n c k) :: k) tm σ := Eq.trans rfl rfl

theorem calls_of_Y {P : Program} {f : FuncId} {n : Nat} {rv : List RV} {cc : CC} (he : compF P f = some ⟨n, rv, cc⟩) {args : List AV} (hn : Nat.ble args.length n = true) {σ : St} {Q : AV → St → Prop}
    (h : Y P (fnPost rv n Q) cc [] (tm0 args) σ) : CallsA P f args σ Q :=
  calls_of_fe he (Nat.le_of_ble_eq_true hn) (bwp_awp h)

/-! ### Numbers and texts -/
section
variable {k : IntKind} {a b : Int} {s t : List UInt8}
theorem binA_add : binA .add (.int k a) (.int k b) = some (.int k (k.wrap (a + b))) := by simp [binA]
theorem binA_sub : binA .sub (.int k a) (.int k b) = some (.int k (k.wrap (a - b))) := by simp [binA]
theorem binA_mul : binA .mul (.int k a) (.int k b) = some (.int k (k.wrap (a * b))) := by simp [binA]
theorem binA_quo : binA .quo (.int k a) (.int k b) = if b = 0 then none else some (.int k (k.wrap (a.tdiv b))) := by simp [binA]
theorem binA_rem : binA .rem (.int k a) (.int k b) = if b = 0 then none else some (.int k (a.tmod b)) := by simp [binA]
theorem binA_eql : binA .eql (.int k a) (.int k b) = some (.bool (decide (a = b))) := by simp [binA]
theorem binA_neq : binA .neq (.int k a) (.int k b) = some (.bool (decide (a ≠ b))) := by simp [binA]
theorem binA_lss : binA .lss (.int k a) (.int k b) = some (.bool (decide (a < b))) := by simp [binA]
theorem binA_leq : binA .leq (.int k a) (.int k b) = some (.bool (decide (a ≤ b))) := by simp [binA]
theorem binA_gtr : binA .gtr (.int k a) (.int k b) = some (.bool (decide (b < a))) := by simp [binA]
theorem binA_geq : binA .geq (.int k a) (.int k b) = some (.bool (decide (b ≤ a))) := by simp [binA]
theorem binA_sadd : binA .add (.str s) (.str t) = if s.length + t.length ≤ 4611686018427387904 then some (.str (s ++ t)) else none := by simp [binA]
theorem binA_seql : binA .eql (.str s) (.str t) = some (.bool (decide (s = t))) := by simp [binA]
theorem binA_sneq : binA .neq (.str s) (.str t) = some (.bool (decide (s ≠ t))) := by simp [binA]
theorem binA_slss : binA .lss (.str s) (.str t) = some (.bool (Op.bytesLess s t)) := by simp [binA]
theorem wrap_i64 (h1 : -9223372036854775808 ≤ a) (h2 : a < 9223372036854775808) : IntKind.i64.wrap a = a := by
  simp only [IntKind.wrap, IntKind.bits, IntKind.signed]; simp; omega
theorem wrap_u64 (h1 : 0 ≤ a) (h2 : a < 18446744073709551616) : IntKind.u64.wrap a = a := by
  simp only [IntKind.wrap, IntKind.bits, IntKind.signed]; simp; omega
theorem wrap_u8 (h1 : 0 ≤ a) (h2 : a < 256) : IntKind.u8.wrap a = a := by
  simp only [IntKind.wrap, IntKind.bits, IntKind.signed]; simp; omega
theorem ret1_some {σ : St} {v : AV} : ret1 σ (some v) = some (v, σ) := Eq.trans rfl rfl
theorem ret1_none {σ : St} : ret1 σ none = none := rfl
end
end Go.Abs
set_option linter.unusedVariables false
set_option linter.unusedSimpArgs false
namespace Go.Abs

mutual
/-- All identities in a value lie below a number. -/
def IdsLt (n : Nat) : AV → Prop
  | .bool _ => True
  | .int _ _ => True
  | .str _ => True
  | .pnil => True
  | .snil => True
  | .mnil => True
  | .fnil => True
  | .inil => True
  | .ptr id _ _ => id < n
  | .eptr xs => IdsLts n xs
  | .list xs _ _ => IdsLts n xs
  | .sl id _ _ _ => id < n
  | .map id => id < n
  | .it id => id < n
  | .yl id => id < n
  | .fn _ caps => IdsLts n caps
  | .agg cs => IdsLts n cs
  | .tup vs => IdsLts n vs
  | .iface _ v => IdsLt n v
def IdsLts (n : Nat) : List AV → Prop
  | [] => True
  | x :: xs => IdsLt n x ∧ IdsLts n xs
end

def Ctx.cut (C : Ctx) (n : Nat) : Ctx := { C with rho := fun id => if id < n then C.rho id else none, gen := fun id => if id < n then C.gen id else 0 }

section
variable {C C' : Ctx} {w w' : World} {n : Nat}
mutual
theorem VRel.ids (hf : ∀ id, n ≤ id → C.rho id = none ∧ C.gen id = 0) : ∀ (x : AV) (v : Value), VRel C w x v → IdsLt n x
  | .bool b, v, r => by simp only [IdsLt]
  | .int k m, v, r => by simp only [IdsLt]
  | .str s, v, r => by simp only [IdsLt]
  | .pnil, v, r => by simp only [IdsLt]
  | .snil, v, r => by simp only [IdsLt]
  | .mnil, v, r => by simp only [IdsLt]
  | .fnil, v, r => by simp only [IdsLt]
  | .inil, v, r => by simp only [IdsLt]
  | .ptr id gen off, v, r => by
    simp only [VRel] at r
    simp only [IdsLt]
    rcases Nat.lt_or_ge id n with h | h
    · exact h
    · exfalso
      obtain ⟨a, _, h1, h2⟩ := r
      obtain ⟨h3, h4⟩ := hf id h
      obtain ⟨L, hL, _⟩ := h2 (by omega)
      rw [h3] at hL; cases hL
  | .eptr xs, v, r => by
    simp only [VRel] at r
    simp only [IdsLt]
    obtain ⟨b, o, us, _, _, _, _, h⟩ := r
    exact VRels.ids hf xs us h
  | .list xs len cap, v, r => by
    simp only [VRel] at r
    simp only [IdsLt]
    obtain ⟨b, o, c, us, _, _, _, _, _, _, h⟩ := r
    exact VRels.ids hf xs us h
  | .sl id gen off len, v, r => by
    simp only [VRel] at r
    simp only [IdsLt]
    rcases Nat.lt_or_ge id n with h | h
    · exact h
    · exfalso
      obtain ⟨a, c, _, _, h1, h2⟩ := r
      obtain ⟨h3, h4⟩ := hf id h
      obtain ⟨L, o, hL, _⟩ := h2 (by omega)
      rw [h3] at hL; cases hL
  | .map id, v, r => by
    simp only [VRel] at r
    simp only [IdsLt]
    rcases Nat.lt_or_ge id n with h | h
    · exact h
    · exfalso
      obtain ⟨a, _, h2⟩ := r
      obtain ⟨h3, h4⟩ := hf id h
      obtain ⟨L, hL, _⟩ := h2 h4
      rw [h3] at hL; cases hL
  | .it id, v, r => by
    simp only [VRel] at r
    simp only [IdsLt]
    rcases Nat.lt_or_ge id n with h | h
    · exact h
    · exfalso
      obtain ⟨a, _, h2⟩ := r
      obtain ⟨h3, h4⟩ := hf id h
      obtain ⟨L, hL, _⟩ := h2 h4
      rw [h3] at hL; cases hL
  | .yl id, v, r => by
    simp only [VRel] at r
    simp only [IdsLt]
    rcases Nat.lt_or_ge id n with h | h
    · exact h
    · exfalso
      obtain ⟨a, _, h2⟩ := r
      obtain ⟨h3, h4⟩ := hf id h
      obtain ⟨L, hL, _⟩ := h2 h4
      rw [h3] at hL; cases hL
  | .fn f caps, v, r => by
    simp only [VRel] at r
    simp only [IdsLt]
    obtain ⟨us, _, h⟩ := r
    exact VRels.ids hf caps us h
  | .agg cs, v, r => by
    simp only [VRel] at r
    simp only [IdsLt]
    obtain ⟨us, _, h⟩ := r
    exact VRels.ids hf cs us h
  | .tup cs, v, r => by
    simp only [VRel] at r
    simp only [IdsLt]
    obtain ⟨us, _, h⟩ := r
    exact VRels.ids hf cs us h
  | .iface t x, v, r => by
    simp only [VRel] at r
    simp only [IdsLt]
    obtain ⟨u, _, h⟩ := r
    exact VRel.ids hf x u h
theorem VRels.ids (hf : ∀ id, n ≤ id → C.rho id = none ∧ C.gen id = 0) : ∀ (xs : List AV) (us : List Value), VRels C w xs us → IdsLts n xs
  | [], us, r => by simp only [IdsLts]
  | x :: xs, us, r => by
    simp only [VRels] at r
    simp only [IdsLts]
    obtain ⟨u, t, _, h1, h2⟩ := r
    exact ⟨VRel.ids hf x u h1, VRels.ids hf xs t h2⟩
end
mutual
theorem VRel.cut : ∀ (x : AV) (v : Value), IdsLt n x → VRel C w x v → VRel (C.cut n) w x v
  | .bool b, v, _, r => by simpa only [VRel] using r
  | .int k m, v, _, r => by simpa only [VRel] using r
  | .str s, v, _, r => by simpa only [VRel] using r
  | .pnil, v, _, r => by simpa only [VRel] using r
  | .snil, v, _, r => by simpa only [VRel] using r
  | .mnil, v, _, r => by simpa only [VRel] using r
  | .fnil, v, _, r => by simpa only [VRel] using r
  | .inil, v, _, r => by simpa only [VRel] using r
  | .ptr id gen off, v, hi, r => by
    simp only [IdsLt] at hi
    simp only [VRel, Ctx.cut, if_pos hi] at r ⊢; exact r
  | .eptr xs, v, hi, r => by
    simp only [IdsLt] at hi
    simp only [VRel] at r ⊢
    obtain ⟨b, o, us, h1, h2, h3, h4, h⟩ := r
    exact ⟨b, o, us, h1, h2, h3, h4, VRels.cut xs us hi h⟩
  | .list xs len cap, v, hi, r => by
    simp only [IdsLt] at hi
    simp only [VRel] at r ⊢
    obtain ⟨b, o, c, us, h1, h2, h3, h4, h5, h6, h⟩ := r
    exact ⟨b, o, c, us, h1, h2, h3, h4, h5, h6, VRels.cut xs us hi h⟩
  | .sl id gen off len, v, hi, r => by
    simp only [IdsLt] at hi
    simp only [VRel, Ctx.cut, if_pos hi] at r ⊢; exact r
  | .map id, v, hi, r => by
    simp only [IdsLt] at hi
    simp only [VRel, Ctx.cut, if_pos hi] at r ⊢; exact r
  | .it id, v, hi, r => by
    simp only [IdsLt] at hi
    simp only [VRel, Ctx.cut, if_pos hi] at r ⊢; exact r
  | .yl id, v, hi, r => by
    simp only [IdsLt] at hi
    simp only [VRel, Ctx.cut, if_pos hi] at r ⊢; exact r
  | .fn f caps, v, hi, r => by
    simp only [IdsLt] at hi
    simp only [VRel] at r ⊢
    obtain ⟨us, h1, h⟩ := r
    exact ⟨us, h1, VRels.cut caps us hi h⟩
  | .agg cs, v, hi, r => by
    simp only [IdsLt] at hi
    simp only [VRel] at r ⊢
    obtain ⟨us, h1, h⟩ := r
    exact ⟨us, h1, VRels.cut cs us hi h⟩
  | .tup cs, v, hi, r => by
    simp only [IdsLt] at hi
    simp only [VRel] at r ⊢
    obtain ⟨us, h1, h⟩ := r
    exact ⟨us, h1, VRels.cut cs us hi h⟩
  | .iface t x, v, hi, r => by
    simp only [IdsLt] at hi
    simp only [VRel] at r ⊢
    obtain ⟨u, h1, h⟩ := r
    exact ⟨u, h1, VRel.cut x u hi h⟩
theorem VRels.cut : ∀ (xs : List AV) (us : List Value), IdsLts n xs → VRels C w xs us → VRels (C.cut n) w xs us
  | [], us, _, r => by simpa only [VRels] using r
  | x :: xs, us, hi, r => by
    simp only [IdsLts] at hi
    simp only [VRels] at r ⊢
    obtain ⟨u, t, h0, h1, h2⟩ := r
    exact ⟨u, t, h0, VRel.cut x u hi.1 h1, VRels.cut xs t hi.2 h2⟩
end
theorem entI.cut (hf : ∀ id, n ≤ id → C.rho id = none ∧ C.gen id = 0) {k : IntKind} : ∀ {es : List (Int × AV)} {ms ms' : List MapEntry}, entI C w k es ms → entI C' w' k es ms' → entI (C'.cut n) w' k es ms'
  | [], _, _, _, r => by simpa only [entI] using r
  | e :: es, _, _, q, r => by
    simp only [entI] at q r ⊢
    obtain ⟨m, t, he, h1, h2, h3⟩ := r
    obtain ⟨_, _, _, _, q2, q3⟩ := q
    exact ⟨m, t, he, h1, VRel.cut _ _ (VRel.ids hf _ _ q2) h2, entI.cut hf q3 h3⟩
theorem entS.cut (hf : ∀ id, n ≤ id → C.rho id = none ∧ C.gen id = 0) : ∀ {es : List (List UInt8 × AV)} {ms ms' : List MapEntry}, entS C w es ms → entS C' w' es ms' → entS (C'.cut n) w' es ms'
  | [], _, _, _, r => by simpa only [entS] using r
  | e :: es, _, _, q, r => by
    simp only [entS] at q r ⊢
    obtain ⟨m, t, he, h1, h2, h3⟩ := r
    obtain ⟨_, _, _, _, q2, q3⟩ := q
    exact ⟨m, t, he, h1, VRel.cut _ _ (VRel.ids hf _ _ q2) h2, entS.cut hf q3 h3⟩
theorem BRel.cut (hf : ∀ id, n ≤ id → C.rho id = none ∧ C.gen id = 0) {id : Nat} (hid : id < n) : ∀ {B : Blk}, BRel C w id B → BRel C' w' id B → BRel (C'.cut n) w' id B
  | .arr es cells gen fz, q, r => by
    simp only [BRel] at q r ⊢
    obtain ⟨_, _, _, _, _, _, _, _, _, _, _, _, _, _, _, q10⟩ := q
    obtain ⟨h0, L, cs, ty, fr, us, h1, h2, h3, h4, h5, h6, h7, h8, h9, h10⟩ := r
    exact ⟨by simp only [Ctx.cut, if_pos hid]; exact h0, L, cs, ty, fr, us, by simp only [Ctx.cut, if_pos hid]; exact h1, h2, h3, h4, h5, h6, h7, h8, h9, VRels.cut _ _ (VRels.ids hf _ _ q10) h10⟩
  | .mapI k es, q, r => by
    simp only [BRel] at q r ⊢
    obtain ⟨_, _, _, _, _, _, q3⟩ := q
    obtain ⟨h0, L, ms, cl, h1, h2, h3⟩ := r
    exact ⟨by simp only [Ctx.cut, if_pos hid]; exact h0, L, ms, cl, by simp only [Ctx.cut, if_pos hid]; exact h1, h2, q3.cut hf h3⟩
  | .mapS es, q, r => by
    simp only [BRel] at q r ⊢
    obtain ⟨_, _, _, _, _, _, q3⟩ := q
    obtain ⟨h0, L, ms, cl, h1, h2, h3⟩ := r
    exact ⟨by simp only [Ctx.cut, if_pos hid]; exact h0, L, ms, cl, by simp only [Ctx.cut, if_pos hid]; exact h1, h2, q3.cut hf h3⟩
  | .defd, q, r => by
    simp only [BRel] at r ⊢
    obtain ⟨h0, L, h1, h2⟩ := r
    exact ⟨by simp only [Ctx.cut, if_pos hid]; exact h0, L, by simp only [Ctx.cut, if_pos hid]; exact h1, h2⟩
  | .loop st jump tm ps asg body, q, r => by
    simp only [BRel] at q r ⊢
    obtain ⟨_, _, _, _, _, _, _, q3⟩ := q
    obtain ⟨h0, L, fn, ts, d, h1, h2, h3⟩ := r
    exact ⟨by simp only [Ctx.cut, if_pos hid]; exact h0, L, fn, ts, d, by simp only [Ctx.cut, if_pos hid]; exact h1, h2, VRels.cut _ _ (VRels.ids hf _ _ q3) h3⟩
  | .siter s pos, q, r => by
    simp only [BRel] at r ⊢
    obtain ⟨h0, L, h1, h2⟩ := r
    exact ⟨by simp only [Ctx.cut, if_pos hid]; exact h0, L, by simp only [Ctx.cut, if_pos hid]; exact h1, h2⟩
  | .gone, _, _ => by simp only [BRel]
end

/-- A memory that has at most grown. -/
structure Ext (σ σ' : St) : Prop where
  nx : σ.nx ≤ σ'.nx
  heap : ∀ id, id < σ.nx → σ'.heap id = σ.heap id
theorem Ext.refl (σ : St) : Ext σ σ := ⟨Nat.le_refl _, fun _ _ => rfl⟩
theorem Ext.trans {a b c : St} (h : Ext a b) (k : Ext b c) : Ext a c := ⟨Nat.le_trans h.nx k.nx, fun id hid => (k.heap id (Nat.lt_of_lt_of_le hid h.nx)).trans (h.heap id hid)⟩
theorem Ext.new {a b : St} (h : Ext a b) (B : Blk) : Ext a (b.new B) := ⟨Nat.le_succ_of_le h.nx, fun id hid => by
  have := h.nx
  rw [St.new_heap, if_neg (by omega)]; exact h.heap id hid⟩
theorem Ext.set {a b : St} (h : Ext a b) {i : Nat} (hi : a.nx ≤ i) (B : Blk) : Ext a (b.set i B) := ⟨h.nx, fun id hid => by
  rw [St.set_heap, if_neg (by omega)]; exact h.heap id hid⟩

theorem Rel.cut {C C' : Ctx} {σ σ' : St} {w w' : World} (R : Rel C σ w) (R' : Rel C' σ' w') (E : Ext σ σ') : Rel (C'.cut σ.nx) σ w' where
  base := R'.base
  fresh := fun id hid => by simp only [Ctx.cut]; rw [if_neg (by omega), if_neg (by omega)]; exact ⟨rfl, rfl⟩
  inj := fun i j L M hi hj hb => by
    simp only [Ctx.cut] at hi hj
    split at hi
    · split at hj
      · exact R'.inj i j L M hi hj hb
      · cases hj
    · cases hi
  own := fun i L hi => by
    simp only [Ctx.cut] at hi
    split at hi
    · exact R'.own i L hi
    · cases hi
  lim := R'.lim
  blk := fun id B hB => by
    have hid := R.dom id B hB
    exact BRel.cut R.fresh hid (R.blk id B hB) (R'.blk id B (by rw [E.heap id hid]; exact hB))
  dom := R.dom
theorem Evol.cut {C C' : Ctx} {σ : St} {w w' : World} (R : Rel C σ w) (E : Evol C w C' w') : Evol C w (C'.cut σ.nx) w' where
  os := E.os
  tape := E.tape
  output := E.output
  drawn := E.drawn
  size := E.size
  base := E.base
  old := E.old
  lim := E.lim
  prot := E.prot
  gen := fun id => by
    simp only [Ctx.cut]
    split
    · exact E.gen id
    · rw [(R.fresh id (by omega)).2]; exact Nat.zero_le _
  rho := fun id p hp hg => by
    have hid := VRel.rho_lt R hp
    simp only [Ctx.cut, if_pos hid] at hg ⊢
    exact E.rho id p hp hg

/-- WHAT A CALL MADE FOR ITSELF IS FORGOTTEN. -/
theorem CallsA.forget {P : Program} {f : FuncId} {args : List AV} {σ : St} {Q : AV → St → Prop} (h : CallsA P f args σ fun v σ' => Q v σ ∧ IdsLt σ.nx v ∧ Ext σ σ') : CallsA P f args σ Q := by
  intro C w us R V
  refine (h C w us R V).mono fun e w' => ?_
  rintro ⟨v, r, σ', C', he, ⟨hq, hi, hE⟩, hv, R', E'⟩
  exact ⟨v, r, σ, C'.cut σ.nx, he, hq, VRel.cut _ _ hi hv, Rel.cut R R' hE, Evol.cut R E'⟩
theorem PureC.of {P : Program} {f : FuncId} {args : List AV} {r : AV} (hr : IdsLt 0 r) (h : ∀ σ, CallsA P f args σ fun v σ' => v = r ∧ Ext σ σ') : PureC P f args r := by
  have mono : ∀ n, IdsLt n r := by
    intro n
    have key : ∀ (x : AV), IdsLt 0 x → IdsLt n x := by
      intro x
      refine AV.rec (motive_1 := fun x => IdsLt 0 x → IdsLt n x) (motive_2 := fun xs => IdsLts 0 xs → IdsLts n xs) ?_ ?_ ?_ ?_ ?_ ?_ ?_ ?_ ?_ ?_ ?_ ?_ ?_ ?_ ?_ ?_ ?_ ?_ ?_ ?_ ?_ x
      all_goals intros; simp_all only [IdsLt, IdsLts, Nat.not_lt_zero, and_self]
      all_goals first | trivial | simp_all
    exact key r hr
  intro σ Q hq
  refine CallsA.forget ((h σ).mono fun v σ' hv => ?_)
  obtain ⟨rfl, hE⟩ := hv
  exact ⟨hq, mono _, hE⟩
end Go.Abs
set_option linter.unusedVariables false
set_option linter.unusedSimpArgs false
namespace Go.Abs

/-- The ranges over functions in a text. -/
def rfsOf : Code → List (Array Tmp × Code × Code)
  | .seq a b => rfsOf b ++ rfsOf a
  | .cond _ a b => rfsOf a ++ rfsOf b
  | .block _ c => rfsOf c
  | .loop c => rfsOf c
  | .scope c => rfsOf c
  | .rangeFunc _ ps a b => [(ps, a, b)]
  | _ => []
def rfOf (P : Program) (f : FuncId) (k : Nat) : Array Tmp × Code × Code := match P.funcs[f]? with
  | some fn => match fn.body with
    | some c => (rfsOf c).getD k (#[], .skip, .skip)
    | none => (#[], .skip, .skip)
  | none => (#[], .skip, .skip)

/-- A slice that shows elements, each of so many cells. -/
def Sl (es : Nat) (xs : List AV) (v : AV) : Prop := (v = .snil ∧ xs = []) ∨ ∃ n cap, v = .list xs n cap ∧ xs.length = n * es
abbrev Bs := List UInt8
def aI (n : Int) : AV := .int .i64 n
def Ints (l : List Int) (v : AV) : Prop := Sl 1 (l.map aI) v
def Strs (l : List Bs) (v : AV) : Prop := Sl 1 (l.map .str) v

theorem IdsLts_append {n : Nat} : ∀ {xs ys : List AV}, IdsLts n (xs ++ ys) ↔ IdsLts n xs ∧ IdsLts n ys
  | [], ys => by simp [IdsLts]
  | x :: xs, ys => by simp [IdsLts, IdsLts_append (xs := xs), and_assoc]
theorem IdsLts_map {α : Type} {n : Nat} {f : α → AV} (h : ∀ a, IdsLt n (f a)) : ∀ (l : List α), IdsLts n (l.map f)
  | [] => by simp [IdsLts]
  | x :: xs => by simp [IdsLts, h x, IdsLts_map h xs]
theorem evSub_nat {s : List UInt8} {a b : Nat} (h : a ≤ b) (h2 : b ≤ s.length) : evSubstr s (some (a : Int)) (some (b : Int)) = some (.str ((s.take b).drop a)) := by
  simp only [evSubstr]; rw [if_pos ⟨by omega, by omega, by omega⟩]; simp
theorem evSub_tail {s : List UInt8} {x : UInt8} : evSubstr (x :: s) (some 1) (some ((s.length + 1 : Nat) : Int)) = some (.str s) := by
  have := evSub_nat (s := x :: s) (a := 1) (b := s.length + 1) (by omega) (by simp)
  simpa using this
theorem evSub_all {s : List UInt8} : evSubstr s (some 0) (some (s.length : Int)) = some (.str s) := by
  have := evSub_nat (s := s) (a := 0) (b := s.length) (by omega) (by simp)
  simpa using this
theorem St.set_set (σ : St) (i : Nat) (A B : Blk) : (σ.set i A).set i B = σ.set i B := by
  simp only [St.set]; congr 1; funext j; by_cases h : j = i <;> simp [h]
theorem St.set_self {σ : St} {i : Nat} {A : Blk} (h : σ.heap i = some A) : σ.set i A = σ := by
  cases σ; simp only [St.set]; congr 1; funext j
  by_cases hj : j = i
  · subst hj; rw [if_pos rfl]; exact h.symm
  · rw [if_neg hj]
/-- What a call hands back, a row that it owns, is kept for good. -/
theorem CallsA.freeze {P : Program} {f : FuncId} {args : List AV} {σ : St} {Q R : AV → St → Prop} (h : CallsA P f args σ R)
    (hq : ∀ v σ', R v σ' → Q v σ' ∨ ∃ id gen off len es cells fz, v = .sl id gen off len ∧ σ'.heap id = some (.arr es cells gen fz) ∧ off + len * es ≤ cells.length ∧
      Q (.list ((cells.drop off).take (len * es)) len none) (σ'.set id (.arr es cells gen (max fz (off + len * es))))) : CallsA P f args σ Q := by
  intro C w us R0 V
  refine (h C w us R0 V).mono ?_
  rintro e w' ⟨v, r, σ', C', he, hr, hv, R', E'⟩
  rcases hq r σ' hr with hq | ⟨id, gen, off, len, es, cells, fz, rfl, hid, hin, hq⟩
  · exact ⟨v, r, σ', C', he, hq, hv, R', E'⟩
  · obtain ⟨C2, R2, E2, V2⟩ := R'.freeze hid hin hv
    exact ⟨v, _, _, C2, he, hq, V2, R2, E'.trans E2⟩
theorem one_bool {b} : AV.one (.bool b) = true := rfl
theorem one_int {k n} : AV.one (.int k n) = true := rfl
theorem one_str {s} : AV.one (.str s) = true := rfl
theorem one_pnil : AV.one .pnil = true := rfl
theorem one_snil : AV.one .snil = true := rfl
theorem one_mnil : AV.one .mnil = true := rfl
theorem one_fnil : AV.one .fnil = true := rfl
theorem one_inil : AV.one .inil = true := rfl
theorem one_ptr {a b c} : AV.one (.ptr a b c) = true := rfl
theorem one_eptr {a} : AV.one (.eptr a) = true := rfl
theorem one_list {a b c} : AV.one (.list a b c) = true := rfl
theorem one_sl {a b c d} : AV.one (.sl a b c d) = true := rfl
theorem one_map {a} : AV.one (.map a) = true := rfl
theorem one_it {a} : AV.one (.it a) = true := rfl
theorem one_yl {a} : AV.one (.yl a) = true := rfl
theorem one_fn {a b} : AV.one (.fn a b) = true := rfl
theorem one_iface {a b} : AV.one (.iface a b) = true := rfl
theorem bt (b : Bool) : (b == true) = b := by cases b <;> rfl
theorem bf (b : Bool) : (b == false) = !b := by cases b <;> rfl
end Go.Abs
set_option linter.unusedVariables false
set_option linter.unusedSimpArgs false
namespace Go.Abs
section
variable {P : Program} {Q : Ex → Tm → St → Prop} {k : List KI} {tm : Tm} {σ : St}
theorem Dc_yl {l : Nat} {args : List AV} {d : Option Nat} {hs : List CO} {s : Sch} (h : YieldsA P l args σ fun v σ' => kps hs (updO tm d v) σ' ∧ X P Q s k (updO tm d v) σ') : Dc P Q (.yl l) args d hs s k tm σ := h
theorem Rf_fn {f : FuncId} {caps : List AV} {n : Nat} {ps : Array Tmp} {asg body : Code}
    (h : callable P f = true ∧ CallsA P f (.yl (σ.nx + 1) :: caps) ((σ.new .defd).new (.loop .ready none (tmL tm n) ps asg body)) fun _ σ' => afterLoop (Z P Q k) (σ.nx + 1) (pushD tm n (.map σ.nx)) σ') :
    Rf P Q (.fn f caps) n ps asg body k tm σ := h
theorem tmL_length (tm : Tm) (n : Nat) : (tmL tm n).length = n := by simp [tmL]
theorem tm0_tmL {tm : Tm} {n i : Nat} (h : i < n) : tm0 (tmL tm n) i = tm i := by
  simp [tm0, tmL, List.getD_eq_getElem?_getD, h]
theorem tm0_tmL_n {tm : Tm} {n : Nat} : tm0 (tmL tm n) n = .tup [] := by
  simp [tm0, tmL, List.getD_eq_getElem?_getD, undefA]

/-- A round, walked. -/
theorem yields_of_Y {l : Nat} {tl : List AV} {ps : Array Tmp} {a b : Code} {ca cb : CC} {st : LoopState} {j : Option Code} (hl : σ.heap l = some (.loop st j tl ps a b))
    (ha : compC P tl.length false a = some ca) (hb : compC P tl.length false b = some cb) (hps : ps.toList.all (fun p => decide (p < tl.length)) = true) {args : List AV} (hn : args.length = ps.size) {R : AV → St → Prop}
    (h : Y P (fun e tm' σ' => e = .norm ∧ ∃ j', σ'.heap l = some (.loop .ready j' tl ps a b) ∧ Y P (roundEnd l R) cb [] tm' (σ'.set l (.loop .busy j' tl ps a b))) ca [] (putPs (tm0 tl) ps.toList args) σ) : YieldsA P l args σ R := by
  refine yields_of_awp hl ha hb hps hn ?_
  refine awp_mono (fun e tm' σ' hq => ?_) (bwp_awp h)
  obtain ⟨rfl, j', h1, h2⟩ := hq
  simp only [roundBegin, h1]
  exact bwp_awp h2
end

/-- What is changed: what was owned, and what is new. -/
structure Gd2 (D : List Nat) (σ : St) (D' : List Nat) (σ' : St) : Prop where
  nx : σ.nx ≤ σ'.nx
  own : ∀ i ∈ D', i ∈ D ∨ σ.nx ≤ i
  keep : ∀ i, i < σ.nx → i ∉ D → σ'.heap i = σ.heap i
theorem Gd2.refl (D : List Nat) (σ : St) : Gd2 D σ D σ := ⟨Nat.le_refl _, fun i h => .inl h, fun _ _ _ => rfl⟩
theorem Gd2.trans {D1 D2 D3 : List Nat} {a b c : St} (h : Gd2 D1 a D2 b) (k : Gd2 D2 b D3 c) : Gd2 D1 a D3 c where
  nx := Nat.le_trans h.nx k.nx
  own := fun i hi => by
    rcases k.own i hi with hi | hi
    · exact h.own i hi
    · exact .inr (Nat.le_trans h.nx hi)
  keep := fun i hi hD => by
    rw [k.keep i (Nat.lt_of_lt_of_le hi h.nx) (fun hm => by
      rcases h.own i hm with hm | hm
      · exact hD hm
      · omega), h.keep i hi hD]
theorem Gd2.ext {D : List Nat} {a b : St} (h : Ext a b) : Gd2 D a D b := ⟨h.nx, fun i hi => .inl hi, fun i hi _ => h.heap i hi⟩

/-- A walk's state: how far it is, what it owns. -/
structure Owns (Inv : Nat → List Nat → St → Prop) (Stop : List Nat → St → Prop) : Prop where
  lt : ∀ i D σ, Inv i D σ → ∀ j ∈ D, j < σ.nx
  stab : ∀ i D σ σ', Inv i D σ → (∀ j ∈ D, σ'.heap j = σ.heap j) → σ.nx ≤ σ'.nx → Inv i D σ'
  stop : ∀ D σ σ', Stop D σ → (∀ j ∈ D, σ'.heap j = σ.heap j) → σ.nx ≤ σ'.nx → Stop D σ'
  slt : ∀ D σ, Stop D σ → ∀ j ∈ D, j < σ.nx
/-- Each of some rows of values may be handed to a yield, in order. -/
def YieldRows (P : Program) (l : Nat) (xs : List (List AV)) (Inv : Nat → List Nat → St → Prop) (Stop : List Nat → St → Prop) : Prop :=
  ∀ i x D σ, xs[i]? = some x → Inv i D σ → ∀ Q : AV → St → Prop, (∀ D' σ', Inv (i + 1) D' σ' → Gd2 D σ D' σ' → Q (.bool true) σ') → (∀ D' σ', Stop D' σ' → Gd2 D σ D' σ' → Q (.bool false) σ') → YieldsA P l x σ Q
end Go.Abs
set_option linter.unusedVariables false
set_option linter.defProp false
namespace Go.Abs
def wk := (And.intro (And.intro (And.intro (And.intro (And.intro (And.intro (And.intro @Y_skip @Y_region) (And.intro @Y_seq @Y_cond)) (And.intro (And.intro @Cd_true @Cd_false) (And.intro @Y_block @Y_exit))) (And.intro (And.intro (And.intro @Y_ret @Y_scope) (And.intro @Y_loop @Y_rfunc)) (And.intro (And.intro @Z_nil @Z_seq) (And.intro @Z_seq_ret (And.intro @Z_seq_exit @Z_blk))))) (And.intro (And.intro (And.intro (And.intro @Z_blk_ret @Z_blk_exit) (And.intro @Z_lp @Z_lp_ret)) (And.intro (And.intro @Z_lp_exit @X_done) (And.intro @X_o1 (And.intro @XV_some @X_op)))) (And.intro (And.intro (And.intro @XH_some @X_call) (And.intro @X_dcall @Dc_fn)) (And.intro (And.intro @X_guard @LpN_succ) (And.intro @Gd_true (And.intro @Gd_false @X_both)))))) (And.intro (And.intro (And.intro (And.intro (And.intro @ret1_some @evSub_tail) (And.intro @binA_add @binA_sub)) (And.intro (And.intro @binA_mul @binA_quo) (And.intro @binA_rem @binA_eql))) (And.intro (And.intro (And.intro @binA_neq @binA_lss) (And.intro @binA_leq @binA_gtr)) (And.intro (And.intro @binA_geq @binA_sadd) (And.intro @binA_seql (And.intro @binA_sneq @binA_slss))))) (And.intro (And.intro (And.intro (And.intro @upd_at @tmU_at) (And.intro @St.new_nx @St.set_nx)) (And.intro (And.intro @St.new_heap @St.set_heap) (And.intro @ne_eq.{1} (And.intro @List.set_cons_zero.{0} @List.set_cons_succ.{0})))) (And.intro (And.intro (And.intro @List.set_nil.{0} @List.append_nil.{0}) (And.intro @List.nil_append.{0} @List.cons_append.{0})) (And.intro (And.intro @if_true.{1} @if_false.{1}) (And.intro @ite_true.{1} (And.intro @ite_false.{1} @Nat.succ_ne_zero))))))) (And.intro (And.intro (And.intro (And.intro (And.intro (And.intro @List.length_cons.{0} @List.length_nil.{0}) (And.intro @beq_self_eq_true.{0} @Bool.and_true)) (And.intro (And.intro @Bool.true_and @true_and) (And.intro @and_true @and_self))) (And.intro (And.intro (And.intro @Option.some.injEq.{0} @List.getElem?_cons_zero.{0}) (And.intro @List.getElem?_cons_succ.{0} @List.drop_zero.{0})) (And.intro (And.intro @List.drop_succ_cons.{0} @List.take_succ_cons.{0}) (And.intro @List.take_zero.{0} (And.intro @Nat.le_refl @Nat.zero_le))))) (And.intro (And.intro (And.intro (And.intro @Nat.zero_add @Nat.add_zero) (And.intro @Bool.not_true @Bool.not_false)) (And.intro (And.intro @Bool.false_eq_true @List.all_cons.{0}) (And.intro @List.all_nil.{0} (And.intro @one_bool @one_int)))) (And.intro (And.intro (And.intro @one_str @one_pnil) (And.intro @one_snil @one_mnil)) (And.intro (And.intro @one_fnil @one_inil) (And.intro @one_ptr (And.intro @one_eptr @one_list)))))) (And.intro (And.intro (And.intro (And.intro (And.intro @one_sl @one_map) (And.intro @one_it @one_yl)) (And.intro (And.intro @one_fn @one_iface) (And.intro @Option.map_some.{0, 0} @Option.map_none.{0, 0}))) (And.intro (And.intro (And.intro @decide_true @decide_false) (And.intro @Int.toNat_natCast @eq_self.{1})) (And.intro (And.intro @not_true_eq_false @not_false_eq_true) (And.intro @Nat.add_one_ne_zero (And.intro @Nat.mul_one @Nat.one_mul))))) (And.intro (And.intro (And.intro (And.intro @beq_true @true_implies) (And.intro @false_implies @imp_self)) (And.intro (And.intro @implies_true.{1} @Option.isSome_some.{0}) (And.intro @forall_const.{1} (And.intro @Int.natCast_nonneg @Int.cast_ofNat_Int)))) (And.intro (And.intro (And.intro @Nat.add_eq_right @Int.natCast_zero) (And.intro @Int.natCast_one @bt)) (And.intro (And.intro @bf @Nat.add_left_cancel_iff) (And.intro @Nat.add_right_cancel_iff (And.intro @Nat.left_eq_add @Nat.add_eq_left))))))))
def wd := (And.intro (And.intro (And.intro (And.intro (And.intro (And.intro (And.intro @Go.Abs.ef.eq_1 (And.intro @Go.Abs.ef.eq_2 @Go.Abs.ef.eq_3)) (And.intro (And.intro @Go.Abs.ef.eq_4 @Go.Abs.ef.eq_5) (And.intro @Go.Abs.ef.eq_6 @Go.Abs.ef.eq_7))) (And.intro (And.intro (And.intro @Go.Abs.ef.eq_8 @Go.Abs.ef.eq_9) (And.intro @Go.Abs.ef.eq_10 @Go.Abs.ef.eq_11)) (And.intro (And.intro @Go.Abs.ef.eq_12 @Go.Abs.ef.eq_13) (And.intro @Go.Abs.ef.eq_14 @Go.Abs.ef.eq_15)))) (And.intro (And.intro (And.intro (And.intro @Go.Abs.ef.eq_16 @Go.Abs.ef.eq_17) (And.intro @Go.Abs.ef.eq_18 @Go.Abs.ef.eq_19)) (And.intro (And.intro @Go.Abs.ef.eq_20 @Go.Abs.ef.eq_21) (And.intro @Go.Abs.ef.eq_22 @Go.Abs.ef.eq_23))) (And.intro (And.intro (And.intro @Go.Abs.ef.eq_24 @Go.Abs.ef.eq_25) (And.intro @Go.Abs.ef.eq_26 @Go.Abs.ef.eq_27)) (And.intro (And.intro @Go.Abs.ef.eq_28 @Go.Abs.ef.eq_29) (And.intro @Go.Abs.ef.eq_30 @Go.Abs.ef.eq_31))))) (And.intro (And.intro (And.intro (And.intro @Go.Abs.ef.eq_32 (And.intro @Go.Abs.ef.eq_33 @Go.Abs.ef.eq_34)) (And.intro (And.intro @Go.Abs.ef.eq_35 @Go.Abs.ef.eq_36) (And.intro @Go.Abs.ef.eq_37 @Go.Abs.ef.eq_38))) (And.intro (And.intro (And.intro @Go.Abs.ef.eq_39 @Go.Abs.ef.eq_40) (And.intro @Go.Abs.ef.eq_41 @Go.Abs.ef.eq_42)) (And.intro (And.intro @Go.Abs.evLd1B.eq_1 @Go.Abs.evLd1B.eq_2) (And.intro @Go.Abs.evLd1.eq_1 @Go.Abs.evLd1.eq_2)))) (And.intro (And.intro (And.intro (And.intro @Go.Abs.evLd1.eq_3 @Go.Abs.evLdAB.eq_1) (And.intro @Go.Abs.evLdAB.eq_2 @Go.Abs.evLdA.eq_1)) (And.intro (And.intro @Go.Abs.evLdA.eq_2 @Go.Abs.evLdA.eq_3) (And.intro @Go.Abs.evStB.eq_1 @Go.Abs.evStB.eq_2))) (And.intro (And.intro (And.intro @Go.Abs.evSt.eq_1 @Go.Abs.evSt.eq_2) (And.intro @Go.Abs.evNot.eq_1 @Go.Abs.evNot.eq_2)) (And.intro (And.intro @Go.Abs.evNeg.eq_1 @Go.Abs.evNeg.eq_2) (And.intro @Go.Abs.evNilc.eq_1 @Go.Abs.evNilc.eq_2)))))) (And.intro (And.intro (And.intro (And.intro (And.intro @Go.Abs.evNilc.eq_3 (And.intro @Go.Abs.evNilc.eq_4 @Go.Abs.evConvI.eq_1)) (And.intro (And.intro @Go.Abs.evConvI.eq_2 @Go.Abs.bnd.eq_1) (And.intro @Go.Abs.bnd.eq_2 @Go.Abs.bnd.eq_3))) (And.intro (And.intro (And.intro @Go.Abs.evStr.eq_1 @Go.Abs.evStr.eq_2) (And.intro @Go.Abs.evSubN.eq_1 @Go.Abs.evSubN.eq_2)) (And.intro (And.intro @Go.Abs.evSl.eq_1 @Go.Abs.evSl.eq_2) (And.intro @Go.Abs.evSl.eq_3 @Go.Abs.evSl.eq_4)))) (And.intro (And.intro (And.intro (And.intro @Go.Abs.evFaddr.eq_1 @Go.Abs.evFaddr.eq_2) (And.intro @Go.Abs.evFaddr.eq_3 @Go.Abs.evField1.eq_1)) (And.intro (And.intro @Go.Abs.evField1.eq_2 @Go.Abs.evFieldA.eq_1) (And.intro @Go.Abs.evFieldA.eq_2 @Go.Abs.evIaddr.eq_1))) (And.intro (And.intro (And.intro @Go.Abs.evIaddr.eq_2 @Go.Abs.evIaddr.eq_3) (And.intro @Go.Abs.evIstr.eq_1 @Go.Abs.evIstr.eq_2)) (And.intro (And.intro @Go.Abs.okv.eq_1 @Go.Abs.okv.eq_2) (And.intro @Go.Abs.evLookIB.eq_1 @Go.Abs.evLookIB.eq_2))))) (And.intro (And.intro (And.intro (And.intro @Go.Abs.evLookI.eq_1 (And.intro @Go.Abs.evLookI.eq_2 @Go.Abs.evLookI.eq_3)) (And.intro (And.intro @Go.Abs.evLookSB.eq_1 @Go.Abs.evLookSB.eq_2) (And.intro @Go.Abs.evLookS.eq_1 @Go.Abs.evLookS.eq_2))) (And.intro (And.intro (And.intro @Go.Abs.evUpdIB.eq_1 @Go.Abs.evUpdIB.eq_2) (And.intro @Go.Abs.evUpdI.eq_1 @Go.Abs.evUpdI.eq_2)) (And.intro (And.intro @Go.Abs.evUpdSB.eq_1 @Go.Abs.evUpdSB.eq_2) (And.intro @Go.Abs.evUpdS.eq_1 @Go.Abs.evUpdS.eq_2)))) (And.intro (And.intro (And.intro (And.intro @Go.Abs.evExtr.eq_1 @Go.Abs.evExtr.eq_2) (And.intro @Go.Abs.evLenS.eq_1 @Go.Abs.evLenS.eq_2)) (And.intro (And.intro @Go.Abs.evLenL.eq_1 @Go.Abs.evLenL.eq_2) (And.intro @Go.Abs.evLenL.eq_3 @Go.Abs.evLenL.eq_4))) (And.intro (And.intro (And.intro @Go.Abs.evLenMB.eq_1 @Go.Abs.evLenMB.eq_2) (And.intro @Go.Abs.evLenMB.eq_3 @Go.Abs.evLenM.eq_1)) (And.intro (And.intro @Go.Abs.evLenM.eq_2 @Go.Abs.evLenM.eq_3) (And.intro @Go.Abs.evSrcB.eq_1 @Go.Abs.evSrcB.eq_2))))))) (And.intro (And.intro (And.intro (And.intro (And.intro (And.intro @Go.Abs.evSrc.eq_1 (And.intro @Go.Abs.evSrc.eq_2 @Go.Abs.evSrc.eq_3)) (And.intro (And.intro @Go.Abs.evSrc.eq_4 @Go.Abs.evSrc.eq_5) (And.intro @Go.Abs.evAppB.eq_1 @Go.Abs.evAppB.eq_2))) (And.intro (And.intro (And.intro @Go.Abs.evApp0B.eq_1 @Go.Abs.evApp0B.eq_2) (And.intro @Go.Abs.evApp0.eq_1 @Go.Abs.evApp0.eq_2)) (And.intro (And.intro @Go.Abs.evApp0.eq_3 @Go.Abs.evApp0.eq_4) (And.intro @Go.Abs.evAppK.eq_1 @Go.Abs.evAppK.eq_2)))) (And.intro (And.intro (And.intro (And.intro @Go.Abs.evAppK.eq_3 @Go.Abs.evAppK.eq_4) (And.intro @Go.Abs.evApp1.eq_1 @Go.Abs.evApp1.eq_2)) (And.intro (And.intro @Go.Abs.evB2s1.eq_1 @Go.Abs.evB2s1.eq_2) (And.intro @Go.Abs.evB2s.eq_1 @Go.Abs.evB2s.eq_2))) (And.intro (And.intro (And.intro @Go.Abs.evB2s.eq_3 @Go.Abs.evB2s.eq_4) (And.intro @Go.Abs.evB2s.eq_5 @Go.Abs.evS2b.eq_1)) (And.intro (And.intro @Go.Abs.evS2b.eq_2 @Go.Abs.evMax.eq_1) (And.intro @Go.Abs.evMax.eq_2 @Go.Abs.evMin.eq_1))))) (And.intro (And.intro (And.intro (And.intro @Go.Abs.evMin.eq_2 (And.intro @Go.Abs.evEq2.eq_1 @Go.Abs.eqA.eq_1)) (And.intro (And.intro @Go.Abs.eqA.eq_2 @Go.Abs.eqA.eq_3) (And.intro @Go.Abs.eqA.eq_4 @Go.Abs.eqA.eq_5))) (And.intro (And.intro (And.intro @Go.Abs.eqA.eq_6 @Go.Abs.eqA.eq_7) (And.intro @Go.Abs.eqA0.eq_1 @Go.Abs.eqA0.eq_2)) (And.intro (And.intro @Go.Abs.eqA1.eq_1 @Go.Abs.eqA1.eq_2) (And.intro @Go.Abs.eqA1.eq_3 @Go.Abs.eqA1.eq_4)))) (And.intro (And.intro (And.intro (And.intro @Go.Abs.eqA1.eq_5 @Go.Abs.eqA1.eq_6) (And.intro @Go.Abs.eqA2.eq_1 @Go.Abs.eqA2.eq_2)) (And.intro (And.intro @Go.Abs.eqA2.eq_3 @Go.Abs.eqA2.eq_4) (And.intro @Go.Abs.eqA3.eq_1 @Go.Abs.eqA3.eq_2))) (And.intro (And.intro (And.intro @Go.Abs.eqA3.eq_3 @Go.Abs.eqA4.eq_1) (And.intro @Go.Abs.eqA4.eq_2 @Go.Abs.eqA4.eq_3)) (And.intro (And.intro @Go.Abs.eqA5.eq_1 @Go.Abs.eqA5.eq_2) (And.intro @Go.Abs.evClr.eq_1 @Go.Abs.evClr.eq_2)))))) (And.intro (And.intro (And.intro (And.intro (And.intro @Go.Abs.evClr.eq_3 (And.intro @Go.Abs.evClr.eq_4 @Go.Abs.evClr.eq_5)) (And.intro (And.intro @Go.Abs.evClrB.eq_1 @Go.Abs.evClrB.eq_2) (And.intro @Go.Abs.evClrM.eq_1 @Go.Abs.evClrM.eq_2))) (And.intro (And.intro (And.intro @Go.Abs.evClrM.eq_3 @Go.Abs.evRange.eq_1) (And.intro @Go.Abs.evRange.eq_2 @Go.Abs.evNextC.eq_1)) (And.intro (And.intro @Go.Abs.evNextC.eq_2 @Go.Abs.evNextB.eq_1) (And.intro @Go.Abs.evNextB.eq_2 @Go.Abs.evNext.eq_1)))) (And.intro (And.intro (And.intro (And.intro @Go.Abs.evNext.eq_2 @Go.Abs.evPick.eq_1) (And.intro @Go.Abs.evPick.eq_2 @Go.Abs.evMsl.eq_1)) (And.intro (And.intro @Go.Abs.evMsl.eq_2 @Go.Abs.rdo.eq_1) (And.intro @Go.Abs.rdo.eq_2 @Go.Abs.rd.eq_1))) (And.intro (And.intro (And.intro @Go.Abs.rd.eq_2 @Go.Abs.rd.eq_3) (And.intro @Go.Abs.rds.eq_1 @Go.Abs.rds.eq_2)) (And.intro (And.intro @Go.Abs.rdps.eq_1 @Go.Abs.rdps.eq_2) (And.intro @Go.Abs.rdqs.eq_1 @Go.Abs.rdqs.eq_2))))) (And.intro (And.intro (And.intro (And.intro (And.intro @Go.Abs.sizesOk.eq_1 @Go.Abs.sizesOk.eq_2) (And.intro @Go.Abs.sizesOkq.eq_1 @Go.Abs.sizesOkq.eq_2)) (And.intro (And.intro @Go.Abs.updO.eq_1 @Go.Abs.updO.eq_2) (And.intro @Go.Abs.fillA.eq_1 @Go.Abs.fillA.eq_2))) (And.intro (And.intro (And.intro @Go.Abs.lput.eq_1 @Go.Abs.lput.eq_2) (And.intro @Go.Abs.reps.eq_1 @Go.Abs.reps.eq_2)) (And.intro (And.intro @Go.Abs.AV.cells.eq_1 @Go.Abs.AV.cells.eq_2) (And.intro @Go.Abs.wantsA.eq_1 @Go.Abs.wantsA.eq_2)))) (And.intro (And.intro (And.intro (And.intro @Go.Abs.kps.eq_1 @Go.Abs.kps.eq_2) (And.intro @Go.Abs.kp.eq_1 @Go.Abs.fnPost.eq_1)) (And.intro (And.intro @Go.Abs.fnPost.eq_2 @Go.Abs.fnPost.eq_3) (And.intro @Go.Abs.endK.eq_1 @Go.Abs.finA.eq_1))) (And.intro (And.intro (And.intro @Go.Abs.finA.eq_2 @Go.Abs.finA.eq_3) (And.intro @Go.Abs.resK.eq_1 @Go.Abs.resK.eq_2)) (And.intro (And.intro @Go.Abs.resK.eq_3 @Go.Abs.resK.eq_4) (And.intro @Go.Abs.pack.eq_1 @Go.Abs.pack.eq_2))))))))
end Go.Abs
