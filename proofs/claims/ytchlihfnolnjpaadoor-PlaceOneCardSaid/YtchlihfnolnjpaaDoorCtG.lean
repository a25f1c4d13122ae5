/- Contracts of functions: what each computes, for whatever memory. -/
import Derived.Test.YtchlihfnolnjpaaDoorCtF
import Derived.Below
open Go Go.Abs Go.RowKit
set_option linter.unusedVariables false
set_option linter.unusedSimpArgs false
namespace Go.Proofs.Tryd
/-- What came in lies outside; identity 0 is a row that is no longer there. -/
def C1 (w : World) (lim : Nat → Nat) : Ctx := ⟨w.heap.size, fun _ => none, fun id => if id = 0 then 1 else 0, lim⟩
def σ1 : St := ⟨fun _ => none, 1⟩
theorem Rel1 (w : World) (lim : Nat → Nat) (h : ∀ b, w.heap.size ≤ b → lim b = 0) : Rel (C1 w lim) σ1 w where
  base := Nat.le_refl _
  fresh := fun id hid => ⟨rfl, by simp only [C1, σ1] at *; rw [if_neg (by omega)]⟩
  inj := fun i j L M h => by simp [C1] at h
  own := fun i L h => by simp [C1] at h
  lim := h
  blk := fun id B h => by simp [σ1] at h
  dom := fun id B h => by simp [σ1] at h
theorem bridge {f : FuncId} {args : List AV} {us : List Value} {w : World} {lim : Nat → Nat} (hl : ∀ b, w.heap.size ≤ b → lim b = 0) (V : VRels (C1 w lim) w args us)
    (h : CallsA prog f args σ1 fun v _ => v = .bool true) : Calls prog f us.toArray w fun e w' => e = .returned (.bool true) ∧ Below w.heap.size w w' := by
  refine (h _ w us (Rel1 w lim hl) V).mono ?_
  rintro e w' ⟨v, r, σ', C', rfl, rfl, hv, _, E⟩
  simp only [VRel] at hv
  exact ⟨by rw [hv], ⟨E.os, E.tape, E.output, E.size, fun k hk => E.old k hk⟩⟩
theorem ints_rel {C : Ctx} {w : World} : ∀ (l : List Int), VRels C w (l.map aI) (l.map (Value.int .i64))
  | [] => by simp only [List.map_nil, VRels]
  | x :: l => by simp only [List.map_cons, VRels, aI, VRel]; exact ⟨_, _, rfl, rfl, ints_rel l⟩
/-- A row of whole numbers that came in. -/
theorem arg_row {w : World} {b off cap : Nat} {zs : List Int} (hle : zs.length ≤ cap) (hpos : zs ≠ []) (hc : ∀ j, j < zs.length → w.cell? ⟨b, off + j, none⟩ = some (.int .i64 (zs.getD j 0))) :
    (∀ k, w.heap.size ≤ k → (if k = b then off + zs.length else 0) = 0) ∧ Arg zs (.list (zs.map aI) zs.length none) ∧
      VRel (C1 w fun k => if k = b then off + zs.length else 0) w (.list (zs.map aI) zs.length none) (.slice (some ⟨b, off, none⟩) zs.length cap) := by
  have hl : 0 < zs.length := List.length_pos_iff.2 hpos
  have hb := World.block_lt_of_cell? w _ (hc 0 hl)
  refine ⟨fun k hk => by rw [if_neg]; rintro rfl; simp at hb; omega, ⟨rfl, fun _ => ⟨_, _, rfl, rfl⟩⟩, ?_⟩
  simp only [VRel]
  refine ⟨b, off, cap, zs.map (Value.int .i64), rfl, hle, (fun k hk => nomatch hk), (by simp [C1]), by simp, fun i u hu => ?_, ints_rel zs⟩
  have hi : i < zs.length := by have := (List.getElem?_eq_some_iff.1 hu).1; simpa using this
  rw [hc i hi]
  simp only [List.getElem?_map, List.getElem?_eq_getElem hi, Option.map_some, Option.some.injEq] at hu
  rw [← hu]; simp [List.getD, List.getElem?_eq_getElem hi]
theorem arg_none {C : Ctx} {w : World} : Arg [] .snil ∧ VRel C w .snil (.slice none 0 0) := ⟨⟨rfl, fun h => absurd rfl h⟩, by simp only [VRel]⟩
theorem arg_void {w : World} {lim : Nat → Nat} (a : Addr) (cap : Nat) : Arg [] (.sl 0 0 0 0) ∧ VRel (C1 w lim) w (.sl 0 0 0 0) (.slice (some a) 0 cap) := by
  refine ⟨⟨rfl, fun h => absurd rfl h⟩, ?_⟩
  simp only [VRel]
  exact ⟨a, cap, rfl, Nat.zero_le _, Nat.zero_le _, fun h => by simp [C1] at h⟩

/-! PlaceDuties -/
theorem duties_row {w : World} {b off cap : Nat} {zs : List Int} (hz : ∀ x ∈ zs, I64 x) (hlen : zs.length < 4611686018427387904) (hle : zs.length ≤ cap) (hpos : zs ≠ [])
    (hc : ∀ j, j < zs.length → w.cell? ⟨b, off + j, none⟩ = some (.int .i64 (zs.getD j 0))) :
    Calls prog F.gemotlaw14_PlaceDuties #[.slice (some ⟨b, off, none⟩) zs.length cap] w fun e w' => e = .returned (.bool true) ∧ Below w.heap.size w w' := by
  obtain ⟨h1, h2, h3⟩ := arg_row hle hpos hc
  exact bridge (us := [_]) h1 (by simp only [VRels]; exact ⟨_, _, rfl, h3, rfl⟩) (c_PlaceDuties h2 hz hlen rfl)
theorem duties_none {w : World} : Calls prog F.gemotlaw14_PlaceDuties #[.slice none 0 0] w fun e w' => e = .returned (.bool true) ∧ Below w.heap.size w w' :=
  bridge (us := [_]) (lim := fun _ => 0) (fun _ _ => rfl) (by simp only [VRels]; exact ⟨_, _, rfl, arg_none.2, rfl⟩) (c_PlaceDuties (arg_none (C := C1 w fun _ => 0) (w := w)).1 (by simp) (by simp) rfl)
theorem duties_void {w : World} (a : Addr) (cap : Nat) : Calls prog F.gemotlaw14_PlaceDuties #[.slice (some a) 0 cap] w fun e w' => e = .returned (.bool true) ∧ Below w.heap.size w w' :=
  bridge (us := [_]) (lim := fun _ => 0) (fun _ _ => rfl) (by simp only [VRels]; exact ⟨_, _, rfl, (arg_void a cap).2, rfl⟩) (c_PlaceDuties (arg_void (w := w) (lim := fun _ => 0) a cap).1 (by simp) (by simp) rfl)
end Go.Proofs.Tryd
