/- gemotlaw14.PlaceMeet: whatever row of whole numbers, a nil one too, and whatever two numbers come in, the call returns true, and the row reads behind it as it did; no condition. -/
import Derived.Test.YtchlihfnolnjpaaDoorCtH
import Derived.Test.YtchlihfnolnjpaaDoorRows
import Derived.Test.YtchlihfnolnjpaaDoorTie
import Derived.Test.YtchlihfnolnjpaaDoorCards
import Derived.ProofKit
import Derived.SizedLaws
import Derived.Lib.RowBridge
import Derived.LaidMore
import Derived.OpenShut
import Derived.SevenTiedAt
namespace Go.Proofs.YtchlihfnolnjpaaDoor
open Go Go.ChangeShapes Go.WideShapes Go.ChangeAt Go.RowKit

theorem own : ownKnob Tryd.prog.godebug = none := by kernel_rfl
theorem laidOut : laidOutB Tryd.prog = true := by kernel_rfl
theorem cells3 : Tryd.prog.cellsOf 3 = 1 := by kernel_rfl
theorem bytes3 : Tryd.prog.bytesOf 3 = 8 := by kernel_rfl
theorem under4 : Tryd.prog.underlying 4 = some .bool := Tryd.underlying4

/-- The condition on the listed variables is met where the program's own start lays them. -/
theorem door_met (os : Os) (args : Array Value) : laidMetH Tryd.prog Rows.placeMeetRow.laid ((World.doorLaid Tryd.prog 400 os).forCall (fun _ _ => 0) ⟨#[], args, []⟩).memory :=
  laidMetH_of_parts3 (fuel := 8) (laidMet_of_run' 8 (by kernel_rfl) (by kernel_rfl)) (by kernel_rfl) (by kernel_rfl)

theorem wf_I64 {x : Int} (h : (Lit.int .i64 x).wf = true) : Tryd.I64 x := by
  have h1 : IntKind.i64.min = -9223372036854775808 := rfl
  have h2 : IntKind.i64.max = 9223372036854775807 := rfl
  simp [Lit.wf, h1, h2] at h
  exact ⟨by omega, by omega⟩

set_option maxHeartbeats 800000 in
set_option maxRecDepth 100000 in
theorem meet_lifted (os : Os) (started : os.Started) (H : Type) (enc : TypeId × Value → H) :
    ReturnsInHanded {} Tryd.checked os 5 .any (fun w args => (Rows.placeMeetSpec.pre enc Tryd.prog Tryd.f5 [] false w args ∧ laidMetH Tryd.prog Rows.placeMeetRow.laid w) ∧ sizedMet enc Tryd.prog Tryd.f5 (OpenSpec.ofChange Rows.placeMeetSpec) false w args)
      (Rows.placeMeetSpec.post enc Tryd.prog Tryd.f5 false true false false) := by
  refine returnsInHanded_of_change_and (C := Tryd.checked) (X := fun w _ => laidMetH Tryd.prog Rows.placeMeetRow.laid w) (fun _ _ _ hh h => h.of_heap hh) own started (by kernel_rfl) Tryd.func5
    (ChangeSpec.witness_shaped (enc := enc) (C := Tryd.checked) (os := os) (X := fun w _ => laidMetH Tryd.prog Rows.placeMeetRow.laid w) false (World.doorLaid Tryd.prog 400 os) #[.slice none 0 0, .int .i64 0, .int .i64 0] 8 rfl (World.shaped_of_RefB (by kernel_rfl) (by kernel_rfl)) (by kernel_rfl) (by kernel_rfl) (by kernel_rfl) (door_met os _)) ?_
  intro W base args ds gs before hval0 hW _ hsz0 _ _
  have hsz : (DataW.weightsEach Tryd.prog (Tryd.f5.params.toList ++ Rows.placeMeetSpec.plain.varTypes Tryd.prog) (ds ++ gs)).all (· ≤ reachBytes) = true := hsz0
  clear hsz0
  have hval : ∀ (j : Nat) t v, Tryd.f5.params[j]? = some t → args[j]? = some v → Value.okWide Tryd.prog W .any base t v := hval0
  have hW' := hW
  obtain ⟨p, q, hA0, hV, rfl, _, _⟩ := hW
  have hA : DataW.TrodAll enc Tryd.prog W 0 (fun _ => true) true Tryd.f5.params.toList args.toList ds p := hA0
  rw [Tryd.params5] at hA hval hsz
  obtain ⟨v0, v1, v2, d0, d1, d2, p0, p1, p2, rfl, rfl, rfl, h0, h1, h2⟩ := trodAll_three hA
  obtain ⟨rfl, rfl⟩ := trodVars_none hV
  obtain ⟨a0, len, cap, rfl⟩ := okWide_slice Tryd.underlying35 (hval 0 35 v0 rfl rfl)
  have h1k := h1
  have h2k := h2
  obtain ⟨x1, rfl, rfl, rfl, wx1⟩ := open_int Tryd.underlying3 (hval 1 3 v1 rfl rfl) h1
  obtain ⟨x2, rfl, rfl, rfl, wx2⟩ := open_int Tryd.underlying3 (hval 2 3 v2 rfl rfl) h2
  have h0k := h0
  obtain ⟨fuel, hf⟩ := h0
  clear hA0 hval0
  simp only [List.append_nil] at hW'
  have hlt : ∀ y ∈ p0, y.block < W.heap.size := fun y hy => by simpa using hW'.lt y (by simp [hy])
  have harg0 : ∀ W' : World, Below W.heap.size W W' → DataW.Trod enc Tryd.prog W' 0 (fun b => decide (b < W.heap.size)) true 35 (.slice a0 len cap) d0 p0 :=
    fun W' hn => Below.trod laidOut (by kernel_rfl) (of_decide_eq_true (by kernel_rfl)) h0k hn hlt
  have harg1 : ∀ (x : Int) (W' : World), DataW.Trod enc Tryd.prog W 0 (fun _ => true) true 3 (.int .i64 x) (.lit (.int .i64 x)) [] → Below W.heap.size W W' → DataW.Trod enc Tryd.prog W' 0 (fun b => decide (b < W.heap.size)) true 3 (.int .i64 x) (.lit (.int .i64 x)) [] :=
    fun x W' hx hn => Below.trod laidOut (by kernel_rfl) (of_decide_eq_true (by kernel_rfl)) hx hn (fun y hy => by cases hy)
  have fin : ∀ e W', e = Ending.returned (.bool true) ∧ Below W.heap.size W W' → ∃ v, e = .returned v ∧ Rows.placeMeetSpec.post enc Tryd.prog Tryd.f5 false true false false W #[.slice a0 len cap, .int .i64 x1, .int .i64 x2] v W' := by
    rintro e W' ⟨rfl, hn⟩
    exact ⟨_, rfl, _, _, _, [], _, [], hW', trodAll_mk1 (shut_bool under4 _), trodAll_mk3 (harg0 _ hn) (harg1 _ _ h1k hn) (harg1 _ _ h2k hn), rfl, hn.frame _, fun h => by cases h⟩
  rcases open_ints Tryd.underlying35 Tryd.underlying3 cells3 hf with ⟨hcs, hx⟩ | ⟨a, len', cap', zs, hcs, _, hl, hmx, hz, hx, hcell, hwz⟩
  · simp [Value.cells] at hcs
    obtain ⟨rfl, rfl, rfl⟩ := hcs
    exact (Tryd.meet_none (w := W) (wf_I64 wx1) (wf_I64 wx2)).mono fin
  · simp [Value.cells] at hcs
    obtain ⟨rfl, rfl, rfl⟩ := hcs
    simp only [Prod.mk.injEq] at hx
    obtain ⟨rfl, rfl⟩ := hx
    simp only [if_true] at hz
    have hlz : len ≤ zs.length := by omega
    have hreach : len < 4611686018427387904 := by
      have := sized_slice hsz (j := 0) (t := 35) (e := 3) rfl rfl Tryd.underlying35
      rw [bytes3] at this
      simp only [lits, List.length_map, List.length_take, List.length_drop, reachBytes] at this
      omega
    by_cases hlen0 : len = 0
    · subst hlen0
      exact (Tryd.meet_void (w := W) (wf_I64 wx1) (wf_I64 wx2) a cap).mono fin
    · obtain ⟨b, off, spot⟩ := a
      have hspot : spot = none := by simpa [Addr.add] using World.cell?_spot (hcell 0 (by omega))
      subst hspot
      have htl : (zs.take len).length = len := by simp; omega
      have key := Tryd.meet_row (w := W) (wf_I64 wx1) (wf_I64 wx2) (b := b) (off := off) (cap := cap) (zs := zs.take len) (fun x hx => wf_I64 (hwz x (List.mem_of_mem_take hx))) (by omega) (by omega) (by intro h; rw [h] at htl; simp at htl; omega)
        (fun j hj => by
          have hj' : j < zs.length := by omega
          have e : (zs.take len).getD j 0 = zs.getD j 0 := by simp only [List.getD, List.getElem?_take]; rw [if_pos (by omega)]
          rw [e, ← add_plain]; exact hcell j hj')
      rw [htl] at key
      exact key.mono fin

theorem placeMeet_row : Rows.PlaceMeetSaid :=
  OpenClaim.holds_of_wide 5 Tryd.f5 rfl rfl rfl rfl rfl rfl rfl ⟨rfl, rfl, rfl, rfl, rfl⟩ rfl rfl rfl rfl rfl (by kernel_rfl) Tryd.func5 (by kernel_rfl)
    (of_decide_eq_true (by kernel_rfl)) (by unfold Func.isWrapper; first | (rw [if_pos (by decide +kernel)]; kernel_rfl) | (rw [if_neg (by decide +kernel)]; exact ⟨rfl, rfl⟩))
    (fun os started H enc _ => meet_lifted os started H enc)

theorem placeMeet_holds : Rows.PlaceMeetCardSaid :=
  Claim7.holds_tied_plain_at .later [] [.data, .data, .data] true (true, "fdac3f3372f6cb5245181c118821db1d257424ef79c2adb88fdeb54ad89ff063") false
    placeMeet_row (fun _ h => by cases h) (by kernel_rfl) (fun _ h => by cases h) placeMeet_row_tie rfl ⟨rfl, rfl⟩ (by kernel_rfl) rfl
    (fun f fn hf hfn => by
      obtain rfl : f = 5 := Option.some.inj ((show Tryd.prog.funcNamed "gemot/gemotlaw14.PlaceMeet" = some 5 by kernel_rfl).symm.trans hf) |>.symm
      obtain rfl : fn = Tryd.f5 := (Option.some.inj (Tryd.func5.symm.trans hfn)).symm
      exact ⟨by kernel_rfl, fun j t ht => by
        rw [Tryd.params5] at ht
        have hm : t ∈ [35, 3, 3] := by simpa using Array.mem_of_getElem? ht
        have hall : ([35, 3, 3].all fun u => !Tryd.prog.wantsStandIn u) = true := by kernel_rfl
        exact (show Tryd.prog.wantsStandIn t = false by simpa using List.all_eq_true.1 hall t hm)⟩)
    (by kernel_rfl)
#print axioms placeMeet_holds
end Go.Proofs.YtchlihfnolnjpaaDoor
