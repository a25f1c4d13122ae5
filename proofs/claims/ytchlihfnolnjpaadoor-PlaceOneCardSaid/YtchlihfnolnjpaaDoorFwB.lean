/- A framework for contracts of functions over an abstract memory, by its author; nothing of the program stands in it. -/
import Derived.Test.YtchlihfnolnjpaaDoorFwA
import Derived.Laws.RangeString
import Derived.Laws.Tables
import Derived.Great.BuildSlice
import Derived.Laws.MakeOwn
import GoSem.Builtin.Clear
import Derived.ControlIn
import Derived.OrdersIn
import Derived.RangeFuncLeaves
set_option linter.unusedVariables false
set_option linter.unusedSimpArgs false
namespace Go.Abs
section
variable {P : Program} {a : Act} {C : Ctx} {σ : St} {w : World} {K : AV → St → Prop} {tm : Tm} {n : Nat} {dst : Option Tmp} {T : TypeId} {pos : String} {after : Array Edge} {g : Option (Nat × Bool)}

theorem entI_length {k : IntKind} : ∀ {es : List (Int × AV)} {ms : List MapEntry}, entI C w k es ms → ms.length = es.length
  | [], ms, h => by simp only [entI] at h; subst h; rfl
  | e :: es, ms, h => by
    simp only [entI] at h
    obtain ⟨m, r, rfl, _, _, h⟩ := h
    simp [entI_length h]
theorem entS_length : ∀ {es : List (List UInt8 × AV)} {ms : List MapEntry}, entS C w es ms → ms.length = es.length
  | [], ms, h => by simp only [entS] at h; subst h; rfl
  | e :: es, ms, h => by
    simp only [entS] at h
    obtain ⟨m, r, rfl, _, _, h⟩ := h
    simp [entS_length h]

theorem goes_call_builtin {b : Builtin} {args : Array Operand} {ats : Array TypeId} (v : Value) (w' : World)
    (h : (builtin b ats T (args.map fun | .const _ => true | _ => false) (args.map a.eval)).run P w = .ok (.value v) w') :
    (execOp a.eval ⟨dst, .call ⟨.builtin b, args, ats⟩, T, pos, after, g⟩).run P w = .ok (.value v) w' := by
  simp only [execOp, resolve, Sem.run_bind, Sem.run_pure, Result.andThen_ok, invoke]
  exact h

theorem goes_lenS (R : Rel C σ w) (H : TRel C w tm a.tmps n) {t : TypeId} (ht : P.underlying t = some .string) {x : Operand} {x' : Opd} (hx : co n x = some x') (h : aop (.lenS x') tm σ K) :
    Goes P a ⟨dst, .call ⟨.builtin .len, #[x], #[t]⟩, T, pos, after, g⟩ C w K := by
  have h1 := co_sound H hx
  simp only [aop] at h
  split at h
  · rename_i s hs
    rw [hs] at h1; simp only [VRel] at h1
    refine .pure (v := .int .i64 s.length) h (goes_call_builtin _ _ ?_) (by simp only [VRel]) R
    simp [builtin, Builtin.len_, run_underlying ht, h1, ba_size, goInt]
  · exact h.elim

theorem goes_lenL (R : Rel C σ w) (H : TRel C w tm a.tmps n) {t e : TypeId} (ht : P.underlying t = some (.slice e)) {x : Operand} {x' : Opd} (hx : co n x = some x') (h : aop (.lenL x') tm σ K) :
    Goes P a ⟨dst, .call ⟨.builtin .len, #[x], #[t]⟩, T, pos, after, g⟩ C w K := by
  have h1 := co_sound H hx
  have hrun : ∀ ad len c, a.eval x = .slice ad len c → (builtin .len #[t] T (#[x].map fun | .const _ => true | _ => false) (#[x].map a.eval)).run P w = .ok (.value (.int .i64 len)) w := by
    intro ad len c he
    simp [builtin, Builtin.len_, run_underlying ht, he, goInt]
  simp only [aop] at h
  split at h
  · rename_i id gen off len hs
    rw [hs] at h1; simp only [VRel] at h1
    obtain ⟨ad, c, hv, _⟩ := h1
    exact .pure (v := .int .i64 len) h (goes_call_builtin _ _ (hrun _ _ _ hv)) (by simp only [VRel]) R
  · rename_i xs len cap hs
    rw [hs] at h1; simp only [VRel] at h1
    obtain ⟨b, o, c, us, hv, _⟩ := h1
    exact .pure (v := .int .i64 len) h (goes_call_builtin _ _ (hrun _ _ _ hv)) (by simp only [VRel]) R
  · rename_i hs
    rw [hs] at h1; simp only [VRel] at h1
    exact .pure (v := .int .i64 0) h (goes_call_builtin _ _ (hrun _ _ _ h1)) (by simp only [VRel]) R
  · exact h.elim

theorem goes_lenM (R : Rel C σ w) (H : TRel C w tm a.tmps n) {t k e : TypeId} (ht : P.underlying t = some (.map k e)) {x : Operand} {x' : Opd} (hx : co n x = some x') (h : aop (.lenM x') tm σ K) :
    Goes P a ⟨dst, .call ⟨.builtin .len, #[x], #[t]⟩, T, pos, after, g⟩ C w K := by
  have h1 := co_sound H hx
  have hrun : ∀ (b : Nat) (ms : Array MapEntry) (cl : Nat), a.eval x = .map (some b) → w.heap[b]? = some (.map ms cl) → (builtin .len #[t] T (#[x].map fun | .const _ => true | _ => false) (#[x].map a.eval)).run P w = .ok (.value (.int .i64 ms.size)) w := by
    intro b ms cl he hb
    simp [builtin, Builtin.len_, run_underlying ht, he, run_getObj P w b _ hb (by simp), goInt]
  simp only [aop] at h
  split at h
  · rename_i hs
    rw [hs] at h1; simp only [VRel] at h1
    refine .pure (v := .int .i64 0) h (goes_call_builtin _ _ ?_) (by simp only [VRel]) R
    simp [builtin, Builtin.len_, run_underlying ht, h1, goInt]
  · rename_i id hs
    rw [hs] at h1; simp only [VRel] at h1
    obtain ⟨b, hv, h2⟩ := h1
    split at h
    · rename_i kk es hid
      obtain ⟨g0, L, ms, cl, g1, g2, g3⟩ := R.blk id _ hid
      obtain ⟨L', hL', rfl⟩ := h2 g0
      rw [g1] at hL'; cases hL'
      refine .pure h (goes_call_builtin _ _ (hrun _ _ _ hv g2)) ?_ R
      have := entI_length g3
      simp only [VRel]; rw [← this]; simp
    · rename_i es hid
      obtain ⟨g0, L, ms, cl, g1, g2, g3⟩ := R.blk id _ hid
      obtain ⟨L', hL', rfl⟩ := h2 g0
      rw [g1] at hL'; cases hL'
      refine .pure h (goes_call_builtin _ _ (hrun _ _ _ hv g2)) ?_ R
      have := entS_length g3
      simp only [VRel]; rw [← this]; simp
    · exact h.elim
  · exact h.elim

theorem goes_max (R : Rel C σ w) (H : TRel C w tm a.tmps n) {ats : Array TypeId} {x y : Operand} {x' y' : Opd} (hx : co n x = some x') (hy : co n y = some y') (h : aop (.max x' y') tm σ K) :
    Goes P a ⟨dst, .call ⟨.builtin .max, #[x, y], ats⟩, T, pos, after, g⟩ C w K := by
  have h1 := co_sound H hx
  have h2 := co_sound H hy
  simp only [aop] at h
  split at h
  · rename_i k p k' q hp hq
    rw [hp] at h1; rw [hq] at h2; simp only [VRel] at h1 h2
    refine .pure (v := .int k (if q > p then q else p)) h (goes_call_builtin _ _ ?_) (by simp only [VRel]) R
    simp [builtin, Builtin.max_, Builtin.max2, h1, h2]
  · exact h.elim

theorem goes_min (R : Rel C σ w) (H : TRel C w tm a.tmps n) {ats : Array TypeId} {x y : Operand} {x' y' : Opd} (hx : co n x = some x') (hy : co n y = some y') (h : aop (.min x' y') tm σ K) :
    Goes P a ⟨dst, .call ⟨.builtin .min, #[x, y], ats⟩, T, pos, after, g⟩ C w K := by
  have h1 := co_sound H hx
  have h2 := co_sound H hy
  simp only [aop] at h
  split at h
  · rename_i k p k' q hp hq
    rw [hp] at h1; rw [hq] at h2; simp only [VRel] at h1 h2
    refine .pure (v := .int k (if q < p then q else p)) h (goes_call_builtin _ _ ?_) (by simp only [VRel]) R
    simp [builtin, Builtin.min_, Builtin.min2, h1, h2]
  · exact h.elim

theorem goes_mkmapI (R : Rel C σ w) {t : TypeId} {k : IntKind} (h : aop (.mkmapI k) tm σ K) : Goes P a ⟨dst, .makeMap t none, T, pos, after, g⟩ C w K := by
  simp only [aop] at h
  have E := Evol.alloc R (.map #[] 0) ⟨w.heap.size, 0, 0, 0⟩
  refine .value h ?_ (vrel_put_map _ _ _ _) (R.alloc (.map #[] 0) 0 0 (.mapI k []) ?_) E
  · simp [execOp, Instr.makeMap]
  · simp only [BRel]
    refine ⟨(R.fresh _ (Nat.le_refl _)).2, ⟨w.heap.size, 0, 0, 0⟩, #[], 0, by simp [Ctx.put], ?_, by simp [entI]⟩
    show (w.heap.push _)[w.heap.size]? = _
    simp
theorem goes_mkmapS (R : Rel C σ w) {t : TypeId} (h : aop .mkmapS tm σ K) : Goes P a ⟨dst, .makeMap t none, T, pos, after, g⟩ C w K := by
  simp only [aop] at h
  have E := Evol.alloc R (.map #[] 0) ⟨w.heap.size, 0, 0, 0⟩
  refine .value h ?_ (vrel_put_map _ _ _ _) (R.alloc (.map #[] 0) 0 0 (.mapS []) ?_) E
  · simp [execOp, Instr.makeMap]
  · simp only [BRel]
    refine ⟨(R.fresh _ (Nat.le_refl _)).2, ⟨w.heap.size, 0, 0, 0⟩, #[], 0, by simp [Ctx.put], ?_, by simp [entS]⟩
    show (w.heap.push _)[w.heap.size]? = _
    simp

theorem findKeyI {jj kk : IntKind} {kt : TypeId} (hk : P.underlying kt = some (.int jj)) {es : List (Int × AV)} {ms : List MapEntry} (hm : entI C w kk es ms) (k : Int) (w' : World) :
    ∃ r, (Instr.findKey kt (.int kk k) ms).run P w' = .ok r w' ∧ match getI es k with
      | some v => ∃ j m, r = some (j, m.val) ∧ ms[j]? = some m ∧ m.key = .int kk k ∧ VRel C w v m.val ∧
          (∀ v' (u : Value), VRel C w v' u → ∀ f : MapEntry → MapEntry, (f m).key = .int kk k → (f m).val = u → entI C w kk (putI es k v') (ms.modify j f)) ∧ entI C w kk (delI es k) (ms.eraseIdx j)
      | none => r = none ∧ (∀ v' (m : MapEntry), m.key = .int kk k → VRel C w v' m.val → entI C w kk (putI es k v') (ms ++ [m])) ∧ delI es k = es := by
  obtain ⟨r, hr, hm⟩ := findNowI (jj := jj) k es ms 0 hm
  refine ⟨r, by unfold Instr.findKey; simp only [Sem.run_bind, run_underlying hk, Result.andThen_ok, hr]; rfl, ?_⟩
  cases hg : getI es k with
  | none => simpa [hg] using hm
  | some v => simpa [hg] using hm

theorem checkKey_int {jj : IntKind} {kt : TypeId} (hk : P.underlying kt = some (.int jj)) (e : Bool) (v : Value) (w' : World) : (Instr.checkKey e 10000 kt v).run P w' = .ok () w' := by
  obtain ⟨q, hq⟩ : ∃ q, q + 1 = 10000 := ⟨9999, rfl⟩
  rw [← hq]
  simp only [Instr.checkKey, Sem.run_bind, run_underlying hk, Result.andThen_ok]
  rfl

theorem goes_lookI (R : Rel C σ w) (H : TRel C w tm a.tmps n) {t kt et : TypeId} {jj k : IntKind} {i : TypeInfo} {z : Value} {zA : AV} (ht : P.underlying t = some (.map kt et)) (hk : P.underlying kt = some (.int jj))
    (hi : P.info? et = some i) (hz : i.zero = some z) (hzA : cv z = some zA) {ok : Bool} {x y : Operand} {x' y' : Opd} (hx : co n x = some x') (hy : co n y = some y') (h : aop (.lookI k zA x' y' ok) tm σ K) :
    Goes P a ⟨dst, .lookup t x y ok, T, pos, after, g⟩ C w K := by
  have h1 := co_sound H hx
  have h2 := co_sound H hy
  have hzv : (zeroValue et).run P w = .ok z w := by simp [zeroValue, typeInfo, hi, hz]
  have hzr : VRel C w zA z := cv_sound hzA
  simp only [aop] at h
  split at h
  · rename_i id k' m hs hs2
    rw [hs] at h1; rw [hs2] at h2; simp only [VRel] at h1 h2
    obtain ⟨rfl, h⟩ := h
    obtain ⟨b, hv, h3⟩ := h1
    split at h
    · rename_i kk es hid
      obtain ⟨rfl, hK⟩ := h
      obtain ⟨g0, L, ms, cl, g1, g2, g3⟩ := R.blk id _ hid
      obtain ⟨L', hL', rfl⟩ := h3 g0
      rw [g1] at hL'; cases hL'
      obtain ⟨r, hr, hm⟩ := findKeyI (P := P) hk g3 m w
      cases hg : getI es m with
      | none =>
        simp only [hg] at hm hK
        obtain ⟨rfl, _⟩ := hm
        refine .pure (v := if ok then .tuple #[z, .bool false] else z) hK ?_ ?_ R
        · simp [execOp, Instr.lookup, run_underlying ht, hv, h2, run_getObj P w _ _ g2 (by simp), checkKey_int hk, hr, hzv]
        · cases ok
          · exact hzr
          · simp only [if_true, VRel]; exact ⟨[z, .bool false], rfl, .cons hzr (.one (by simp only [VRel]))⟩
      | some v =>
        simp only [hg] at hm hK
        obtain ⟨j, me, rfl, _, _, hvr, _⟩ := hm
        refine .pure (v := if ok then .tuple #[me.val, .bool true] else me.val) hK ?_ ?_ R
        · simp [execOp, Instr.lookup, run_underlying ht, hv, h2, run_getObj P w _ _ g2 (by simp), checkKey_int hk, hr]
        · cases ok
          · exact hvr
          · simp only [if_true, VRel]; exact ⟨[me.val, .bool true], rfl, .cons hvr (.one (by simp only [VRel]))⟩
    · exact h.elim
  · rename_i k' m hs hs2
    rw [hs] at h1; rw [hs2] at h2; simp only [VRel] at h1 h2
    obtain ⟨rfl, hK⟩ := h
    obtain ⟨r, hr, hm⟩ := findKeyI (P := P) (C := C) (w := w) (kk := k') (es := []) (ms := []) hk (by simp [entI]) m w
    simp only [getI] at hm
    obtain ⟨rfl, _⟩ := hm
    refine .pure (v := if ok then .tuple #[z, .bool false] else z) hK ?_ ?_ R
    · simp [execOp, Instr.lookup, run_underlying ht, h1, h2, checkKey_int hk, hr, hzv]
    · cases ok
      · exact hzr
      · simp only [if_true, VRel]; exact ⟨[z, .bool false], rfl, .cons hzr (.one (by simp only [VRel]))⟩
  · exact h.elim
end
end Go.Abs
set_option linter.unusedVariables false
set_option linter.unusedSimpArgs false
namespace Go.Abs
section
variable {P : Program} {C : Ctx} {σ : St} {w : World} {tm : Tm} {n : Nat} {a : Act} {dst : Option Tmp} {T : TypeId} {pos : _} {after : _} {g : _} {K : AV → St → Prop}
theorem goes_rangeS (R : Rel C σ w) (H : TRel C w tm a.tmps n) {t : TypeId} (ht : P.underlying t = some .string) {x : Operand} {x' : Opd} (hx : co n x = some x') (h : aop (.rangeS x') tm σ K) :
    Goes P a ⟨dst, .range t x, T, pos, after, g⟩ C w K := by
  have h1 := co_sound H hx
  simp only [aop] at h
  split at h
  · rename_i s hs
    rw [hs] at h1; simp only [VRel] at h1
    have E := Evol.alloc R (.stringIter ⟨s.toArray⟩ 0) ⟨w.heap.size, 0, 0, 0⟩
    refine .value (v := .pointer (some ⟨w.heap.size, 0, none⟩)) h ?_ ?_ (R.alloc (.stringIter ⟨s.toArray⟩ 0) 0 0 (.siter s 0) ?_) E
    · simp only [execOp, h1, Sem.run_bind, run_range_string w t _ ht, Result.andThen_ok, Sem.run_pure]; rfl
    · simp only [VRel]; exact ⟨_, rfl, fun _ => ⟨⟨w.heap.size, 0, 0, 0⟩, by simp [Ctx.put], rfl⟩⟩
    · simp only [BRel]
      exact ⟨(R.fresh _ (Nat.le_refl _)).2, ⟨w.heap.size, 0, 0, 0⟩, by simp [Ctx.put], by show (w.heap.push _)[w.heap.size]? = _; simp⟩
  · exact h.elim
theorem goes_nextS (R : Rel C σ w) (H : TRel C w tm a.tmps n) {x : Operand} {x' : Opd} (hx : co n x = some x') (h : aop (.nextS x') tm σ K) :
    Goes P a ⟨dst, .next x true, T, pos, after, g⟩ C w K := by
  have h1 := co_sound H hx
  simp only [aop] at h
  split at h
  · rename_i id hid
    rw [hid] at h1; simp only [VRel] at h1
    split at h
    · rename_i s p hB
      have hb := R.blk _ _ hB
      simp only [BRel] at hb
      obtain ⟨h0, L, hL, hheap⟩ := hb
      obtain ⟨ad, hv, h2⟩ := h1
      obtain ⟨L', hL', rfl⟩ := h2 h0
      rw [hL] at hL'; cases hL'
      have hg : (getObj L.b).run P w = .ok (.stringIter ⟨s.toArray⟩ p) w := run_getObj P w _ _ hheap (by intros; simp)
      split at h
      · rename_i b hb
        obtain ⟨hb1, hK⟩ := h
        obtain ⟨hp, hpe⟩ := List.getElem?_eq_some_iff.1 hb
        have hlt : p < (⟨s.toArray⟩ : ByteArray).size := by show p < s.toArray.size; simpa using hp
        have hget : (⟨s.toArray⟩ : ByteArray)[p]'hlt = b := by show (s.toArray)[p]'_ = b; simpa using hpe
        have hd := decode_ascii ⟨s.toArray⟩ p hlt (by rw [hget]; exact hb1)
        have hset := R.setObj hL hheap (o' := .stringIter ⟨s.toArray⟩ (p + 1)) (by intros; simp) (.siter s (p + 1)) (R.dom _ _ hB) (fun E => by
          simp only [BRel]
          exact ⟨h0, L, hL, World.setBlk_heap _ _ _ (R.own _ _ hL).2⟩)
        refine .value (v := .tuple #[.bool true, .int .i64 p, .int .i32 b.toNat]) hK ?_ ?_ hset.1 hset.2
        · have hs : (setObj L.b (.stringIter ⟨s.toArray⟩ (p + 1))).run P w = .ok () (World.setBlk w L.b (.stringIter ⟨s.toArray⟩ (p + 1))) := run_setObj P w _ _ _ hheap (by intros; simp)
          simp only [execOp, hv, Instr.next, Sem.run_bind, hg, Result.andThen_ok, hlt, if_true, hd, hs, Sem.run_pure, hget, goInt]
        · simp only [VRel]
          refine ⟨[.bool true, .int .i64 p, .int .i32 b.toNat], rfl, ?_⟩
          exact .cons (by simp only [VRel]) (.cons (by simp only [VRel]) (.one (by simp only [VRel])))
      · rename_i hb
        have hlt : ¬ p < (⟨s.toArray⟩ : ByteArray).size := by
          show ¬ p < s.toArray.size
          have := List.getElem?_eq_none_iff.1 hb
          simp; omega
        refine .pure (v := .tuple #[.bool false]) h ?_ ?_ R
        · simp only [execOp, hv, Instr.next, Sem.run_bind, hg, Result.andThen_ok, hlt, if_false, Sem.run_pure]
        · simp only [VRel]
          exact ⟨[.bool false], rfl, .one (by simp only [VRel])⟩
    · exact h.elim
  · exact h.elim
end
end Go.Abs
set_option linter.unusedVariables false
set_option linter.unusedSimpArgs false
namespace Go.Abs
section
variable {P : Program} {a : Act} {C : Ctx} {σ : St} {w : World} {K : AV → St → Prop} {tm : Tm} {n : Nat} {dst : Option Tmp} {T : TypeId} {pos : String} {after : Array Edge} {g : Option (Nat × Bool)}

theorem sameBits_int (k : IntKind) (m : Int) : Instr.sameBits 10000 (.int k m) (.int k m) = true := by
  obtain ⟨q, hq⟩ : ∃ q, q + 1 = 10000 := ⟨9999, rfl⟩
  rw [← hq]; simp [Instr.sameBits]
theorem keyStays_int (k : IntKind) (m : Int) (w' : World) : (Instr.keyThatStays (.int k m) (.int k m)).run P w' = .ok (.int k m) w' := by
  simp [Instr.keyThatStays, sameBits_int]
theorem sameBits_str (s : List UInt8) : Instr.sameBits 10000 (.string ⟨s.toArray⟩) (.string ⟨s.toArray⟩) = true := by
  obtain ⟨q, hq⟩ : ∃ q, q + 1 = 10000 := ⟨9999, rfl⟩
  rw [← hq]; simp [Instr.sameBits, ba_beq]
theorem keyStays_str (s : List UInt8) (w' : World) : (Instr.keyThatStays (.string ⟨s.toArray⟩) (.string ⟨s.toArray⟩)).run P w' = .ok (.string ⟨s.toArray⟩) w' := by
  simp [Instr.keyThatStays, sameBits_str]

theorem mapUpdate_runI {t kt et : TypeId} {jj k : IntKind} (ht : P.underlying t = some (.map kt et)) (hk : P.underlying kt = some (.int jj)) (R : Rel C σ w) {id : Nat} {es : List (Int × AV)} (hid : σ.heap id = some (.mapI k es)) {u v : Value} {m : Int} {x : AV}
    (hm : VRel C w (.map id) u) (hx : VRel C w x v) : ∃ w', (Instr.mapUpdate t u (.int k m) v).run P w = .ok () w' ∧ Rel C (σ.set id (.mapI k (putI es m x))) w' ∧ Evol C w C w' := by
  simp only [VRel] at hm
  obtain ⟨b, rfl, h3⟩ := hm
  obtain ⟨g0, L, ms, cl, g1, g2, g3⟩ := R.blk id _ hid
  obtain ⟨L', hL', rfl⟩ := h3 g0
  rw [g1] at hL'; cases hL'
  have hidlt := R.dom _ _ hid
  obtain ⟨r, hr, hmm⟩ := findKeyI (P := P) hk g3 m w
  cases hg : getI es m with
  | none =>
    simp only [hg] at hmm
    obtain ⟨rfl, hput, _⟩ := hmm
    refine ⟨World.setBlk w L.b (.map (ms.push { key := .int k m, val := v, born := cl }) (cl + 1)), ?_, ?_⟩
    · simp [Instr.mapUpdate, run_underlying ht, run_getObj P w _ _ g2 (by simp), checkKey_int hk, hr, run_setObj P w _ _ _ g2 (by simp)]
    · refine R.setObj g1 g2 (by simp) _ hidlt fun E => ?_
      simp only [BRel]
      refine ⟨g0, L, _, _, g1, World.setBlk_heap _ _ _ (R.own id L g1).2, ?_⟩
      have := hput x { key := .int k m, val := v, born := cl } rfl hx
      simpa using this.evol E
  | some v0 =>
    simp only [hg] at hmm
    obtain ⟨j, me, rfl, hj, hkey, _, hput, _⟩ := hmm
    have hj' : ms[j]? = some me := by simpa using hj
    refine ⟨World.setBlk w L.b (.map (ms.modify j fun e => { e with key := .int k m, val := v }) cl), ?_, ?_⟩
    · simp [Instr.mapUpdate, run_underlying ht, run_getObj P w _ _ g2 (by simp), checkKey_int hk, hr, hj', hkey, keyStays_int, run_setObj P w _ _ _ g2 (by simp)]
    · refine R.setObj g1 g2 (by simp) _ hidlt fun E => ?_
      simp only [BRel]
      refine ⟨g0, L, _, _, g1, World.setBlk_heap _ _ _ (R.own id L g1).2, ?_⟩
      have := hput x v hx (fun e => { e with key := .int k m, val := v }) rfl rfl
      simpa using this.evol E

theorem goes_updI (R : Rel C σ w) (H : TRel C w tm a.tmps n) {t kt et : TypeId} {jj k : IntKind} (ht : P.underlying t = some (.map kt et)) (hk : P.underlying kt = some (.int jj)) {x y z : Operand} {x' y' z' : Opd} (hx : co n x = some x') (hy : co n y = some y') (hz : co n z = some z')
    (h : aop (.updI k x' y' z') tm σ K) : Goes P a ⟨dst, .mapUpdate t x y z, T, pos, after, g⟩ C w K ∧ Goes P a ⟨dst, .insert t x y z, T, pos, after, g⟩ C w K := by
  have h1 := co_sound H hx
  have h2 := co_sound H hy
  have h3 := co_sound H hz
  simp only [aop] at h
  split at h
  · rename_i id k' m hs hs2
    rw [hs] at h1; rw [hs2] at h2
    obtain ⟨rfl, h⟩ := h
    split at h
    · rename_i kk es hid
      obtain ⟨rfl, hK⟩ := h
      obtain ⟨w', hr, R', E'⟩ := mapUpdate_runI ht hk R (m := m) hid h1 h3
      simp only [VRel] at h2
      exact ⟨.skip hK (by simp [execOp, h2, hr]) R' E', .skip hK (by simp [execOp, h2, hr]) R' E'⟩
    · exact h.elim
  · exact h.elim

theorem findKeyS {kt : TypeId} (hk : P.underlying kt = some .string) {es : List (List UInt8 × AV)} {ms : List MapEntry} (hm : entS C w es ms) (k : List UInt8) (w' : World) :
    ∃ r, (Instr.findKey kt (.string ⟨k.toArray⟩) ms).run P w' = .ok r w' ∧ match getS es k with
      | some v => ∃ j m, r = some (j, m.val) ∧ ms[j]? = some m ∧ m.key = .string ⟨k.toArray⟩ ∧ VRel C w v m.val ∧
          (∀ v' (u : Value), VRel C w v' u → ∀ f : MapEntry → MapEntry, (f m).key = .string ⟨k.toArray⟩ → (f m).val = u → entS C w (putS es k v') (ms.modify j f))
      | none => r = none ∧ (∀ v' (m : MapEntry), m.key = .string ⟨k.toArray⟩ → VRel C w v' m.val → entS C w (putS es k v') (ms ++ [m])) := by
  obtain ⟨r, hr, hm⟩ := findNowS k es ms 0 hm
  refine ⟨r, by unfold Instr.findKey; simp only [Sem.run_bind, run_underlying hk, Result.andThen_ok, hr]; rfl, ?_⟩
  cases hg : getS es k with
  | none => simpa [hg] using hm
  | some v => simpa [hg] using hm

theorem checkKey_str {kt : TypeId} (hk : P.underlying kt = some .string) (e : Bool) (v : Value) (w' : World) : (Instr.checkKey e 10000 kt v).run P w' = .ok () w' := by
  obtain ⟨q, hq⟩ : ∃ q, q + 1 = 10000 := ⟨9999, rfl⟩
  rw [← hq]
  simp only [Instr.checkKey, Sem.run_bind, run_underlying hk, Result.andThen_ok]
  rfl

theorem goes_lookS (R : Rel C σ w) (H : TRel C w tm a.tmps n) {t kt et : TypeId} {i : TypeInfo} {z : Value} {zA : AV} (ht : P.underlying t = some (.map kt et)) (hk : P.underlying kt = some .string)
    (hi : P.info? et = some i) (hz : i.zero = some z) (hzA : cv z = some zA) {ok : Bool} {x y : Operand} {x' y' : Opd} (hx : co n x = some x') (hy : co n y = some y') (h : aop (.lookS zA x' y' ok) tm σ K) :
    Goes P a ⟨dst, .lookup t x y ok, T, pos, after, g⟩ C w K := by
  have h1 := co_sound H hx
  have h2 := co_sound H hy
  have hzv : (zeroValue et).run P w = .ok z w := by simp [zeroValue, typeInfo, hi, hz]
  have hzr : VRel C w zA z := cv_sound hzA
  simp only [aop] at h
  split at h
  · rename_i id m hs hs2
    rw [hs] at h1; rw [hs2] at h2; simp only [VRel] at h1 h2
    obtain ⟨b, hv, h3⟩ := h1
    split at h
    · rename_i es hid
      obtain ⟨g0, L, ms, cl, g1, g2, g3⟩ := R.blk id _ hid
      obtain ⟨L', hL', rfl⟩ := h3 g0
      rw [g1] at hL'; cases hL'
      obtain ⟨r, hr, hm⟩ := findKeyS (P := P) hk g3 m w
      cases hg : getS es m with
      | none =>
        simp only [hg] at hm h
        obtain ⟨rfl, _⟩ := hm
        refine .pure (v := if ok then .tuple #[z, .bool false] else z) h ?_ ?_ R
        · simp [execOp, Instr.lookup, run_underlying ht, hv, h2, run_getObj P w _ _ g2 (by simp), checkKey_str hk, hr, hzv]
        · cases ok
          · exact hzr
          · simp only [if_true, VRel]; exact ⟨[z, .bool false], rfl, .cons hzr (.one (by simp only [VRel]))⟩
      | some v =>
        simp only [hg] at hm h
        obtain ⟨j, me, rfl, _, _, hvr, _⟩ := hm
        refine .pure (v := if ok then .tuple #[me.val, .bool true] else me.val) h ?_ ?_ R
        · simp [execOp, Instr.lookup, run_underlying ht, hv, h2, run_getObj P w _ _ g2 (by simp), checkKey_str hk, hr]
        · cases ok
          · exact hvr
          · simp only [if_true, VRel]; exact ⟨[me.val, .bool true], rfl, .cons hvr (.one (by simp only [VRel]))⟩
    · exact h.elim
  · exact h.elim

theorem goes_updS (R : Rel C σ w) (H : TRel C w tm a.tmps n) {t kt et : TypeId} (ht : P.underlying t = some (.map kt et)) (hk : P.underlying kt = some .string) {x y z : Operand} {x' y' z' : Opd} (hx : co n x = some x') (hy : co n y = some y') (hz : co n z = some z')
    (h : aop (.updS x' y' z') tm σ K) : Goes P a ⟨dst, .mapUpdate t x y z, T, pos, after, g⟩ C w K := by
  have h1 := co_sound H hx
  have h2 := co_sound H hy
  have h3 := co_sound H hz
  simp only [aop] at h
  split at h
  · rename_i id m hs hs2
    rw [hs] at h1; rw [hs2] at h2; simp only [VRel] at h1 h2
    obtain ⟨b, hv, h4⟩ := h1
    split at h
    · rename_i es hid
      obtain ⟨g0, L, ms, cl, g1, g2, g3⟩ := R.blk id _ hid
      obtain ⟨L', hL', rfl⟩ := h4 g0
      rw [g1] at hL'; cases hL'
      have hidlt := R.dom _ _ hid
      obtain ⟨r, hr, hmm⟩ := findKeyS (P := P) hk g3 m w
      cases hg : getS es m with
      | none =>
        simp only [hg] at hmm
        obtain ⟨rfl, hput⟩ := hmm
        obtain ⟨R', E'⟩ := R.setObj (o' := .map (ms.push { key := .string ⟨m.toArray⟩, val := a.eval z, born := cl }) (cl + 1)) g1 g2 (by simp) (.mapS (putS es m (rd tm z'))) hidlt fun E => by
          simp only [BRel]
          refine ⟨g0, L, _, _, g1, World.setBlk_heap _ _ _ (R.own id L g1).2, ?_⟩
          have := hput _ { key := .string ⟨m.toArray⟩, val := a.eval z, born := cl } rfl h3
          simpa using this.evol E
        refine .skip h ?_ R' E'
        simp [execOp, h2, hv, Instr.mapUpdate, run_underlying ht, run_getObj P w _ _ g2 (by simp), checkKey_str hk, hr, run_setObj P w _ _ _ g2 (by simp)]
      | some v0 =>
        simp only [hg] at hmm
        obtain ⟨j, me, rfl, hj, hkey, _, hput⟩ := hmm
        have hj' : ms[j]? = some me := by simpa using hj
        obtain ⟨R', E'⟩ := R.setObj (o' := .map (ms.modify j fun e => { e with key := .string ⟨m.toArray⟩, val := a.eval z }) cl) g1 g2 (by simp) (.mapS (putS es m (rd tm z'))) hidlt fun E => by
          simp only [BRel]
          refine ⟨g0, L, _, _, g1, World.setBlk_heap _ _ _ (R.own id L g1).2, ?_⟩
          have := hput _ (a.eval z) h3 (fun e => { e with key := .string ⟨m.toArray⟩, val := a.eval z }) rfl rfl
          simpa using this.evol E
        refine .skip h ?_ R' E'
        simp [execOp, h2, hv, Instr.mapUpdate, run_underlying ht, run_getObj P w _ _ g2 (by simp), checkKey_str hk, hr, hj', hkey, keyStays_str, run_setObj P w _ _ _ g2 (by simp)]
    · exact h.elim
  · exact h.elim
end
end Go.Abs
set_option linter.unusedVariables false
set_option linter.unusedSimpArgs false
namespace Go.Abs

theorem zipIdx_fold : ∀ (us : List Value) (cs : Array Value) (off k : Nat),
    (us.zipIdx k).foldl (fun cs (p : Value × Nat) => cs.setIfInBounds (off + p.2) p.1) cs = aput cs (off + k) us
  | [], cs, off, k => rfl
  | u :: us, cs, off, k => by
    rw [List.zipIdx_cons, List.foldl_cons, aput_cons, zipIdx_fold us _ off (k + 1)]; rfl

theorem aput_lput : ∀ (vs us : List Value) (o : Nat), (aput us.toArray o vs) = (lput us o vs).toArray
  | [], us, o => rfl
  | v :: vs, us, o => by
    rw [aput_cons, lput, ← aput_lput vs (us.set o v) (o + 1)]
    congr 1
    simp

/-- The parts of a literal, read off. -/
def cps (n N : Nat) (place : Nat → Option (Nat × Nat)) : List (Nat × Operand) → Option (List (Nat × Nat × Opd))
  | [] => some []
  | (i, x) :: r => match place i, co n x, cps n N place r with
    | some (o, s), some y, some r' => if o + s ≤ N then some ((o, s, y) :: r') else none
    | _, _, _ => none

section
variable {P : Program} {a : Act} {C : Ctx} {σ : St} {w : World} {K : AV → St → Prop} {tm : Tm} {n : Nat} {dst : Option Tmp} {T : TypeId} {pos : String} {after : Array Edge} {g : Option (Nat × Bool)}

theorem fill_sound (H : TRel C w tm a.tmps n) {N : Nat} {place : Nat → Option (Nat × Nat)} : ∀ (parts : List (Nat × Operand)) (ps : List (Nat × Nat × Opd)) (zs : List AV) (us : List Value), cps n N place parts = some ps → sizesOk tm ps = true →
    VRels C w zs us → us.length = N → ∃ us' : List Value, Instr.fill place us.toArray (parts.map fun (i, x) => (i, a.eval x)) = some us'.toArray ∧ VRels C w (fillA zs (rdps tm ps)) us' ∧ us'.length = N
  | [], ps, zs, us, h, hs, hv, hl => by simp [cps] at h; subst h; exact ⟨us, by simp [Instr.fill], by simpa [rdps, fillA] using hv, hl⟩
  | (i, x) :: r, ps, zs, us, h, hs, hv, hl => by
    simp only [cps] at h
    split at h
    · rename_i o s y r' hp hc hr
      split at h
      · rename_i hle
        cases h
        simp only [sizesOk, Bool.and_eq_true, beq_iff_eq] at hs
        have hx := (co_sound H hc).cells
        have hxl := hx.length
        have hsz : (a.eval x).cells.size = s := by have := hs.1; simp at hxl; omega
        have hv' := VRels.lput o hv hx
        obtain ⟨us', h1, h2, h3⟩ := fill_sound H r r' (lput zs o (rd tm y).cells) (lput us o (a.eval x).cells.toList) hr hs.2 hv' (by rw [lput_length]; exact hl)
        refine ⟨us', ?_, by simpa [rdps, fillA] using h2, h3⟩
        have hfold : (a.eval x).cells.zipIdx.foldl (fun cs (p : Value × Nat) => cs.setIfInBounds (o + p.2) p.1) us.toArray = (lput us o (a.eval x).cells.toList).toArray := by
          rw [← aput_lput, ← Array.foldl_toList, Array.toList_zipIdx, zipIdx_fold]; rfl
        simp only [List.map_cons, Instr.fill, hp]
        rw [if_neg (by simp [hsz, hl]; omega)]
        rw [← h1]
        congr 1
      · cases h
    · cases h

/-- Where the parts of a literal lie. -/
def places (P : Program) (t : TypeId) : Option (Nat → Option (Nat × Nat)) :=
  match P.underlying t with
  | some (.array _ e) => match P.info? e with
    | some ie => some fun i => some (i * ie.size, ie.size)
    | none => none
  | some (.struct fields) => match fields.toList.mapM (fun f => (P.info? f.type).map fun i => (f.offset, i.size)) with
    | some ps => some fun i => ps.toArray[i]?
    | none => none
  | _ => none

theorem goes_build (R : Rel C σ w) (H : TRel C w tm a.tmps n) {t : TypeId} {i : TypeInfo} {z : Value} {zs : List AV} {place : Nat → Option (Nat × Nat)} {parts : Array (Nat × Operand)} {ps : List (Nat × Nat × Opd)} (hi : P.info? t = some i) (hz : i.zero = some z) (hzs : cvs z.cells.toList = some zs)
    (hp : places P t = some place) (hps : cps n zs.length place parts.toList = some ps) (h : aop (.build zs ps) tm σ K) : Goes P a ⟨dst, .build t parts, T, pos, after, g⟩ C w K := by
  simp only [aop] at h
  obtain ⟨hs, hK⟩ := h
  have hzr : VRels C w zs z.cells.toList := cvs_sound hzs
  obtain ⟨us', h1, h2, h3⟩ := fill_sound H parts.toList ps zs z.cells.toList hps hs hzr hzr.length
  refine .pure (v := .agg us'.toArray) hK ?_ (by simp only [VRel]; exact ⟨us', rfl, h2⟩) R
  have hb : P.built t (parts.map fun (i, x) => (i, a.eval x)).toList = some us'.toArray := by
    unfold places at hp
    unfold Program.built
    rw [hi]
    split at hp
    · rename_i m e hu
      split at hp
      · rename_i ie hie
        cases hp
        simp only [hu, hz, hie]
        simpa using h1
      · cases hp
    · rename_i fields hu
      split at hp
      · rename_i pl hpl
        cases hp
        simp only [hu, hz, hpl]
        simpa using h1
      · cases hp
    · cases hp
  have := run_build w t _ _ hb
  simp only [execOp, Sem.run_bind, this, Result.andThen_ok]
  rfl
end
end Go.Abs
set_option linter.unusedVariables false
set_option linter.unusedSimpArgs false
namespace Go.Abs

theorem reps_length {α : Type} (z : List α) : ∀ n, (reps z n).length = n * z.length
  | 0 => by simp [reps]
  | n + 1 => by simp [reps, reps_length z n, Nat.add_mul]; omega
theorem reps_get {α : Type} (z : List α) : ∀ (n i : Nat), i < n * z.length → (reps z n)[i]? = z[i % z.length]?
  | 0, i, h => by simp at h
  | n + 1, i, h => by
    simp only [reps]
    by_cases hi : i < z.length
    · rw [List.getElem?_append_left hi, Nat.mod_eq_of_lt hi]
    · have hm : (n + 1) * z.length = n * z.length + z.length := by rw [Nat.add_mul, Nat.one_mul]
      rw [List.getElem?_append_right (by omega), reps_get z n (i - z.length) (by omega)]
      congr 1
      exact (Nat.mod_eq_sub_mod (by omega)).symm
theorem range_reps (z : Value) (n s : Nat) (hs : z.cells.size = s) : ((Array.range (n * s)).map (z.cells[· % z.cells.size]!)) = (reps z.cells.toList n).toArray := by
  apply Array.ext_getElem?
  intro i
  simp only [Array.getElem?_map, List.getElem?_toArray]
  by_cases hi : i < n * s
  · have hl : z.cells.toList.length = s := by simpa using hs
    rw [reps_get _ _ _ (by rw [hl]; exact hi), hl]
    have hpos : 0 < s := by
      rcases Nat.eq_zero_or_pos s with h | h
      · subst h; simp at hi
      · exact h
    have hm : i % s < z.cells.size := by rw [hs]; exact Nat.mod_lt _ hpos
    simp [Array.getElem?_range, hi, hs, hm, Array.getElem?_eq_getElem hm]
    exact getElem!_pos z.cells (i % s) hm
  · rw [Array.getElem?_eq_none (by simp; omega)]
    have : (reps z.cells.toList n).length = n * s := by rw [reps_length]; simp [hs]
    rw [List.getElem?_eq_none (by omega)]; rfl
theorem VRels.reps {C : Ctx} {w : World} {zs : List AV} {us : List Value} (h : VRels C w zs us) : ∀ n, VRels C w (Abs.reps zs n) (Abs.reps us n)
  | 0 => .nil
  | n + 1 => VRels.append h (VRels.reps h n)

def cqs (n N es : Nat) : List (Nat × Operand) → Option (List (Nat × Opd))
  | [] => some []
  | (i, x) :: r => match co n x, cqs n N es r with
    | some y, some r' => if i * es + es ≤ N then some ((i, y) :: r') else none
    | _, _ => none
theorem cqs_cps {n N es : Nat} : ∀ {parts : List (Nat × Operand)} {qs : List (Nat × Opd)}, cqs n N es parts = some qs → cps n N (fun i => some (i * es, es)) parts = some (qs.map fun (i, y) => (i * es, es, y))
  | [], qs, h => by simp [cqs] at h; subst h; rfl
  | (i, x) :: r, qs, h => by
    simp only [cqs] at h
    split at h
    · rename_i y r' h1 h2
      split at h
      · rename_i hle
        cases h
        simp only [cps, h1, cqs_cps h2, if_pos hle, List.map_cons]
      · cases h
    · cases h
theorem sizes_q {tm : Tm} {es : Nat} : ∀ (qs : List (Nat × Opd)), sizesOk tm (qs.map fun (i, y) => (i * es, es, y)) = sizesOkq tm es qs
  | [] => rfl
  | (i, y) :: r => by simp [sizesOk, sizesOkq, sizes_q r]
theorem rdps_q {tm : Tm} {es : Nat} : ∀ (qs : List (Nat × Opd)), rdps tm (qs.map fun (i, y) => (i * es, es, y)) = rdqs tm es qs
  | [] => rfl
  | (i, y) :: r => by simp [rdps, rdqs, rdps_q r]

section
variable {P : Program} {a : Act} {C : Ctx} {σ : St} {w : World} {K : AV → St → Prop} {tm : Tm} {n : Nat} {dst : Option Tmp} {T : TypeId} {pos : String} {after : Array Edge} {g : Option (Nat × Bool)}

theorem goes_bslice (R : Rel C σ w) (H : TRel C w tm a.tmps n) {t e : TypeId} {i : TypeInfo} {z : Value} {zs : List AV} {len : Nat} {parts : Array (Nat × Operand)} {qs : List (Nat × Opd)} (ht : P.underlying t = some (.slice e)) (hi : P.info? e = some i) (hz : i.zero = some z) (hzs : cvs z.cells.toList = some zs)
    (hzl : zs.length = i.size) (hpos : 0 < i.size) (hsmall : len * i.size ≤ 16777216) (hqs : cqs n (len * i.size) i.size parts.toList = some qs) (h : aop (.bslice e zs i.size len qs) tm σ K) : Goes P a ⟨dst, .buildSlice t len parts, T, pos, after, g⟩ C w K := by
  simp only [aop] at h
  obtain ⟨hs, hK⟩ := h
  have hzr : VRels C w zs z.cells.toList := cvs_sound hzs
  have hzl2 : z.cells.size = i.size := by have := hzr.length; simp at this; omega
  obtain ⟨us', h1, h2, h3⟩ := fill_sound H (N := len * i.size) parts.toList _ (reps zs len) (reps z.cells.toList len) (cqs_cps hqs) (by rw [sizes_q]; exact hs) (hzr.reps len) (by rw [reps_length]; simp [hzl2])
  rw [rdps_q] at h2
  obtain ⟨R', E', V'⟩ := R.alloc_list e _ us' len h2
  refine .value hK ?_ V' R' E'
  by_cases h0 : len = 0
  · subst h0
    have hp0 : parts.toList = [] := by
      cases hpl : parts.toList with
      | nil => rfl
      | cons p r =>
        rw [hpl] at hqs
        simp only [cqs] at hqs
        split at hqs
        · split at hqs
          · omega
          · cases hqs
        · cases hqs
    have hu0 : us' = [] := List.eq_nil_of_length_eq_zero (by omega)
    subst hu0
    have hpa : parts = #[] := by apply Array.ext'; simpa using hp0
    subst hpa
    simp [execOp, Instr.buildSlice, run_underlying ht, sizeOf_run hi, Instr.fill, newRow]
    rw [show (Array.range 0 : Array Nat) = #[] from rfl, Array.map_empty]
  · have hb := run_buildSlice (P := P) w t e len (parts.map fun (i, x) => (i, a.eval x)) us'.toArray i z ht hi hz (by omega) (by have := Nat.mul_pos (Nat.pos_of_ne_zero h0) hpos; omega) (by
      rw [range_reps z len i.size hzl2]
      simpa using h1)
    simp only [execOp, Sem.run_bind, hb, Result.andThen_ok]
    rfl

theorem goes_mslice (R : Rel C σ w) (H : TRel C w tm a.tmps n) {t e : TypeId} {i : TypeInfo} {z : Value} {zs : List AV} {x y : Operand} {x' y' : Opd} (ht : P.underlying t = some (.slice e)) (hi : P.info? e = some i) (hz : i.zero = some z) (hzs : cvs z.cells.toList = some zs)
    (hzl : zs.length = i.size) (hpos : 0 < i.size) (hby : i.bytes ≤ 16384) (hx : co n x = some x') (hy : co n y = some y') (h : aop (.mslice e zs i.size i.bytes x' y') tm σ K) : Goes P a ⟨dst, .makeSlice t x y, T, pos, after, g⟩ C w K := by
  have h1 := co_sound H hx
  have h2 := co_sound H hy
  have hzr : VRels C w zs z.cells.toList := cvs_sound hzs
  have hzl2 : z.cells.size = i.size := by have := hzr.length; simp at this; omega
  simp only [aop] at h
  split at h
  · rename_i k l k' c hl hc
    rw [hl] at h1; rw [hc] at h2; simp only [VRel] at h1 h2
    obtain ⟨hl0, hlc, hcm, hK⟩ := h
    have hbc : (i.bytes : Int) * c ≤ 281474976710656 := by
      have : (i.bytes : Int) * c ≤ 16384 * 1073741824 := Int.mul_le_mul (by omega) hcm (by omega) (by omega)
      omega
    have hrun := run_make (P := P) w t e i z ht hi hz k k' l c hl0 hlc hbc (by omega)
    obtain ⟨R', E'⟩ := R.alloc_arr i.size e (reps zs c.toNat) (reps z.cells.toList c.toNat) [] (hzr.reps _)
    refine .value hK ?_ (vrel_put_sl _ _ _ _ l.toNat c.toNat (by omega) (by simp [reps_length, hzl2])) R' E'
    have hm : madeCells z.cells (c.toNat * i.size) = (reps z.cells.toList c.toNat).toArray := range_reps z _ _ hzl2
    rw [hm] at hrun
    simp [execOp, h1, h2, hrun]
  · exact h.elim

/-- What is appended, for the machine. -/
theorem src_sound (R : Rel C σ w) {es k : Nat} {x : AV} {v : Value} {ys : List AV} (hx : VRel C w x v) (h : srcA es σ x = some (ys, k)) (hl : ys.length = k * es) : Source C w P es k ys v := by
  unfold srcA at h
  split at h
  · cases h
    simp only [VRel] at hx; subst hx
    exact ⟨[], .nil, by simp [Builtin.lenOf], hl, fun w' _ => by simp [Builtin.firstCells]⟩
  · rename_i s
    cases h
    simp only [VRel] at hx; subst hx
    simp only [List.length_map] at hl
    refine ⟨s.map fun b => .int .u8 b.toNat, ?_, by simp [Builtin.lenOf, ba_size], by simpa using hl, fun w' _ => ?_⟩
    · refine VRels.of_get (by simp) fun i y hy => ?_
      rw [List.getElem?_map] at hy ⊢
      cases hb : s[i]? with
      | none => simp [hb] at hy
      | some b => simp [hb] at hy; subst hy; exact ⟨.int .u8 b.toNat, by simp, by simp only [VRel]⟩
    · simp only [Builtin.firstCells, Sem.run_pure]
      congr 1
      rw [ba_extract]
      apply Array.ext'
      simp
  · rename_i xs c
    cases h
    simp only [VRel] at hx
    obtain ⟨b, o, c', us, rfl, _, _, _, hul, hc, hus⟩ := hx
    exact ⟨us, hus, by simp [Builtin.lenOf], hl, fun w' hw' => run_loadCells P w' b o _ us (by omega) fun j u hu => hw' _ _ _ (hc j u hu)⟩
  · rename_i id gen off len
    split at h
    · rename_i es' cells g fz hid
      split at h
      · rename_i hcond
        obtain ⟨rfl, rfl, hle⟩ := hcond
        cases h
        simp only [VRel] at hx
        obtain ⟨ad, c, rfl, hc, hg, h3⟩ := hx
        obtain ⟨g0, L, cs, ty, fr, us, g1, g2, g3, g4, g5, g6, g7, g8, g9, g10⟩ := R.blk id _ hid
        obtain ⟨L', o', hL', rfl, _, hoc, hcap⟩ := h3 g0
        rw [g1] at hL'; cases hL'
        refine ⟨(us.drop off).take (k * es'), (g10.drop _).take _, by simp [Builtin.lenOf], hl, fun w' hw' => ?_⟩
        rcases hoc with hz | rfl
        · have : k = 0 := by omega
          subst this
          simp [Builtin.firstCells, loadCells, loadCellsFrom]
        · refine run_loadCells P w' L.b (L.base + o') _ _ (by simp only [List.length_take, List.length_drop]; omega) fun j u hu => hw' _ _ _ ?_
          rw [List.getElem?_take] at hu
          split at hu
          · rw [List.getElem?_drop] at hu
            rw [cell_of g3, show L.base + o' + j = L.base + (o' + j) from by omega]; exact g9 _ u hu
          · cases hu
      · cases h
    · cases h
  · cases h

theorem run_append_none {sT xT e : TypeId} {es bytes : Nat} {z : Value} (E : ElemOf P sT xT e es bytes z) (w : World) (ad : Option Addr) (len c : Nat) (x : Value) (hc : len ≤ c) (hk : (Builtin.lenOf x).run P w = .ok 0 w)
    (hx : (Builtin.firstCells es 0 x).run P w = .ok #[] w) (T : TypeId) : (Builtin.append_ #[sT, xT] T #[.slice ad len c, x]).run P w = .ok (.slice ad len c) w := by
  obtain ⟨d, hd, hdi⟩ := E.xt
  obtain ⟨i, hi, hs, _, _⟩ := E.info
  have hsz : (sizeOf e).run P w = .ok es w := by simp [sizeOf, typeInfo, hi, hs]
  have hz : (match d with | .int _ => true | _ => false) = false := by
    cases d with
    | int q => exact absurd rfl (hdi q)
    | _ => rfl
  simp only [Builtin.append_]
  cases ad <;> simp [underlying, E.sl, hd, hsz, hz, hk, hc, hx, storeCells]

theorem goes_app (R : Rel C σ w) (H : TRel C w tm a.tmps n) {sT xT e : TypeId} {es bytes : Nat} {z : Value} (E : ElemOf P sT xT e es bytes z) (hz : z.cells.size = es) {x y : Operand} {x' y' : Opd} (hx : co n x = some x') (hy : co n y = some y')
    (h : aop (.app es x' y') tm σ K) : Goes P a ⟨dst, .call ⟨.builtin .append, #[x, y], #[sT, xT]⟩, T, pos, after, g⟩ C w K := by
  have h1 := co_sound H hx
  have h2 := co_sound H hy
  have hcall : ∀ v w', (Builtin.append_ #[sT, xT] T #[a.eval x, a.eval y]).run P w = .ok v w' →
      (execOp a.eval ⟨dst, .call ⟨.builtin .append, #[x, y], #[sT, xT]⟩, T, pos, after, g⟩).run P w = .ok (.value v) w' := fun v w' hv => goes_call_builtin _ _ (by simp [builtin, hv])
  simp only [aop] at h
  split at h
  · exact h.elim
  · rename_i ys k hsrc
    obtain ⟨hyl, hone, h⟩ := h
    have S := src_sound (P := P) R h2 hsrc hyl
    have honeV : ∀ vs : List Value, VRels C w ys vs → ∀ u ∈ vs, u.oneCell' = true := fun vs hv => hv.one_all hone
    split at h
    · rename_i hk0
      subst hk0
      obtain ⟨vs, hv, hlen, hyl2, hfc⟩ := S
      have hys : ys = [] := List.eq_nil_of_length_eq_zero (by simpa using hyl)
      subst hys
      simp only [VRels] at hv; subst hv
      have hf := hfc w fun _ _ _ h => h
      split at h
      · rename_i hs
        rw [hs] at h1
        have h1' := h1
        simp only [VRel] at h1'
        refine .pure h (hcall _ _ ?_) h1 R
        rw [h1']; exact run_append_none E w none 0 0 _ (Nat.le_refl _) hlen hf T
      · rename_i id gen off len hs
        rw [hs] at h1
        have h1' := h1
        simp only [VRel] at h1'
        obtain ⟨ad, c, hv, hc, _⟩ := h1'
        refine .pure h.2 (hcall _ _ ?_) h1 R
        rw [hv]; exact run_append_none E w (some ad) len c _ hc hlen hf T
      · rename_i xs len cap hs
        rw [hs] at h1
        simp only [VRel] at h1
        obtain ⟨b, o, c, us, hv, hc, hcc, hl, hul, hcell, hus⟩ := h1
        refine .pure (v := a.eval x) h (hcall _ _ ?_) ?_ R
        · rw [hv]; exact run_append_none E w _ len c _ hc hlen hf T
        · simp only [VRel]; exact ⟨b, o, c, us, hv, hc, (fun k hk => by cases hk), hl, hul, hcell, hus⟩
      · exact h.elim
    · rename_i hk0
      have hkpos : 0 < k := Nat.pos_of_ne_zero hk0
      split at h
      · rename_i hs
        rw [hs] at h1
        obtain ⟨hle, hK⟩ := h
        obtain ⟨C', w', v, hr, R', E', V'⟩ := Rel.append_new E hz R (len := 0) (xs := []) hkpos (by omega) (by simp) (.inl ⟨h1, rfl⟩) S T
        simp only [List.nil_append, Nat.zero_add] at R' V'
        exact .value hK (hcall _ _ hr) V' R' E'
      · rename_i xs len cap hs
        rw [hs] at h1
        obtain ⟨rfl, hxl, hle, hK⟩ := h
        obtain ⟨C', w', v, hr, R', E', V'⟩ := Rel.append_new E hz R hkpos (by omega) hxl (.inr h1) S T
        exact .value hK (hcall _ _ hr) V' R' E'
      · rename_i id gen off len hs
        rw [hs] at h1
        split at h
        · rename_i es' cells gg fz hid
          obtain ⟨rfl, rfl, hin, hfz, hle, hK⟩ := h
          obtain ⟨C', w', v, hr, R', E', V'⟩ := Rel.append_sl E hz R hid hin hfz hkpos (by omega) h1 S honeV T
          exact .value hK (hcall _ _ hr) V' R' E'
        · exact h.elim
      · exact h.elim
theorem run_b2s (f : Value → ByteArray → Sem (ForInStep ByteArray)) (hf : ∀ m s, f (.int .u8 m) s = pure (ForInStep.yield (s.push (UInt8.ofNat m.toNat)))) (ys : List AV) : ∀ (vs : List Value) (bs : List UInt8) (acc : ByteArray), VRels C w ys vs → bytesOf ys = some bs →
    (forIn vs acc f : Sem ByteArray).run P w = .ok ⟨acc.data ++ bs.toArray⟩ w := by
  induction ys with
  | nil =>
    intro vs bs acc V h
    simp only [VRels] at V; subst V
    simp [bytesOf] at h; subst h
    simp
  | cons y ys ih =>
    intro vs bs acc V h
    simp only [VRels] at V
    obtain ⟨u, r, rfl, hy, hr⟩ := V
    simp only [bytesOf] at h
    split at h
    · rename_i m rr hb
      cases h
      simp only [VRel] at hy
      subst hy
      simp only [List.forIn_cons, hf, Sem.run_bind, Sem.run_pure, Result.andThen_ok]
      rw [ih r rr _ hr hb]
      congr 1
      simp [ByteArray.push]
    · cases h

theorem goes_b2s (R : Rel C σ w) (H : TRel C w tm a.tmps n) {s d e : TypeId} (hs : P.underlying s = some (.slice e)) (he : P.underlying e = some (.int .u8)) (hd : P.underlying d = some .string) {x : Operand} {x' : Opd} (hx : co n x = some x') (h : aop (.b2s x') tm σ K) :
    Goes P a ⟨dst, .convert s d x, T, pos, after, g⟩ C w K := by
  have h1 := co_sound H hx
  simp only [aop] at h
  split at h
  · rename_i hb
    rw [hb] at h1; simp only [VRel] at h1
    refine .pure (v := .string ⟨#[]⟩) h ?_ (by simp only [VRel]) R
    simp [execOp, h1, convert, run_underlying hs, run_underlying hd, run_underlying he, Conv.bytesToString]
    rfl
  · exact h.elim
  · rename_i v hn1 hn2
    split at h
    · rename_i ys k hsrc
      obtain ⟨hl, h⟩ := h
      split at h
      · rename_i bs hbs
        have hS := src_sound (P := P) R h1 hsrc (by omega)
        obtain ⟨vs, hvs, hlen, _, hrun⟩ := hS
        have hrun := hrun w (fun _ _ _ hh => hh)
        have hsl : ∃ ad c, a.eval x = .slice (some ad) k c := by
          generalize hv : rd tm x' = v at *
          cases v <;> simp only [srcA] at hsrc <;> first
            | (cases hsrc; done)
            | (exact absurd rfl (hn2 _))
            | (exact absurd rfl hn1)
            | skip
          · simp only [VRel] at h1
            obtain ⟨b, o, c', us, hv2, _⟩ := h1
            cases hsrc
            exact ⟨_, _, hv2⟩
          · simp only [VRel] at h1
            obtain ⟨ad, c, hv2, _⟩ := h1
            split at hsrc
            · split at hsrc
              · cases hsrc; exact ⟨_, _, hv2⟩
              · cases hsrc
            · cases hsrc
        obtain ⟨ad, c, hv⟩ := hsl
        rw [hv] at hrun
        simp only [Builtin.firstCells, Nat.mul_one] at hrun
        refine .pure (v := .string ⟨bs.toArray⟩) h ?_ (by simp only [VRel]) R
        have hr := fun f hf => run_b2s (P := P) (C := C) f hf ys vs bs ByteArray.empty hvs hbs
        simp only [execOp, hv, convert, Sem.run_bind, run_underlying hs, run_underlying hd, run_underlying he, Result.andThen_ok, Conv.bytesToString, hrun]
        rw [List.forIn_toArray]
        rw [hr _ (fun _ _ => rfl)]
        simp [ByteArray.empty, ByteArray.emptyWithCapacity]
        try rfl
      · exact h.elim
    · exact h.elim
end
end Go.Abs
set_option linter.unusedVariables false
set_option linter.unusedSimpArgs false
namespace Go.Abs
section
variable {P : Program} {C : Ctx} {σ : St} {w : World} {tm : Tm} {n : Nat} {a : Act} {dst : Option Tmp} {T : TypeId} {pos : _} {after : _} {g : _} {K : AV → St → Prop}

theorem reps_one {z : List AV} (h : z.all AV.one = true) : ∀ n, (reps z n).all AV.one = true
  | 0 => rfl
  | n + 1 => by simp only [reps, List.all_append, h, reps_one h n, Bool.and_self]

theorem goes_clrS (R : Rel C σ w) (H : TRel C w tm a.tmps n) {t e : TypeId} {i : TypeInfo} {z : Value} {zs : List AV} {x : Operand} {x' : Opd} (ht : P.underlying t = some (.slice e)) (hi : P.info? e = some i) (hz : i.zero = some z) (hzs : cvs z.cells.toList = some zs)
    (hzl : zs.length = i.size) (hpos : 0 < i.size) (hx : co n x = some x') (h : aop (.clr i.size zs x') tm σ K) : Goes P a ⟨dst, .call ⟨.builtin .clear, #[x], #[t]⟩, T, pos, after, g⟩ C w K := by
  have h1 := co_sound H hx
  have hzr : VRels C w zs z.cells.toList := cvs_sound hzs
  have hzl2 : z.cells.size = i.size := by have := hzr.length; simp at this; omega
  have hzero : (zeroValue e).run P w = .ok z w := by simp [zeroValue, typeInfo, hi, hz]
  have hnil : VRel C w (.tup []) (.tuple #[]) := by simp only [VRel]; exact ⟨[], rfl, .nil⟩
  simp only [aop] at h
  split at h
  · rename_i hs
    rw [hs] at h1; simp only [VRel] at h1
    refine .pure (v := .tuple #[]) h (goes_call_builtin _ _ ?_) hnil R
    simp [builtin, Builtin.clear_, run_underlying ht, h1]
  · rename_i hs
    rw [hs] at h1; simp only [VRel] at h1
    refine .pure (v := .tuple #[]) h (goes_call_builtin _ _ ?_) hnil R
    simp [builtin, Builtin.clear_, run_underlying ht, h1]
  · rename_i id gen off len hs
    rw [hs] at h1; simp only [VRel] at h1
    split at h
    · rename_i es' cells gg fz hid
      obtain ⟨_, rfl, rfl, hfz, hle, hone, hK⟩ := h
      obtain ⟨ad, c, hval, hlc, _, hp⟩ := h1
      obtain ⟨h0, _⟩ := R.blk _ _ hid
      obtain ⟨L, o, hL, had, hoo, hoc, hcap⟩ := hp h0
      by_cases hl0 : len = 0
      · subst hl0
        rw [if_pos rfl] at hK
        refine .pure (v := .tuple #[]) hK (goes_call_builtin _ _ ?_) hnil R
        simp [builtin, Builtin.clear_, run_underlying ht, hval]
      · rw [if_neg hl0] at hK
        have hoe : o = off := by rcases hoc with h | h <;> omega
        subst hoe had
        have hrl : (reps zs len).length = len * i.size := by rw [reps_length, hzl]
        obtain ⟨L', w', hL', hg', hst, R', E'⟩ := R.store hid hfz (by rw [hrl]; exact hle) (hzr.reps len) ((hzr.reps len).one_all (reps_one hone len)) P
        rw [hL] at hL'; cases hL'
        refine .value (v := .tuple #[]) hK (goes_call_builtin _ _ ?_) (VRel.evol E' _ _ hnil) R' E'
        have hm : Builtin.zeroCells z.cells len = (reps z.cells.toList len).toArray := range_reps z len _ rfl
        obtain ⟨m, rfl⟩ : ∃ m, len = m + 1 := ⟨len - 1, by omega⟩
        simp [builtin, Builtin.clear_, run_underlying ht, hval, hzero, hm, hst]
    · exact h.elim
  · rename_i id hs
    rw [hs] at h1; simp only [VRel] at h1
    obtain ⟨b, hval, h2⟩ := h1
    split at h
    · rename_i k es hid
      have hb := R.blk _ _ hid
      simp only [BRel] at hb
      obtain ⟨h0, L, ms, cl, hL, hheap, hent⟩ := hb
      obtain ⟨L', hL', rfl⟩ := h2 h0
      rw [hL] at hL'; cases hL'
      obtain ⟨R', E'⟩ := R.setObj hL hheap (o' := .map #[] cl) (by intros; simp) (.mapI k []) (R.dom _ _ hid) (fun Ev => by
        simp only [BRel]
        exact ⟨h0, L, #[], cl, hL, World.setBlk_heap _ _ _ (R.own _ _ hL).2, by simp [entI]⟩)
      refine .value (v := .tuple #[]) h (goes_call_builtin _ _ ?_) (VRel.evol E' _ _ hnil) R' E'
      have hg := run_getObj P w _ _ hheap (by intros; simp)
      have hs := run_setObj P w _ _ (.map #[] cl) hheap (by intros; simp)
      simp [builtin, Builtin.clear_, run_underlying ht, hval, hg, hs]
    · rename_i es hid
      have hb := R.blk _ _ hid
      simp only [BRel] at hb
      obtain ⟨h0, L, ms, cl, hL, hheap, hent⟩ := hb
      obtain ⟨L', hL', rfl⟩ := h2 h0
      rw [hL] at hL'; cases hL'
      obtain ⟨R', E'⟩ := R.setObj hL hheap (o' := .map #[] cl) (by intros; simp) (.mapS []) (R.dom _ _ hid) (fun Ev => by
        simp only [BRel]
        exact ⟨h0, L, #[], cl, hL, World.setBlk_heap _ _ _ (R.own _ _ hL).2, by simp [entS]⟩)
      refine .value (v := .tuple #[]) h (goes_call_builtin _ _ ?_) (VRel.evol E' _ _ hnil) R' E'
      have hg := run_getObj P w _ _ hheap (by intros; simp)
      have hs := run_setObj P w _ _ (.map #[] cl) hheap (by intros; simp)
      simp [builtin, Builtin.clear_, run_underlying ht, hval, hg, hs]
    · exact h.elim
  · exact h.elim
theorem goes_clrM (R : Rel C σ w) (H : TRel C w tm a.tmps n) {t e e' : TypeId} {x : Operand} {x' : Opd} (ht : P.underlying t = some (.map e e')) (hx : co n x = some x') (h : aop (.clr 0 [] x') tm σ K) : Goes P a ⟨dst, .call ⟨.builtin .clear, #[x], #[t]⟩, T, pos, after, g⟩ C w K := by
  have h1 := co_sound H hx
  have hnil : VRel C w (.tup []) (.tuple #[]) := by simp only [VRel]; exact ⟨[], rfl, .nil⟩
  simp only [aop] at h
  split at h
  · rename_i hs
    rw [hs] at h1; simp only [VRel] at h1
    refine .pure (v := .tuple #[]) h (goes_call_builtin _ _ ?_) hnil R
    simp [builtin, Builtin.clear_, run_underlying ht, h1]
  · rename_i hs
    rw [hs] at h1; simp only [VRel] at h1
    refine .pure (v := .tuple #[]) h (goes_call_builtin _ _ ?_) hnil R
    simp [builtin, Builtin.clear_, run_underlying ht, h1]
  · rename_i id gen off len hs
    split at h
    · exact absurd h.1 (by omega)
    · exact h.elim
  · rename_i id hs
    rw [hs] at h1; simp only [VRel] at h1
    obtain ⟨b, hval, h2⟩ := h1
    split at h
    · rename_i k es hid
      have hb := R.blk _ _ hid
      simp only [BRel] at hb
      obtain ⟨h0, L, ms, cl, hL, hheap, hent⟩ := hb
      obtain ⟨L', hL', rfl⟩ := h2 h0
      rw [hL] at hL'; cases hL'
      obtain ⟨R', E'⟩ := R.setObj hL hheap (o' := .map #[] cl) (by intros; simp) (.mapI k []) (R.dom _ _ hid) (fun Ev => by
        simp only [BRel]
        exact ⟨h0, L, #[], cl, hL, World.setBlk_heap _ _ _ (R.own _ _ hL).2, by simp [entI]⟩)
      refine .value (v := .tuple #[]) h (goes_call_builtin _ _ ?_) (VRel.evol E' _ _ hnil) R' E'
      have hg := run_getObj P w _ _ hheap (by intros; simp)
      have hs := run_setObj P w _ _ (.map #[] cl) hheap (by intros; simp)
      simp [builtin, Builtin.clear_, run_underlying ht, hval, hg, hs]
    · rename_i es hid
      have hb := R.blk _ _ hid
      simp only [BRel] at hb
      obtain ⟨h0, L, ms, cl, hL, hheap, hent⟩ := hb
      obtain ⟨L', hL', rfl⟩ := h2 h0
      rw [hL] at hL'; cases hL'
      obtain ⟨R', E'⟩ := R.setObj hL hheap (o' := .map #[] cl) (by intros; simp) (.mapS []) (R.dom _ _ hid) (fun Ev => by
        simp only [BRel]
        exact ⟨h0, L, #[], cl, hL, World.setBlk_heap _ _ _ (R.own _ _ hL).2, by simp [entS]⟩)
      refine .value (v := .tuple #[]) h (goes_call_builtin _ _ ?_) (VRel.evol E' _ _ hnil) R' E'
      have hg := run_getObj P w _ _ hheap (by intros; simp)
      have hs := run_setObj P w _ _ (.map #[] cl) hheap (by intros; simp)
      simp [builtin, Builtin.clear_, run_underlying ht, hval, hg, hs]
    · exact h.elim
  · exact h.elim
end
end Go.Abs
set_option linter.unusedVariables false
set_option linter.unusedSimpArgs false
namespace Go.Abs

def chk (b : Bool) : Option Unit := if b then some () else none
theorem chk_some {b : Bool} {u : Unit} (h : chk b = some u) : b = true := by
  unfold chk at h; split at h
  · assumption
  · cases h

def compAlloc (P : Program) (e : TypeId) : Option COp := (P.info? e).bind fun i => i.zero.bind fun z => (cvs z.cells.toList).bind fun zs => some (.alloc e zs)
def compBuild (P : Program) (n : Nat) (t : TypeId) (ps : Array (Nat × Operand)) : Option COp :=
  (P.info? t).bind fun i => i.zero.bind fun z => (cvs z.cells.toList).bind fun zs => (places P t).bind fun pl => (cps n zs.length pl ps.toList).bind fun l => some (.build zs l)
def elemS (P : Program) (t : TypeId) : Option TypeId := match P.underlying t with
  | some (.slice e) => some e
  | _ => none
theorem elemS_some {P : Program} {t e : TypeId} (h : elemS P t = some e) : P.underlying t = some (.slice e) := by
  unfold elemS at h
  split at h
  · cases h; assumption
  · cases h
def compBslice (P : Program) (n : Nat) (t : TypeId) (len : Nat) (ps : Array (Nat × Operand)) : Option COp :=
  (elemS P t).bind fun e => (P.info? e).bind fun i => i.zero.bind fun z => (cvs z.cells.toList).bind fun zs =>
    (chk (zs.length == i.size && decide (0 < i.size) && decide (len * i.size ≤ 16777216))).bind fun _ => (cqs n (len * i.size) i.size ps.toList).bind fun l => some (.bslice e zs i.size len l)
def compMslice (P : Program) (n : Nat) (t : TypeId) (x y : Operand) : Option COp :=
  (elemS P t).bind fun e => (P.info? e).bind fun i => i.zero.bind fun z => (cvs z.cells.toList).bind fun zs =>
    (chk (zs.length == i.size && decide (0 < i.size) && decide (i.bytes ≤ 16384))).bind fun _ => (co n x).bind fun x' => (co n y).bind fun y' => some (.mslice e zs i.size i.bytes x' y')
def compLoad (P : Program) (n : Nat) (t : TypeId) (x : Operand) : Option COp :=
  (P.underlying t).bind fun d => (P.info? t).bind fun i => (co n x).bind fun y => some (if aggD d then .loadA i.size y else .load1 y)
def compStore (P : Program) (n : Nat) (t : TypeId) (x v : Operand) : Option COp := (P.info? t).bind fun i => (co n x).bind fun y => (co n v).bind fun u => some (.store i.size y u)
def isInt (d : TypeDesc) : Option IntKind := match d with
  | .int k => some k
  | _ => none
theorem isInt_some {d : TypeDesc} {k : IntKind} (h : isInt d = some k) : d = .int k := by
  unfold isInt at h; split at h <;> cases h; rfl
def isTy (P : Program) (t : TypeId) (f : TypeDesc → Bool) : Bool := match P.underlying t with
  | some d => f d
  | none => false
def dStr : TypeDesc → Bool
  | .string => true
  | _ => false
def dU8 : TypeDesc → Bool
  | .int .u8 => true
  | _ => false
theorem isTy_str {P : Program} {t : TypeId} (h : isTy P t dStr = true) : P.underlying t = some .string := by
  unfold isTy at h
  split at h
  · rename_i d hd
    unfold dStr at h
    split at h
    · exact hd
    · cases h
  · cases h
theorem isTy_u8 {P : Program} {t : TypeId} (h : isTy P t dU8 = true) : P.underlying t = some (.int .u8) := by
  unfold isTy at h
  split at h
  · rename_i d hd
    unfold dU8 at h
    split at h
    · exact hd
    · cases h
  · cases h
def compConv (P : Program) (n : Nat) (s d : TypeId) (x : Operand) : Option COp :=
  if isTy P d dStr then (elemS P s).bind fun e => (chk (isTy P e dU8)).bind fun _ => (co n x).bind fun y => some (.b2s y)
  else (P.underlying s).bind fun sd => (P.underlying d).bind fun dd => (isInt dd).bind fun k => (co n x).bind fun y => some (.convI k y)
def fieldsOf (P : Program) (t : TypeId) : Option (Array Field) := match P.underlying t with
  | some (.struct fs) => some fs
  | _ => none
theorem fieldsOf_some {P : Program} {t : TypeId} {fs : Array Field} (h : fieldsOf P t = some fs) : P.underlying t = some (.struct fs) := by
  unfold fieldsOf at h
  split at h
  · cases h; assumption
  · cases h
def compFaddr (P : Program) (n : Nat) (s : TypeId) (x : Operand) (f : Nat) : Option COp :=
  (fieldsOf P s).bind fun fs => (fs[f]?).bind fun fd => (P.info? fd.type).bind fun i => (chk (i.size != 0)).bind fun _ => (co n x).bind fun y => some (.faddr fd.offset y)
def compField (P : Program) (n : Nat) (s : TypeId) (x : Operand) (f : Nat) : Option COp :=
  (fieldsOf P s).bind fun fs => (fs[f]?).bind fun fd => (P.info? fd.type).bind fun i => (P.underlying fd.type).bind fun d => (co n x).bind fun y => some (if aggD d then .fieldA fd.offset i.size y else .field1 fd.offset y)
def compIaddr (P : Program) (n : Nat) (t : TypeId) (x y : Operand) : Option COp :=
  (elemS P t).bind fun e => (P.info? e).bind fun i => (co n x).bind fun x' => (co n y).bind fun y' => some (.iaddr i.size x' y')
def isStr (P : Program) (t : TypeId) : Bool := match P.underlying t with
  | some .string => true
  | _ => false
theorem isStr_true {P : Program} {t : TypeId} (h : isStr P t = true) : P.underlying t = some .string := by
  unfold isStr at h
  split at h
  · assumption
  · cases h
def compIstr (P : Program) (n : Nat) (t : TypeId) (x y : Operand) : Option COp :=
  (chk (isStr P t)).bind fun _ => (co n x).bind fun x' => (co n y).bind fun y' => some (.istr x' y')
def compSlice (P : Program) (n : Nat) (t : TypeId) (x : Operand) (lo hi : Option Operand) : Option COp :=
  (co n x).bind fun x' => (coO n lo).bind fun lo' => (coO n hi).bind fun hi' =>
    if isStr P t then some (.slstr x' lo' hi') else (elemS P t).bind fun e => (P.info? e).bind fun i => some (.slsl i.size x' lo' hi')
def mapOf (P : Program) (t : TypeId) : Option (TypeId × TypeId) := match P.underlying t with
  | some (.map k e) => some (k, e)
  | _ => none
theorem mapOf_some {P : Program} {t : TypeId} {k : TypeId × TypeId} (h : mapOf P t = some k) : P.underlying t = some (.map k.1 k.2) := by
  unfold mapOf at h
  split at h
  · cases h; assumption
  · cases h
def compMap (P : Program) (t : TypeId) : Option COp := (mapOf P t).bind fun ke => (P.underlying ke.1).bind fun d => if isStr P ke.1 then some .mkmapS else (isInt d).bind fun k => some (.mkmapI k)
def compLook (P : Program) (n : Nat) (t : TypeId) (x y : Operand) (ok : Bool) : Option COp :=
  (mapOf P t).bind fun ke => (P.underlying ke.1).bind fun d => (P.info? ke.2).bind fun i => i.zero.bind fun z => (cv z).bind fun zA => (co n x).bind fun x' => (co n y).bind fun y' =>
    if isStr P ke.1 then some (.lookS zA x' y' ok) else (isInt d).bind fun k => some (.lookI k zA x' y' ok)
def compUpd (P : Program) (n : Nat) (t : TypeId) (x y z : Operand) : Option COp :=
  (mapOf P t).bind fun ke => (P.underlying ke.1).bind fun d => (co n x).bind fun x' => (co n y).bind fun y' => (co n z).bind fun z' =>
    if isStr P ke.1 then some (.updS x' y' z') else (isInt d).bind fun k => some (.updI k x' y' z')
def compLen (P : Program) (n : Nat) (t : TypeId) (x : Operand) : Option COp :=
  (co n x).bind fun x' => match P.underlying t with
    | some .string => some (.lenS x')
    | some (.slice _) => some (.lenL x')
    | some (.map _ _) => some (.lenM x')
    | _ => none
def notInt (P : Program) (t : TypeId) : Bool := match P.underlying t with
  | some (.int _) => false
  | some _ => true
  | none => false
def compApp (P : Program) (n : Nat) (sT xT : TypeId) (x y : Operand) : Option COp :=
  (elemS P sT).bind fun e => (P.info? e).bind fun i => i.zero.bind fun z => (chk (notInt P xT && z.cells.size == i.size && decide (0 < i.size) && decide (i.bytes ≤ 16384))).bind fun _ =>
    (co n x).bind fun x' => (co n y).bind fun y' => some (.app i.size x' y')
def compClr (P : Program) (n : Nat) (t : TypeId) (x : Operand) : Option COp := match P.underlying t with
  | some (.slice e) => (P.info? e).bind fun i => i.zero.bind fun z => (cvs z.cells.toList).bind fun zs => (chk (zs.length == i.size && decide (0 < i.size))).bind fun _ => (co n x).bind fun x' => some (.clr i.size zs x')
  | some (.map _ _) => (co n x).bind fun x' => some (.clr 0 [] x')
  | _ => none
def compBuiltin (P : Program) (n : Nat) (b : Builtin) (args : List Operand) (ts : List TypeId) : Option COp := match b, args, ts with
  | .len, [x], [t] => compLen P n t x
  | .append, [x, y], [sT, xT] => compApp P n sT xT x y
  | .max, [x, y], _ => (co n x).bind fun x' => (co n y).bind fun y' => some (.max x' y')
  | .clear, [x], [t] => compClr P n t x
  | .min, [x, y], _ => (co n x).bind fun x' => (co n y).bind fun y' => some (.min x' y')
  | _, _, _ => none

def isEq : BinOp → Bool
  | .eql | .neq => true
  | _ => false
def isNeq : BinOp → Bool
  | .neq => true
  | _ => false
theorem isEq_or {op : BinOp} (h : isEq op = true) : op = .eql ∨ op = .neq := by cases op <;> simp [isEq] at h <;> simp
theorem isNeq_eq (op : BinOp) : decide (op = .neq) = isNeq op := by cases op <;> rfl

/-- An operation that calls nothing. -/
def compOp (P : Program) (n : Nat) : Op → Option COp
  | .move x | .assign x => (co n x).bind fun y => some (.mv y)
  | .pick c a b => (co n c).bind fun c' => (co n a).bind fun a' => (co n b).bind fun b' => some (.pick c' a' b')
  | .alloc e => compAlloc P e
  | .box e x => (co n x).bind fun y => some (.box e y)
  | .build t ps => compBuild P n t ps
  | .buildSlice t len ps => compBslice P n t len ps
  | .makeSlice t x y => compMslice P n t x y
  | .load t x => compLoad P n t x
  | .store t x v => compStore P n t x v
  | .nilCheck x => (co n x).bind fun y => some (.nilc y)
  | .binOp op t x y _ => (co n x).bind fun x' => (co n y).bind fun y' => if isEq op then (match eqTy P t with | some k => some (.eq2 k (isNeq op) x' y') | none => some (.bin op x' y')) else some (.bin op x' y')
  | .unOp .not _ x => (co n x).bind fun y => some (.not y)
  | .unOp .neg _ x => (co n x).bind fun y => some (.neg y)
  | .convert s d x => compConv P n s d x
  | .makeFunc (.func f) first caps => if first.size = 0 then (cos n caps.toList).bind fun l => some (.mkfn f l) else none
  | .makeMap t none => compMap P t
  | .slice t x lo hi none => compSlice P n t x lo hi
  | .fieldAddr s x f => compFaddr P n s x f
  | .field s x f => compField P n s x f
  | .indexAddr t x y => compIaddr P n t x y
  | .index t x y => compIstr P n t x y
  | .lookup t x y ok => compLook P n t x y ok
  | .mapUpdate t x y z | .insert t x y z => compUpd P n t x y z
  | .extract x i => (co n x).bind fun y => some (.extr y i)
  | .call ⟨.builtin b, args, ts⟩ => compBuiltin P n b args.toList ts.toList
  | .range t x => (chk (isTy P t dStr)).bind fun _ => (co n x).bind fun y => some (.rangeS y)
  | .next x true => (co n x).bind fun y => some (.nextS y)
  | _ => none

theorem comp_sound {P : Program} {a : Act} {C : Ctx} {σ : St} {w : World} {K : AV → St → Prop} {tm : Tm} {n : Nat} (R : Rel C σ w) (H : TRel C w tm a.tmps n) {o : Oper} {c : COp} (hc : compOp P n o.op = some c) (h : aop c tm σ K) : Goes P a o C w K := by
  obtain ⟨dst, op, T, pos, after, g⟩ := o
  change compOp P n op = some c at hc
  unfold compOp at hc
  split at hc
  · obtain ⟨y, hy, hc⟩ := Option.bind_eq_some_iff.1 hc; cases hc; exact goes_move R H hy h
  · obtain ⟨y, hy, hc⟩ := Option.bind_eq_some_iff.1 hc; cases hc; exact goes_assign R H hy h
  · obtain ⟨x, hx, hc⟩ := Option.bind_eq_some_iff.1 hc
    obtain ⟨y, hy, hc⟩ := Option.bind_eq_some_iff.1 hc
    obtain ⟨z, hz, hc⟩ := Option.bind_eq_some_iff.1 hc
    cases hc; exact goes_pick R H hx hy hz h
  · unfold compAlloc at hc
    obtain ⟨i, hi, hc⟩ := Option.bind_eq_some_iff.1 hc
    obtain ⟨z, hz, hc⟩ := Option.bind_eq_some_iff.1 hc
    obtain ⟨zs, hzs, hc⟩ := Option.bind_eq_some_iff.1 hc
    cases hc; exact goes_alloc R hi hz hzs h
  · obtain ⟨y, hy, hc⟩ := Option.bind_eq_some_iff.1 hc; cases hc; exact goes_box R H hy h
  · unfold compBuild at hc
    obtain ⟨i, hi, hc⟩ := Option.bind_eq_some_iff.1 hc
    obtain ⟨z, hz, hc⟩ := Option.bind_eq_some_iff.1 hc
    obtain ⟨zs, hzs, hc⟩ := Option.bind_eq_some_iff.1 hc
    obtain ⟨pl, hpl, hc⟩ := Option.bind_eq_some_iff.1 hc
    obtain ⟨l, hl, hc⟩ := Option.bind_eq_some_iff.1 hc
    cases hc; exact goes_build R H hi hz hzs hpl hl h
  · unfold compBslice at hc
    obtain ⟨e, he, hc⟩ := Option.bind_eq_some_iff.1 hc
    obtain ⟨i, hi, hc⟩ := Option.bind_eq_some_iff.1 hc
    obtain ⟨z, hz, hc⟩ := Option.bind_eq_some_iff.1 hc
    obtain ⟨zs, hzs, hc⟩ := Option.bind_eq_some_iff.1 hc
    obtain ⟨u, hu, hc⟩ := Option.bind_eq_some_iff.1 hc
    obtain ⟨l, hl, hc⟩ := Option.bind_eq_some_iff.1 hc
    have := chk_some hu
    simp only [Bool.and_eq_true, beq_iff_eq, decide_eq_true_eq] at this
    cases hc; exact goes_bslice R H (elemS_some he) hi hz hzs this.1.1 this.1.2 this.2 hl h
  · unfold compMslice at hc
    obtain ⟨e, he, hc⟩ := Option.bind_eq_some_iff.1 hc
    obtain ⟨i, hi, hc⟩ := Option.bind_eq_some_iff.1 hc
    obtain ⟨z, hz, hc⟩ := Option.bind_eq_some_iff.1 hc
    obtain ⟨zs, hzs, hc⟩ := Option.bind_eq_some_iff.1 hc
    obtain ⟨u, hu, hc⟩ := Option.bind_eq_some_iff.1 hc
    obtain ⟨x, hx, hc⟩ := Option.bind_eq_some_iff.1 hc
    obtain ⟨y, hy, hc⟩ := Option.bind_eq_some_iff.1 hc
    have := chk_some hu
    simp only [Bool.and_eq_true, beq_iff_eq, decide_eq_true_eq] at this
    cases hc; exact goes_mslice R H (elemS_some he) hi hz hzs this.1.1 this.1.2 this.2 hx hy h
  · unfold compLoad at hc
    obtain ⟨d, hd, hc⟩ := Option.bind_eq_some_iff.1 hc
    obtain ⟨i, hi, hc⟩ := Option.bind_eq_some_iff.1 hc
    obtain ⟨y, hy, hc⟩ := Option.bind_eq_some_iff.1 hc
    cases hag : aggD d
    · simp only [hag] at hc; cases hc; exact goes_load1 R H hd hag hy h
    · simp only [hag] at hc; cases hc; exact goes_loadA R H hd hag hi hy h
  · unfold compStore at hc
    obtain ⟨i, hi, hc⟩ := Option.bind_eq_some_iff.1 hc
    obtain ⟨y, hy, hc⟩ := Option.bind_eq_some_iff.1 hc
    obtain ⟨u, hu, hc⟩ := Option.bind_eq_some_iff.1 hc
    cases hc; exact goes_store R H hi hy hu h
  · obtain ⟨y, hy, hc⟩ := Option.bind_eq_some_iff.1 hc; cases hc; exact goes_nilc R H hy h
  · obtain ⟨x, hx, hc⟩ := Option.bind_eq_some_iff.1 hc
    obtain ⟨y, hy, hc⟩ := Option.bind_eq_some_iff.1 hc
    split at hc
    · rename_i hq
      split at hc
      · rename_i k hk
        cases hc
        rw [← isNeq_eq] at h
        exact goes_eq2 R H hk (isEq_or hq) hx hy h
      · cases hc; exact goes_bin R H hx hy h
    · cases hc; exact goes_bin R H hx hy h
  · obtain ⟨y, hy, hc⟩ := Option.bind_eq_some_iff.1 hc; cases hc; exact goes_not R H hy h
  · obtain ⟨y, hy, hc⟩ := Option.bind_eq_some_iff.1 hc; cases hc; exact goes_neg R H hy h
  · unfold compConv at hc
    split at hc
    · rename_i hstr
      obtain ⟨e, he, hc⟩ := Option.bind_eq_some_iff.1 hc
      obtain ⟨u, hu, hc⟩ := Option.bind_eq_some_iff.1 hc
      obtain ⟨y, hy, hc⟩ := Option.bind_eq_some_iff.1 hc
      cases hc
      exact goes_b2s R H (elemS_some he) (isTy_u8 (chk_some hu)) (isTy_str hstr) hy h
    · obtain ⟨sd, hs, hc⟩ := Option.bind_eq_some_iff.1 hc
      obtain ⟨dd, hd, hc⟩ := Option.bind_eq_some_iff.1 hc
      obtain ⟨k, hk, hc⟩ := Option.bind_eq_some_iff.1 hc
      obtain ⟨y, hy, hc⟩ := Option.bind_eq_some_iff.1 hc
      cases hc
      exact goes_convI R H hs (by rw [hd, isInt_some hk]) hy h
  · rename_i f first caps
    split at hc
    · rename_i hf
      obtain ⟨l, hl, hc⟩ := Option.bind_eq_some_iff.1 hc
      have : first = #[] := Array.eq_empty_of_size_eq_zero hf
      subst this
      cases hc; exact goes_mkfn R H hl h
    · cases hc
  · unfold compMap at hc
    obtain ⟨ke, hke, hc⟩ := Option.bind_eq_some_iff.1 hc
    obtain ⟨d, hd, hc⟩ := Option.bind_eq_some_iff.1 hc
    split at hc
    · cases hc; exact goes_mkmapS R h
    · obtain ⟨k, hk, hc⟩ := Option.bind_eq_some_iff.1 hc
      cases hc; exact goes_mkmapI R h
  · unfold compSlice at hc
    obtain ⟨x, hx, hc⟩ := Option.bind_eq_some_iff.1 hc
    obtain ⟨lo, hlo, hc⟩ := Option.bind_eq_some_iff.1 hc
    obtain ⟨hi, hhi, hc⟩ := Option.bind_eq_some_iff.1 hc
    split at hc
    · rename_i hs
      cases hc; exact goes_slstr R H (isStr_true hs) hx hlo hhi h
    · obtain ⟨e, he, hc⟩ := Option.bind_eq_some_iff.1 hc
      obtain ⟨i, hi0, hc⟩ := Option.bind_eq_some_iff.1 hc
      cases hc; exact goes_slsl R H (elemS_some he) hi0 hx hlo hhi h
  · unfold compFaddr at hc
    obtain ⟨fs, hfs, hc⟩ := Option.bind_eq_some_iff.1 hc
    obtain ⟨fd, hfd, hc⟩ := Option.bind_eq_some_iff.1 hc
    obtain ⟨i, hi, hc⟩ := Option.bind_eq_some_iff.1 hc
    obtain ⟨u, hu, hc⟩ := Option.bind_eq_some_iff.1 hc
    obtain ⟨y, hy, hc⟩ := Option.bind_eq_some_iff.1 hc
    have := chk_some hu
    cases hc; exact goes_faddr R H (fieldsOf_some hfs) hfd hi (by simpa using this) hy h
  · unfold compField at hc
    obtain ⟨fs, hfs, hc⟩ := Option.bind_eq_some_iff.1 hc
    obtain ⟨fd, hfd, hc⟩ := Option.bind_eq_some_iff.1 hc
    obtain ⟨i, hi, hc⟩ := Option.bind_eq_some_iff.1 hc
    obtain ⟨d, hd, hc⟩ := Option.bind_eq_some_iff.1 hc
    obtain ⟨y, hy, hc⟩ := Option.bind_eq_some_iff.1 hc
    cases hag : aggD d
    · simp only [hag] at hc; cases hc; exact goes_field1 R H (fieldsOf_some hfs) hfd hi hd hag hy h
    · simp only [hag] at hc; cases hc; exact goes_fieldA R H (fieldsOf_some hfs) hfd hi hd hag hy h
  · unfold compIaddr at hc
    obtain ⟨e, he, hc⟩ := Option.bind_eq_some_iff.1 hc
    obtain ⟨i, hi, hc⟩ := Option.bind_eq_some_iff.1 hc
    obtain ⟨x, hx, hc⟩ := Option.bind_eq_some_iff.1 hc
    obtain ⟨y, hy, hc⟩ := Option.bind_eq_some_iff.1 hc
    cases hc; exact goes_iaddr R H (elemS_some he) hi hx hy h
  · unfold compIstr at hc
    obtain ⟨u, hu, hc⟩ := Option.bind_eq_some_iff.1 hc
    obtain ⟨x, hx, hc⟩ := Option.bind_eq_some_iff.1 hc
    obtain ⟨y, hy, hc⟩ := Option.bind_eq_some_iff.1 hc
    cases hc; exact goes_istr R H (isStr_true (chk_some hu)) hx hy h
  · unfold compLook at hc
    obtain ⟨ke, hke, hc⟩ := Option.bind_eq_some_iff.1 hc
    obtain ⟨d, hd, hc⟩ := Option.bind_eq_some_iff.1 hc
    obtain ⟨i, hi, hc⟩ := Option.bind_eq_some_iff.1 hc
    obtain ⟨z, hz, hc⟩ := Option.bind_eq_some_iff.1 hc
    obtain ⟨zA, hzA, hc⟩ := Option.bind_eq_some_iff.1 hc
    obtain ⟨x, hx, hc⟩ := Option.bind_eq_some_iff.1 hc
    obtain ⟨y, hy, hc⟩ := Option.bind_eq_some_iff.1 hc
    split at hc
    · rename_i hs
      cases hc; exact goes_lookS R H (mapOf_some hke) (isStr_true hs) hi hz hzA hx hy h
    · obtain ⟨k, hk, hc⟩ := Option.bind_eq_some_iff.1 hc
      cases hc; exact goes_lookI R H (mapOf_some hke) (by rw [hd, isInt_some hk]) hi hz hzA hx hy h
  · unfold compUpd at hc
    obtain ⟨ke, hke, hc⟩ := Option.bind_eq_some_iff.1 hc
    obtain ⟨d, hd, hc⟩ := Option.bind_eq_some_iff.1 hc
    obtain ⟨x, hx, hc⟩ := Option.bind_eq_some_iff.1 hc
    obtain ⟨y, hy, hc⟩ := Option.bind_eq_some_iff.1 hc
    obtain ⟨z, hz, hc⟩ := Option.bind_eq_some_iff.1 hc
    split at hc
    · rename_i hs
      cases hc; exact goes_updS R H (mapOf_some hke) (isStr_true hs) hx hy hz h
    · obtain ⟨k, hk, hc⟩ := Option.bind_eq_some_iff.1 hc
      cases hc; exact (goes_updI R H (mapOf_some hke) (by rw [hd, isInt_some hk]) hx hy hz h).1
  · unfold compUpd at hc
    obtain ⟨ke, hke, hc⟩ := Option.bind_eq_some_iff.1 hc
    obtain ⟨d, hd, hc⟩ := Option.bind_eq_some_iff.1 hc
    obtain ⟨x, hx, hc⟩ := Option.bind_eq_some_iff.1 hc
    obtain ⟨y, hy, hc⟩ := Option.bind_eq_some_iff.1 hc
    obtain ⟨z, hz, hc⟩ := Option.bind_eq_some_iff.1 hc
    split at hc
    · rename_i hs
      cases hc
      obtain ⟨r, σ', C', w', res, v, g1, g2, g3⟩ := goes_updS (dst := dst) (T := T) (pos := pos) (after := after) (g := g) R H (mapOf_some hke) (isStr_true hs) hx hy hz h
      exact ⟨r, σ', C', w', res, v, g1, by simpa [execOp] using g2, g3⟩
    · obtain ⟨k, hk, hc⟩ := Option.bind_eq_some_iff.1 hc
      cases hc; exact (goes_updI R H (mapOf_some hke) (by rw [hd, isInt_some hk]) hx hy hz h).2
  · obtain ⟨y, hy, hc⟩ := Option.bind_eq_some_iff.1 hc; cases hc; exact goes_extr R H hy h
  · rename_i b args ts
    obtain ⟨args⟩ := args
    obtain ⟨ts⟩ := ts
    unfold compBuiltin at hc
    simp only at hc
    split at hc
    · unfold compLen at hc
      obtain ⟨x, hx, hc⟩ := Option.bind_eq_some_iff.1 hc
      split at hc
      · cases hc; exact goes_lenS R H (by assumption) hx h
      · cases hc; exact goes_lenL R H (by assumption) hx h
      · cases hc; exact goes_lenM R H (by assumption) hx h
      · cases hc
    · rename_i xx yy sT xT
      unfold compApp at hc
      obtain ⟨e, he, hc⟩ := Option.bind_eq_some_iff.1 hc
      obtain ⟨i, hi, hc⟩ := Option.bind_eq_some_iff.1 hc
      obtain ⟨z, hz, hc⟩ := Option.bind_eq_some_iff.1 hc
      obtain ⟨u, hu, hc⟩ := Option.bind_eq_some_iff.1 hc
      obtain ⟨x, hx, hc⟩ := Option.bind_eq_some_iff.1 hc
      obtain ⟨y, hy, hc⟩ := Option.bind_eq_some_iff.1 hc
      have := chk_some hu
      simp only [Bool.and_eq_true, beq_iff_eq, decide_eq_true_eq] at this
      obtain ⟨⟨⟨h1, h2⟩, h3⟩, h4⟩ := this
      have hxt : ∃ d, P.underlying xT = some d ∧ ∀ k, d ≠ .int k := by
        unfold notInt at h1
        split at h1
        · cases h1
        · rename_i d p q
          first | exact ⟨d, q, fun k hk => p k hk⟩ | exact ⟨d, p, fun k hk => q k hk⟩
        · cases h1
      cases hc
      exact goes_app R H ⟨elemS_some he, hxt, ⟨i, hi, rfl, rfl, hz⟩, h3, h4⟩ h2 hx hy h
    · obtain ⟨x, hx, hc⟩ := Option.bind_eq_some_iff.1 hc
      obtain ⟨y, hy, hc⟩ := Option.bind_eq_some_iff.1 hc
      cases hc; exact goes_max R H hx hy h
    · unfold compClr at hc
      split at hc
      · rename_i e he
        obtain ⟨i, hi, hc⟩ := Option.bind_eq_some_iff.1 hc
        obtain ⟨z, hz, hc⟩ := Option.bind_eq_some_iff.1 hc
        obtain ⟨zs, hzs, hc⟩ := Option.bind_eq_some_iff.1 hc
        obtain ⟨u, hu, hc⟩ := Option.bind_eq_some_iff.1 hc
        obtain ⟨x, hx, hc⟩ := Option.bind_eq_some_iff.1 hc
        have := chk_some hu
        simp only [Bool.and_eq_true, beq_iff_eq, decide_eq_true_eq] at this
        cases hc; exact goes_clrS R H he hi hz hzs this.1 this.2 hx h
      · rename_i e e' he
        obtain ⟨x, hx, hc⟩ := Option.bind_eq_some_iff.1 hc
        cases hc; exact goes_clrM R H he hx h
      · cases hc
    · obtain ⟨x, hx, hc⟩ := Option.bind_eq_some_iff.1 hc
      obtain ⟨y, hy, hc⟩ := Option.bind_eq_some_iff.1 hc
      cases hc; exact goes_min R H hx hy h
    · cases hc
  · obtain ⟨u, hu, hc⟩ := Option.bind_eq_some_iff.1 hc
    obtain ⟨y, hy, hc⟩ := Option.bind_eq_some_iff.1 hc
    cases hc; exact goes_rangeS R H (isTy_str (chk_some hu)) hy h
  · obtain ⟨y, hy, hc⟩ := Option.bind_eq_some_iff.1 hc
    cases hc; exact goes_nextS R H hy h
  · cases hc
end Go.Abs
set_option linter.unusedVariables false
set_option linter.unusedSimpArgs false
namespace Go.Abs

/-- The fence that shuts nothing out, in a round or in none. -/
def Wide (r : Option Nat) : Fence := { Fence.wide with round := r }

/-- A CALL: from whatever memory stands for σ the function returns, and Q holds of what it returns and of the memory then. -/
def CallsA (P : Program) (f : FuncId) (args : List AV) (σ : St) (Q : AV → St → Prop) : Prop :=
  ∀ C w us, Rel C σ w → VRels C w args us →
    Calls P f us.toArray w fun e w' => ∃ v r σ' C', e = .returned v ∧ Q r σ' ∧ VRel C' w' r v ∧ Rel C' σ' w' ∧ Evol C w C' w'

theorem CallsA.mono {P : Program} {f : FuncId} {args : List AV} {σ : St} {Q Q' : AV → St → Prop} (h : CallsA P f args σ Q) (hq : ∀ r σ', Q r σ' → Q' r σ') : CallsA P f args σ Q' :=
  fun C w us R V => (h C w us R V).mono fun e w' ⟨v, r, σ', C', he, q, rest⟩ => ⟨v, r, σ', C', he, hq _ _ q, rest⟩

theorem calls_wide {P : Program} {f : FuncId} {args : Array Value} {w : World} {R : Ending → World → Prop} {r : Option Nat} {n : Nat} (h : Calls P f args w R) : CallsIn (Wide r) n P f args w R := by
  have := (callsIn_wide (n := n)).2 h
  exact this

/-- A ROUND of a range over a function, by its yield. -/
def YieldsA (P : Program) (l : Nat) (args : List AV) (σ : St) (Q : AV → St → Prop) : Prop :=
  ∀ C w us b, Rel C σ w → VRels C w args us → VRel C w (.yl l) (.func (.yield b) #[] #[]) →
    ∃ f ts asg body w1, (Instr.yield b us.toArray).run P w = .ok (.round b f ts asg body) w1 ∧
      ∀ r n, RoundIn (Wide r) n P b f ts asg body w1 fun e w' => ∃ v x σ' C', e = .returned v ∧ Q x σ' ∧ VRel C' w' x v ∧ Rel C' σ' w' ∧ Evol C w C' w'

def callable (P : Program) (f : FuncId) : Bool := match P.funcs[f]? with
  | some fn => fn.body.isSome && fn.name != "runtime.NumGoroutine"
  | none => false

inductive Kd where
  | prim (c : COp) | call (f : FuncId) (args : List Opd) | dcall (x : Opd) (args : List Opd)
structure CO where
  dst : Option Nat
  g : Option (Nat × Bool)
  k : Kd

def aopk (P : Program) (k : Kd) (tm : Tm) (σ : St) (K : AV → St → Prop) : Prop := match k with
  | .prim c => aop c tm σ K
  | .call f args => CallsA P f (rds tm args) σ K
  | .dcall x args => match rd tm x with
    | .fn f caps => callable P f = true ∧ CallsA P f (rds tm args ++ caps) σ K
    | .yl l => YieldsA P l (rds tm args) σ K
    | _ => False
def wantsA (tm : Tm) (g : Option (Nat × Bool)) : Bool := match g with
  | none => true
  | some (t, b) => match tm t with
    | .bool b' => b' == b
    | _ => false
def updO (tm : Tm) (d : Option Nat) (v : AV) : Tm := match d with
  | none => tm
  | some d => upd tm d v
def aops (P : Program) : List CO → Tm → St → (Tm → St → Prop) → Prop
  | [], tm, σ, K => K tm σ
  | o :: os, tm, σ, K => if wantsA tm o.g = true then aopk P o.k tm σ fun v σ' => aops P os (updO tm o.dst v) σ' K else aops P os (updO tm o.dst undefA) σ K

def kdOf (P : Program) (n : Nat) : Op → Option Kd
  | .call ⟨.value (.func f), args, _⟩ => if callable P f then (cos n args.toList).bind fun l => some (.call f l) else none
  | .call ⟨.value x, args, _⟩ => (co n x).bind fun y => (cos n args.toList).bind fun l => some (.dcall y l)
  | op => (compOp P n op).bind fun c => some (.prim c)
def dstOf (n : Nat) : Option Tmp → Option (Option Nat)
  | none => some none
  | some d => if d < n then some (some d) else none
def guardOf (n : Nat) (ops : Array Oper) : Option (Nat × Bool) → Option (Option (Nat × Bool))
  | none => some none
  | some (j, b) => ((ops[j]?).bind (·.dst)).bind fun t => if t < n then some (some (t, b)) else none
def coOf (P : Program) (n : Nat) (ops : Array Oper) (o : Oper) : Option CO :=
  (dstOf n o.dst).bind fun d => (guardOf n ops o.guard).bind fun g => (kdOf P n o.op).bind fun k => some ⟨d, g, k⟩
def coOfs (P : Program) (n : Nat) (ops : Array Oper) : List Oper → Option (List CO)
  | [] => some []
  | o :: os => (coOf P n ops o).bind fun c => (coOfs P n ops os).bind fun r => some (c :: r)

section
variable {P : Program} {C : Ctx} {σ : St} {w : World} {tm : Tm} {n : Nat}

theorem not_bool {x : AV} {v : Value} (h : VRel C w x v) (hx : ∀ b, x ≠ .bool b) (b : Bool) : v ≠ .bool b := by
  intro he; subst he
  cases x <;> simp only [VRel] at h <;> first
    | (exact hx _ rfl)
    | simp at h

theorem wants_sound {a : Act} (H : TRel C w tm a.tmps n) {ops : Array Oper} {o : Oper} {g : Option (Nat × Bool)} (hg : guardOf n ops o.guard = some g) : Region.wanted o (yielded ops a.tmps) = wantsA tm g := by
  unfold Region.wanted
  cases ho : o.guard with
  | none => rw [ho] at hg; simp [guardOf] at hg; subst hg; rfl
  | some jb =>
    obtain ⟨j, b⟩ := jb
    rw [ho] at hg
    simp only [guardOf] at hg
    obtain ⟨t, ht, hg⟩ := Option.bind_eq_some_iff.1 hg
    split at hg
    · rename_i hlt
      cases hg
      have hv := H.2 t hlt
      have hget : a.tmps[t]? = some (a.tmps.getD t undef) := by
        have : t < a.tmps.size := by rw [H.1]; exact hlt
        simp [Array.getD_eq_getD_getElem?, Array.getElem?_eq_getElem this]
      simp only [yielded, ht, Option.bind_some, hget, wantsA]
      generalize a.tmps.getD t undef = v at hv
      cases htm : tm t
      case bool b' =>
        rw [htm] at hv; simp only [VRel] at hv; subst hv
        simp only []
        cases b <;> cases b' <;> rfl
      all_goals
        have hnb := not_bool hv (by intro b'; rw [htm]; simp)
        cases v <;> first | rfl | exact absurd rfl (hnb _)
    · cases hg

theorem callFunc_run {f : FuncId} (h : callable P f = true) (args : Array Value) (w : World) : (callFunc f args).run P w = .ok (.enter f args) w := by
  unfold callable at h
  cases hf : P.funcs[f]? with
  | none => simp [hf] at h
  | some fn =>
    simp only [hf, Bool.and_eq_true, bne_iff_ne] at h
    obtain ⟨hb, hn⟩ := h
    have hbn : fn.body.isNone = false := by cases hbb : fn.body <;> simp_all
    have hne : (fn.name == "runtime.NumGoroutine") = false := by simpa using hn
    have hbs : fn.body ≠ none := by intro he; rw [he] at hb; cases hb
    simp [callFunc, hf, hn, hbs]

/-- One operation. -/
theorem op_sound {r : Option Nat} {m : Nat} {a : Act} (R : Rel C σ w) (H : TRel C w tm a.tmps n) {o : Oper} {k : Kd} (hk : kdOf P n o.op = some k) {K : AV → St → Prop} (h : aopk P k tm σ K)
    {next : Act → World → Prop} {Q : Exit → Act → World → Prop} (hnext : ∀ x σ' C' w' v, K x σ' → VRel C' w' x v → Rel C' σ' w' → Evol C w C' w' → next (a.put o.dst v) w') : o.wpIn (Wide r) m P a w next Q := by
  refine ⟨fun _ _ => trivial, ?_⟩
  have hcall : ∀ (f : FuncId) (us : List Value) (args : List AV), VRels C w args us → CallsA P f args σ K → callable P f = true →
      (execOp a.eval o).run P w = .ok (.enter f us.toArray) w → o.uponIn (Wide r) m P a next Q ((execOp a.eval o).run P w) := by
    intro f us args V hc hcb hr
    rw [hr, Oper.uponIn_enter]
    refine ⟨fun h => by simp [Wide, Fence.wide] at h, (calls_wide (hc C w us R V)).mono fun e w' => ?_⟩
    rintro ⟨v, x, σ', C', rfl, hq, hv, R', E'⟩
    exact hnext x σ' C' w' v hq hv R' E'
  have hprim : ∀ c, k = .prim c → compOp P n o.op = some c → o.uponIn (Wide r) m P a next Q ((o.semAt (Wide r).round a.eval).run P w) := by
    intro c he hc
    subst he
    obtain ⟨x, σ', C', w', res, v, hK, hr, hres, hv, R', E'⟩ := comp_sound R H hc h
    have hd : ∀ cc, o.op ≠ .defer cc := by
      intro cc he; rw [he] at hc; simp [compOp] at hc
    rw [Oper.semAt_eq _ _ _ hd, hr]
    rcases hres with rfl | ⟨rfl, rfl⟩
    · exact hnext x σ' C' w' v hK hv R' E'
    · exact hnext x σ' C' w' undef hK hv R' E'
  obtain ⟨dst, op, T, pos, after, g⟩ := o
  change kdOf P n op = some k at hk
  unfold kdOf at hk
  split at hk
  · rename_i f args ats
    split at hk
    · rename_i hcb
      obtain ⟨l, hl, hk⟩ := Option.bind_eq_some_iff.1 hk
      cases hk
      have V := cos_sound H hl
      rw [Oper.semAt_eq _ _ _ (by simp)]
      refine hcall f (args.toList.map a.eval) _ V h hcb ?_
      simp only [execOp, resolve, Act.eval, Deferred.ofValue, Sem.run_bind, Sem.run_pure, Result.andThen_ok, invoke]
      rw [callFunc_run hcb]
      congr 2
      apply Array.ext'; simp
    · cases hk
  · rename_i x args ats hne
    obtain ⟨y, hy, hk⟩ := Option.bind_eq_some_iff.1 hk
    obtain ⟨l, hl, hk⟩ := Option.bind_eq_some_iff.1 hk
    cases hk
    have V := cos_sound H hl
    have hx := co_sound H hy
    rw [Oper.semAt_eq _ _ _ (by simp)]
    simp only [aopk] at h
    split at h
    · rename_i f caps hrd
      obtain ⟨hcb, h⟩ := h
      rw [hrd] at hx
      simp only [VRel] at hx
      obtain ⟨us, hv, hus⟩ := hx
      refine hcall f (args.toList.map a.eval ++ us) _ (V.append hus) h hcb ?_
      simp only [execOp, resolve, hv, Deferred.ofValue, Sem.run_bind, Sem.run_pure, Result.andThen_ok, invoke]
      rw [callFunc_run hcb]
      congr 2
      apply Array.ext'; simp
    · rename_i l' hrd
      rw [hrd] at hx
      have hx' := hx
      simp only [VRel] at hx'
      obtain ⟨b, hv, _⟩ := hx'
      obtain ⟨f, ts, asg, body, w1, hr, hround⟩ := h C w (args.toList.map a.eval) b R V (by rw [← hv]; exact hx)
      have hrun : (execOp a.eval ⟨dst, .call ⟨.value x, args, ats⟩, T, pos, after, g⟩).run P w = .ok (.round b f ts asg body) w1 := by
        simp only [execOp, resolve, hv, Deferred.ofValue, Sem.run_bind, Sem.run_pure, Result.andThen_ok, invoke]
        rw [show (#[] ++ args.map a.eval : Array Value) = (args.toList.map a.eval).toArray from by apply Array.ext'; simp]
        exact hr
      rw [hrun, Oper.uponIn_round]
      refine ⟨fun h => by simp [Wide, Fence.wide] at h, (hround r (m - 1)).mono fun e w' => ?_⟩
      rintro ⟨v, x, σ', C', rfl, hq, hv, R', E'⟩
      exact hnext x σ' C' w' v hq hv R' E'
    · exact h.elim
  · obtain ⟨c, hc, hk⟩ := Option.bind_eq_some_iff.1 hk
    cases hk
    exact hprim c rfl hc

theorem put_defers' (a : Act) (d : Option Tmp) (v : Value) : (a.put d v).defers = a.defers := by cases d <;> rfl

/-- Beside the temporaries: the deferred calls, and what the slot behind them holds. -/
def Gh (tm : Tm) (a : Act) (n : Nat) (ds : List Deferred) (gh : AV) : Prop := a.defers = ds ∧ tm n = gh
theorem Gh.put {tm : Tm} {a : Act} {n : Nat} {ds : List Deferred} {gh : AV} (h : Gh tm a n ds gh) {d : Option Tmp} {d' : Option Nat} {x : AV} {v : Value} (hd : dstOf n d = some d') : Gh (updO tm d' x) (a.put d v) n ds gh := by
  refine ⟨by rw [put_defers']; exact h.1, ?_⟩
  cases d with
  | none => simp [dstOf] at hd; subst hd; exact h.2
  | some t =>
    simp only [dstOf] at hd
    split at hd
    · rename_i hlt
      cases hd
      simp only [updO, upd]; rw [if_neg (by intro he; subst he; exact Nat.lt_irrefl _ hlt)]; exact h.2
    · cases hd

theorem TRel.putO {a : Act} {d : Option Tmp} {d' : Option Nat} {x : AV} {v : Value} (H : TRel C w tm a.tmps n) (hd : dstOf n d = some d') (hx : VRel C w x v) : TRel C w (updO tm d' x) (a.put d v).tmps n := by
  cases d with
  | none => simp [dstOf] at hd; subst hd; exact H
  | some t =>
    simp only [dstOf] at hd
    split at hd
    · cases hd; rename_i hlt; exact H.put hlt hx
    · cases hd

/-- Operations in a row. -/
theorem ops_sound {r : Option Nat} {m : Nat} {ops : Array Oper} {Q : Exit → Act → World → Prop} {C0 : Ctx} {w0 : World} {ds : List Deferred} {gh : AV} : ∀ (l : List Nat) (os : List Oper) (cos : List CO), l.map (fun i => ops[i]?) = os.map some → coOfs P n ops os = some cos →
    ∀ (C : Ctx) (σ : St) (w : World) (tm : Tm) (a : Act) (K : Tm → St → Prop), Rel C σ w → TRel C w tm a.tmps n → Evol C0 w0 C w → Gh tm a n ds gh → aops P cos tm σ K →
    (∀ tm' σ' C' w' a', K tm' σ' → Rel C' σ' w' → TRel C' w' tm' a'.tmps n → Evol C0 w0 C' w' → Gh tm' a' n ds gh → Q .normal a' w') → wpOpsIn (Wide r) m P ops Q l a w
  | [], os, cos, hl, hc, C, σ, w, tm, a, K, R, H, E, hds, h, hQ => by
    have : os = [] := by cases os <;> simp at hl ⊢
    subst this
    simp [coOfs] at hc; subst hc
    exact hQ tm σ C w a h R H E hds
  | i :: l, [], cos, hl, hc, C, σ, w, tm, a, K, R, H, E, hds, h, hQ => by simp at hl
  | i :: l, o :: os, cos, hl, hc, C, σ, w, tm, a, K, R, H, E, hds, h, hQ => by
    simp only [List.map_cons, List.cons.injEq] at hl
    obtain ⟨hi, hl⟩ := hl
    simp only [coOfs] at hc
    obtain ⟨c, hco, hc⟩ := Option.bind_eq_some_iff.1 hc
    obtain ⟨rs, hrs, hc⟩ := Option.bind_eq_some_iff.1 hc
    cases hc
    unfold coOf at hco
    obtain ⟨d, hd, hco⟩ := Option.bind_eq_some_iff.1 hco
    obtain ⟨g, hg, hco⟩ := Option.bind_eq_some_iff.1 hco
    obtain ⟨k, hk, hco⟩ := Option.bind_eq_some_iff.1 hco
    cases hco
    simp only [wpOpsIn, hi]
    rw [wants_sound H hg]
    simp only [aops] at h
    by_cases hw : wantsA tm g = true
    · rw [if_pos hw] at h ⊢
      refine op_sound R H hk h fun x σ' C' w' v hK hv R' E' => ?_
      exact ops_sound l os rs hl hrs C' σ' w' _ _ K R' ((H.evol E').putO hd hv) (E.trans E') (hds.put hd) hK hQ
    · rw [if_neg hw] at h ⊢
      refine ⟨fun _ _ => trivial, ?_⟩
      exact ops_sound l os rs hl hrs C σ w _ _ K R (H.putO hd (by simp only [undefA, VRel]; exact ⟨[], rfl, .nil⟩)) E (hds.put hd) h hQ
end
end Go.Abs
set_option linter.unusedVariables false
set_option linter.unusedSimpArgs false
namespace Go.Abs

def COp.opds : COp → List Opd
  | .mv x => [x]
  | .pick c a b => [c, a, b]
  | .alloc _ _ => []
  | .box _ x => [x]
  | .build _ ps => ps.map (·.2.2)
  | .bslice _ _ _ _ ps => ps.map (·.2)
  | .mslice _ _ _ _ l c => [l, c]
  | .load1 a => [a]
  | .loadA _ a => [a]
  | .store _ a v => [a, v]
  | .nilc x => [x]
  | .bin _ x y => [x, y]
  | .not x => [x]
  | .neg x => [x]
  | .convI _ x => [x]
  | .b2s x => [x]
  | .s2b _ x => [x]
  | .mkfn _ caps => caps
  | .mkmapI _ => []
  | .mkmapS => []
  | .slstr x lo hi => x :: (lo.toList ++ hi.toList)
  | .slsl _ x lo hi => x :: (lo.toList ++ hi.toList)
  | .faddr _ x => [x]
  | .field1 _ x => [x]
  | .fieldA _ _ x => [x]
  | .iaddr _ x i => [x, i]
  | .istr x i => [x, i]
  | .lookI _ _ x i _ => [x, i]
  | .lookS _ x i _ => [x, i]
  | .updI _ m i v => [m, i, v]
  | .updS m i v => [m, i, v]
  | .extr x _ => [x]
  | .lenS x => [x]
  | .lenL x => [x]
  | .lenM x => [x]
  | .app _ a b => [a, b]
  | .max x y => [x, y]
  | .min x y => [x, y]
  | .eq2 _ _ x y => [x, y]
  | .clr _ _ x => [x]
  | .rangeS x => [x]
  | .nextS x => [x]

/-- 0: its value is its operands' alone; 1: it reads memory; 2: it writes. -/
def COp.cls : COp → Nat
  | .alloc _ _ | .box _ _ | .mslice _ _ _ _ _ _ | .mkmapI _ | .mkmapS | .store _ _ _ | .updI _ _ _ _ | .updS _ _ _ | .app _ _ _ | .rangeS _ | .nextS _ | .clr _ _ _ => 2
  | .load1 _ | .loadA _ _ | .slsl _ _ _ _ | .lookI _ _ _ _ _ | .lookS _ _ _ _ | .lenM _ | .b2s _ => 1
  | _ => 0

section
variable {tm tm' : Tm}

theorem rds_congr : ∀ {l : List Opd}, (∀ x ∈ l, rd tm x = rd tm' x) → rds tm l = rds tm' l
  | [], _ => rfl
  | x :: xs, h => by simp only [rds, h x (by simp), rds_congr (l := xs) fun y hy => h y (by simp [hy])]
theorem rdps_congr : ∀ {l : List (Nat × Nat × Opd)}, (∀ x ∈ l.map (·.2.2), rd tm x = rd tm' x) → rdps tm l = rdps tm' l ∧ sizesOk tm l = sizesOk tm' l
  | [], _ => ⟨rfl, rfl⟩
  | (o, n, x) :: xs, h => by
    have hx := h x (by simp)
    have hr := rdps_congr (l := xs) fun y hy => h y (by simp only [List.map_cons, List.mem_cons]; exact .inr hy)
    simp only [rdps, sizesOk, hx, hr.1, hr.2, and_self]
theorem rdqs_congr {es : Nat} : ∀ {l : List (Nat × Opd)}, (∀ x ∈ l.map (·.2), rd tm x = rd tm' x) → rdqs tm es l = rdqs tm' es l ∧ sizesOkq tm es l = sizesOkq tm' es l
  | [], _ => ⟨rfl, rfl⟩
  | (o, x) :: xs, h => by
    have hx := h x (by simp)
    have hr := rdqs_congr (es := es) (l := xs) fun y hy => h y (by simp only [List.map_cons, List.mem_cons]; exact .inr hy)
    simp only [rdqs, sizesOkq, hx, hr.1, hr.2, and_self]
theorem bound_congr {d : Nat} {o : Option Opd} (h : ∀ x ∈ o.toList, rd tm x = rd tm' x) : bound tm d o = bound tm' d o := by
  cases o with
  | none => rfl
  | some x => simp only [bound, h x (by simp)]

theorem aop_congr {c : COp} {σ : St} {K : AV → St → Prop} (h : ∀ x ∈ c.opds, rd tm x = rd tm' x) : aop c tm σ K = aop c tm' σ K := by
  cases c
  case build z ps => simp only [aop, (rdps_congr h).1, (rdps_congr h).2]
  case bslice ty z es n ps => simp only [aop, (rdqs_congr h).1, (rdqs_congr h).2]
  case mkfn f caps => simp only [aop, rds_congr (l := caps) h]
  case slstr x lo hi =>
    simp only [COp.opds, List.mem_cons, List.mem_append] at h
    simp only [aop, h x (.inl rfl), bound_congr (o := lo) fun y hy => h y (.inr (.inl hy)), bound_congr (o := hi) fun y hy => h y (.inr (.inr hy))]
  case slsl es x lo hi =>
    simp only [COp.opds, List.mem_cons, List.mem_append] at h
    simp only [aop, h x (.inl rfl), bound_congr (o := lo) fun y hy => h y (.inr (.inl hy)), bound_congr (o := hi) fun y hy => h y (.inr (.inr hy))]
  all_goals
    simp only [COp.opds, List.mem_cons, List.not_mem_nil, or_false, forall_eq_or_imp, forall_eq, false_imp_iff, implies_true] at h
    first
      | rfl
      | simp only [aop, h]
end

theorem aop_mono {c : COp} {tm : Tm} {σ : St} {K K' : AV → St → Prop} (hK : ∀ v σ, K v σ → K' v σ) (h : aop c tm σ K) : aop c tm σ K' := by
  cases c
  all_goals
    simp only [aop] at h ⊢
    (repeat' split at h) <;> grind

theorem aop_quiet {c : COp} {tm : Tm} {σ : St} {K : AV → St → Prop} (hc : c.cls ≤ 1) (h : aop c tm σ K) : ∃ v, K v σ ∧ ∀ σ' K', (c.cls = 0 ∨ σ' = σ) → K' v σ' → aop c tm σ' K' := by
  cases c
  all_goals
    first
      | (exfalso; revert hc; simp [COp.cls]; done)
      | (simp only [aop] at h ⊢
         (repeat' split at h) <;> grind [COp.cls])
end Go.Abs
set_option linter.unusedVariables false
set_option linter.unusedSimpArgs false
namespace Go.Abs

def Kd.opds : Kd → List Opd
  | .prim c => c.opds
  | .call _ args => args
  | .dcall x args => x :: args
def Kd.cls : Kd → Nat
  | .prim c => c.cls
  | _ => 2
def otmp : Opd → List Nat
  | .t n => [n]
  | _ => []
def gtmp : Option (Nat × Bool) → List Nat
  | some (t, _) => [t]
  | none => []
def CO.reads (o : CO) : List Nat := o.k.opds.flatMap otmp ++ gtmp o.g
def dstIn (d : Option Nat) (l : List Nat) : Bool := match d with
  | some d => l.any fun x => x == d
  | none => false
def sameDst (d e : Option Nat) : Bool := match d, e with
  | some d, some e => d == e
  | _, _ => false
def CO.apart (x y : CO) : Bool := !dstIn x.dst y.reads && !dstIn y.dst x.reads && !sameDst x.dst y.dst

section
variable {P : Program} {tm tm' : Tm} {σ : St}

theorem aopk_congr {k : Kd} {K : AV → St → Prop} (h : ∀ x ∈ k.opds, rd tm x = rd tm' x) : aopk P k tm σ K = aopk P k tm' σ K := by
  cases k with
  | prim c => simp only [aopk, aop_congr h]
  | call f args => simp only [aopk, rds_congr (l := args) h]
  | dcall x args => simp only [aopk, h x (by simp [Kd.opds]), rds_congr (l := args) fun y hy => h y (by simp [Kd.opds, hy])]

theorem YieldsA.mono {l : Nat} {args : List AV} {σ : St} {Q Q' : AV → St → Prop} (h : YieldsA P l args σ Q) (hq : ∀ r σ', Q r σ' → Q' r σ') : YieldsA P l args σ Q' :=
  fun C w us b R V hb => by
    obtain ⟨f, ts, asg, body, w1, hr, h1⟩ := h C w us b R V hb
    exact ⟨f, ts, asg, body, w1, hr, fun r n => (h1 r n).mono fun e w' ⟨v, x, σ', C', he, q, rest⟩ => ⟨v, x, σ', C', he, hq _ _ q, rest⟩⟩

theorem aopk_mono {k : Kd} {K K' : AV → St → Prop} (hK : ∀ v σ, K v σ → K' v σ) (h : aopk P k tm σ K) : aopk P k tm σ K' := by
  cases k with
  | prim c => exact aop_mono hK h
  | call f args => exact CallsA.mono h hK
  | dcall x args =>
    simp only [aopk] at h ⊢
    split at h
    · exact ⟨h.1, h.2.mono hK⟩
    · exact YieldsA.mono h hK
    · exact h.elim

theorem aopk_quiet {k : Kd} {K : AV → St → Prop} (hc : k.cls ≤ 1) (h : aopk P k tm σ K) : ∃ v, K v σ ∧ ∀ σ' K', (k.cls = 0 ∨ σ' = σ) → K' v σ' → aopk P k tm σ' K' := by
  cases k with
  | prim c => exact aop_quiet hc h
  | call f args => simp [Kd.cls] at hc
  | dcall x args => simp [Kd.cls] at hc

def aopO (P : Program) (o : CO) (tm : Tm) (σ : St) (K : Tm → St → Prop) : Prop :=
  if wantsA tm o.g = true then aopk P o.k tm σ fun v σ' => K (updO tm o.dst v) σ' else K (updO tm o.dst undefA) σ

theorem aopO_mono {o : CO} {K K' : Tm → St → Prop} (hK : ∀ tm σ, K tm σ → K' tm σ) (h : aopO P o tm σ K) : aopO P o tm σ K' := by
  unfold aopO at *
  split
  · rename_i hw; rw [if_pos hw] at h; exact aopk_mono (fun v σ => hK _ _) h
  · rename_i hw; rw [if_neg hw] at h; exact hK _ _ h

theorem rd_updO {d : Option Nat} {v : AV} {x : Opd} (h : ∀ t, x = .t t → d ≠ some t) : rd (updO tm d v) x = rd tm x := by
  cases x with
  | t n =>
    cases d with
    | none => rfl
    | some m =>
      have := h n rfl
      simp only [rd, updO, upd]
      rw [if_neg]
      intro he; subst he; exact this rfl
  | c v => rfl
  | f n => rfl
theorem wantsA_updO {d : Option Nat} {v : AV} {g : Option (Nat × Bool)} (h : ∀ t ∈ gtmp g, d ≠ some t) : wantsA (updO tm d v) g = wantsA tm g := by
  cases g with
  | none => rfl
  | some p =>
    obtain ⟨t, b⟩ := p
    have h1 := rd_updO (tm := tm) (d := d) (v := v) (x := .t t) fun t' he => by cases he; exact h t (by simp [gtmp])
    simp only [rd] at h1
    simp only [wantsA, h1]
theorem dstIn_false {d : Option Nat} {l : List Nat} (h : dstIn d l = false) : ∀ t ∈ l, d ≠ some t := by
  intro t ht he
  subst he
  simp only [dstIn, List.any_eq_false, beq_iff_eq] at h
  exact h t ht rfl
theorem reads_k {o : CO} {d : Option Nat} (h : dstIn d o.reads = false) : ∀ x ∈ o.k.opds, ∀ t, x = .t t → d ≠ some t := by
  intro x hx t he
  exact dstIn_false h t (List.mem_append_left _ (List.mem_flatMap.2 ⟨x, hx, by subst he; simp [otmp]⟩))
theorem reads_g {o : CO} {d : Option Nat} (h : dstIn d o.reads = false) : ∀ t ∈ gtmp o.g, d ≠ some t :=
  fun t ht => dstIn_false h t (List.mem_append_right _ ht)
theorem updO_comm {d e : Option Nat} (h : sameDst d e = false) (u v : AV) : updO (updO tm d u) e v = updO (updO tm e v) d u := by
  cases d <;> cases e <;> first | rfl | skip
  rename_i d e
  simp only [sameDst, beq_eq_false_iff_ne, ne_eq] at h
  funext i
  simp only [updO, upd]
  split <;> split <;> first | rfl | (exfalso; omega)

/-- An operation gives v, whatever goes on behind it. -/
def Gives (P : Program) (o : CO) (v : AV) (tm : Tm) (σ : St) : Prop :=
  (wantsA tm o.g = true ∧ ∀ σ' K, (o.k.cls = 0 ∨ σ' = σ) → K v σ' → aopk P o.k tm σ' K) ∨ (wantsA tm o.g = false ∧ v = undefA)

theorem Gives.go {o : CO} {v : AV} (h : Gives P o v tm σ) {K : Tm → St → Prop} (hK : K (updO tm o.dst v) σ) : aopO P o tm σ K := by
  unfold aopO
  rcases h with ⟨hw, h⟩ | ⟨hw, rfl⟩
  · rw [if_pos hw]; exact h σ _ (.inr rfl) hK
  · rw [if_neg (by simp [hw])]; exact hK
theorem Gives.keep {o : CO} {v : AV} (h : Gives P o v tm σ) {d : Option Nat} (hd : dstIn d o.reads = false) (u : AV) {σ' : St} (hσ : o.k.cls = 0 ∨ σ' = σ) : Gives P o v (updO tm d u) σ' := by
  unfold Gives
  rw [wantsA_updO (reads_g hd)]
  rcases h with ⟨hw, h⟩ | ⟨hw, rfl⟩
  · refine .inl ⟨hw, fun σ'' K hs hK => ?_⟩
    rw [aopk_congr (tm' := tm) fun x hx => rd_updO (reads_k hd x hx)]
    refine h σ'' K ?_ hK
    rcases hs with hs | rfl
    · exact .inl hs
    · exact hσ
  · exact .inr ⟨hw, rfl⟩

theorem quiet_gives {o : CO} (hc : o.k.cls ≤ 1) {K : Tm → St → Prop} (h : aopO P o tm σ K) : ∃ v, Gives P o v tm σ ∧ K (updO tm o.dst v) σ := by
  unfold aopO at h
  by_cases hw : wantsA tm o.g = true
  · rw [if_pos hw] at h
    obtain ⟨v, hv, hr⟩ := aopk_quiet hc h
    exact ⟨v, .inl ⟨hw, hr⟩, hv⟩
  · rw [if_neg hw] at h
    exact ⟨undefA, .inr ⟨by simpa using hw, rfl⟩, h⟩

/-- A reading that was done before: done now it gives the same. -/
def Keeps (P : Program) (h : CO) (tm : Tm) (σ : St) : Prop := wantsA tm h.g = true → ∃ d, h.dst = some d ∧ aopk P h.k tm σ fun v σ' => v = tm d ∧ σ' = σ

theorem Keeps.gives {o : CO} {v : AV} (hc : o.k.cls ≤ 1) (hself : dstIn o.dst o.reads = false) (hn : wantsA tm o.g = false → v = undefA) (h : Keeps P o (updO tm o.dst v) σ) : Gives P o v tm σ := by
  by_cases hw : wantsA tm o.g = true
  · refine .inl ⟨hw, ?_⟩
    obtain ⟨d, hd, hk⟩ := h (by rw [wantsA_updO (reads_g hself)]; exact hw)
    rw [aopk_congr (tm' := tm) fun x hx => rd_updO (reads_k hself x hx)] at hk
    obtain ⟨u, ⟨hu, _⟩, hr⟩ := aopk_quiet hc hk
    have : u = v := by rw [hu, hd]; simp [updO, upd]
    subst this
    exact hr
  · have hw : wantsA tm o.g = false := by simpa using hw
    exact .inr ⟨hw, hn hw⟩

theorem Keeps.back {h : CO} {d : Option Nat} {v : AV} (h1 : dstIn d h.reads = false) (h2 : sameDst d h.dst = false) (hk : Keeps P h (updO tm d v) σ) : Keeps P h tm σ := by
  intro hw
  obtain ⟨e, he, hk⟩ := hk (by rw [wantsA_updO (reads_g h1)]; exact hw)
  refine ⟨e, he, ?_⟩
  rw [aopk_congr (tm' := tm) fun x hx => rd_updO (reads_k h1 x hx)] at hk
  refine aopk_mono (fun u σ' hu => ⟨?_, hu.2⟩) hk
  rw [hu.1]
  cases d with
  | none => rfl
  | some d =>
    rw [he] at h2
    simp only [sameDst, beq_eq_false_iff_ne, ne_eq] at h2
    simp only [updO, upd]
    rw [if_neg (fun hh => h2 hh.symm)]

theorem aopO_put {o oj : CO} {v : AV} (hap : o.apart oj = true) (hc : o.k.cls ≤ 1) (hself : dstIn o.dst o.reads = false) (hg : Gives P o v tm σ) {K : Tm → St → Prop}
    (hK : o.k.cls = 0 ∨ oj.k.cls ≤ 1 ∨ ∀ tm σ, K tm σ → Keeps P o tm σ)
    (h : aopO P oj (updO tm o.dst v) σ K) : aopO P oj tm σ fun tm' σ' => Gives P o v tm' σ' ∧ K (updO tm' o.dst v) σ' := by
  unfold CO.apart at hap
  simp only [Bool.and_eq_true, Bool.not_eq_true'] at hap
  obtain ⟨⟨h1, h2⟩, h3⟩ := hap
  unfold aopO at h ⊢
  rw [wantsA_updO (reads_g h1)] at h
  rw [aopk_congr (tm' := tm) fun x hx => rd_updO (reads_k h1 x hx)] at h
  by_cases hw : wantsA tm oj.g = true
  · rw [if_pos hw] at h ⊢
    simp only [updO_comm h3] at h
    rcases hK with hK | hK | hK
    · exact aopk_mono (fun u σ' hu => ⟨hg.keep h2 u (.inl hK), hu⟩) h
    · obtain ⟨u, hu, hr⟩ := aopk_quiet hK h
      exact hr σ _ (.inr rfl) ⟨hg.keep h2 u (.inr rfl), hu⟩
    · refine aopk_mono (fun u σ' hu => ⟨Keeps.gives hc hself (fun hn => ?_) (hK _ _ hu), hu⟩) h
      rw [wantsA_updO (reads_g h2)] at hn
      rcases hg with ⟨hw', _⟩ | ⟨_, hv⟩
      · rw [hn] at hw'; cases hw'
      · exact hv
  · rw [if_neg hw] at h ⊢
    rw [updO_comm h3] at h
    exact ⟨hg.keep h2 undefA (.inr rfl), h⟩
end

/-- An operation of a region, what must have been before it (bits), and what must have been before that. -/
structure RO where
  o : CO
  m : Nat
  r : Nat

def inSub (m L : Nat) : Bool := Nat.beq (m &&& L) m
theorem inSub_iff {m L : Nat} : inSub m L = true ↔ ∀ k, m.testBit k = true → L.testBit k = true := by
  unfold inSub
  constructor
  · intro h k hk
    have h : m &&& L = m := Nat.eq_of_beq_eq_true h
    have := congrArg (fun x => x.testBit k) h
    simp only [Nat.testBit_and, hk, Bool.true_and] at this
    exact this
  · intro h
    have he : m &&& L = m := Nat.eq_of_testBit_eq fun k => by
      rw [Nat.testBit_and]
      cases hk : m.testBit k with
      | false => rfl
      | true => rw [h k hk]; rfl
    rw [he]; simp

def readyB : List RO → Nat → Nat → List Nat
  | [], _, _ => []
  | x :: r, i, L => if !L.testBit i && inSub x.m L then i :: readyB r (i + 1) L else readyB r (i + 1) L
theorem mem_readyB : ∀ {B : List RO} {i L j : Nat}, j ∈ readyB B i L ↔ i ≤ j ∧ ∃ x, B[j - i]? = some x ∧ L.testBit j = false ∧ inSub x.m L = true
  | [], i, L, j => by simp [readyB]
  | x :: r, i, L, j => by
    have ih := mem_readyB (B := r) (i := i + 1) (L := L) (j := j)
    have hcase : (∃ y, (x :: r)[j - i]? = some y ∧ L.testBit j = false ∧ inSub y.m L = true) ∧ i ≤ j ↔ (j = i ∧ L.testBit i = false ∧ inSub x.m L = true) ∨ (i + 1 ≤ j ∧ ∃ y, r[j - (i + 1)]? = some y ∧ L.testBit j = false ∧ inSub y.m L = true) := by
      constructor
      · rintro ⟨⟨y, hy, h⟩, hij⟩
        by_cases he : j = i
        · subst he; simp at hy; subst hy; exact .inl ⟨rfl, h⟩
        · refine .inr ⟨by omega, y, ?_, h⟩
          rw [show j - i = (j - (i + 1)) + 1 from by omega] at hy
          simpa using hy
      · rintro (⟨rfl, h⟩ | ⟨hij, y, hy, h⟩)
        · exact ⟨⟨x, by simp, h⟩, Nat.le_refl _⟩
        · refine ⟨⟨y, ?_, h⟩, by omega⟩
          rw [show j - i = (j - (i + 1)) + 1 from by omega]
          simpa using hy
    simp only [readyB]
    split
    · rename_i hc
      simp only [Bool.and_eq_true, Bool.not_eq_true'] at hc
      simp only [List.mem_cons, ih]
      constructor
      · rintro (rfl | h)
        · exact ⟨Nat.le_refl _, x, by simp, hc⟩
        · have := hcase.2 (.inr h); exact ⟨this.2, this.1⟩
      · rintro ⟨h1, h2⟩
        rcases hcase.1 ⟨h2, h1⟩ with h | h
        · exact .inl h.1
        · exact .inr h
    · rename_i hc
      rw [ih]
      constructor
      · intro h; have := hcase.2 (.inr h); exact ⟨this.2, this.1⟩
      · rintro ⟨h1, h2⟩
        rcases hcase.1 ⟨h2, h1⟩ with h | h
        · exact absurd (by simpa using h.2) hc
        · exact h

/-- What was read stays so behind an operation that is not behind the reading. -/
def HoldOk (P : Program) (B : List RO) (H : List Nat) (x : RO) (tm : Tm) (σ : St) : Prop := x.o.k.cls ≤ 1 ∨ ∀ h ∈ H, ∀ y, B[h]? = some y → x.r.testBit h = false → Keeps P y.o tm σ

/-- Any order. -/
def aany (P : Program) (B : List RO) (K : Tm → St → Prop) : Nat → Nat → List Nat → Tm → St → Prop
  | 0, L, H, tm, σ => readyB B 0 L = [] ∧ K tm σ
  | f + 1, L, H, tm, σ => (readyB B 0 L = [] → K tm σ) ∧ ∀ i ∈ readyB B 0 L, ∀ x, B[i]? = some x → aopO P x.o tm σ fun tm' σ' => HoldOk P B H x tm' σ' ∧ aany P B K f (L ||| 2 ^ i) H tm' σ'

theorem testBit_or_pow (L i k : Nat) : (L ||| 2 ^ i).testBit k = (L.testBit k || decide (i = k)) := by
  rw [Nat.testBit_or, Nat.testBit_two_pow]

def Closed (B : List RO) (L : Nat) : Prop := ∀ (i : Nat) (x : RO), B[i]? = some x → L.testBit i = true → inSub x.m L = true
def Reach (B : List RO) : Prop := ∀ (i : Nat) (x : RO), B[i]? = some x → ∀ L, Closed B L → inSub x.m L = true → inSub x.r L = true

theorem Closed.add {B : List RO} {L i : Nat} {x : RO} (h : Closed B L) (hi : B[i]? = some x) (hx : inSub x.m L = true) : Closed B (L ||| 2 ^ i) := by
  intro j y hj hb
  rw [testBit_or_pow] at hb
  rw [inSub_iff]
  intro k hk
  rw [testBit_or_pow]
  simp only [Bool.or_eq_true, decide_eq_true_eq] at hb ⊢
  rcases hb with hb | rfl
  · exact .inl (inSub_iff.1 (h j y hj hb) k hk)
  · rw [hi] at hj; cases hj
    exact .inl (inSub_iff.1 hx k hk)

theorem or_or_comm (L i j : Nat) : (L ||| 2 ^ i) ||| 2 ^ j = (L ||| 2 ^ j) ||| 2 ^ i := by
  rw [Nat.or_assoc, Nat.or_assoc, Nat.or_comm (2 ^ i)]

/-- Each temporary is written by one operation, and read only behind it. -/
def ssa1 (i : Nat) (x : RO) : List RO → Nat → Bool
  | [], _ => true
  | y :: r, j => (Nat.beq i j || (!sameDst x.o.dst y.o.dst && (!dstIn x.o.dst y.o.reads || y.r.testBit i || (x.r.testBit j && Nat.beq y.o.k.cls 0)))) && ssa1 i x r (j + 1)
def ssaL (B : List RO) : List RO → Nat → Bool
  | [], _ => true
  | x :: r, i => !dstIn x.o.dst x.o.reads && ssa1 i x B 0 && ssaL B r (i + 1)
structure Ssa (B : List RO) : Prop where
  self : ∀ (i : Nat) (x : RO), B[i]? = some x → dstIn x.o.dst x.o.reads = false
  dst : ∀ (i j : Nat) (x y : RO), B[i]? = some x → B[j]? = some y → i ≠ j → sameDst x.o.dst y.o.dst = false
  rd : ∀ (i j : Nat) (x y : RO), B[i]? = some x → B[j]? = some y → i ≠ j → y.r.testBit i = false → (x.r.testBit j = false ∨ y.o.k.cls ≠ 0) → dstIn x.o.dst y.o.reads = false
theorem ssa1_spec {i : Nat} {x : RO} : ∀ {B : List RO} {s : Nat}, ssa1 i x B s = true → ∀ j y, B[j]? = some y → i ≠ s + j → sameDst x.o.dst y.o.dst = false ∧ (y.r.testBit i = false → (x.r.testBit (s + j) = false ∨ y.o.k.cls ≠ 0) → dstIn x.o.dst y.o.reads = false)
  | [], s, h, j, y, hj => by simp at hj
  | z :: r, s, h, j, y, hj => by
    simp only [ssa1, Bool.and_eq_true, Bool.or_eq_true, Bool.not_eq_true'] at h
    obtain ⟨h0, hr⟩ := h
    cases j with
    | zero =>
      simp at hj; subst hj
      intro hne
      rcases h0 with h0 | ⟨h1, h2⟩
      · exact absurd (Nat.eq_of_beq_eq_true h0) (by simpa using hne)
      · refine ⟨h1, fun hf hx => ?_⟩
        rcases h2 with (h2 | h2) | ⟨h2, h3⟩
        · exact h2
        · rw [hf] at h2; cases h2
        · rcases hx with hx | hx
          · simp only [Nat.add_zero] at hx; rw [hx] at h2; cases h2
          · exact absurd (Nat.eq_of_beq_eq_true h3) hx
    | succ j =>
      simp at hj
      have := ssa1_spec hr j y hj
      rw [show s + 1 + j = s + (j + 1) from by omega] at this
      exact this
theorem ssaL_spec {B : List RO} : ∀ {l : List RO} {s : Nat}, ssaL B l s = true → ∀ i x, l[i]? = some x → dstIn x.o.dst x.o.reads = false ∧ ssa1 (s + i) x B 0 = true
  | [], s, h, i, x, hi => by simp at hi
  | z :: r, s, h, i, x, hi => by
    simp only [ssaL, Bool.and_eq_true, Bool.not_eq_true'] at h
    cases i with
    | zero => simp at hi; subst hi; exact ⟨h.1.1, h.1.2⟩
    | succ i =>
      simp at hi
      have := ssaL_spec h.2 i x hi
      rwa [show s + 1 + i = s + (i + 1) from by omega] at this
theorem ssa_spec {B : List RO} (h : ssaL B B 0 = true) : Ssa B where
  self := fun i x hi => (ssaL_spec h i x hi).1
  dst := fun i j x y hi hj hne => by
    have := (ssaL_spec h i x hi).2
    exact (ssa1_spec this j y hj (by omega)).1
  rd := fun i j x y hi hj hne hr hx => by
    have := (ssaL_spec h i x hi).2
    rw [Nat.zero_add] at this
    exact (ssa1_spec this j y hj (by omega)).2 hr (by rw [Nat.zero_add]; exact hx)

section
variable {P : Program} {B : List RO} {K : Tm → St → Prop}

theorem ready_add {L i j : Nat} (hj : j ∈ readyB B 0 L) (hij : j ≠ i) : j ∈ readyB B 0 (L ||| 2 ^ i) := by
  rw [mem_readyB] at hj ⊢
  obtain ⟨h0, x, h1, h2, h3⟩ := hj
  refine ⟨h0, x, h1, ?_, ?_⟩
  · rw [testBit_or_pow, h2]; simpa using fun h => hij h.symm
  · rw [inSub_iff] at h3 ⊢
    intro k hk; rw [testBit_or_pow, h3 k hk]; rfl

theorem aany_weaken : ∀ (f L : Nat) (H H' : List Nat) (tm : Tm) (σ : St), (∀ h ∈ H', h ∈ H) → aany P B K f L H tm σ → aany P B K f L H' tm σ := by
  intro f
  induction f with
  | zero => intro L H H' tm σ hs h; exact h
  | succ f ih =>
    intro L H H' tm σ hs h
    refine ⟨h.1, fun i hi x hx => aopO_mono (fun tm' σ' hk => ⟨?_, ih _ H H' _ _ hs hk.2⟩) (h.2 i hi x hx)⟩
    rcases hk.1 with h1 | h1
    · exact .inl h1
    · exact .inr fun h hh => h1 h (hs h hh)

theorem aany_first {i : Nat} {x : RO} {v : AV} (hR : Reach B) (hS : Ssa B) (hi : B[i]? = some x) (hc : x.o.k.cls ≤ 1) : ∀ (f L : Nat) (H : List Nat) (tm : Tm) (σ : St), Closed B L → (∀ h ∈ H, L.testBit h = true ∧ ∀ y, B[h]? = some y → y.o.k.cls ≠ 0) → i ∈ readyB B 0 L → Gives P x.o v tm σ →
    aany P B K f (L ||| 2 ^ i) (if x.o.k.cls = 0 then H else i :: H) (updO tm x.o.dst v) σ → aany P B K (f + 1) L H tm σ := by
  have hw : ∀ (f L : Nat) (H : List Nat) (tm : Tm) (σ : St), aany P B K f L (if x.o.k.cls = 0 then H else i :: H) tm σ → aany P B K f L H tm σ := by
    intro f L H tm σ h
    refine aany_weaken f L _ H tm σ (fun h hh => ?_) h
    split
    · exact hh
    · exact List.mem_cons_of_mem _ hh
  intro f
  induction f with
  | zero =>
    intro L H tm σ hC hH hr hg HH
    refine ⟨fun h => by rw [h] at hr; simp at hr, fun j hj y hy => ?_⟩
    by_cases hij : j = i
    · subst hij; rw [hi] at hy; cases hy
      exact hg.go ⟨.inl hc, HH⟩
    · have := ready_add hj hij
      rw [HH.1] at this; simp at this
  | succ f ih =>
    intro L H tm σ hC hH hr hg HH
    refine ⟨fun h => by rw [h] at hr; simp at hr, fun j hj y hy => ?_⟩
    by_cases hij : j = i
    · subst hij; rw [hi] at hy; cases hy
      exact hg.go ⟨.inl hc, hw _ _ _ _ _ HH⟩
    · have h1 := HH.2 j (ready_add hj hij) y hy
      obtain ⟨_, y', hy', hj1, hj2⟩ := mem_readyB.1 hj
      simp only [Nat.sub_zero] at hy'
      rw [hy] at hy'; cases hy'
      obtain ⟨_, x', hx', hir, hisub⟩ := mem_readyB.1 hr
      simp only [Nat.sub_zero] at hx'
      rw [hi] at hx'; cases hx'
      have nr : ∀ (k : Nat) (z : RO), B[k]? = some z → inSub z.m L = true → z.r.testBit i = false := fun k z hk hz => by
        cases hb : z.r.testBit i with
        | false => rfl
        | true =>
          have := inSub_iff.1 (hR k z hk L hC hz) i hb
          rw [hir] at this; cases this
      have hnr := nr j y hy hj2
      have hnr' : x.r.testBit j = false := by
        cases hb : x.r.testBit j with
        | false => rfl
        | true =>
          have := inSub_iff.1 (hR i x hi L hC hisub) j hb
          rw [hj1] at this; cases this
      have hap : x.o.apart y.o = true := by
        unfold CO.apart
        rw [hS.rd i j x y hi hy (Ne.symm hij) hnr (.inl hnr'), hS.rd j i y x hy hi hij hnr' (.inl hnr), hS.dst i j x y hi hy (Ne.symm hij)]
        rfl
      have hkeep : x.o.k.cls = 0 ∨ y.o.k.cls ≤ 1 ∨ ∀ tm σ, (HoldOk P B (if x.o.k.cls = 0 then H else i :: H) y tm σ ∧ aany P B K f (L ||| 2 ^ i ||| 2 ^ j) (if x.o.k.cls = 0 then H else i :: H) tm σ) → Keeps P x.o tm σ := by
        by_cases h0 : x.o.k.cls = 0
        · exact .inl h0
        · by_cases h2 : y.o.k.cls ≤ 1
          · exact .inr (.inl h2)
          · refine .inr (.inr fun tm σ hk => ?_)
            rcases hk.1 with hh | hh
            · exact absurd hh h2
            · rw [if_neg h0] at hh
              exact hh i (by simp) x hi hnr
      refine aopO_mono (fun tm' σ' h3 => ⟨?_, ih (L ||| 2 ^ j) H tm' σ' (hC.add hy hj2) (fun h hh => ⟨by rw [testBit_or_pow, (hH h hh).1]; rfl, (hH h hh).2⟩) (ready_add hr (Ne.symm hij)) h3.1 ?_⟩) (aopO_put hap hc (hS.self i x hi) hg hkeep h1)
      · rcases h3.2.1 with hh | hh
        · exact .inl hh
        · refine .inr fun h hh1 z hz hzr => ?_
          have hL := (hH h hh1).1
          have hne : i ≠ h := by intro he; subst he; rw [hir] at hL; cases hL
          have hmem : h ∈ (if x.o.k.cls = 0 then H else i :: H) := by
            split
            · exact hh1
            · exact List.mem_cons_of_mem _ hh1
          exact Keeps.back (hS.rd i h x z hi hz hne (nr h z hz (hC h z hz hL)) (.inr ((hH h hh1).2 z hz))) (hS.dst i h x z hi hz hne) (hh h hmem z hz hzr)
      · rw [or_or_comm]; exact h3.2.2
end

/-- In which order: a row, with branches where more than one order is gone through; beside an operation: the readings that must stay. -/
inductive Sch where
  | done | op (o : CO) (hs : List CO) (s : Sch) | both (a b : Sch)
def asch (P : Program) : Sch → (Tm → St → Prop) → Tm → St → Prop
  | .done, K, tm, σ => K tm σ
  | .op o hs s, K, tm, σ => aopO P o tm σ fun tm' σ' => (∀ h ∈ hs, Keeps P h tm' σ') ∧ asch P s K tm' σ'
  | .both a b, K, tm, σ => asch P a K tm σ ∧ asch P b K tm σ

def branches (g : Nat → Option Sch) : List Nat → Option Sch
  | [] => none
  | [i] => g i
  | i :: is => (g i).bind fun a => (branches g is).bind fun b => some (.both a b)
def pickF (B : List RO) : List Nat → Option Nat
  | [] => none
  | i :: is => match B[i]? with
    | some x => if Nat.ble x.o.k.cls 1 then some i else pickF B is
    | none => pickF B is
def heldOf (B : List RO) (x : RO) : List Nat → List CO
  | [] => []
  | h :: hs => match B[h]? with
    | some y => if x.r.testBit h then heldOf B x hs else y.o :: heldOf B x hs
    | none => heldOf B x hs
def nextS (B : List RO) (L : Nat) (H : List Nat) (g : Nat → List Nat → Option Sch) (i : Nat) : Option Sch := (B[i]?).bind fun x =>
  if Nat.ble x.o.k.cls 1 then (g (L ||| 2 ^ i) (if x.o.k.cls = 0 then H else i :: H)).bind fun s => some (.op x.o [] s)
  else (g (L ||| 2 ^ i) H).bind fun s => some (.op x.o (heldOf B x H) s)
def mkS (B : List RO) : Nat → Nat → List Nat → Option Sch
  | 0, L, H => match readyB B 0 L with
    | [] => some .done
    | _ => none
  | f + 1, L, H => match readyB B 0 L with
    | [] => some .done
    | i :: is => match pickF B (i :: is) with
      | some j => nextS B L H (mkS B f) j
      | none => branches (nextS B L H (mkS B f)) (i :: is)

theorem pickF_spec {B : List RO} : ∀ {l : List Nat} {j : Nat}, pickF B l = some j → j ∈ l ∧ ∃ x, B[j]? = some x ∧ x.o.k.cls ≤ 1
  | [], j, h => by simp [pickF] at h
  | i :: is, j, h => by
    simp only [pickF] at h
    split at h
    · split at h
      · cases h; rename_i x hx hc
        exact ⟨by simp, x, hx, Nat.le_of_ble_eq_true hc⟩
      · obtain ⟨h1, h2⟩ := pickF_spec h; exact ⟨by simp [h1], h2⟩
    · obtain ⟨h1, h2⟩ := pickF_spec h; exact ⟨by simp [h1], h2⟩
theorem pickF_none {B : List RO} : ∀ {l : List Nat}, pickF B l = none → ∀ j ∈ l, ∀ x, B[j]? = some x → Nat.ble x.o.k.cls 1 = false
  | [], h, j, hj, x, hx => by simp at hj
  | i :: is, h, j, hj, x, hx => by
    simp only [pickF] at h
    rcases List.mem_cons.1 hj with rfl | hj
    · rw [hx] at h
      simp only at h
      split at h
      · cases h
      · rename_i hc; exact Bool.eq_false_iff.2 hc
    · split at h
      · split at h
        · cases h
        · exact pickF_none h j hj x hx
      · exact pickF_none h j hj x hx
theorem heldOf_spec {B : List RO} {x : RO} : ∀ {H : List Nat} {h : Nat} {y : RO}, h ∈ H → B[h]? = some y → x.r.testBit h = false → y.o ∈ heldOf B x H
  | [], h, y, hh, _, _ => by simp at hh
  | k :: H, h, y, hh, hy, hr => by
    simp only [heldOf]
    rcases List.mem_cons.1 hh with rfl | hh
    · rw [hy]; simp [hr]
    · have := heldOf_spec (x := x) hh hy hr
      split
      · split
        · exact this
        · exact List.mem_cons_of_mem _ this
      · exact this

section
variable {P : Program} {B : List RO} {K : Tm → St → Prop}

theorem branches_spec {g : Nat → Option Sch} {tm : Tm} {σ : St} : ∀ {l : List Nat} {s : Sch}, branches g l = some s → asch P s K tm σ → ∀ i ∈ l, ∃ t, g i = some t ∧ asch P t K tm σ
  | [], s, h, _, i, hi => by simp at hi
  | [j], s, h, hs, i, hi => by
    simp at hi; subst hi
    exact ⟨s, h, hs⟩
  | j :: k :: is, s, h, hs, i, hi => by
    simp only [branches] at h
    obtain ⟨a, ha, h⟩ := Option.bind_eq_some_iff.1 h
    obtain ⟨b, hb, h⟩ := Option.bind_eq_some_iff.1 h
    cases h
    rcases List.mem_cons.1 hi with rfl | hi
    · exact ⟨a, ha, hs.1⟩
    · exact branches_spec hb hs.2 i hi

theorem mkS_sound (hR : Reach B) (hS : Ssa B) : ∀ (f L : Nat) (H : List Nat) (s : Sch) (tm : Tm) (σ : St), Closed B L → (∀ h ∈ H, L.testBit h = true ∧ ∀ y, B[h]? = some y → y.o.k.cls ≠ 0) → mkS B f L H = some s → asch P s K tm σ → aany P B K f L H tm σ := by
  intro f
  induction f with
  | zero =>
    intro L H s tm σ hC hH hm h
    simp only [mkS] at hm
    split at hm
    · rename_i he; cases hm; exact ⟨he, h⟩
    · cases hm
  | succ f ih =>
    intro L H s tm σ hC hH hm h
    have addH : ∀ (i : Nat), ∀ h ∈ H, (L ||| 2 ^ i).testBit h = true ∧ ∀ y, B[h]? = some y → y.o.k.cls ≠ 0 := fun i h hh => ⟨by rw [testBit_or_pow, (hH h hh).1]; rfl, (hH h hh).2⟩
    simp only [mkS] at hm
    split at hm
    · rename_i he; cases hm
      exact ⟨fun _ => h, fun i hi => by rw [he] at hi; simp at hi⟩
    · rename_i i is he
      split at hm
      · rename_i j hp
        obtain ⟨hmem, x, hx, hc⟩ := pickF_spec hp
        rw [← he] at hmem
        unfold nextS at hm
        obtain ⟨x', hx', hm⟩ := Option.bind_eq_some_iff.1 hm
        rw [hx] at hx'; cases hx'
        rw [if_pos (Nat.ble_eq_true_of_le hc)] at hm
        obtain ⟨t, ht, hm⟩ := Option.bind_eq_some_iff.1 hm
        cases hm
        simp only [asch] at h
        obtain ⟨v, hg, hv⟩ := quiet_gives hc h
        have hsub : inSub x.m L = true := by
          obtain ⟨_, x', hx', _, h3⟩ := mem_readyB.1 hmem
          simp only [Nat.sub_zero] at hx'; rw [hx] at hx'; cases hx'; exact h3
        refine aany_first hR hS hx hc f L H tm σ hC hH hmem hg (ih _ _ t _ _ (hC.add hx hsub) (fun h hh => ?_) ht hv.2)
        split at hh
        · exact addH j h hh
        · rename_i h0
          rcases List.mem_cons.1 hh with rfl | hh
          · exact ⟨by rw [testBit_or_pow]; simp, fun y hy => by rw [hx] at hy; cases hy; exact h0⟩
          · exact addH j h hh
      · rename_i hp
        refine ⟨fun h0 => by rw [he] at h0; exact absurd h0 (by simp), fun j hj x hx => ?_⟩
        have hj' := hj
        rw [he] at hj'
        obtain ⟨t, ht, hs⟩ := branches_spec hm h j hj'
        unfold nextS at ht
        obtain ⟨x', hx', ht⟩ := Option.bind_eq_some_iff.1 ht
        rw [hx] at hx'; cases hx'
        rw [if_neg (by rw [pickF_none hp j hj' x hx]; simp)] at ht
        obtain ⟨u, hu, ht⟩ := Option.bind_eq_some_iff.1 ht
        cases ht
        have hsub : inSub x.m L = true := by
          obtain ⟨_, x', hx', _, h3⟩ := mem_readyB.1 hj
          simp only [Nat.sub_zero] at hx'; rw [hx] at hx'; cases hx'; exact h3
        exact aopO_mono (fun tm' σ' h' => ⟨.inr fun h hh y hy hr => h'.1 _ (heldOf_spec hh hy hr), ih _ _ u _ _ (hC.add hx hsub) (addH j) hu h'.2⟩) hs
end
end Go.Abs
set_option linter.unusedVariables false
set_option linter.unusedSimpArgs false
namespace Go.Abs

/-! ### Regions -/
def maskL : List Edge → Nat
  | [] => 0
  | e :: r => (if Region.binds .any e then 2 ^ e.on else 0) ||| maskL r
theorem maskL_bit {k : Nat} : ∀ {l : List Edge}, (maskL l).testBit k = true ↔ ∃ e ∈ l, Region.binds .any e = true ∧ e.on = k
  | [] => by simp [maskL]
  | e :: r => by
    simp only [maskL, Nat.testBit_or, Bool.or_eq_true, maskL_bit (l := r), List.mem_cons]
    constructor
    · rintro (h | ⟨e', he, h⟩)
      · split at h
        · rename_i hb
          rw [Nat.testBit_two_pow] at h
          exact ⟨e, .inl rfl, hb, by simpa using h⟩
        · simp at h
      · exact ⟨e', .inr he, h⟩
    · rintro ⟨e', (rfl | he), hb, rfl⟩
      · left; rw [if_pos hb, Nat.testBit_two_pow]; simp
      · exact .inr ⟨e', he, hb, rfl⟩

def orR (m : Nat) : List RO → Nat → Nat
  | [], _ => 0
  | x :: r, i => (if m.testBit i then x.r else 0) ||| orR m r (i + 1)
theorem orR_bit {m k : Nat} : ∀ {l : List RO} {s : Nat}, (orR m l s).testBit k = true → ∃ i x, l[i]? = some x ∧ m.testBit (s + i) = true ∧ x.r.testBit k = true
  | [], s, h => by simp [orR] at h
  | x :: r, s, h => by
    simp only [orR, Nat.testBit_or, Bool.or_eq_true] at h
    rcases h with h | h
    · split at h
      · rename_i hb; exact ⟨0, x, rfl, by simpa using hb, h⟩
      · simp at h
    · obtain ⟨i, y, h1, h2, h3⟩ := orR_bit h
      exact ⟨i + 1, y, by simpa using h1, by rw [show s + (i + 1) = s + 1 + i from by omega]; exact h2, h3⟩

def mkB (acc : List RO) : List (CO × Nat) → List RO
  | [] => acc
  | (o, m) :: r => mkB (acc ++ [⟨o, m, m ||| orR m acc 0⟩]) r

theorem mkB_pre : ∀ {l : List (CO × Nat)} {acc : List RO} {i : Nat} {x : RO}, acc[i]? = some x → (mkB acc l)[i]? = some x
  | [], acc, i, x, h => h
  | (o, m) :: r, acc, i, x, h => mkB_pre (l := r) (by
      have : i < acc.length := (List.getElem?_eq_some_iff.1 h).1
      rw [List.getElem?_append_left this]; exact h)
theorem mkB_get : ∀ {l : List (CO × Nat)} {acc : List RO} {i : Nat} {o : CO} {m : Nat}, l[i]? = some (o, m) → ∃ x, (mkB acc l)[acc.length + i]? = some x ∧ x.o = o ∧ x.m = m
  | [], acc, i, o, m, h => by simp at h
  | (o', m') :: r, acc, 0, o, m, h => by
    simp at h
    obtain ⟨rfl, rfl⟩ := h
    exact ⟨⟨o', m', m' ||| orR m' acc 0⟩, mkB_pre (l := r) (by simp), rfl, rfl⟩
  | (o', m') :: r, acc, i + 1, o, m, h => by
    obtain ⟨x, h1, h2⟩ := mkB_get (l := r) (acc := acc ++ [⟨o', m', m' ||| orR m' acc 0⟩]) (by simpa using h)
    refine ⟨x, ?_, h2⟩
    simp only [mkB]
    rw [show acc.length + (i + 1) = (acc ++ [(⟨o', m', m' ||| orR m' acc 0⟩ : RO)]).length + i from by simp; omega]
    exact h1
theorem mkB_len : ∀ {l : List (CO × Nat)} {acc : List RO}, (mkB acc l).length = acc.length + l.length
  | [], acc => by simp [mkB]
  | (o, m) :: r, acc => by simp only [mkB]; rw [mkB_len (l := r)]; simp; omega

theorem mkB_reach : ∀ (l : List (CO × Nat)) (acc B : List RO), mkB acc l = B →
    (∀ (i : Nat) (x : RO), acc[i]? = some x → ∀ L, Closed B L → inSub x.m L = true → inSub x.r L = true) → Reach B
  | [], acc, B, h, ha => by simp only [mkB] at h; subst h; exact ha
  | (o, m) :: r, acc, B, h, ha => by
    simp only [mkB] at h
    refine mkB_reach r _ B h fun i x hx L hC hm => ?_
    rcases Nat.lt_or_ge i acc.length with hi | hi
    · rw [List.getElem?_append_left hi] at hx
      exact ha i x hx L hC hm
    · rw [List.getElem?_append_right hi] at hx
      have : i - acc.length = 0 := by
        have := (List.getElem?_eq_some_iff.1 hx).1
        simp at this; omega
      rw [this] at hx
      simp at hx; subst hx
      rw [inSub_iff] at hm ⊢
      intro k hk
      simp only [Nat.testBit_or, Bool.or_eq_true] at hk
      rcases hk with hk | hk
      · exact hm k hk
      · obtain ⟨j, y, h1, h2, h3⟩ := orR_bit hk
        simp only [Nat.zero_add] at h2
        have hy : B[j]? = some y := by
          rw [← h]
          refine mkB_pre ?_
          have : j < acc.length := (List.getElem?_eq_some_iff.1 h1).1
          rw [List.getElem?_append_left this]; exact h1
        exact inSub_iff.1 (ha j y h1 L hC (hC j y hy (hm j h2))) k h3

def zipM : List CO → List Oper → List (CO × Nat)
  | c :: cs, o :: os => (c, maskL o.after.toList) :: zipM cs os
  | _, _ => []
theorem zipM_get {P : Program} {n : Nat} {ops : Array Oper} : ∀ {os : List Oper} {cs : List CO}, coOfs P n ops os = some cs → ∀ (i : Nat) (o : Oper), os[i]? = some o → ∃ c, coOf P n ops o = some c ∧ (zipM cs os)[i]? = some (c, maskL o.after.toList)
  | [], cs, h, i, o, ho => by simp at ho
  | o' :: os, cs, h, i, o, ho => by
    simp only [coOfs] at h
    obtain ⟨c, hc, h⟩ := Option.bind_eq_some_iff.1 h
    obtain ⟨r, hr, h⟩ := Option.bind_eq_some_iff.1 h
    cases h
    cases i with
    | zero => simp at ho; subst ho; exact ⟨c, hc, rfl⟩
    | succ i =>
      simp at ho
      obtain ⟨c', h1, h2⟩ := zipM_get hr i o ho
      exact ⟨c', h1, by simpa [zipM] using h2⟩
theorem zipM_len {P : Program} {n : Nat} {ops : Array Oper} : ∀ {os : List Oper} {cs : List CO}, coOfs P n ops os = some cs → (zipM cs os).length = os.length
  | [], cs, h => by simp [coOfs] at h; subst h; rfl
  | o :: os, cs, h => by
    simp only [coOfs] at h
    obtain ⟨c, hc, h⟩ := Option.bind_eq_some_iff.1 h
    obtain ⟨r, hr, h⟩ := Option.bind_eq_some_iff.1 h
    cases h
    simp [zipM, zipM_len hr]

theorem coOfs_len {P : Program} {n : Nat} {ops : Array Oper} : ∀ {os : List Oper} {cs : List CO}, coOfs P n ops os = some cs → cs.length = os.length
  | [], cs, h => by simp [coOfs] at h; subst h; rfl
  | o :: os, cs, h => by
    simp only [coOfs] at h
    obtain ⟨c, hc, h⟩ := Option.bind_eq_some_iff.1 h
    obtain ⟨r, hr, h⟩ := Option.bind_eq_some_iff.1 h
    cases h
    simp [coOfs_len hr]

def chain : List CO → Sch
  | [] => .done
  | o :: os => .op o [] (chain os)
theorem chain_aops {P : Program} {K : Tm → St → Prop} : ∀ {l : List CO} {tm : Tm} {σ : St}, asch P (chain l) K tm σ → aops P l tm σ K
  | [], tm, σ, h => h
  | o :: os, tm, σ, h => by
    simp only [chain, asch, aopO] at h
    simp only [aops]
    by_cases hw : wantsA tm o.g = true
    · rw [if_pos hw] at h ⊢
      exact aopk_mono (fun v σ' hk => chain_aops hk.2) h
    · rw [if_neg hw] at h ⊢
      exact chain_aops h.2

def compR (P : Program) (n : Nat) (ops : Array Oper) (draw : Bool) : Option Sch :=
  (coOfs P n ops ops.toList).bind fun cs =>
    if draw then (if P.follows .mixedOrders && ssaL (mkB [] (zipM cs ops.toList)) (mkB [] (zipM cs ops.toList)) 0 then mkS (mkB [] (zipM cs ops.toList)) cs.length 0 [] else none) else some (chain cs)

section
variable {P : Program} {n : Nat} {ops : Array Oper} {Q : Exit → Act → World → Prop} {C0 : Ctx} {w0 : World} {ds : List Deferred} {gh : AV} {r : Option Nat} {m : Nat}

theorem opO_sound {i : Nat} {o : Oper} {c : CO} (hi : ops[i]? = some o) (hc : coOf P n ops o = some c) {C : Ctx} {σ : St} {w : World} {tm : Tm} {a : Act} {K : Tm → St → Prop} (R : Rel C σ w) (H : TRel C w tm a.tmps n)
    (E : Evol C0 w0 C w) (hds : Gh tm a n ds gh) (h : aopO P c tm σ K) {next : Act → World → Prop}
    (hQ : ∀ tm' σ' C' w' a', K tm' σ' → Rel C' σ' w' → TRel C' w' tm' a'.tmps n → Evol C0 w0 C' w' → Gh tm' a' n ds gh → next a' w') : wpOpIn (Wide r) m P ops Q i next a w := by
  unfold coOf at hc
  obtain ⟨d, hd, hc⟩ := Option.bind_eq_some_iff.1 hc
  obtain ⟨g, hg, hc⟩ := Option.bind_eq_some_iff.1 hc
  obtain ⟨k, hk, hc⟩ := Option.bind_eq_some_iff.1 hc
  cases hc
  unfold wpOpIn
  rw [hi]
  simp only []
  rw [wants_sound H hg]
  unfold aopO at h
  by_cases hw : wantsA tm g = true
  · rw [if_pos hw] at h ⊢
    refine op_sound R H hk h fun x σ' C' w' v hK hv R' E' => ?_
    exact hQ _ σ' C' w' _ hK R' ((H.evol E').putO hd hv) (E.trans E') (hds.put hd)
  · rw [if_neg hw] at h ⊢
    refine ⟨fun _ _ => trivial, ?_⟩
    exact hQ _ σ C w _ h R (H.putO hd (by simp only [undefA, VRel]; exact ⟨[], rfl, .nil⟩)) E (hds.put hd)

theorem any_sound {B : List RO} (hB : ∀ (i : Nat) (o : Oper), ops[i]? = some o → ∃ x, B[i]? = some x ∧ coOf P n ops o = some x.o ∧ x.m = maskL o.after.toList) (hl : B.length = ops.size) {K : Tm → St → Prop}
    (hQ : ∀ tm' σ' C' w' a', K tm' σ' → Rel C' σ' w' → TRel C' w' tm' a'.tmps n → Evol C0 w0 C' w' → Gh tm' a' n ds gh → Q .normal a' w') :
    ∀ (f L : Nat) (H : List Nat) (listed : Array Bool), listed.size = ops.size → (∀ i, listed.getD i false = L.testBit i) → ∀ (C : Ctx) (σ : St) (w : World) (tm : Tm) (a : Act), Rel C σ w → TRel C w tm a.tmps n → Evol C0 w0 C w → Gh tm a n ds gh →
    aany P B K f L H tm σ → wpAnyIn (Wide r) m P .any ops Q f listed a w := by
  have hready : ∀ (L : Nat) (listed : Array Bool), listed.size = ops.size → (∀ i, listed.getD i false = L.testBit i) → ∀ j, j ∈ Region.ready .any ops listed ↔ j ∈ readyB B 0 L := by
    intro L listed hs hL j
    rw [mem_ready, mem_readyB]
    simp only [Nat.zero_le, true_and, Nat.sub_zero]
    have hd : ∀ i, i < ops.size → listed.getD i true = listed.getD i false := fun i hi => by
      have : i < listed.size := by omega
      simp [Array.getD, this]
    constructor
    · rintro ⟨h1, o, ho, h2⟩
      obtain ⟨x, hx, _, hm⟩ := hB j o ho
      have hj : j < ops.size := (Array.getElem?_eq_some_iff.1 ho).1
      refine ⟨x, hx, by rw [← hL, ← hd j hj]; exact h1, inSub_iff.2 fun k hk => ?_⟩
      rw [hm, maskL_bit] at hk
      obtain ⟨e, he, hb, rfl⟩ := hk
      rw [← hL]; exact h2 e (by simpa using he) hb
    · rintro ⟨x, hx, h1, h2⟩
      have hj : j < ops.size := by
        have := (List.getElem?_eq_some_iff.1 hx).1; omega
      have ho : ops[j]? = some ops[j] := Array.getElem?_eq_getElem hj
      obtain ⟨x', hx', _, hm⟩ := hB j _ ho
      rw [hx] at hx'; cases hx'
      refine ⟨by rw [hd j hj, hL]; exact h1, _, ho, fun e he hb => ?_⟩
      rw [hL]
      refine inSub_iff.1 h2 _ ?_
      rw [hm, maskL_bit]
      exact ⟨e, by simpa using he, hb, rfl⟩
  have hnil : ∀ (L : Nat) (listed : Array Bool), listed.size = ops.size → (∀ i, listed.getD i false = L.testBit i) → (Region.ready .any ops listed = [] ↔ readyB B 0 L = []) := by
    intro L listed hs hL
    constructor
    · intro h
      rw [List.eq_nil_iff_forall_not_mem] at h ⊢
      exact fun j hj => h j ((hready L listed hs hL j).2 hj)
    · intro h
      rw [List.eq_nil_iff_forall_not_mem] at h ⊢
      exact fun j hj => h j ((hready L listed hs hL j).1 hj)
  intro f
  induction f with
  | zero =>
    intro L Hs listed hs hL C σ w tm a R H E hds h
    exact ⟨(hnil L listed hs hL).2 h.1, hQ tm σ C w a h.2 R H E hds⟩
  | succ f ih =>
    intro L Hs listed hs hL C σ w tm a R H E hds h
    refine ⟨fun h0 => hQ tm σ C w a (h.1 ((hnil L listed hs hL).1 h0)) R H E hds, fun i hi => ?_⟩
    obtain ⟨_, o, ho, _⟩ := mem_ready.1 hi
    obtain ⟨x, hx, hco, _⟩ := hB i o ho
    have hi' : i < listed.size := by
      have := (Array.getElem?_eq_some_iff.1 ho).1; omega
    refine opO_sound ho hco R H E hds (h.2 i ((hready L listed hs hL i).1 hi) x hx) fun tm' σ' C' w' a' hK R' H' E' hds' => ?_
    refine ih (L ||| 2 ^ i) Hs (listed.setIfInBounds i true) (by simp [hs]) (fun k => ?_) C' σ' w' tm' a' R' H' E' hds' hK.2
    rw [testBit_or_pow]
    by_cases hik : i = k
    · subst hik
      simp [Array.getD_eq_getD_getElem?, Array.getElem?_setIfInBounds_self_of_lt hi']
    · rw [← hL k]
      simp [Array.getD_eq_getD_getElem?, Array.getElem?_setIfInBounds_ne hik, hik]

theorem region_sound {id : Nat} {draw : Bool} {s : Sch} (hc : compR P n ops draw = some s) {C : Ctx} {σ : St} {w : World} {tm : Tm} {a : Act} {K : Tm → St → Prop} (R : Rel C σ w) (H : TRel C w tm a.tmps n)
    (E : Evol C0 w0 C w) (hds : Gh tm a n ds gh) (h : asch P s K tm σ)
    (hQ : ∀ tm' σ' C' w' a', K tm' σ' → Rel C' σ' w' → TRel C' w' tm' a'.tmps n → Evol C0 w0 C' w' → Gh tm' a' n ds gh → Q .normal a' w') : (Code.region id ops draw).wpIn (Wide r) m P Q a w := by
  unfold compR at hc
  obtain ⟨cs, hcs, hc⟩ := Option.bind_eq_some_iff.1 hc
  cases draw with
  | false =>
    simp only [Bool.false_eq_true, if_false] at hc
    cases hc
    refine wpIn_region ?_
    refine ops_sound (List.range ops.size) ops.toList cs ?_ hcs C σ w tm a K R H E hds (chain_aops h) hQ
    refine List.ext_getElem? fun i => ?_
    rw [List.getElem?_map, List.getElem?_map]
    rcases Nat.lt_or_ge i ops.size with hi | hi
    · rw [List.getElem?_range hi]; simp [hi]
    · rw [List.getElem?_eq_none (by simpa using hi), List.getElem?_eq_none (by simpa using hi)]; rfl
  | true =>
    simp only [if_true] at hc
    split at hc
    · rename_i hm
      simp only [Bool.and_eq_true] at hm
      obtain ⟨hm, hssa⟩ := hm
      have hlen : cs.length = ops.size := by
        have := coOfs_len hcs; simpa using this
      obtain ⟨R', E'⟩ := R.drew
      refine wpIn_region_any hm ?_
      rw [← hlen]
      refine any_sound (B := mkB [] (zipM cs ops.toList)) (K := K) (fun i o ho => ?_) ?_ hQ _ 0 [] _ (by simpa using hlen) (fun i => ?_) C σ _ tm a R' (H.evol E') (E.trans E') hds (mkS_sound (mkB_reach _ _ _ rfl (by simp)) (ssa_spec hssa) _ _ _ _ _ _ ?_ (by simp) hc h)
      · obtain ⟨c, h1, h2⟩ := zipM_get hcs i o (by simpa using ho)
        obtain ⟨x, h3, h4, h5⟩ := mkB_get (acc := []) h2
        exact ⟨x, by simpa using h3, by rw [h4]; exact h1, h5⟩
      · rw [mkB_len, zipM_len hcs]; simp
      · simp only [Nat.zero_testBit]
        by_cases hi : i < cs.length <;> simp [Array.getD, hi]
      · intro i x hx hb; simp at hb
    · cases hc
end
end Go.Abs
