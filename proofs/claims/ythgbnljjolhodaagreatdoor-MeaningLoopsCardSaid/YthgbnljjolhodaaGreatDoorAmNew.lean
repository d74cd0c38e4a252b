/- The abstract machine's operations that make a new block. -/
import Derived.Test.YthgbnljjolhodaaGreatDoorAmRead
set_option linter.all false
namespace Go.AM

section
variable {P : Program} {Γ : Facts} {ρ : Env} {μ : Where} {tm : Tr AVal} {a : Act} {w : World} {h : Heap}

/-- operation `o` makes a new block that reads as `B`, and gives `v`, in which the block has the number `id` -/
def Makes (P : Program) (ρ : Env) (μ : Where) (a : Act) (o : Oper) (w : World) (id : Nat) (B : Block) (v : AVal) : Prop :=
  ∃ ob v', (execOp a.eval o).run P w = .ok (.value v') (w.alloc ob) ∧ ∃ m, (∀ μ' : Where, μ.le μ' → BRel ρ μ' B (some ob) (0, m)) ∧ ∀ μ' : Where, μ.le μ' → μ' id = some (w.heap.size, 0, m) → VRel ρ μ' v v'

theorem brel_cells {cs : List AVal} {c : Array Value} {e : TypeId} (hc : CsRel ρ μ cs c.toList) (μ' : Where) (hle : μ.le μ') : BRel ρ μ' (.cells cs) (some (.cells c e)) (0, c.size) :=
  ⟨c, e, rfl, by omega, fun i x hx => by
    obtain ⟨v, hv, hs, hr⟩ := hc.get hx
    exact ⟨v, by rw [Nat.zero_add]; simpa using hv, hs, hr.mono hle⟩⟩

/-- a whole block, of known type or not -/
theorem brel_blockT {cs : List AVal} {c : Array Value} {e : TypeId} {t : Option Nat} (ht : t = some e ∨ t = none) (hc : CsRel ρ μ cs c.toList) (μ' : Where) (hle : μ.le μ') : BRel ρ μ' (blockT t cs) (some (.cells c e)) (0, c.size) := by
  have h := brel_cells (e := e) hc μ' hle
  rcases ht with rfl | rfl
  · obtain ⟨c', e', ho, hs, hcs⟩ := h
    simp only [Option.some.injEq, Obj.cells.injEq] at ho
    obtain ⟨rfl, rfl, _⟩ := ho
    exact ⟨c, rfl, ⟨rfl, by have := hc.length; simp at this; omega⟩, hs, hcs⟩
  · exact h

theorem tyOf_cases (t : TypeId) : tyOf P t = some t ∨ tyOf P t = none := by
  unfold tyOf
  split
  · exact .inl rfl
  · exact .inr rfl

theorem run_newRow (e : TypeId) (c : Array Value) : (newRow e c).run P w = .ok ⟨w.heap.size, 0, none⟩ (w.alloc (.cells c e)) := by
  simp [newRow]

theorem ptr_rel {id : Nat} {r m : Nat} (μ' : Where) (hm : μ' id = some (r, 0, m)) : VRel ρ μ' (.ptr id 0) (.pointer (some ⟨r, 0, none⟩)) := by
  simp only [VRel]; exact ⟨r, 0, m, hm, rfl⟩

theorem makes_zero {o : Oper} {t : TypeId} (ho : o.op = .alloc t) {cs : List AVal} (hz : zeroT P t = some cs) {id : Nat} : Makes P ρ μ a o w id (blockT (tyOf P t) cs) (.ptr id 0) := by
  obtain ⟨zv, h1, h2⟩ := zeroT_sound (w := w) (ρ := ρ) (μ := μ) hz
  refine ⟨.cells zv.cells t, .pointer (some ⟨w.heap.size, 0, none⟩), ?_, _, fun μ' hle => brel_blockT (tyOf_cases t) h2 μ' hle, fun μ' _ hm => ptr_rel μ' hm⟩
  simp [execOp, ho, Instr.alloc, h1, newVar, run_newRow]

theorem makes_box {o : Oper} {t : TypeId} {x : Operand} (ho : o.op = .box t x) (hT : TRel ρ μ tm a) {cs : List AVal} (hc : (ev tm (opd x)).cells = some cs) {id : Nat} : Makes P ρ μ a o w id (blockT (tyOf P t) cs) (.ptr id 0) := by
  have h2 := (ev_sound hT x).cells hc
  refine ⟨.cells (a.eval x).cells t, .pointer (some ⟨w.heap.size, 0, none⟩), ?_, _, fun μ' hle => brel_blockT (tyOf_cases t) h2 μ' hle, fun μ' _ hm => ptr_rel μ' hm⟩
  simp [execOp, ho, Instr.box, newVar, run_newRow]

/-- a row of zero values -/
theorem zeros_rel {z : List AVal} {zv : Array Value} {n : Nat} (hz : CsRel ρ μ z zv.toList) (hn : z.length = n) (k : Nat) {y : Array Value} (hy : k * n ≠ 0 → y = zv) :
    CsRel ρ μ (rep z k) ((Array.range (k * n)).map fun i => y[i % y.size]!).toList := by
  have hzl : zv.size = n := by have := hz.length; simp at this; omega
  refine CsRel.of_get (by rw [rep_length, hn]; simp) fun i x hx => ?_
  have hi : i < k * n := by
    have := (List.getElem?_eq_some_iff.1 hx).1
    rw [rep_length, hn] at this
    exact this
  rw [rep_get z k i (by rw [hn]; exact hi), hn] at hx
  obtain ⟨v, hv, hs, hr⟩ := hz.get hx
  refine ⟨v, ?_, hs, hr⟩
  have hyz := hy (by omega)
  subst hyz
  rw [Array.getElem?_toList] at hv
  simp only [Array.getElem?_toList, Array.getElem?_map]
  rw [Array.getElem?_range, if_pos hi]
  simp only [Option.map_some]
  rw [hzl, getElem!_def, hv]

theorem makes_bslice {o : Oper} {t e : TypeId} {len n : Nat} {parts : Array (Nat × Operand)} (ho : o.op = .buildSlice t len parts) (hT : TRel ρ μ tm a) (hu : P.underlying t = some (.slice e)) (hn : sizeT P e = some n) {z : List AVal} (hz : zeroT P e = some z)
    (hsz : len * n ≤ 65536) (hzl : z.length = n) {ps : List (Nat × Nat × Opd)} (hp : partsOf (fun i => some (i * n, n)) parts.toList = some ps) {cs : List AVal} (hf : fillA tm ps (List.replicate len z).flatten = some cs) {id : Nat} :
    Makes P ρ μ a o w id (.cells cs) (.slice id 0 len len) := by
  obtain ⟨zv, h1, h2⟩ := zeroT_sound (w := w) (ρ := ρ) (μ := μ) hz
  have hs := run_sizeT (w := w) hn
  have key : ∀ y : Array Value, (len * n ≠ 0 → y = zv.cells) → ∃ x : Array Value, Instr.fill (fun i => some (i * n, n)) ((Array.range (len * n)).map fun i => y[i % y.size]!) ((parts.map fun x => (x.1, a.eval x.2)).toList) = some x ∧ CsRel ρ μ cs x.toList := fun y hy => by
    have hr := zeros_rel h2 hzl len hy
    rw [rep_eq] at hr
    obtain ⟨x, hx, hc⟩ := fill_sound (place' := fun i => some (i * n, n)) hT hp (fun i y e => e) hr hf
    refine ⟨x, ?_, hc⟩
    have he : (parts.map fun x => (x.1, a.eval x.2)).toList = parts.toList.map fun p => (p.1, a.eval p.2) := by simp
    rw [he]; exact hx
  have hle : ¬ len * n > 2 ^ 24 := by omega
  have hvr : ∀ (m : Nat) (μ' : Where), μ' id = some (w.heap.size, 0, m) → VRel ρ μ' (.slice id 0 len len) (.slice (some ⟨w.heap.size, 0, none⟩) len len) := fun m μ' hm => by
    simp only [VRel]; exact ⟨_, _, _, hm, rfl, Nat.le_refl _⟩
  by_cases h0 : len * n = 0
  · obtain ⟨x, hx, hc⟩ := key #[] (fun h => absurd h0 h)
    refine ⟨.cells x e, _, ?_, _, fun μ' hle => brel_cells hc μ' hle, fun μ' _ hm => hvr _ μ' hm⟩
    simp only [execOp, ho, Instr.buildSlice, Sem.run_bind, run_underlying hu, Result.andThen_ok, hs]
    rw [if_neg hle]
    simp only [Sem.run_bind, Sem.run_pure, Result.andThen_ok, h0, if_true]
    rw [h0] at hx
    simp only [hx]
    simp [run_newRow]
  · obtain ⟨x, hx, hc⟩ := key zv.cells (fun _ => rfl)
    refine ⟨.cells x e, _, ?_, _, fun μ' hle => brel_cells hc μ' hle, fun μ' _ hm => hvr _ μ' hm⟩
    simp only [execOp, ho, Instr.buildSlice, Sem.run_bind, run_underlying hu, Result.andThen_ok, hs]
    rw [if_neg hle]
    simp only [Sem.run_bind, Sem.run_pure, Result.andThen_ok, h0, if_false, h1]
    simp only [hx]
    simp [run_newRow]

theorem wrap_small {n : Nat} (h : n ≤ 1048576) : IntKind.i64.wrap (n : Int) = (n : Int) := by
  unfold IntKind.wrap
  have e : (n : Int) % 2 ^ IntKind.i64.bits = n := Int.emod_eq_of_lt (by omega) (by show (n : Int) < 18446744073709551616; omega)
  simp only [e]
  rw [if_neg]
  intro hc
  simp only [Bool.and_eq_true, decide_eq_true_eq] at hc
  have : (9223372036854775808 : Int) ≤ n := hc.2
  omega

theorem makes_mkSlice {o : Oper} {t e : TypeId} {l c : Operand} (ho : o.op = .makeSlice t l c) (hT : TRel ρ μ tm a) (hu : P.underlying t = some (.slice e)) {i : TypeInfo} (hi : P.info? e = some i) {z : List AVal} (hz : zeroT P e = some z)
    (hb : i.bytes ≤ 1048576) (hzl : z.length = i.size) {id : Nat} {B : Block} {v : AVal} (h : mkSliceV id z (natOf (ev tm (opd l))) (natOf (ev tm (opd c))) = some (B, v)) : Makes P ρ μ a o w id B v := by
  obtain ⟨zv, h1, h2⟩ := zeroT_sound (w := w) (ρ := ρ) (μ := μ) hz
  unfold mkSliceV at h
  obtain ⟨ln, hl, h⟩ := bnd_some h
  obtain ⟨cn, hc, h⟩ := bnd_some h
  obtain ⟨hle, h⟩ := cond_some h
  rw [Bool.and_eq_true, ble_iff, ble_iff] at hle
  simp only [Option.some.injEq, Prod.mk.injEq] at h
  obtain ⟨rfl, rfl⟩ := h
  obtain ⟨k1, e1⟩ := natOf_sound hl (ev_sound hT l)
  obtain ⟨k2, e2⟩ := natOf_sound hc (ev_sound hT c)
  have hti : (typeInfo e).run P w = .ok i w := by simp [typeInfo, hi]
  have hs : (sizeOf e).run P w = .ok i.size w := by simp [sizeOf, hti]
  have hvr : ∀ (m : Nat) (μ' : Where), μ' id = some (w.heap.size, 0, m) → VRel ρ μ' (.slice id 0 ln cn) (.slice (some ⟨w.heap.size, 0, none⟩) ln cn) := fun m μ' hm => by
    simp only [VRel]; exact ⟨_, _, _, hm, rfl, hle.1⟩
  have w1 := wrap_small (n := ln) (by omega)
  have w2 := wrap_small (n := cn) (by omega)
  have hmul : i.bytes * cn ≤ 1048576 * 1048576 := Nat.mul_le_mul hb hle.2
  have hbig : (((cn : Int) < 0) || decide ((i.bytes : Int) * (cn : Int) > 2 ^ 48)) = false := by
    have : (i.bytes : Int) * (cn : Int) = ((i.bytes * cn : Nat) : Int) := by simp
    rw [this]
    simp
    omega
  have hcond : (((((cn : Int) < 0) || decide ((i.bytes : Int) * (cn : Int) > 2 ^ 48)) || decide ((ln : Int) < 0)) || decide ((ln : Int) > (cn : Int))) = false := by
    rw [hbig]; simp; omega
  by_cases h0 : cn * i.size = 0
  · have hr := zeros_rel h2 hzl cn (y := #[]) (fun h => absurd h0 h)
    refine ⟨.cells _ e, _, ?_, _, fun μ' hle => brel_cells hr μ' hle, fun μ' _ hm => hvr _ μ' hm⟩
    simp only [execOp, ho, Instr.makeSlice, Sem.run_bind, run_underlying hu, Result.andThen_ok, e1, e2, asInt, asIntOf, Sem.run_pure, hti, w1, w2]
    rw [hcond]
    simp [hs, h0, run_newRow]
  · have hr := zeros_rel h2 hzl cn (y := zv.cells) (fun _ => rfl)
    refine ⟨.cells _ e, _, ?_, _, fun μ' hle => brel_cells hr μ' hle, fun μ' _ hm => hvr _ μ' hm⟩
    simp only [execOp, ho, Instr.makeSlice, Sem.run_bind, run_underlying hu, Result.andThen_ok, e1, e2, asInt, asIntOf, Sem.run_pure, hti, w1, w2]
    rw [hcond]
    simp [hs, h0, h1, run_newRow]

theorem makes_map {o : Oper} {t k e : TypeId} {r : Option Operand} (ho : o.op = .makeMap t r) (hu : P.underlying t = some (.map k e)) (hr : r = none ∨ ∃ j n, r = some (.const (.int j n))) {id : Nat} : Makes P ρ μ a o w id (.map [] 0) (.map id) := by
  refine ⟨.map #[] 0, .map (some w.heap.size), ?_, 0, fun μ' _ => ⟨rfl, #[], rfl, by simp only [EsRel]⟩, fun μ' _ hm => by simp only [VRel]; exact ⟨_, hm, rfl⟩⟩
  rcases hr with rfl | ⟨j, n, rfl⟩
  · simp [execOp, ho, Instr.makeMap]
  · simp [execOp, ho, Instr.makeMap, run_underlying hu, Act.eval, asInt, asIntOf]

/-- ALL OPERATIONS THAT MAKE A NEW BLOCK -/
theorem new_sound (hT : TRel ρ μ tm a) {pl : List Held} {o : Oper} {q : AOp} (hc : compOp P pl o = some (.a q)) {id : Nat} {B : Block} {v : AVal} (h : newA tm id q = some (B, v)) : Makes P ρ μ a o w id B v := by
  cases hop : o.op <;> simp only [compOp, hop, reduceCtorEq, Option.some.injEq, IOp.a.injEq] at hc
  case alloc t =>
    obtain ⟨z, hz, e⟩ := Option.map_eq_some_iff.1 hc
    simp only [IOp.a.injEq] at e
    subst e
    have h : some (blockT (tyOf P t) z, AVal.ptr id 0) = some (B, v) := h
    simp only [Option.some.injEq, Prod.mk.injEq] at h
    obtain ⟨rfl, rfl⟩ := h
    exact makes_zero hop hz
  case box t x =>
    subst hc
    obtain ⟨cs, hcs, h⟩ := bnd_some h
    simp only [Option.some.injEq, Prod.mk.injEq] at h
    obtain ⟨rfl, rfl⟩ := h
    exact makes_box hop hT hcs
  case buildSlice t len parts =>
    split at hc
    · rename_i e hu
      split at hc
      · rename_i n z hn hz
        split at hc
        · rename_i hcond
          obtain ⟨ps, hp, e⟩ := Option.map_eq_some_iff.1 hc
          simp only [IOp.a.injEq] at e
          subst e
          obtain ⟨cs, hcs, h⟩ := bnd_some h
          simp only [Option.some.injEq, Prod.mk.injEq] at h
          obtain ⟨rfl, rfl⟩ := h
          simp only [Bool.and_eq_true, decide_eq_true_eq, beq_iff_eq] at hcond
          exact makes_bslice hop hT hu hn hz hcond.1 hcond.2 hp hcs
        · cases hc
      · cases hc
    · cases hc
  case makeSlice t l c =>
    split at hc
    · rename_i e hu
      split at hc
      · rename_i i z hi hz
        split at hc
        · rename_i hcond
          simp only [Option.some.injEq, IOp.a.injEq] at hc
          subst hc
          simp only [Bool.and_eq_true, decide_eq_true_eq, beq_iff_eq] at hcond
          exact makes_mkSlice hop hT hu hi hz hcond.1 hcond.2 h
        · cases hc
      · cases hc
    · cases hc
  case makeMap t r =>
    have hmk : q = .mkMap → (∃ k e, P.underlying t = some (.map k e)) → (r = none ∨ ∃ j n, r = some (.const (.int j n))) → Makes P ρ μ a o w id B v := fun hq hu hr => by
      subst hq
      have h : some (Block.map [] 0, AVal.map id) = some (B, v) := h
      simp only [Option.some.injEq, Prod.mk.injEq] at h
      obtain ⟨rfl, rfl⟩ := h
      obtain ⟨k, e, hu⟩ := hu
      exact makes_map hop hu hr
    split at hc
    · rename_i k e hu
      simp only [Option.some.injEq, IOp.a.injEq] at hc
      exact hmk hc.symm ⟨_, _, hu⟩ (.inl rfl)
    · rename_i k e j n hu
      simp only [Option.some.injEq, IOp.a.injEq] at hc
      exact hmk hc.symm ⟨_, _, hu⟩ (.inr ⟨_, _, rfl⟩)
    · cases hc
  case call c =>
    exfalso
    unfold compCall at hc
    split at hc
    · split at hc
      · split at hc
        · simp at hc
        · split at hc
          · split at hc <;> simp at hc
          · split at hc
            · split at hc <;> simp at hc
            · cases hc
      · cases hc
    · simp at hc
    · cases hc
    · split at hc
      · split at hc <;> simp at hc
      · exfalso
        unfold compApp at hc
        split at hc <;> first | cases hc | skip
        all_goals (split at hc <;> first | (cases hc; done) | (split at hc <;> simp at hc))
      · exfalso
        split at hc <;> first | (cases hc; done) | (obtain ⟨_, _, e⟩ := Option.map_eq_some_iff.1 hc; cases e)
      · simp at hc
      · simp at hc
      · simp at hc
      · simp at hc
      · exfalso
        split at hc
        · split at hc <;> simp at hc
        · cases hc
      · cases hc
  case convert s d x =>
    rcases compConv_spec hc with ⟨k0, k, hs, hd, e⟩ | ⟨hs, hd, e⟩ | ⟨t, n, hs, hd, hn, e⟩ | ⟨u, n, hs, hd, hn, e⟩ <;> cases e
  case typeAssert x xt t ok =>
    obtain ⟨d, i, z, hu, hd, hi, hz, e⟩ := compAssert_spec hc
    cases e
  case defer c =>
    obtain ⟨cal, args, tys⟩ := c
    cases cal <;> simp at hc
  case makeFunc fn x c => cases fn <;> simp at hc
  case binOp op t x y yt => obtain ⟨_, _, e⟩ := Option.map_eq_some_iff.1 hc; cases e
  case slice t x lo hi mx =>
    exfalso
    split at hc
    · simp at hc
    · obtain ⟨_, _, e⟩ := Option.map_eq_some_iff.1 hc; cases e
    · split at hc
      · obtain ⟨_, _, e⟩ := Option.map_eq_some_iff.1 hc; cases e
      · cases hc
    · cases hc
  case build t parts =>
    exfalso
    split at hc
    · split at hc
      · obtain ⟨_, _, e⟩ := Option.map_eq_some_iff.1 hc; cases e
      · cases hc
    · obtain ⟨_, _, hc⟩ := Option.bind_eq_some_iff.1 hc
      obtain ⟨_, _, e⟩ := Option.map_eq_some_iff.1 hc; cases e
    · cases hc
  case fieldAddr t x f =>
    exfalso
    split at hc
    · obtain ⟨_, _, hc⟩ := Option.bind_eq_some_iff.1 hc
      split at hc <;> simp at hc
    · cases hc
  case field t x f =>
    exfalso
    split at hc
    · obtain ⟨_, _, hc⟩ := Option.bind_eq_some_iff.1 hc
      obtain ⟨_, _, e⟩ := Option.map_eq_some_iff.1 hc; cases e
    · cases hc
  all_goals
    exfalso
    first
      | (cases hc; done)
      | (split at hc <;> first | (cases hc; done) | (simp at hc; done) | (obtain ⟨_, _, e⟩ := Option.map_eq_some_iff.1 hc; cases e; done) | (split at hc <;> first | (cases hc; done) | (simp at hc; done) | (obtain ⟨_, _, e⟩ := Option.map_eq_some_iff.1 hc; cases e; done) | (split at hc <;> first | (cases hc; done) | (simp at hc; done) | (obtain ⟨_, _, e⟩ := Option.map_eq_some_iff.1 hc; cases e; done))))
      | (obtain ⟨_, _, e⟩ := Option.map_eq_some_iff.1 hc; cases e; done)

end
end Go.AM
