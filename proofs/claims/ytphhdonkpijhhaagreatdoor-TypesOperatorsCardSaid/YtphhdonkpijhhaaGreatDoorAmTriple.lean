/- An array of three integers as a parameter: how it is read. -/
import Derived.WideKeyPair
import Derived.WideKeyArr2
set_option linter.all false
namespace Go.AM
open Go.ChangeShapes Go.WideShapes Go.WideMaps

section
variable {H : Type} {enc : TypeId × Value → H} {P : Program} {k e : TypeId} {q : IntKind} {W : World} {base : Nat} {sp : Nat → Bool} {held : Bool}

theorem okWide_triple (A : ArrKey P k e 3) {r : Reach} {b0 : Nat} {v : Value} (h : Value.okWide P W r b0 k v) : ∃ x y z, v = .agg #[x, y, z] := by
  simp only [Value.okWide, A.hu] at h
  obtain ⟨cs, h1, h2, _⟩ := h
  rw [A.size] at h2
  obtain ⟨l⟩ := cs
  match l, h2 with
  | [x, y, z], _ => exact ⟨x, y, z, h1⟩

theorem open_triple (A : ArrKey P k e 3) (he : P.underlying e = some (.int q)) {r : Reach} {b0 : Nat} {v : Value} {d : DataW H} {ps : List MemPlace} (hval : Value.okWide P W r b0 k v) (hd : DataW.Trod enc P W base sp held k v d ps) :
    ∃ x y z : Int, v = .agg #[.int q x, .int q y, .int q z] ∧ d = .agg [.lit (.int q x), .lit (.int q y), .lit (.int q z)] ∧ ps = [] ∧ (Lit.int q x).wf = true ∧ (Lit.int q y).wf = true ∧ (Lit.int q z).wf = true := by
  obtain ⟨c0, c1, c2, rfl⟩ := okWide_triple A hval
  obtain ⟨fuel, hf⟩ := hd
  cases fuel with
  | zero => simp [DataW.trod] at hf
  | succ n =>
    rw [DataW.trod_step] at hf
    unfold DataW.trodStep at hf
    simp only [A.hu, Value.cells] at hf
    rw [if_pos (by rw [A.size]; rfl)] at hf
    simp only [Option.map_eq_some_iff] at hf
    obtain ⟨xs, hx, e1⟩ := hf
    rw [show List.range 3 = [0, 1, 2] from rfl, List.mapM_cons, List.mapM_cons, List.mapM_cons, List.mapM_nil] at hx
    simp only [bind, Option.bind_eq_some_iff, pure, Option.some.injEq, A.one] at hx
    obtain ⟨y0, h0, _, ⟨y1, h1, _, ⟨y2, h2, _, rfl, rfl⟩, rfl⟩, rfl⟩ := hx
    obtain ⟨x, ex, rfl, wx⟩ := DataW.trod_int he h0
    obtain ⟨y, ey, rfl, wy⟩ := DataW.trod_int he h1
    obtain ⟨z, ez, rfl, wz⟩ := DataW.trod_int he h2
    simp at ex ey ez
    subst ex ey ez
    simp only [Prod.mk.injEq] at e1
    exact ⟨x, y, z, rfl, by rw [← e1.1]; rfl, by rw [← e1.2]; rfl, wx, wy, wz⟩

theorem shut_triple (A : ArrKey P k e 3) (he : P.underlying e = some (.int q)) {x y z : Int} (wx : (Lit.int q x).wf = true) (wy : (Lit.int q y).wf = true) (wz : (Lit.int q z).wf = true) :
    DataW.Trod enc P W base sp held k (.agg #[.int q x, .int q y, .int q z]) (.agg [.lit (.int q x), .lit (.int q y), .lit (.int q z)]) [] :=
  ⟨2, by
    show DataW.trod enc P W base sp held (1 + 1) k [.int q x, .int q y, .int q z] = _
    rw [DataW.trod_step]
    unfold DataW.trodStep
    simp only [A.hu]
    rw [if_pos (by rw [A.size]; rfl), show List.range 3 = [0, 1, 2] from rfl, List.mapM_cons, List.mapM_cons, List.mapM_cons, List.mapM_nil]
    simp [A.one, DataW.trod, he, wx, wy, wz]⟩
end
end Go.AM
