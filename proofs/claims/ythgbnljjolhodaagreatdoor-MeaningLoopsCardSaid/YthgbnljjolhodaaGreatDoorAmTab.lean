/- A table of translated functions, from the list of them. -/
import Derived.Test.YthgbnljjolhodaaGreatDoorAmEnd
set_option linter.all false
namespace Go.AM

/-- function `i` of the program, translated -/
def compAt (P : Program) (pl : List Held) (i : Nat) : Option IFun :=
  match P.funcs[i]? with
  | some fn => bif fn.name == "runtime.NumGoroutine" then none else compFun P pl fn
  | none => none

theorem compAt_spec {P : Program} {pl : List Held} {i : Nat} {F : IFun} (h : compAt P pl i = some F) : ∃ fn, P.funcs[i]? = some fn ∧ compFun P pl fn = some F ∧ (fn.name == "runtime.NumGoroutine") = false := by
  unfold compAt at h
  split at h
  · rename_i fn hf
    cases e : fn.name == "runtime.NumGoroutine" with
    | true => rw [e] at h; cases h
    | false => rw [e] at h; exact ⟨fn, hf, h, e⟩
  · cases h

/-- the table holds these functions and no others -/
noncomputable def tabOf (l : List (Nat × IFun)) (t : Tr IFun) : Tr IFun :=
  List.rec (motive := fun _ => Tr IFun) t (fun x _ ih => Tr.set ih x.1 (some x.2)) l

theorem tabOf_cons (x : Nat × IFun) (l : List (Nat × IFun)) (t : Tr IFun) : tabOf (x :: l) t = (tabOf l t).set x.1 (some x.2) := rfl

theorem tabOf_get {t : Tr IFun} (ht : ∀ g, t.get g = none) : ∀ {l : List (Nat × IFun)} {g : Nat} {F : IFun}, (tabOf l t).get g = some F → (g, F) ∈ l
  | [], g, F, h => by rw [show tabOf [] t = t from rfl, ht] at h; cases h
  | x :: l, g, F, h => by
    rw [tabOf_cons, Tr.get_set] at h
    by_cases e : g = x.1
    · rw [if_pos e] at h
      simp only [Option.some.injEq] at h
      subst h e
      exact List.mem_cons_self
    · rw [if_neg e] at h
      exact List.mem_cons_of_mem _ (tabOf_get ht h)

theorem tabOk {P : Program} {pl : List Held} {l : List (Nat × IFun)} {T : Tr IFun} {d : Nat} (hT : T = tabOf l (Tr.full IFun d)) (h : ∀ x ∈ l, compAt P pl x.1 = some x.2) : TabOk P pl (Tr.get T) := by
  intro g F hg
  rw [hT] at hg
  exact compAt_spec (h _ (tabOf_get (Tr.get_full d) hg))

theorem all_cons {α : Type} {p : α → Prop} {x : α} {l : List α} (h : p x) (h' : ∀ y ∈ l, p y) : ∀ y ∈ x :: l, p y := fun y hy => by
  rcases List.mem_cons.1 hy with rfl | hy
  · exact h
  · exact h' y hy

theorem all_nil {α : Type} {p : α → Prop} : ∀ y ∈ ([] : List α), p y := fun y hy => by cases hy
end Go.AM
