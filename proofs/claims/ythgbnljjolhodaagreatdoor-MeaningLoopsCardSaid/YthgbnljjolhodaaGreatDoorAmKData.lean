/- Data of kernels: what lists in memory hold. -/
import Derived.Test.YthgbnljjolhodaaGreatDoorAmSub
set_option linter.all false
namespace Go.AM

def IsBytes (B : List (List PV)) : Prop := ∀ (i : Nat) (x : List PV), B[i]? = some x → ∃ n : Int, 0 ≤ n ∧ n ≤ 255 ∧ x = [.int .u8 n]

theorem byte_get {B : List (List PV)} (h : IsBytes B) (i : Int) (h0 : 0 ≤ i) (h1 : i < B.length) : ∃ n : Int, 0 ≤ n ∧ n ≤ 255 ∧ B[i.toNat]? = some [.int .u8 n] := by
  have hlt : i.toNat < B.length := by omega
  obtain ⟨n, k1, k2, k3⟩ := h i.toNat _ (List.getElem?_eq_getElem hlt)
  exact ⟨n, k1, k2, by rw [List.getElem?_eq_getElem hlt, k3]⟩

theorem sound_app {P : Program} {ρ : Env} {l m : List (Nat × OracleF)} (h1 : ∀ x ∈ l, SoundO P ρ x.1 x.2) (h2 : ∀ x ∈ m, SoundO P ρ x.1 x.2) : ∀ x ∈ l ++ m, SoundO P ρ x.1 x.2 := fun x hx => by
  rcases List.mem_append.1 hx with h | h
  · exact h1 x h
  · exact h2 x h
theorem w_i8 (e : Int) (h : (-128 : Int) ≤ e ∧ e ≤ (127 : Int) := by omega) : IntKind.wrap .i8 e = e := wrap_in .i8 e h
theorem w_i16 (e : Int) (h : (-32768 : Int) ≤ e ∧ e ≤ (32767 : Int) := by omega) : IntKind.wrap .i16 e = e := wrap_in .i16 e h
theorem w_i32 (e : Int) (h : (-2147483648 : Int) ≤ e ∧ e ≤ (2147483647 : Int) := by omega) : IntKind.wrap .i32 e = e := wrap_in .i32 e h
theorem w_i64 (e : Int) (h : (-9223372036854775808 : Int) ≤ e ∧ e ≤ (9223372036854775807 : Int) := by omega) : IntKind.wrap .i64 e = e := wrap_in .i64 e h
theorem w_u8 (e : Int) (h : (0 : Int) ≤ e ∧ e ≤ (255 : Int) := by omega) : IntKind.wrap .u8 e = e := wrap_in .u8 e h
theorem w_u16 (e : Int) (h : (0 : Int) ≤ e ∧ e ≤ (65535 : Int) := by omega) : IntKind.wrap .u16 e = e := wrap_in .u16 e h
theorem w_u32 (e : Int) (h : (0 : Int) ≤ e ∧ e ≤ (4294967295 : Int) := by omega) : IntKind.wrap .u32 e = e := wrap_in .u32 e h
theorem w_u64 (e : Int) (h : (0 : Int) ≤ e ∧ e ≤ (18446744073709551615 : Int) := by omega) : IntKind.wrap .u64 e = e := wrap_in .u64 e h
end Go.AM
