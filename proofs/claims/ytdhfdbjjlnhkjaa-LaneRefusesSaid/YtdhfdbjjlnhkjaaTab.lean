/- Each function of the table is the program's. -/
import Derived.Test.YtdhfdbjjlnhkjaaIr0
import Derived.Test.YtdhfdbjjlnhkjaaAmTab
import Derived.Test.YtdhfdbjjlnhkjaaRows
import Derived.KernelRfl
namespace Go.Proofs.Ytdhfdbjjlnhkjaa.Am
open Go.AM
set_option maxRecDepth 100000
def Ftab : Tr IFun := (.node none (.node none (.node (some F3) (.node (some F7) (.node (some F15) (.node (some F31) .nil .nil) (.node none .nil .nil)) (.node (some F23) (.node none .nil .nil) (.node none .nil .nil))) (.node (some F11) (.node (some F19) (.node (some F35) .nil .nil) (.node none .nil .nil)) (.node (some F27) (.node none .nil .nil) (.node none .nil .nil)))) (.node (some F5) (.node (some F9) (.node (some F17) (.node (some F33) .nil .nil) (.node none .nil .nil)) (.node (some F25) (.node none .nil .nil) (.node none .nil .nil))) (.node (some F13) (.node (some F21) (.node (some F37) .nil .nil) (.node none .nil .nil)) (.node (some F29) (.node none .nil .nil) (.node none .nil .nil))))) (.node none (.node (some F4) (.node (some F8) (.node (some F16) (.node (some F32) .nil .nil) (.node none .nil .nil)) (.node (some F24) (.node none .nil .nil) (.node none .nil .nil))) (.node (some F12) (.node (some F20) (.node (some F36) .nil .nil) (.node none .nil .nil)) (.node (some F28) (.node none .nil .nil) (.node none .nil .nil)))) (.node (some F6) (.node (some F10) (.node (some F18) (.node (some F34) .nil .nil) (.node none .nil .nil)) (.node (some F26) (.node none .nil .nil) (.node none .nil .nil))) (.node (some F14) (.node (some F22) (.node (some F38) .nil .nil) (.node none .nil .nil)) (.node (some F30) (.node none .nil .nil) (.node none .nil .nil))))))
theorem k3 : compAt Try.prog Fpl 3 = some F3 := by kernel_rfl
theorem k4 : compAt Try.prog Fpl 4 = some F4 := by kernel_rfl
theorem k5 : compAt Try.prog Fpl 5 = some F5 := by kernel_rfl
theorem k6 : compAt Try.prog Fpl 6 = some F6 := by kernel_rfl
theorem k7 : compAt Try.prog Fpl 7 = some F7 := by kernel_rfl
theorem k8 : compAt Try.prog Fpl 8 = some F8 := by kernel_rfl
theorem k9 : compAt Try.prog Fpl 9 = some F9 := by kernel_rfl
theorem k10 : compAt Try.prog Fpl 10 = some F10 := by kernel_rfl
theorem k11 : compAt Try.prog Fpl 11 = some F11 := by kernel_rfl
theorem k12 : compAt Try.prog Fpl 12 = some F12 := by kernel_rfl
theorem k13 : compAt Try.prog Fpl 13 = some F13 := by kernel_rfl
theorem k14 : compAt Try.prog Fpl 14 = some F14 := by kernel_rfl
theorem k15 : compAt Try.prog Fpl 15 = some F15 := by kernel_rfl
theorem k16 : compAt Try.prog Fpl 16 = some F16 := by kernel_rfl
theorem k17 : compAt Try.prog Fpl 17 = some F17 := by kernel_rfl
theorem k18 : compAt Try.prog Fpl 18 = some F18 := by kernel_rfl
theorem k19 : compAt Try.prog Fpl 19 = some F19 := by kernel_rfl
theorem k20 : compAt Try.prog Fpl 20 = some F20 := by kernel_rfl
theorem k21 : compAt Try.prog Fpl 21 = some F21 := by kernel_rfl
theorem k22 : compAt Try.prog Fpl 22 = some F22 := by kernel_rfl
theorem k23 : compAt Try.prog Fpl 23 = some F23 := by kernel_rfl
theorem k24 : compAt Try.prog Fpl 24 = some F24 := by kernel_rfl
theorem k25 : compAt Try.prog Fpl 25 = some F25 := by kernel_rfl
theorem k26 : compAt Try.prog Fpl 26 = some F26 := by kernel_rfl
theorem k27 : compAt Try.prog Fpl 27 = some F27 := by kernel_rfl
theorem k28 : compAt Try.prog Fpl 28 = some F28 := by kernel_rfl
theorem k29 : compAt Try.prog Fpl 29 = some F29 := by kernel_rfl
theorem k30 : compAt Try.prog Fpl 30 = some F30 := by kernel_rfl
theorem k31 : compAt Try.prog Fpl 31 = some F31 := by kernel_rfl
theorem k32 : compAt Try.prog Fpl 32 = some F32 := by kernel_rfl
theorem k33 : compAt Try.prog Fpl 33 = some F33 := by kernel_rfl
theorem k34 : compAt Try.prog Fpl 34 = some F34 := by kernel_rfl
theorem k35 : compAt Try.prog Fpl 35 = some F35 := by kernel_rfl
theorem k36 : compAt Try.prog Fpl 36 = some F36 := by kernel_rfl
theorem k37 : compAt Try.prog Fpl 37 = some F37 := by kernel_rfl
theorem k38 : compAt Try.prog Fpl 38 = some F38 := by kernel_rfl
def Flist : List (Nat × IFun) := [(3, F3), (4, F4), (5, F5), (6, F6), (7, F7), (8, F8), (9, F9), (10, F10), (11, F11), (12, F12), (13, F13), (14, F14), (15, F15), (16, F16), (17, F17), (18, F18), (19, F19), (20, F20), (21, F21), (22, F22), (23, F23), (24, F24), (25, F25), (26, F26), (27, F27), (28, F28), (29, F29), (30, F30), (31, F31), (32, F32), (33, F33), (34, F34), (35, F35), (36, F36), (37, F37), (38, F38)]
theorem tab_eq : Ftab = tabOf Flist (Tr.full IFun 6) := by kernel_rfl
theorem all_ok : ∀ x ∈ Flist, compAt Try.prog Fpl x.1 = some x.2 :=
  all_cons k3 ( all_cons k4 ( all_cons k5 ( all_cons k6 ( all_cons k7 ( all_cons k8 ( all_cons k9 ( all_cons k10 ( all_cons k11 ( all_cons k12 ( all_cons k13 ( all_cons k14 ( all_cons k15 ( all_cons k16 ( all_cons k17 ( all_cons k18 ( all_cons k19 ( all_cons k20 ( all_cons k21 ( all_cons k22 ( all_cons k23 ( all_cons k24 ( all_cons k25 ( all_cons k26 ( all_cons k27 ( all_cons k28 ( all_cons k29 ( all_cons k30 ( all_cons k31 ( all_cons k32 ( all_cons k33 ( all_cons k34 ( all_cons k35 ( all_cons k36 ( all_cons k37 ( all_cons k38 (all_nil))))))))))))))))))))))))))))))))))))
theorem tab_ok : TabOk Try.prog Fpl (Tr.get Ftab) := tabOk tab_eq all_ok
theorem mixed : Try.prog.follows .mixedOrders = true := by kernel_rfl
theorem sound {Γ : Facts} {ρ : Nat → Int} (hΓ : Γ.Hold ρ) (fuel d : Nat) : SoundCall Try.prog ρ (callN Γ (Tr.get Ftab) fuel d) := callN_sound hΓ mixed tab_ok d
end Go.Proofs.Ytdhfdbjjlnhkjaa.Am
