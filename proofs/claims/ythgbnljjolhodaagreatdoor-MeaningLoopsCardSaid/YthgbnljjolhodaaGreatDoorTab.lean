/- Each function of the table is the program's. -/
import Derived.Test.YthgbnljjolhodaaGreatDoorIr1
import Derived.Test.YthgbnljjolhodaaGreatDoorAmTab
import Derived.Test.YthgbnljjolhodaaGreatDoorRows
import Derived.KernelRfl
namespace Go.Proofs.YthgbnljjolhodaaGreatDoor.Am
open Go.AM
set_option maxRecDepth 100000
def Ftab : Tr IFun := (.node none (.node none (.node (some F3) (.node (some F7) (.node (some F15) (.node (some F31) (.node (some F63) (.node none .nil .nil) (.node none .nil .nil)) (.node (some F95) (.node none .nil .nil) (.node none .nil .nil))) (.node (some F47) (.node none (.node none .nil .nil) (.node none .nil .nil)) (.node (some F111) (.node none .nil .nil) (.node none .nil .nil)))) (.node (some F23) (.node (some F39) (.node (some F71) (.node none .nil .nil) (.node none .nil .nil)) (.node (some F103) (.node none .nil .nil) (.node none .nil .nil))) (.node (some F55) (.node (some F87) (.node none .nil .nil) (.node none .nil .nil)) (.node none (.node none .nil .nil) (.node none .nil .nil))))) (.node (some F11) (.node (some F19) (.node (some F35) (.node none (.node (some F131) .nil .nil) (.node none .nil .nil)) (.node (some F99) (.node none .nil .nil) (.node none .nil .nil))) (.node (some F51) (.node (some F83) (.node none .nil .nil) (.node none .nil .nil)) (.node (some F115) (.node none .nil .nil) (.node none .nil .nil)))) (.node (some F27) (.node (some F43) (.node (some F75) (.node (some F139) .nil .nil) (.node none .nil .nil)) (.node (some F107) (.node none .nil .nil) (.node none .nil .nil))) (.node (some F59) (.node none (.node none .nil .nil) (.node none .nil .nil)) (.node none (.node none .nil .nil) (.node none .nil .nil)))))) (.node (some F5) (.node (some F9) (.node (some F17) (.node (some F33) (.node (some F65) (.node none .nil .nil) (.node none .nil .nil)) (.node (some F97) (.node none .nil .nil) (.node none .nil .nil))) (.node (some F49) (.node (some F81) (.node (some F145) .nil .nil) (.node none .nil .nil)) (.node (some F113) (.node none .nil .nil) (.node none .nil .nil)))) (.node (some F25) (.node (some F41) (.node (some F73) (.node none .nil .nil) (.node none .nil .nil)) (.node none (.node none .nil .nil) (.node none .nil .nil))) (.node none (.node none (.node none .nil .nil) (.node none .nil .nil)) (.node (some F121) (.node none .nil .nil) (.node none .nil .nil))))) (.node (some F13) (.node (some F21) (.node (some F37) (.node (some F69) (.node (some F133) .nil .nil) (.node none .nil .nil)) (.node (some F101) (.node (some F165) .nil .nil) (.node none .nil .nil))) (.node (some F53) (.node (some F85) (.node (some F149) .nil .nil) (.node none .nil .nil)) (.node none (.node none .nil .nil) (.node none .nil .nil)))) (.node (some F29) (.node (some F45) (.node (some F77) (.node none .nil .nil) (.node none .nil .nil)) (.node (some F109) (.node none .nil .nil) (.node none .nil .nil))) (.node none (.node none (.node (some F157) .nil .nil) (.node none .nil .nil)) (.node (some F125) (.node none .nil .nil) (.node none .nil .nil))))))) (.node none (.node none (.node (some F8) (.node (some F16) (.node (some F32) (.node (some F64) (.node (some F128) .nil .nil) (.node none .nil .nil)) (.node none (.node none .nil .nil) (.node none .nil .nil))) (.node (some F48) (.node none (.node (some F144) .nil .nil) (.node none .nil .nil)) (.node none (.node none .nil .nil) (.node none .nil .nil)))) (.node (some F24) (.node none (.node (some F72) (.node none .nil .nil) (.node none .nil .nil)) (.node none (.node none .nil .nil) (.node none .nil .nil))) (.node (some F56) (.node (some F88) (.node none .nil .nil) (.node none .nil .nil)) (.node none (.node none .nil .nil) (.node none .nil .nil))))) (.node (some F12) (.node (some F20) (.node (some F36) (.node (some F68) (.node (some F132) .nil .nil) (.node none .nil .nil)) (.node (some F100) (.node none .nil .nil) (.node none .nil .nil))) (.node (some F52) (.node (some F84) (.node none .nil .nil) (.node none .nil .nil)) (.node (some F116) (.node none .nil .nil) (.node none .nil .nil)))) (.node (some F28) (.node (some F44) (.node none (.node (some F140) .nil .nil) (.node none .nil .nil)) (.node (some F108) (.node none .nil .nil) (.node none .nil .nil))) (.node (some F60) (.node (some F92) (.node (some F156) .nil .nil) (.node none .nil .nil)) (.node (some F124) (.node none .nil .nil) (.node none .nil .nil)))))) (.node (some F6) (.node (some F10) (.node (some F18) (.node (some F34) (.node (some F66) (.node (some F130) .nil .nil) (.node none .nil .nil)) (.node (some F98) (.node (some F162) .nil .nil) (.node none .nil .nil))) (.node (some F50) (.node (some F82) (.node none .nil .nil) (.node none .nil .nil)) (.node (some F114) (.node none .nil .nil) (.node none .nil .nil)))) (.node (some F26) (.node (some F42) (.node (some F74) (.node none .nil .nil) (.node none .nil .nil)) (.node none (.node none .nil .nil) (.node none .nil .nil))) (.node (some F58) (.node none (.node none .nil .nil) (.node none .nil .nil)) (.node none (.node none .nil .nil) (.node none .nil .nil))))) (.node (some F14) (.node (some F22) (.node none (.node (some F70) (.node none .nil .nil) (.node none .nil .nil)) (.node (some F102) (.node none .nil .nil) (.node none .nil .nil))) (.node (some F54) (.node (some F86) (.node (some F150) .nil .nil) (.node none .nil .nil)) (.node (some F118) (.node none .nil .nil) (.node none .nil .nil)))) (.node (some F30) (.node (some F46) (.node none (.node (some F142) .nil .nil) (.node none .nil .nil)) (.node (some F110) (.node none .nil .nil) (.node none .nil .nil))) (.node none (.node (some F94) (.node none .nil .nil) (.node none .nil .nil)) (.node (some F126) (.node none .nil .nil) (.node none .nil .nil))))))))
theorem k3 : compAt Tryz.prog Fpl 3 = some F3 := by kernel_rfl
theorem k5 : compAt Tryz.prog Fpl 5 = some F5 := by kernel_rfl
theorem k6 : compAt Tryz.prog Fpl 6 = some F6 := by kernel_rfl
theorem k7 : compAt Tryz.prog Fpl 7 = some F7 := by kernel_rfl
theorem k8 : compAt Tryz.prog Fpl 8 = some F8 := by kernel_rfl
theorem k9 : compAt Tryz.prog Fpl 9 = some F9 := by kernel_rfl
theorem k10 : compAt Tryz.prog Fpl 10 = some F10 := by kernel_rfl
theorem k11 : compAt Tryz.prog Fpl 11 = some F11 := by kernel_rfl
theorem k12 : compAt Tryz.prog Fpl 12 = some F12 := by kernel_rfl
theorem k13 : compAt Tryz.prog Fpl 13 = some F13 := by kernel_rfl
theorem k14 : compAt Tryz.prog Fpl 14 = some F14 := by kernel_rfl
theorem k15 : compAt Tryz.prog Fpl 15 = some F15 := by kernel_rfl
theorem k16 : compAt Tryz.prog Fpl 16 = some F16 := by kernel_rfl
theorem k17 : compAt Tryz.prog Fpl 17 = some F17 := by kernel_rfl
theorem k18 : compAt Tryz.prog Fpl 18 = some F18 := by kernel_rfl
theorem k19 : compAt Tryz.prog Fpl 19 = some F19 := by kernel_rfl
theorem k20 : compAt Tryz.prog Fpl 20 = some F20 := by kernel_rfl
theorem k21 : compAt Tryz.prog Fpl 21 = some F21 := by kernel_rfl
theorem k22 : compAt Tryz.prog Fpl 22 = some F22 := by kernel_rfl
theorem k23 : compAt Tryz.prog Fpl 23 = some F23 := by kernel_rfl
theorem k24 : compAt Tryz.prog Fpl 24 = some F24 := by kernel_rfl
theorem k25 : compAt Tryz.prog Fpl 25 = some F25 := by kernel_rfl
theorem k26 : compAt Tryz.prog Fpl 26 = some F26 := by kernel_rfl
theorem k27 : compAt Tryz.prog Fpl 27 = some F27 := by kernel_rfl
theorem k28 : compAt Tryz.prog Fpl 28 = some F28 := by kernel_rfl
theorem k29 : compAt Tryz.prog Fpl 29 = some F29 := by kernel_rfl
theorem k30 : compAt Tryz.prog Fpl 30 = some F30 := by kernel_rfl
theorem k31 : compAt Tryz.prog Fpl 31 = some F31 := by kernel_rfl
theorem k32 : compAt Tryz.prog Fpl 32 = some F32 := by kernel_rfl
theorem k33 : compAt Tryz.prog Fpl 33 = some F33 := by kernel_rfl
theorem k34 : compAt Tryz.prog Fpl 34 = some F34 := by kernel_rfl
theorem k35 : compAt Tryz.prog Fpl 35 = some F35 := by kernel_rfl
theorem k36 : compAt Tryz.prog Fpl 36 = some F36 := by kernel_rfl
theorem k37 : compAt Tryz.prog Fpl 37 = some F37 := by kernel_rfl
theorem k39 : compAt Tryz.prog Fpl 39 = some F39 := by kernel_rfl
theorem k41 : compAt Tryz.prog Fpl 41 = some F41 := by kernel_rfl
theorem k42 : compAt Tryz.prog Fpl 42 = some F42 := by kernel_rfl
theorem k43 : compAt Tryz.prog Fpl 43 = some F43 := by kernel_rfl
theorem k44 : compAt Tryz.prog Fpl 44 = some F44 := by kernel_rfl
theorem k45 : compAt Tryz.prog Fpl 45 = some F45 := by kernel_rfl
theorem k46 : compAt Tryz.prog Fpl 46 = some F46 := by kernel_rfl
theorem k47 : compAt Tryz.prog Fpl 47 = some F47 := by kernel_rfl
theorem k48 : compAt Tryz.prog Fpl 48 = some F48 := by kernel_rfl
theorem k49 : compAt Tryz.prog Fpl 49 = some F49 := by kernel_rfl
theorem k50 : compAt Tryz.prog Fpl 50 = some F50 := by kernel_rfl
theorem k51 : compAt Tryz.prog Fpl 51 = some F51 := by kernel_rfl
theorem k52 : compAt Tryz.prog Fpl 52 = some F52 := by kernel_rfl
theorem k53 : compAt Tryz.prog Fpl 53 = some F53 := by kernel_rfl
theorem k54 : compAt Tryz.prog Fpl 54 = some F54 := by kernel_rfl
theorem k55 : compAt Tryz.prog Fpl 55 = some F55 := by kernel_rfl
theorem k56 : compAt Tryz.prog Fpl 56 = some F56 := by kernel_rfl
theorem k58 : compAt Tryz.prog Fpl 58 = some F58 := by kernel_rfl
theorem k59 : compAt Tryz.prog Fpl 59 = some F59 := by kernel_rfl
theorem k60 : compAt Tryz.prog Fpl 60 = some F60 := by kernel_rfl
theorem k63 : compAt Tryz.prog Fpl 63 = some F63 := by kernel_rfl
theorem k64 : compAt Tryz.prog Fpl 64 = some F64 := by kernel_rfl
theorem k65 : compAt Tryz.prog Fpl 65 = some F65 := by kernel_rfl
theorem k66 : compAt Tryz.prog Fpl 66 = some F66 := by kernel_rfl
theorem k68 : compAt Tryz.prog Fpl 68 = some F68 := by kernel_rfl
theorem k69 : compAt Tryz.prog Fpl 69 = some F69 := by kernel_rfl
theorem k70 : compAt Tryz.prog Fpl 70 = some F70 := by kernel_rfl
theorem k71 : compAt Tryz.prog Fpl 71 = some F71 := by kernel_rfl
theorem k72 : compAt Tryz.prog Fpl 72 = some F72 := by kernel_rfl
theorem k73 : compAt Tryz.prog Fpl 73 = some F73 := by kernel_rfl
theorem k74 : compAt Tryz.prog Fpl 74 = some F74 := by kernel_rfl
theorem k75 : compAt Tryz.prog Fpl 75 = some F75 := by kernel_rfl
theorem k77 : compAt Tryz.prog Fpl 77 = some F77 := by kernel_rfl
theorem k81 : compAt Tryz.prog Fpl 81 = some F81 := by kernel_rfl
theorem k82 : compAt Tryz.prog Fpl 82 = some F82 := by kernel_rfl
theorem k83 : compAt Tryz.prog Fpl 83 = some F83 := by kernel_rfl
theorem k84 : compAt Tryz.prog Fpl 84 = some F84 := by kernel_rfl
theorem k85 : compAt Tryz.prog Fpl 85 = some F85 := by kernel_rfl
theorem k86 : compAt Tryz.prog Fpl 86 = some F86 := by kernel_rfl
theorem k87 : compAt Tryz.prog Fpl 87 = some F87 := by kernel_rfl
theorem k88 : compAt Tryz.prog Fpl 88 = some F88 := by kernel_rfl
theorem k92 : compAt Tryz.prog Fpl 92 = some F92 := by kernel_rfl
theorem k94 : compAt Tryz.prog Fpl 94 = some F94 := by kernel_rfl
theorem k95 : compAt Tryz.prog Fpl 95 = some F95 := by kernel_rfl
theorem k97 : compAt Tryz.prog Fpl 97 = some F97 := by kernel_rfl
theorem k98 : compAt Tryz.prog Fpl 98 = some F98 := by kernel_rfl
theorem k99 : compAt Tryz.prog Fpl 99 = some F99 := by kernel_rfl
theorem k100 : compAt Tryz.prog Fpl 100 = some F100 := by kernel_rfl
theorem k101 : compAt Tryz.prog Fpl 101 = some F101 := by kernel_rfl
theorem k102 : compAt Tryz.prog Fpl 102 = some F102 := by kernel_rfl
theorem k103 : compAt Tryz.prog Fpl 103 = some F103 := by kernel_rfl
theorem k107 : compAt Tryz.prog Fpl 107 = some F107 := by kernel_rfl
theorem k108 : compAt Tryz.prog Fpl 108 = some F108 := by kernel_rfl
theorem k109 : compAt Tryz.prog Fpl 109 = some F109 := by kernel_rfl
theorem k110 : compAt Tryz.prog Fpl 110 = some F110 := by kernel_rfl
theorem k111 : compAt Tryz.prog Fpl 111 = some F111 := by kernel_rfl
theorem k113 : compAt Tryz.prog Fpl 113 = some F113 := by kernel_rfl
theorem k114 : compAt Tryz.prog Fpl 114 = some F114 := by kernel_rfl
theorem k115 : compAt Tryz.prog Fpl 115 = some F115 := by kernel_rfl
theorem k116 : compAt Tryz.prog Fpl 116 = some F116 := by kernel_rfl
theorem k118 : compAt Tryz.prog Fpl 118 = some F118 := by kernel_rfl
theorem k121 : compAt Tryz.prog Fpl 121 = some F121 := by kernel_rfl
theorem k124 : compAt Tryz.prog Fpl 124 = some F124 := by kernel_rfl
theorem k125 : compAt Tryz.prog Fpl 125 = some F125 := by kernel_rfl
theorem k126 : compAt Tryz.prog Fpl 126 = some F126 := by kernel_rfl
theorem k128 : compAt Tryz.prog Fpl 128 = some F128 := by kernel_rfl
theorem k130 : compAt Tryz.prog Fpl 130 = some F130 := by kernel_rfl
theorem k131 : compAt Tryz.prog Fpl 131 = some F131 := by kernel_rfl
theorem k132 : compAt Tryz.prog Fpl 132 = some F132 := by kernel_rfl
theorem k133 : compAt Tryz.prog Fpl 133 = some F133 := by kernel_rfl
theorem k139 : compAt Tryz.prog Fpl 139 = some F139 := by kernel_rfl
theorem k140 : compAt Tryz.prog Fpl 140 = some F140 := by kernel_rfl
theorem k142 : compAt Tryz.prog Fpl 142 = some F142 := by kernel_rfl
theorem k144 : compAt Tryz.prog Fpl 144 = some F144 := by kernel_rfl
theorem k145 : compAt Tryz.prog Fpl 145 = some F145 := by kernel_rfl
theorem k149 : compAt Tryz.prog Fpl 149 = some F149 := by kernel_rfl
theorem k150 : compAt Tryz.prog Fpl 150 = some F150 := by kernel_rfl
theorem k156 : compAt Tryz.prog Fpl 156 = some F156 := by kernel_rfl
theorem k157 : compAt Tryz.prog Fpl 157 = some F157 := by kernel_rfl
theorem k162 : compAt Tryz.prog Fpl 162 = some F162 := by kernel_rfl
theorem k165 : compAt Tryz.prog Fpl 165 = some F165 := by kernel_rfl
def Flist : List (Nat × IFun) := [(3, F3), (5, F5), (6, F6), (7, F7), (8, F8), (9, F9), (10, F10), (11, F11), (12, F12), (13, F13), (14, F14), (15, F15), (16, F16), (17, F17), (18, F18), (19, F19), (20, F20), (21, F21), (22, F22), (23, F23), (24, F24), (25, F25), (26, F26), (27, F27), (28, F28), (29, F29), (30, F30), (31, F31), (32, F32), (33, F33), (34, F34), (35, F35), (36, F36), (37, F37), (39, F39), (41, F41), (42, F42), (43, F43), (44, F44), (45, F45), (46, F46), (47, F47), (48, F48), (49, F49), (50, F50), (51, F51), (52, F52), (53, F53), (54, F54), (55, F55), (56, F56), (58, F58), (59, F59), (60, F60), (63, F63), (64, F64), (65, F65), (66, F66), (68, F68), (69, F69), (70, F70), (71, F71), (72, F72), (73, F73), (74, F74), (75, F75), (77, F77), (81, F81), (82, F82), (83, F83), (84, F84), (85, F85), (86, F86), (87, F87), (88, F88), (92, F92), (94, F94), (95, F95), (97, F97), (98, F98), (99, F99), (100, F100), (101, F101), (102, F102), (103, F103), (107, F107), (108, F108), (109, F109), (110, F110), (111, F111), (113, F113), (114, F114), (115, F115), (116, F116), (118, F118), (121, F121), (124, F124), (125, F125), (126, F126), (128, F128), (130, F130), (131, F131), (132, F132), (133, F133), (139, F139), (140, F140), (142, F142), (144, F144), (145, F145), (149, F149), (150, F150), (156, F156), (157, F157), (162, F162), (165, F165)]
theorem tab_eq : Ftab = tabOf Flist (Tr.full IFun 8) := by kernel_rfl
theorem all_ok : ∀ x ∈ Flist, compAt Tryz.prog Fpl x.1 = some x.2 :=
  all_cons k3 ( all_cons k5 ( all_cons k6 ( all_cons k7 ( all_cons k8 ( all_cons k9 ( all_cons k10 ( all_cons k11 ( all_cons k12 ( all_cons k13 ( all_cons k14 ( all_cons k15 ( all_cons k16 ( all_cons k17 ( all_cons k18 ( all_cons k19 ( all_cons k20 ( all_cons k21 ( all_cons k22 ( all_cons k23 ( all_cons k24 ( all_cons k25 ( all_cons k26 ( all_cons k27 ( all_cons k28 ( all_cons k29 ( all_cons k30 ( all_cons k31 ( all_cons k32 ( all_cons k33 ( all_cons k34 ( all_cons k35 ( all_cons k36 ( all_cons k37 ( all_cons k39 ( all_cons k41 ( all_cons k42 ( all_cons k43 ( all_cons k44 ( all_cons k45 ( all_cons k46 ( all_cons k47 ( all_cons k48 ( all_cons k49 ( all_cons k50 ( all_cons k51 ( all_cons k52 ( all_cons k53 ( all_cons k54 ( all_cons k55 ( all_cons k56 ( all_cons k58 ( all_cons k59 ( all_cons k60 ( all_cons k63 ( all_cons k64 ( all_cons k65 ( all_cons k66 ( all_cons k68 ( all_cons k69 ( all_cons k70 ( all_cons k71 ( all_cons k72 ( all_cons k73 ( all_cons k74 ( all_cons k75 ( all_cons k77 ( all_cons k81 ( all_cons k82 ( all_cons k83 ( all_cons k84 ( all_cons k85 ( all_cons k86 ( all_cons k87 ( all_cons k88 ( all_cons k92 ( all_cons k94 ( all_cons k95 ( all_cons k97 ( all_cons k98 ( all_cons k99 ( all_cons k100 ( all_cons k101 ( all_cons k102 ( all_cons k103 ( all_cons k107 ( all_cons k108 ( all_cons k109 ( all_cons k110 ( all_cons k111 ( all_cons k113 ( all_cons k114 ( all_cons k115 ( all_cons k116 ( all_cons k118 ( all_cons k121 ( all_cons k124 ( all_cons k125 ( all_cons k126 ( all_cons k128 ( all_cons k130 ( all_cons k131 ( all_cons k132 ( all_cons k133 ( all_cons k139 ( all_cons k140 ( all_cons k142 ( all_cons k144 ( all_cons k145 ( all_cons k149 ( all_cons k150 ( all_cons k156 ( all_cons k157 ( all_cons k162 ( all_cons k165 (all_nil)))))))))))))))))))))))))))))))))))))))))))))))))))))))))))))))))))))))))))))))))))))))))))))))))))))))))))))))))))
theorem tab_ok : TabOk Tryz.prog Fpl (Tr.get Ftab) := tabOk tab_eq all_ok
theorem mixed : Tryz.prog.follows .mixedOrders = true := by kernel_rfl
theorem sound {Γ : Facts} {ρ : Env} (hΓ : Γ.Hold ρ) (h0 : Γ.loops = []) {l : List (Nat × OracleF)} (hl : ∀ x ∈ l, SoundO Tryz.prog ρ x.1 x.2) (fuel d : Nat) : SoundCall Tryz.prog ρ (callN Γ (fun f => orcOf f l) (Tr.get Ftab) fuel d) := callN_sound hΓ h0 mixed tab_ok (fun _ _ h => hl _ (orcOf_mem h)) d
theorem soundT {Γ : Facts} {ρ : Env} (hΓ : Γ.Hold ρ) {l : List (Nat × OracleF)} (hl : ∀ x ∈ l, SoundO Tryz.prog ρ x.1 x.2) (fuel d : Nat) {g : FuncId} (hL : ∀ fn c, Tryz.prog.funcs[g]? = some fn → fn.body = some c → LoopsOk Tryz.prog ρ fn.ntmps Γ.loops 0 c) : SoundO Tryz.prog ρ g (topN Γ (fun f => orcOf f l) (Tr.get Ftab) fuel d g) := topN_sound hΓ mixed tab_ok (fun _ _ h => hl _ (orcOf_mem h)) d hL
end Go.Proofs.YthgbnljjolhodaaGreatDoor.Am
