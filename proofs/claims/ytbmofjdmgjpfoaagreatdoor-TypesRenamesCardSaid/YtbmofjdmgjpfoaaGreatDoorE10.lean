/- Part 10 of the proof of TypesRenames. -/
import Derived.Test.YtbmofjdmgjpfoaaGreatDoorE5
import Derived.KernelRfl
set_option linter.all false
section
namespace Go.Proofs.YtbmofjdmgjpfoaaGreatDoor.Am
open Go.AM
set_option maxRecDepth 100000
def WU:TE:=
 (.A4 0 (.ofNat 10) Ae3 (.A4 0 (.ofNat 11) Ae3 (.A4 0 (.ofNat 12) Abp (.A4 0 (.ofNat 13) Abp (.A4 0 (.ofNat 14) Abp (.A4 0 (.ofNat 15) AjS (.A4 0 (.ofNat 16) AjS (.A4 0 (.ofNat 17) Ahu (.A4 0 (.ofNat 18) Ahu (.A4 0 (.ofNat 19) Ahu (.A4 0 (.ofNat 20) Abp (.A4 0 (.ofNat 21) Abp (.A4 0 (.ofNat 22) Ae3 (.A4 0 (.ofNat 23) Ae3 (.A4 0 (.ofNat 24) AjR (.A4 0 (.ofNat 25) AjR (.A4 0 (.ofNat 26) Ae2 (.A4 0 (.ofNat 27) Ae2 (.A4 0 (.ofNat 28) Ae2 (.A4 0 (.ofNat 29) Ae2 .fail))))))))))))))))))))
theorem AhC:MD.ok [] (runs 43) WU=true:=by kernel_rfl
def WT:TE:=
 (tne V8 V0 DY (.call 136 0 ⟨[V8,V0,V0,L0,V9,A5,A9,A8,AE,AJ,Bc,V0,V1,V2,V3,V4,V5,V6,V7],[S2,S0,S1],[3,0,4,5,6,7,0,1,2],[0]⟩ u0 DY (.call 136 1 ⟨[V8,V0,V0,L0,V9,A5,A9,A8,AE,AJ,Bc,V0,V1,V2,V3,V4,V5,V6,V7],[S2,S0,S1],[3,0,4,5,6,7,0,1,2],[0]⟩ u0 MW .fail)))
theorem AhB:UA.ok [(136,Qw)] (runs 45) WT=true:=by kernel_rfl
def WS:TE:=
 (tlt V3 V2 (tge V3 L0 (tlt V3 V1 (.elem 0 V3 A0 (.call 124 0 ⟨[A9,A8,AE,AJ,Bc,V4,V5,V6,V7,V8,V9,A5],[S1,S0],[6,1,2,3,4],[0]⟩ u2 (tne Bn L0 Af6 (.Ay [.take 5 V0,.els [[(I 16)]]] Eu (tle AU (L 1048576) (.call 134 0 ⟨[AU,V1,V2,(Pa V3 L1),V4,V5,V6,V7,V8,V9,A5],[S0],[0,1,2,3,4,7],[0]⟩ u8 QV (.call 134 1 ⟨[AU,V1,V2,(Pa V3 L1),V4,V5,V6,V7,V8,V9,A5],[S0],[0,1,2,3,4,7],[0]⟩ u8 QV (.call 134 2 ⟨[AU,V1,V2,(Pa V3 L1),V4,V5,V6,V7,V8,V9,A5],[S0],[0,1,2,3,4,7],[0]⟩ u0 (.leaf 3 [5] ⟨[AU],[],[7],[]⟩) (.call 134 3 ⟨[AU,V1,V2,(Pa V3 L1),V4,V5,V6,V7,V8,V9,A5],[S0],[0,1,2,3,4,7],[0]⟩ u5 (.leaf 3 [6] ⟨[Bm],[],[8],[]⟩) .fail)))) .fail))) .fail)) .fail) .fail) (lf 2 []))
theorem AhA:Qy.ok [(124,Jg),(134,Qy)] (runs 41) WS=true:=by kernel_rfl
def WR:TE:=
 (tlt V2 V1 (tge V2 L0 (tlt V2 V0 (.elem 0 V2 A6 (teq A5 L1 (.call 137 0 ⟨[A5,A9,A8,AE,AJ,Bc,AO,Bn,AU,Bm,By,Cb,BT,Cv,BV,BQ,V3,V4,V5,V6,V7,V8,V9],[S1,S2,S3,S0],[5,6,7,8,1,2,3,4],[0]⟩ u12 (tne BP L0 (.leaf 0 [] ⟨[BP,V9],[],[],[1]⟩) (.call 135 0 ⟨[V0,V1,(Pa V2 L1),V3,V4,V5,V6,V7,V8,V9],[S0],[0,1,2,3,4],[1]⟩ u11 Aby (.call 135 1 ⟨[V0,V1,(Pa V2 L1),V3,V4,V5,V6,V7,V8,V9],[S0],[0,1,2,3,4],[1]⟩ u12 (.leaf 1 [] ⟨[Cr],[],[],[2]⟩) .fail))) .fail) (teq A5 L2 (.call 138 0 ⟨[A5,A9,A8,AE,AJ,Bc,AO,Bn,AU,Bm,By,Cb,BT,Cv,BV,BQ,V3,V4,V5,V6,V7,V8,V9],[S1,S2,S3,S0],[5,6,7,8,1,2,3,4],[0]⟩ u1 (tne BP L0 (.leaf 0 [] ⟨[BP,V9],[],[],[0]⟩) (.call 135 0 ⟨[V0,V1,(Pa V2 L1),V3,V4,V5,V6,V7,V8,V9],[S0],[0,1,2,3,4],[0]⟩ u11 Abw (.call 135 1 ⟨[V0,V1,(Pa V2 L1),V3,V4,V5,V6,V7,V8,V9],[S0],[0,1,2,3,4],[0]⟩ u12 (.leaf 1 [] ⟨[Cr],[],[],[1]⟩) .fail))) .fail) (teq A5 L5 (.call 139 0 ⟨[A5,A9,A8,AE,AJ,Bc,AO,Bn,AU,Bm,By,Cb,BT,Cv,BV,BQ,V3,V4,V5,V6,V7,V8,V9],[S1,S2,S3,S0],[5,6,7,8,1,2,3,4],[0]⟩ u2 Ags .fail) (teq A5 L6 (.call 140 0 ⟨[A5,A9,A8,AE,AJ,Bc,AO,Bn,AU,Bm,By,Cb,BT,Cv,BV,BQ,V3,V4,V5,V6,V7,V8,V9],[S1,S2,S3,S0],[5,6,7,8,1,2,3,4],[0]⟩ u2 Ags .fail) (teq A5 L7 Agp (teq A5 L8 Agp (teq A5 L3 HM (teq A5 L4 HM (teq A5 IB HM (teq A5 L9 HM (teq A5 ID HM (teq A5 L11 HM Agg))))))))))))) .fail) .fail) (.leaf 1 [] ⟨[V9],[],[],[0]⟩))
theorem Ah9:Qx.ok [(135,Qx),(137,U9),(138,U8),(139,U7),(140,U6)] (runs 53) WR=true:=by kernel_rfl
def WQ:TE:=
 (tlt V3 V2 (tge V3 L0 (tlt V3 V1 (.elem 1 V3 AX (tlt V3 V0 (.elem 0 V3 Eu (tne Bm By (lf 0 []) (.call 136 0 ⟨[V0,V1,V2,(Pa V3 L1),V4,V5,V6,V7,V8,V9,A5,A9,A8,AE,AJ,Bc,AO,Bn,AU],[S0,S1,S2],[0,1,2,3,4,5,6,7,8],[0]⟩ u0 (lf 0 []) (.call 136 1 ⟨[V0,V1,V2,(Pa V3 L1),V4,V5,V6,V7,V8,V9,A5,A9,A8,AE,AJ,Bc,AO,Bn,AU],[S0,S1,S2],[0,1,2,3,4,5,6,7,8],[0]⟩ u0 (lf 1 []) .fail)))) .fail)) .fail) .fail) (lf 1 []))
theorem Ah8:Qw.ok [(136,Qw)] (runs 45) WQ=true:=by kernel_rfl
def WO:TE:=
 (.call 141 0 ⟨[V4,V5,V6,V7,V8,AO,Bn,AU,Bm,By,Cb,BT],[S1,S3],[0,4,5,6,7],[0]⟩ u2 AfZ .fail)
theorem Ah7:U9.ok [(141,K8)] (runs 88) WO=true:=by kernel_rfl
def WN:TE:=
 (.look 0 S0 Bq (teq Cv L3 (.call 142 0 ⟨[V4,V5,V6,V7,V8,BV,AO,Bn,AU,Bm,By,Cb,BT],[S1,S3],[0,4,5,6,7],[0]⟩ u1 (lf 0 [BP]) .fail) (lf 0 [Ut])) (lf 0 [Ut]))
theorem Ah6:U8.ok [(142,K7)] (runs 89) WN=true:=by kernel_rfl
def WM:TE:=
 (.call 142 0 ⟨[V4,V5,V6,V7,V8,L3,AO,Bn,AU,Bm,By,Cb,BT],[S1,S3],[0,4,5,6,7],[0]⟩ u1 (teq Cv L0 (.call 149 0 ⟨[AJ,AO,Bn,AU,Bm,By,Cb,BT],[S3],[2,4,5,6,7],[0]⟩ u2 (teq BV L0 (.call 149 0 ⟨[Bc,AO,Bn,AU,Bm,By,Cb,BQ],[S3],[3,4,5,6,7],[0]⟩ u2 (lf 0 [BP,Cr]) .fail) (lf 0 [BV,BQ])) .fail) QU) .fail)
theorem Ah5:U7.ok [(142,K7),(149,Qt)] (runs 90) WM=true:=by kernel_rfl
def WL:TE:=
 (.call 142 0 ⟨[V4,V5,V6,V7,V8,L3,AO,Bn,AU,Bm,By,Cb,BT],[S1,S3],[0,4,5,6,7],[0]⟩ u1 (tne Cv L0 QU (tlt V3 L1 QT (tgt V3 (L 1024) QT (.call 149 0 ⟨[AJ,AO,Bn,AU,Bm,By,Cb,(Pa BT L1)],[S3],[2,4,5,6,7],[0]⟩ u2 Ab4 .fail)))) .fail)
theorem Ah4:U6.ok [(142,K7),(149,Qt)] (runs 91) WL=true:=by kernel_rfl
def Ep:TE:=
 (.call 143 0 ⟨[V4,V5,V6,V7,V8,V9,A5,A9],[S1],[0,1,2,3,4],[0]⟩ u8 (tne AE L0 (lf 0 [L0,AE]) (teq V0 L1 (lf 0 [V2,L0]) (teq V0 L3 UZ (teq V0 L4 AfS (teq V0 L5 AfU (teq V0 L6 Agd (teq V0 L2 AfV (teq V0 L7 AfY (teq V0 L8 (.look 0 S0 Bq (teq AJ L1 (tge AO L0 (tlt AO V9 (.elem 3 AO E6 (.call 146 0 ⟨[Bn,AU,Bm,By,Cb,BT,Cv,BV,A8,V5,V6,V7,V8,V9,A5,A9],[S2,S3,S1],[6,7,8,5,1,2,3,4],[0]⟩ u2 (lf 0 [BQ,BP]) .fail)) .fail) .fail) FZ) FZ) FZ))))))))) .fail)
theorem Ah3:K8.ok [(131,Qz),(132,MD),(143,U5),(146,U3)] (runs 25) Ep=true:=by kernel_rfl
def WK:TE:=
 (.call 141 0 ⟨[V0,V1,V2,V3,V4,V6,V7,V8,V9,A5,A9,A8],[S0,S1],[0,1,2,3,4],[0]⟩ u2 AfO .fail)
theorem Ah2:K7.ok [(141,K8)] (runs 54) WK=true:=by kernel_rfl
def WJ:TE:=
 (.call 144 0 ⟨[V0,V0,L0,V1,V2,V3,V4,V5,V6,V7],[S0],[0,1,2,3,4],[0]⟩ u0 Af5 (.call 144 1 ⟨[V0,V0,L0,V1,V2,V3,V4,V5,V6,V7],[S0],[0,1,2,3,4],[0]⟩ u8 (.leaf 0 [] ⟨[V8,V9],[],[5],[]⟩) (.call 144 2 ⟨[V0,V0,L0,V1,V2,V3,V4,V5,V6,V7],[S0],[0,1,2,3,4],[0]⟩ u5 Af8 .fail)))
theorem Ah1:U5.ok [(144,U4)] (runs 41) WJ=true:=by kernel_rfl
def WI:TE:=
 (tlt V2 V1 (tge V2 L0 (tlt V2 V0 (.elem 0 V2 A0 (.call 141 0 ⟨[A5,A9,A8,AE,AJ,V3,V4,V5,V6,V7,V8,V9],[S1,S0],[5,1,2,3,4],[0]⟩ u2 (tne AO L0 Af7 (.Ay [.els [[(I 15)]]] Eu (.Ad 6 L1 (.call 147 0 ⟨[L1,V0,V1,(Pa V2 L1),V3,V4,V5,V6,V7,V8,V9],[S0],[0,1,2,3,4,6],[0]⟩ u8 QW (.call 147 1 ⟨[L1,V0,V1,(Pa V2 L1),V3,V4,V5,V6,V7,V8,V9],[S0],[0,1,2,3,4,6],[0]⟩ u8 QW (.call 147 2 ⟨[L1,V0,V1,(Pa V2 L1),V3,V4,V5,V6,V7,V8,V9],[S0],[0,1,2,3,4,6],[0]⟩ u0 (.leaf 2 [4] ⟨[L1],[],[6],[]⟩) (.call 147 3 ⟨[L1,V0,V1,(Pa V2 L1),V3,V4,V5,V6,V7,V8,V9],[S0],[0,1,2,3,4,6],[0]⟩ u5 (.leaf 2 [5] ⟨[AU],[],[7],[]⟩) .fail))))))) .fail)) .fail) .fail) (lf 0 []))
theorem Ah0:U4.ok [(141,K8),(147,Qv)] (runs 41) WI=true:=by kernel_rfl
def WH:TE:=
 (tne V8 V0 DY (.call 148 0 ⟨[V8,V0,V0,L0,V9,A5,A9,A8,AE,AJ,Bc,V0,V1,V2,V3,V4,V5,V6,V7],[S2,S0,S1],[3,0,4,5,6,7,0,1,2],[0]⟩ u0 DY (.call 148 1 ⟨[V8,V0,V0,L0,V9,A5,A9,A8,AE,AJ,Bc,V0,V1,V2,V3,V4,V5,V6,V7],[S2,S0,S1],[3,0,4,5,6,7,0,1,2],[0]⟩ u0 MW .fail)))
theorem Ahz:U3.ok [(148,Qu)] (runs 45) WH=true:=by kernel_rfl
def WG:TE:=
 (tlt V3 V2 (tge V3 L0 (tlt V3 V1 (.elem 0 V3 A0 (.call 141 0 ⟨[A9,A8,AE,AJ,Bc,V4,V5,V6,V7,V8,V9,A5],[S1,S0],[6,1,2,3,4],[0]⟩ u2 (tne Bn L0 Af6 (.Ay [.take 5 V0,.els [[(I 16)]]] Eu (tle AU (L 1048576) (.call 147 0 ⟨[AU,V1,V2,(Pa V3 L1),V4,V5,V6,V7,V8,V9,A5],[S0],[0,1,2,3,4,7],[0]⟩ u8 QV (.call 147 1 ⟨[AU,V1,V2,(Pa V3 L1),V4,V5,V6,V7,V8,V9,A5],[S0],[0,1,2,3,4,7],[0]⟩ u8 QV (.call 147 2 ⟨[AU,V1,V2,(Pa V3 L1),V4,V5,V6,V7,V8,V9,A5],[S0],[0,1,2,3,4,7],[0]⟩ u0 (.leaf 3 [5] ⟨[AU],[],[7],[]⟩) (.call 147 3 ⟨[AU,V1,V2,(Pa V3 L1),V4,V5,V6,V7,V8,V9,A5],[S0],[0,1,2,3,4,7],[0]⟩ u5 (.leaf 3 [6] ⟨[Bm],[],[8],[]⟩) .fail)))) .fail))) .fail)) .fail) .fail) (lf 2 []))
theorem Ahy:Qv.ok [(141,K8),(147,Qv)] (runs 41) WG=true:=by kernel_rfl
def WE:TE:=
 (tlt V3 V2 (tge V3 L0 (tlt V3 V1 (.elem 1 V3 AX (tlt V3 V0 (.elem 0 V3 Eu (tne Bm By (lf 0 []) (.call 148 0 ⟨[V0,V1,V2,(Pa V3 L1),V4,V5,V6,V7,V8,V9,A5,A9,A8,AE,AJ,Bc,AO,Bn,AU],[S0,S1,S2],[0,1,2,3,4,5,6,7,8],[0]⟩ u0 (lf 0 []) (.call 148 1 ⟨[V0,V1,V2,(Pa V3 L1),V4,V5,V6,V7,V8,V9,A5,A9,A8,AE,AJ,Bc,AO,Bn,AU],[S0,S1,S2],[0,1,2,3,4,5,6,7,8],[0]⟩ u0 (lf 1 []) .fail)))) .fail)) .fail) .fail) (lf 1 []))
theorem Ahx:Qu.ok [(148,Qu)] (runs 45) WE=true:=by kernel_rfl
def WD:TE:=
 (.call 130 0 ⟨[V0,V1,V2,V3,V4,V5,V6,V7],[S0],[0,1,2,3,4],[0]⟩ u11 (lf 0 [V8,V9]) .fail)
theorem Ahw:Qt.ok [(130,Q0)] (runs 39) WD=true:=by kernel_rfl
end Go.Proofs.YtbmofjdmgjpfoaaGreatDoor.Am
end
