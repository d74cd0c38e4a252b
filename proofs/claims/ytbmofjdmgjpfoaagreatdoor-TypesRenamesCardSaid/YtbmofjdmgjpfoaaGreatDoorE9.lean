/- Part 9 of the proof of TypesRenames. -/
import Derived.Test.YtbmofjdmgjpfoaaGreatDoorE5
import Derived.KernelRfl
set_option linter.all false
section
namespace Go.Proofs.YtbmofjdmgjpfoaaGreatDoor.Am
open Go.AM
set_option maxRecDepth 100000
def K3:TE:=AiI 8 [(-100000,0),(-83616,0),(-67232,0),(-50848,0),(-34464,0),(-18080,0),(-1696,0),(14688,1),(31072,1),(47456,1),(63840,1),(80224,1),(96608,1),(112992,1),(129376,1),(145760,1),(162144,1),(178528,1),(194912,1),(211296,1),(227680,1),(244064,1),(260448,1),(276832,1),(293216,1),(309600,1),(325984,1),(342368,1),(358752,1),(375136,1),(391520,1),(407904,1),(424288,1),(440672,1),(457056,1),(473440,1),(489824,1),(506208,1),(522592,1),(538976,1),(555360,1),(571744,1),(588128,1),(604512,1),(620896,1),(637280,1),(653664,1),(670048,1),(686432,1),(702816,1),(719200,1),(735584,1),(751968,1),(768352,1),(784736,1),(801120,1),(817504,1),(833888,1),(850272,1),(866656,1),(883040,1),(899424,1),(915808,1),(932192,1),(948576,1),(964960,1),(981344,1),(997728,1),(1014112,1),(1030496,1),(1046880,1),(1063264,1),(1079648,1),(1096032,1),(1112416,1),(1128800,1),(1145184,1),(1161568,1),(1177952,1),(1194336,1),(1210720,1),(1227104,1),(1243488,1),(1259872,1),(1276256,1),(1292640,1),(1309024,1),(1325408,1),(1341792,1),(1358176,1),(1374560,1),(1390944,1),(1407328,1),(1423712,1),(1440096,1),(1456480,1),(1472864,1),(1489248,1),(1505632,1),(1522016,1),(1538400,1),(1554784,1),(1571168,1),(1587552,1),(1603936,1),(1620320,1),(1636704,1),(1653088,1),(1669472,1),(1685856,1),(1702240,1),(1718624,1),(1735008,1),(1751392,1),(1767776,1),(1784160,1),(1800544,1),(1816928,1),(1833312,1),(1849696,1),(1866080,1),(1882464,1),(1898848,1),(1915232,1),(1931616,1),(1948000,1),(1964384,1),(1980768,1),(1997152,1),(2013536,1),(2029920,1),(2046304,1),(2062688,1),(2079072,1),(2095456,1),(2111840,1),(2128224,1),(2144608,1),(2160992,1),(2177376,1),(2193760,1),(2210144,1),(2226528,1),(2242912,1),(2259296,1),(2275680,1),(2292064,1),(2308448,1),(2324832,1),(2341216,1),(2357600,1),(2373984,1),(2390368,1),(2406752,1),(2423136,1),(2439520,1),(2455904,1),(2472288,1),(2488672,1),(2505056,1),(2521440,1),(2537824,1),(2554208,1),(2570592,1),(2586976,1),(2603360,1),(2619744,1),(2636128,1),(2652512,1),(2668896,1),(2685280,1),(2701664,1),(2718048,1),(2734432,1),(2750816,1),(2767200,1),(2783584,1),(2799968,1),(2816352,1),(2832736,1),(2849120,1),(2865504,1),(2881888,1),(2898272,1),(2914656,1),(2931040,1),(2947424,1),(2963808,1),(2980192,1),(2996576,1),(3012960,1),(3029344,1),(3045728,1),(3062112,1),(3078496,1),(3094880,1),(3111264,1),(3127648,1),(3144032,1),(3160416,1),(3176800,1),(3193184,1),(3209568,1),(3225952,1),(3242336,1),(3258720,1),(3275104,1),(3291488,1),(3307872,1),(3324256,1),(3340640,1),(3357024,1),(3373408,1),(3389792,1),(3406176,1),(3422560,1),(3438944,1),(3455328,1),(3471712,1),(3488096,1),(3504480,1),(3520864,1),(3537248,1),(3553632,1),(3570016,1),(3586400,1),(3602784,1),(3619168,1),(3635552,1),(3651936,1),(3668320,1),(3684704,1),(3701088,1),(3717472,1),(3733856,1),(3750240,1),(3766624,1),(3783008,1),(3799392,1),(3815776,1),(3832160,1),(3848544,1),(3864928,1),(3881312,1),(3897696,1),(3914080,1),(3930464,1),(3946848,1),(3963232,1),(3979616,1),(3996000,1),(4012384,1),(4028768,1),(4045152,1),(4061536,1),(4077920,1)]
theorem AeE:HH.Rc [] (runs 127) K3 5 4 0=true:=by kernel_rfl
theorem AeD:HH.Rc [] (runs 127) K3 5 4 1=true:=by kernel_rfl
theorem AeC:HH.Rc [] (runs 127) K3 5 4 2=true:=by kernel_rfl
theorem AeB:HH.Rc [] (runs 127) K3 5 4 3=true:=by kernel_rfl
theorem AeA:HH.Rc [] (runs 127) K3 5 4 4=true:=by kernel_rfl
theorem Ae9:HH.Rc [] (runs 127) K3 5 4 5=true:=by kernel_rfl
theorem Ae8:HH.Rc [] (runs 127) K3 5 4 6=true:=by kernel_rfl
theorem Ae7:HH.Rc [] (runs 127) K3 5 4 7=true:=by kernel_rfl
theorem AjW:HH.ok [] (runs 127) K3=true:=Spec.AjV 5 4 8 (by kernel_rfl) (by kernel_rfl) fun i hi=>match i,hi with
 |0,_=>AeE
 |1,_=>AeD
 |2,_=>AeC
 |3,_=>AeB
 |4,_=>AeA
 |5,_=>Ae9
 |6,_=>Ae8
 |7,_=>Ae7
 |n+8,h=>absurd h (by omega)
def Xh:TE:=
 (tlt V2 V1 (tge V2 L0 (tlt V2 V0 (.elem 0 V2 A0 (tgt V2 L0 (.bump V3 2 (.call 97 0 ⟨[V4,V5,V6,V7,V8,V9],[S0],[1],[]⟩ u1 (.call 100 0 ⟨[V0,V1,(Pa V2 L1),A5],[],[0],[]⟩ u0 (.leaf 1 [5] ⟨[A5],[],[],[]⟩) (.call 100 1 ⟨[V0,V1,(Pa V2 L1),A5],[],[0],[]⟩ u1 (.leaf 1 [6] ⟨[A9],[],[],[]⟩) .fail)) .fail)) (.call 97 0 ⟨[V4,V5,V6,V7,V8,V3],[S0],[1],[]⟩ u1 (.call 100 0 ⟨[V0,V1,(Pa V2 L1),V9],[],[0],[]⟩ u0 (.leaf 1 [3] ⟨[V9],[],[],[]⟩) (.call 100 1 ⟨[V0,V1,(Pa V2 L1),V9],[],[0],[]⟩ u1 (.leaf 1 [4] ⟨[A5],[],[],[]⟩) .fail)) .fail))) .fail) .fail) (lf 0 []))
theorem Aii:QE.ok [(97,Pn),(100,QE)] (runs 109) Xh=true:=by kernel_rfl
def Xg:TE:=
 (.bump V8 5 (.call 69 0 ⟨[],[S0],[],[]⟩ u0 (.BB 0 0 64 (.bump V9 64 (.bump A9 1 (.call 102 0 ⟨[V0,V0,L0,V0,V1,V2,V3,V4,V5,V6,V7,A8],[S0,S1],[0,0,1,2],[]⟩ u0 (.bump A8 2 (tlt (Pb V1 L1) L0 .fail (tge (Pb V1 L1) L3 .fail (teq (Pb V1 L1) L0 Agy (teq (Pb V1 L1) L1 Agy (teq (Pb V1 L1) L2 (.bump AE 4 Agw) .fail)))))) (.call 102 1 ⟨[V0,V0,L0,V0,V1,V2,V3,V4,V5,V6,V7,A8],[S0,S1],[0,0,1,2],[]⟩ u1 (.bump AE 2 (tlt (Pb V1 L1) L0 .fail (tge (Pb V1 L1) L3 .fail (teq (Pb V1 L1) L0 Agx (teq (Pb V1 L1) L1 Agx (teq (Pb V1 L1) L2 (.bump AJ 4 Agv) .fail)))))) .fail))))) .fail))
theorem Aih:UN.ok [(69,JJ),(85,Xm),(97,Pn),(102,QD)] (runs 65) Xg=true:=by kernel_rfl
def LA:TE:=
 (tlt V2 V1 (tge V2 L0 (tlt V2 V0 (.elem 0 V2 AX (tgt V2 L0 (.bump A9 2 (.call 69 0 ⟨[],[S2],[],[]⟩ u0 (.BB 2 0 64 (.bump AE 64 (.bump Bc 1 (tlt (Pb A8 L1) L0 .fail (tge (Pb A8 L1) L3 .fail (teq (Pb A8 L1) L0 Agn (teq (Pb A8 L1) L1 Agn (teq (Pb A8 L1) L2 (.bump AO 4 Agk) .fail)))))))) .fail)) (.call 69 0 ⟨[],[S2],[],[]⟩ u0 (.BB 2 0 64 (.bump A9 64 (.bump AJ 1 (tlt (Pb A8 L1) L0 .fail (tge (Pb A8 L1) L3 .fail (teq (Pb A8 L1) L0 Agm (teq (Pb A8 L1) L1 Agm (teq (Pb A8 L1) L2 (.bump Bc 4 Agj) .fail)))))))) .fail))) .fail) .fail) (lf 0 []))
theorem Aig:QD.ok [(69,JJ),(102,QD)] (runs 65) LA=true:=by kernel_rfl
def IJ:TE:=
 (tlt V0 L1 (lf 0 []) (tgt V0 (L 256) (lf 0 []) (tlt V1 L1 (lf 0 []) (tgt V1 L32 (lf 0 []) (tne (B .and V1 (Pb V1 L1)) L0 (lf 0 []) (teq V1 L0 .fail (tne (B .rem V0 V1) L0 (lf 0 []) (.call 104 0 ⟨[V2,V2,L0],[],[0],[]⟩ u0 (lf 0 []) (.call 104 1 ⟨[V2,V2,L0],[],[0],[]⟩ u0 (lf 1 []) .fail)))))))))
theorem Aif:UM.ok [(104,QC)] (runs 36) IJ=true:=by kernel_rfl
def FG:TE:=
 (tlt V2 V1 (tge V2 L0 (tlt V2 V0 (.elem 0 V2 Ft (tlt V5 L1 (lf 0 []) (tgt V5 (L 4096) (lf 0 []) (.call 104 0 ⟨[V0,V1,(Pa V2 L1)],[],[0],[]⟩ u0 (lf 0 []) (.call 104 1 ⟨[V0,V1,(Pa V2 L1)],[],[0],[]⟩ u0 (lf 1 []) .fail))))) .fail) .fail) (lf 1 []))
theorem Aie:QC.ok [(104,QC)] (runs 36) FG=true:=by kernel_rfl
def Xf:TE:=
 (.Mm [] Bq (.call 106 0 ⟨[L1,V2,V2,L0,V0,V1,V2,V3,V4,V5,V0,V1,V2,V3,V4,V5,L0],[S0,S0],[0,0,1,2,3,0,1,2,3],[0]⟩ u7 (.call 107 0 ⟨[L1,V3,V3,L0,V0,V1,V2,V3,V4,V5,V0,V1,V2,V3,V4,V5,L0],[S0,S0],[1,0,1,2,3,0,1,2,3],[1]⟩ u7 (.call 108 0 ⟨[L1,V4,V4,L0,V0,V1,V2,V3,V4,V5,L0],[S0],[2,0,1,2,3],[2]⟩ u7 (.leaf 0 [2,1] ⟨[V0,V1,V2,V3,V4,V5],[S0],[0,1,2,3],[3]⟩) (.call 108 1 ⟨[L1,V4,V4,L0,V0,V1,V2,V3,V4,V5,L0],[S0],[2,0,1,2,3],[2]⟩ u7 (lf 1 []) .fail)) (.call 107 1 ⟨[L1,V3,V3,L0,V0,V1,V2,V3,V4,V5,V0,V1,V2,V3,V4,V5,L0],[S0,S0],[1,0,1,2,3,0,1,2,3],[1]⟩ u7 Abq .fail)) (.call 106 1 ⟨[L1,V2,V2,L0,V0,V1,V2,V3,V4,V5,V0,V1,V2,V3,V4,V5,L0],[S0,S0],[0,0,1,2,3,0,1,2,3],[0]⟩ u7 (.call 107 0 ⟨[L0,V3,V3,L0,V0,V1,V2,V3,V4,V5,V0,V1,V2,V3,V4,V5,L0],[S0,S0],[1,0,1,2,3,0,1,2,3],[1]⟩ u7 Abq (.call 107 1 ⟨[L0,V3,V3,L0,V0,V1,V2,V3,V4,V5,V0,V1,V2,V3,V4,V5,L0],[S0,S0],[1,0,1,2,3,0,1,2,3],[1]⟩ u7 Abq .fail)) .fail)))
theorem Aid:UL.ok [(106,QB),(107,QA),(108,Q9)] (runs 37) Xf=true:=by kernel_rfl
def FE:TE:=
 (tlt V3 V2 (tge V3 L0 (tlt V3 V1 (.elem 0 V3 Ft (.look 0 S2 Bq (.call 106 0 ⟨[L0,V1,V2,(Pa V3 L1),V4,V5,V6,V7,V8,V9,A5,A9,A8,AE,AJ,Bc,AO],[S0,S1],[0,1,2,3,4,5,6,7,8],[0]⟩ u7 (.leaf 1 [] ⟨[],[],[],[1]⟩) (.call 106 1 ⟨[L0,V1,V2,(Pa V3 L1),V4,V5,V6,V7,V8,V9,A5,A9,A8,AE,AJ,Bc,AO],[S0,S1],[0,1,2,3,4,5,6,7,8],[0]⟩ u7 (.leaf 1 [] ⟨[],[],[],[1]⟩) .fail)) (.up 0 S2 [Z0,(I 18),(I 3)] Bq (.call 106 0 ⟨[V0,V1,V2,(Pa V3 L1),V4,V5,V6,V7,V8,V9,A5,A9,A8,AE,AJ,Bc,AO],[S0,S1],[0,1,2,3,4,5,6,7,8],[1]⟩ u7 (.leaf 0 [] ⟨[],[],[],[2]⟩) (.call 106 1 ⟨[V0,V1,V2,(Pa V3 L1),V4,V5,V6,V7,V8,V9,A5,A9,A8,AE,AJ,Bc,AO],[S0,S1],[0,1,2,3,4,5,6,7,8],[1]⟩ u7 (.leaf 1 [] ⟨[],[],[],[2]⟩) .fail))))) .fail) .fail) (.leaf 0 [] ⟨[],[],[],[0]⟩))
theorem Aic:QB.ok [(106,QB)] (runs 37) FE=true:=by kernel_rfl
def II:TE:=
 (tlt V3 V2 (tge V3 L0 (tlt V3 V1 (.elem 0 V3 AX (.look 0 S2 Bq (.call 107 0 ⟨[L0,V1,V2,(Pa V3 L1),V4,V5,V6,V7,V8,V9,A5,A9,A8,AE,AJ,Bc,AO],[S0,S1],[0,1,2,3,4,5,6,7,8],[0]⟩ u7 (.leaf 1 [] ⟨[],[],[],[1]⟩) (.call 107 1 ⟨[L0,V1,V2,(Pa V3 L1),V4,V5,V6,V7,V8,V9,A5,A9,A8,AE,AJ,Bc,AO],[S0,S1],[0,1,2,3,4,5,6,7,8],[0]⟩ u7 (.leaf 1 [] ⟨[],[],[],[1]⟩) .fail)) (.up 0 S2 [(.int .i64 L2),(I 17),Z0] Bq (.call 107 0 ⟨[V0,V1,V2,(Pa V3 L1),V4,V5,V6,V7,V8,V9,A5,A9,A8,AE,AJ,Bc,AO],[S0,S1],[0,1,2,3,4,5,6,7,8],[1]⟩ u7 (.leaf 0 [] ⟨[],[],[],[2]⟩) (.call 107 1 ⟨[V0,V1,V2,(Pa V3 L1),V4,V5,V6,V7,V8,V9,A5,A9,A8,AE,AJ,Bc,AO],[S0,S1],[0,1,2,3,4,5,6,7,8],[1]⟩ u7 (.leaf 1 [] ⟨[],[],[],[2]⟩) .fail))))) .fail) .fail) (.leaf 0 [] ⟨[],[],[],[0]⟩))
theorem Aib:QA.ok [(107,QA)] (runs 37) II=true:=by kernel_rfl
def Lz:TE:=
 (tlt V3 V2 (tge V3 L0 (tlt V3 V1 (.elem 0 V3 E6 (.look 0 S1 Bq (.call 108 0 ⟨[L0,V1,V2,(Pa V3 L1),V4,V5,V6,V7,V8,V9,A5],[S0],[0,1,2,3,4],[0]⟩ u7 (.leaf 1 [] ⟨[],[],[],[1]⟩) (.call 108 1 ⟨[L0,V1,V2,(Pa V3 L1),V4,V5,V6,V7,V8,V9,A5],[S0],[0,1,2,3,4],[0]⟩ u7 (.leaf 1 [] ⟨[],[],[],[1]⟩) .fail)) (.up 0 S1 [Z1,(I 12),(I 3)] Bq (.call 108 0 ⟨[V0,V1,V2,(Pa V3 L1),V4,V5,V6,V7,V8,V9,A5],[S0],[0,1,2,3,4],[1]⟩ u7 (.leaf 0 [] ⟨[],[],[],[2]⟩) (.call 108 1 ⟨[V0,V1,V2,(Pa V3 L1),V4,V5,V6,V7,V8,V9,A5],[S0],[0,1,2,3,4],[1]⟩ u7 (.leaf 1 [] ⟨[],[],[],[2]⟩) .fail))))) .fail) .fail) (.leaf 0 [] ⟨[],[],[],[0]⟩))
theorem Aia:Q9.ok [(108,Q9)] (runs 37) Lz=true:=by kernel_rfl
def Ly:TE:=
 (tlt V2 V1 (teq V0 L0 (.call 111 0 ⟨[V3,V4,V5,V6,V7,V8,V2],[S0],[0,1,2,3],[]⟩ u1 (.call 109 0 ⟨[AO,V1,(Pa V2 L1),V3,V4,V5,V6,V7,V8,V9,A5,A9,A8,AE,AJ,Bc],[S0,S1],[0,1,2,3,4,5,6,7],[0]⟩ u1 (lf 0 [Bn]) .fail) .fail) (.call 109 0 ⟨[V0,V1,(Pa V2 L1),V3,V4,V5,V6,V7,V8,V9,A5,A9,A8,AE,AJ,Bc],[S0,S1],[0,1,2,3,4,5,6,7],[0]⟩ u1 (lf 0 [AO]) .fail)) (lf 0 [V0]))
theorem AhZ:Q8.ok [(109,Q8),(111,Q6)] (runs 22) Ly=true:=by kernel_rfl
def Afs:TE:=
 (tlt V2 V1 (teq V0 L0 (.call 111 0 ⟨[V3,V4,V5,V6,V7,V8,V2],[S0],[0,1,2,3],[]⟩ u1 (.call 110 0 ⟨[V9,V1,(Pa V2 L1),V3,V4,V5,V6,V7,V8],[S0],[0,1,2,3],[]⟩ u1 (lf 0 [A5]) .fail) .fail) (.call 110 0 ⟨[V0,V1,(Pa V2 L1),V3,V4,V5,V6,V7,V8],[S0],[0,1,2,3],[]⟩ u1 (lf 0 [V9]) .fail)) (lf 0 [V0]))
theorem AhY:Q7.ok [(110,Q7),(111,Q6)] (runs 22) Afs=true:=by kernel_rfl
def Xe:TE:=
 (.Mm [] Bq (.call 112 0 ⟨[V6,V2,V2,L0,V0,V1,V2,V3,V4,V5,V0,V1,V2,V3,V4,V5,L0],[S0,S0],[0,0,1,2,3,0,1,2,3],[0]⟩ u7 (.Ay [.take 2 V6] E6 (.call 114 0 ⟨[V6,V6,V6,L0,V0,V1,V2,V3,V4,V5,V0,V1,V2,V3,V4,V5,L0],[S0,S0],[4,0,1,2,3,0,1,2,3],[1]⟩ u7 (tge V6 L0 (tlt V6 V4 (.elem 2 V6 E6 (.call 129 0 ⟨[V8,V8,L0,V0,V1,V2,V3,V4,V5,L0,V8,V9,A5,A9,A8,AE,AJ,Bc],[S0,S1,S2],[5,0,1,2,3,5,6,7],[2]⟩ u7 (lf 0 [Ut]) (.call 129 1 ⟨[V8,V8,L0,V0,V1,V2,V3,V4,V5,L0,V8,V9,A5,A9,A8,AE,AJ,Bc],[S0,S1,S2],[5,0,1,2,3,5,6,7],[2]⟩ u7 (.call 130 0 ⟨[A5,V0,V1,V2,V3,V4,V5,L0],[S0],[6,0,1,2,3],[3]⟩ u11 (tne AO L0 (lf 0 [AO]) (.call 142 0 ⟨[A9,A8,AE,AJ,Bc,V9,V0,V1,V2,V3,V4,V5,Bn],[S2,S0],[7,0,1,2,3],[4]⟩ u1 (lf 0 [AU]) .fail)) .fail) .fail))) .fail) .fail) .fail)) .fail))
theorem AhX:Q6.ok [(112,Q5),(114,Q4),(129,Q1),(130,Q0),(142,K7)] (runs 38) Xe=true:=by kernel_rfl
def FD:TE:=
 (tlt V3 V2 (tge V3 L0 (tlt V3 V1 (.elem 0 V3 Ft (.look 0 S2 Bq (.call 112 0 ⟨[V0,V1,V2,(Pa V3 L1),V4,V5,V6,V7,V8,V9,A5,A9,A8,AE,AJ,Bc,AO],[S0,S1],[0,1,2,3,4,5,6,7,8],[0]⟩ u7 (.leaf 0 [] ⟨[],[],[],[1]⟩) .fail) (.up 0 S2 [Z0,(I 18),(I 3)] Bq (.call 112 0 ⟨[V0,V1,V2,(Pa V3 L1),V4,V5,V6,V7,V8,V9,A5,A9,A8,AE,AJ,Bc,AO],[S0,S1],[0,1,2,3,4,5,6,7,8],[1]⟩ u7 (.leaf 0 [] ⟨[],[],[],[2]⟩) .fail)))) .fail) .fail) (.leaf 0 [] ⟨[],[],[],[0]⟩))
theorem AhW:Q5.ok [(112,Q5)] (runs 38) FD=true:=by kernel_rfl
def Pe:TE:=
 (.call 115 0 ⟨[V0,V1,V2,V3,V4,V5,V6,V7],[S0],[0,1,2,3,4],[0]⟩ u11 (lf 0 [V8,V9]) .fail)
theorem AhV:MF.ok [(115,UK)] (runs 39) Pe=true:=by kernel_rfl
def Xd:TE:=
 (tlt V3 V2 (tge V3 L0 (tlt V3 V1 (.elem 0 V3 E6 (.look 0 S2 Bq (.call 114 0 ⟨[V0,V1,V2,(Pa V3 L1),V4,V5,V6,V7,V8,V9,A5,A9,A8,AE,AJ,Bc,AO],[S0,S1],[0,1,2,3,4,5,6,7,8],[0]⟩ u7 (.leaf 0 [] ⟨[],[],[],[1]⟩) .fail) (.up 0 S2 [Z1,(I 18),(I 3)] Bq (.call 114 0 ⟨[V0,V1,V2,(Pa V3 L1),V4,V5,V6,V7,V8,V9,A5,A9,A8,AE,AJ,Bc,AO],[S0,S1],[0,1,2,3,4,5,6,7,8],[1]⟩ u7 (.leaf 0 [] ⟨[],[],[],[2]⟩) .fail)))) .fail) .fail) (.leaf 0 [] ⟨[],[],[],[0]⟩))
theorem AhU:Q4.ok [(114,Q4)] (runs 38) Xd=true:=by kernel_rfl
def Pd:TE:=
 (.call 116 0 ⟨[V0,V0,L0,V1,V2,V3,V4,V5,V6,V7],[S0],[0,1,2,3,4],[0]⟩ u11 (.leaf 0 [] ⟨[V8,V9],[],[],[1]⟩) (.call 116 1 ⟨[V0,V0,L0,V1,V2,V3,V4,V5,V6,V7],[S0],[0,1,2,3,4],[0]⟩ u12 (.leaf 0 [] ⟨[L0,V8],[],[],[1]⟩) .fail))
theorem AhT:UK.ok [(116,Q3)] (runs 53) Pd=true:=by kernel_rfl
def Hi:TE:=
 (tlt V2 V1 (tge V2 L0 (tlt V2 V0 (.elem 0 V2 A6 (teq A5 L1 (.call 117 0 ⟨[A5,A9,A8,AE,AJ,Bc,AO,Bn,AU,Bm,By,Cb,BT,Cv,BV,BQ,V3,V4,V5,V6,V7,V8,V9],[S1,S2,S3,S0],[5,6,7,8,1,2,3,4],[0]⟩ u12 (tne BP L0 (.leaf 0 [] ⟨[BP,V9],[],[],[1]⟩) (.call 116 0 ⟨[V0,V1,(Pa V2 L1),V3,V4,V5,V6,V7,V8,V9],[S0],[0,1,2,3,4],[1]⟩ u11 Aby (.call 116 1 ⟨[V0,V1,(Pa V2 L1),V3,V4,V5,V6,V7,V8,V9],[S0],[0,1,2,3,4],[1]⟩ u12 (.leaf 1 [] ⟨[Cr],[],[],[2]⟩) .fail))) .fail) (teq A5 L2 (.call 118 0 ⟨[A5,A9,A8,AE,AJ,Bc,AO,Bn,AU,Bm,By,Cb,BT,Cv,BV,BQ,V3,V4,V5,V6,V7,V8,V9],[S1,S2,S3,S0],[5,6,7,8,1,2,3,4],[0]⟩ u1 XI .fail) (teq A5 L5 (.call 119 0 ⟨[A5,A9,A8,AE,AJ,Bc,AO,Bn,AU,Bm,By,Cb,BT,Cv,BV,BQ,V3,V4,V5,V6,V7,V8,V9],[S1,S2,S3,S0],[5,6,7,8,1,2,3,4],[0]⟩ u2 Agt .fail) (teq A5 L6 (.call 120 0 ⟨[A5,A9,A8,AE,AJ,Bc,AO,Bn,AU,Bm,By,Cb,BT,Cv,BV,BQ,V3,V4,V5,V6,V7,V8,V9],[S1,S2,S3,S0],[5,6,7,8,1,2,3,4],[0]⟩ u2 Agt .fail) (teq A5 L7 Agq (teq A5 L8 Agq (teq A5 L3 (.call 121 0 ⟨[A5,A9,A8,AE,AJ,Bc,AO,Bn,AU,Bm,By,Cb,BT,Cv,BV,BQ,V3,V4,V5,V6,V7,V8,V9],[S1,S2,S3,S0],[5,6,7,8,1,2,3,4],[0]⟩ u1 XI .fail) (teq A5 L4 (.call 122 0 ⟨[A5,A9,A8,AE,AJ,Bc,AO,Bn,AU,Bm,By,Cb,BT,Cv,BV,BQ,V3,V4,V5,V6,V7,V8,V9],[S1,S2,S3,S0],[5,6,7,8,1,2,3,4],[0]⟩ u1 XI .fail) (teq A5 IB (.call 123 0 ⟨[A5,A9,A8,AE,AJ,Bc,AO,Bn,AU,Bm,By,Cb,BT,Cv,BV,BQ,V3,V4,V5,V6,V7,V8,V9],[S1,S2,S3,S0],[5,6,7,8,1,2,3,4],[0]⟩ u1 XI .fail) Agh)))))))))) .fail) .fail) (.leaf 1 [] ⟨[V9],[],[],[0]⟩))
theorem AhS:Q3.ok [(116,Q3),(117,UJ),(118,UI),(119,UH),(120,UG),(121,UF),(122,UE),(123,UD)] (runs 53) Hi=true:=by kernel_rfl
def Pc:TE:=
 (.call 124 0 ⟨[V4,V5,V6,V7,V8,AO,Bn,AU,Bm,By,Cb,BT],[S1,S3],[0,4,5,6,7],[0]⟩ u2 AfZ .fail)
theorem AhR:UJ.ok [(124,Jg)] (runs 88) Pc=true:=by kernel_rfl
def Xc:TE:=
 (.look 0 S0 Bq (teq Cv L3 (.call 125 0 ⟨[V4,V5,V6,V7,V8,BV,AO,Bn,AU,Bm,By,Cb,BT],[S1,S3],[0,4,5,6,7],[0]⟩ u1 (lf 0 [BP]) .fail) (lf 0 [Ut])) (lf 0 [Ut]))
theorem AhQ:UI.ok [(125,Jf)] (runs 89) Xc=true:=by kernel_rfl
def Lx:TE:=
 (.call 125 0 ⟨[V4,V5,V6,V7,V8,L3,AO,Bn,AU,Bm,By,Cb,BT],[S1,S3],[0,4,5,6,7],[0]⟩ u1 (teq Cv L0 (.call 113 0 ⟨[AJ,AO,Bn,AU,Bm,By,Cb,BT],[S3],[2,4,5,6,7],[0]⟩ u2 (teq BV L0 (.call 113 0 ⟨[Bc,AO,Bn,AU,Bm,By,Cb,BQ],[S3],[3,4,5,6,7],[0]⟩ u2 (lf 0 [BP,Cr]) .fail) (lf 0 [BV,BQ])) .fail) QU) .fail)
theorem AhP:UH.ok [(113,MF),(125,Jf)] (runs 90) Lx=true:=by kernel_rfl
def OZ:TE:=
 (.call 125 0 ⟨[V4,V5,V6,V7,V8,L3,AO,Bn,AU,Bm,By,Cb,BT],[S1,S3],[0,4,5,6,7],[0]⟩ u1 (tne Cv L0 QU (tlt V3 L1 QT (tgt V3 (L 1024) QT (.call 113 0 ⟨[AJ,AO,Bn,AU,Bm,By,Cb,(Pa BT L1)],[S3],[2,4,5,6,7],[0]⟩ u2 Ab4 .fail)))) .fail)
theorem AhO:UG.ok [(113,MF),(125,Jf)] (runs 91) OZ=true:=by kernel_rfl
def Xb:TE:=
 (.call 126 0 ⟨[V0,V1,V2,V3,V4,V5,V6,V7,V8,V9,A5,A9,A8,AE,AJ,Bc,AO,Bn,AU,Bm,By,Cb,BT],[S0,S1,S2,S3],[0,1,2,3,4,5,6,7],[0]⟩ ⟨4,1,0,0⟩ (lf 0 [BP]) .fail)
theorem AhN:UF.ok [(126,Q2)] (runs 93) Xb=true:=by kernel_rfl
def Xa:TE:=
 (.call 126 0 ⟨[V0,V1,V2,V3,V4,V5,V6,V7,V8,V9,A5,A9,A8,AE,AJ,Bc,AO,Bn,AU,Bm,By,Cb,BT],[S0,S1,S2,S3],[0,1,2,3,4,5,6,7],[0]⟩ ⟨4,1,0,0⟩ (tne BP L0 (lf 0 [BP]) (.call 132 0 ⟨[V1,BV,BV],[],[],[]⟩ u2 (tne C6 L0 (lf 0 [W1]) (teq Cv L3 (lf 0 [W1]) (lf 0 [L0]))) .fail)) .fail)
theorem AhM:UE.ok [(126,Q2),(132,MD)] (runs 94) Xa=true:=by kernel_rfl
def OY:TE:=
 (.look 0 S0 Bq (teq Cv L3 (.call 124 0 ⟨[V4,V5,V6,V7,V8,AO,Bn,AU,Bm,By,Cb,BT],[S1,S3],[0,4,5,6,7],[0]⟩ u2 (teq Cr L0 (teq V1 L4 (.call 125 0 ⟨[V9,A5,A9,A8,AE,L1,AO,Bn,AU,Bm,By,Cb,BT],[S2,S3],[1,4,5,6,7],[0]⟩ u1 (tne C6 L0 (lf 0 [C6]) (teq V1 L1 .fail (teq V1 L2 .fail (teq V1 L3 .fail (teq V1 L5 .fail (teq V1 L6 .fail AfC)))))) .fail) (tne Cr L0 .fail AjQ)) (tne Cr L0 (lf 0 [Cr]) AjQ)) .fail) (lf 0 [Ut])) (lf 0 [Ut]))
theorem AhL:UD.ok [(124,Jg),(125,Jf)] (runs 95) OY=true:=by kernel_rfl
def Er:TE:=
 (.call 127 0 ⟨[V4,V5,V6,V7,V8,V9,A5,A9],[S1],[0,1,2,3,4],[0]⟩ u8 (tne AE L0 (lf 0 [L0,AE]) (teq V0 L1 (lf 0 [V2,L0]) (teq V0 L3 UZ (teq V0 L4 AfS (teq V0 L5 AfU (teq V0 L6 Agd (teq V0 L2 AfV (teq V0 L7 AfY (teq V0 L8 (.look 0 S0 Bq (teq AJ L1 (tge AO L0 (tlt AO V9 (.elem 3 AO E6 (.call 133 0 ⟨[Bn,AU,Bm,By,Cb,BT,Cv,BV,A8,V5,V6,V7,V8,V9,A5,A9],[S2,S3,S1],[6,7,8,5,1,2,3,4],[0]⟩ u2 (lf 0 [BQ,BP]) .fail)) .fail) .fail) FZ) FZ) FZ))))))))) .fail)
theorem AhK:Jg.ok [(127,UC),(131,Qz),(132,MD),(133,UA)] (runs 25) Er=true:=by kernel_rfl
def WZ:TE:=
 (.call 124 0 ⟨[V0,V1,V2,V3,V4,V6,V7,V8,V9,A5,A9,A8],[S0,S1],[0,1,2,3,4],[0]⟩ u2 AfO .fail)
theorem AhJ:Jf.ok [(124,Jg)] (runs 54) WZ=true:=by kernel_rfl
def WY:TE:=
 (.look 0 S0 Bq (teq Cv L0 (tge BQ L0 (tlt BQ AU (.elem 4 BQ Ft (.call 125 0 ⟨[V4,V5,V6,V7,V8,L1,AO,Bn,AU,Bm,By,Cb,BT],[S1,S3],[0,4,5,6,7],[0]⟩ u1 (teq Ch L0 (.call 125 0 ⟨[V9,A5,A9,A8,AE,Cr,AO,Bn,AU,Bm,By,Cb,BT],[S2,S3],[1,4,5,6,7],[0]⟩ u1 (.leaf 0 [] ⟨[BP,Cr,C6,D9],[S4],[],[]⟩) .fail) (.leaf 0 [] ⟨[BP,Cr,C6,Ch],[S4],[],[]⟩)) .fail)) .fail) .fail) Ab5) Ab5)
theorem AhI:Q2.ok [(125,Jf)] (runs 114) WY=true:=by kernel_rfl
def WX:TE:=
 (.call 128 0 ⟨[V0,V0,L0,V1,V2,V3,V4,V5,V6,V7],[S0],[0,1,2,3,4],[0]⟩ u0 Af5 (.call 128 1 ⟨[V0,V0,L0,V1,V2,V3,V4,V5,V6,V7],[S0],[0,1,2,3,4],[0]⟩ u8 (.leaf 0 [] ⟨[V8,V9],[],[5],[]⟩) (.call 128 2 ⟨[V0,V0,L0,V1,V2,V3,V4,V5,V6,V7],[S0],[0,1,2,3,4],[0]⟩ u5 Af8 .fail)))
theorem AhH:UC.ok [(128,UB)] (runs 41) WX=true:=by kernel_rfl
def WW:TE:=
 (tlt V2 V1 (tge V2 L0 (tlt V2 V0 (.elem 0 V2 A0 (.call 124 0 ⟨[A5,A9,A8,AE,AJ,V3,V4,V5,V6,V7,V8,V9],[S1,S0],[5,1,2,3,4],[0]⟩ u2 (tne AO L0 Af7 (.Ay [.els [[(I 15)]]] Eu (.Ad 6 L1 (.call 134 0 ⟨[L1,V0,V1,(Pa V2 L1),V3,V4,V5,V6,V7,V8,V9],[S0],[0,1,2,3,4,6],[0]⟩ u8 QW (.call 134 1 ⟨[L1,V0,V1,(Pa V2 L1),V3,V4,V5,V6,V7,V8,V9],[S0],[0,1,2,3,4,6],[0]⟩ u8 QW (.call 134 2 ⟨[L1,V0,V1,(Pa V2 L1),V3,V4,V5,V6,V7,V8,V9],[S0],[0,1,2,3,4,6],[0]⟩ u0 (.leaf 2 [4] ⟨[L1],[],[6],[]⟩) (.call 134 3 ⟨[L1,V0,V1,(Pa V2 L1),V3,V4,V5,V6,V7,V8,V9],[S0],[0,1,2,3,4,6],[0]⟩ u5 (.leaf 2 [5] ⟨[AU],[],[7],[]⟩) .fail))))))) .fail)) .fail) .fail) (lf 0 []))
theorem AhG:UB.ok [(124,Jg),(134,Qy)] (runs 41) WW=true:=by kernel_rfl
def Lw:TE:=
 (tlt V2 V1 (tge V2 L0 (tlt V2 V0 (.elem 0 V2 AX (.look 0 S3 Bq (.leaf 0 [] ⟨[],[],[],[0]⟩) (.up 0 S3 [(.int .i64 L2),(I 18),Z0] Bq (.call 129 0 ⟨[V0,V1,(Pa V2 L1),V3,V4,V5,V6,V7,V8,V9,A5,A9,A8,AE,AJ,Bc,AO,Bn],[S0,S1,S2],[0,1,2,3,4,5,6,7],[1]⟩ u7 (.leaf 0 [] ⟨[],[],[],[2]⟩) (.call 129 1 ⟨[V0,V1,(Pa V2 L1),V3,V4,V5,V6,V7,V8,V9,A5,A9,A8,AE,AJ,Bc,AO,Bn],[S0,S1,S2],[0,1,2,3,4,5,6,7],[1]⟩ u7 (.leaf 1 [] ⟨[],[],[],[2]⟩) .fail))))) .fail) .fail) (.leaf 1 [] ⟨[],[],[],[0]⟩))
theorem AhF:Q1.ok [(129,Q1)] (runs 38) Lw=true:=by kernel_rfl
def WV:TE:=
 (.call 135 0 ⟨[V0,V0,L0,V1,V2,V3,V4,V5,V6,V7],[S0],[0,1,2,3,4],[0]⟩ u11 (.leaf 0 [] ⟨[V8,V9],[],[],[1]⟩) (.call 135 1 ⟨[V0,V0,L0,V1,V2,V3,V4,V5,V6,V7],[S0],[0,1,2,3,4],[0]⟩ u12 (.leaf 0 [] ⟨[L0,V8],[],[],[1]⟩) .fail))
theorem AhE:Q0.ok [(135,Qx)] (runs 53) WV=true:=by kernel_rfl
def ZV:TE:=
 (.A4 0 (.ofNat 1) Agc (.A4 0 (.ofNat 2) (teq V1 L1 Vc (teq V1 L2 Af2 (teq V1 L3 Vc ET))) (.A4 0 (.ofNat 3) Agc (.A4 0 (.ofNat 4) (teq V1 L1 (lf 0 [L2,L0]) (teq V1 L2 DY AfE)) (.A4 0 (.ofNat 5) (teq V1 L1 Af1 (teq V1 L2 UZ AfE)) .fail)))))
theorem AhD:Qz.ok [] (runs 42) ZV=true:=by kernel_rfl
end Go.Proofs.YtbmofjdmgjpfoaaGreatDoor.Am
end
