/- Part 11 of the proof of TypesAccepts. -/
import Derived.Test.YtbmofjdmgjpfoaaGreatDoorC4
import Derived.Test.YtbmofjdmgjpfoaaGreatDoorC5
import Derived.Test.YtbmofjdmgjpfoaaGreatDoorC6
import Derived.Test.YtbmofjdmgjpfoaaGreatDoorC7
import Derived.Test.YtbmofjdmgjpfoaaGreatDoorC8
import Derived.Test.YtbmofjdmgjpfoaaGreatDoorC9
import Derived.Test.YtbmofjdmgjpfoaaGreatDoorC10
import Derived.KernelRfl
set_option linter.all false
section
namespace Go.Proofs.YtbmofjdmgjpfoaaGreatDoor.Am
open Go.AM
set_option maxRecDepth 100000
def AfS:List (Nat×AM.Tree):=[(0,t_0),(4,Xr),(5,t_5),(6,t_6),(7,t_7),(8,t_8),(9,t_9),(10,Acv),(11,Acu),(12,Agr),(13,Agq),(14,Acs),(15,Agp),(16,Ago),(17,Agn),(18,Agm),(19,Agl),(20,Acr),(21,Agk),(22,Agj),(23,Agi),(24,Agh),(25,Agg),(26,Agf),(27,Age),(28,Agd),(29,Agc),(30,Agb),(31,Aga),(32,AfZ),(33,AfY),(34,AfX),(35,AfW),(36,AfV),(37,AfU),(38,Acq),(39,Acp),(40,Aco),(41,Acn),(42,Acm),(43,Acl),(44,Xq),(46,Xp),(48,Ack),(49,Acj),(50,Aci),(51,R6),(52,Ach),(53,Acg),(54,Acf),(55,Ace),(56,Acd),(58,Acb),(59,Aca),(60,AbZ),(62,AbY),(63,AbX),(65,AbW),(66,AbV),(68,AbU),(69,AbT),(71,AbS),(72,AbR),(75,AbQ),(77,AbP),(78,Jv),(79,NQ),(80,R5),(81,AbO),(82,AbN),(83,AbM),(84,AbL),(85,AbK),(86,AbJ),(87,Ej),(88,AbI),(89,AbH),(90,AbG),(91,AbF),(92,AbE),(93,AbD),(94,AbC),(95,AbB),(96,AbA),(97,GW),(98,Ab9),(99,Kh),(100,VP),(101,VO),(102,KU),(103,Iz),(104,Fz),(105,VN),(106,Fy),(107,Iy),(108,KT),(109,KS),(110,Adq),(111,VM),(112,Fw),(113,O4),(114,VL),(115,O3),(116,KR),(117,VK),(118,O2),(119,VJ),(120,VI),(121,VH),(122,VG),(123,O1),(124,Em),(125,VF),(126,VE),(127,VD),(128,VC),(129,KQ),(130,VB),(131,YA),(132,VA),(133,Vz),(134,Vy),(135,Vx),(136,Vw),(137,Vv),(138,Vu),(139,Vt),(140,Vs),(141,Ek),(142,Vr),(143,Vq),(144,Vp),(146,Vo),(147,Vm),(148,Vl),(149,Vk)]
def trees (c:Nat):AM.Tree:=Y7 c AfS
theorem sc {S' S:List (Nat×AM.Spec)} {c:Nat} {sp:AM.Spec} (h:Fk c S=some sp) (hr:AM.Sub S' S):AM.Sub ((c,sp)::S') S:=YC h hr
theorem oo {T:Nat→Option Obj} (hB:NL T) {S':List (Nat×AM.Spec)} {sp:AM.Spec} {t:AM.Tree} (h:sp.ok S' (runs sp.f) t=true) (hs:AM.Sub S' SS):AM.Abk Tryz.prog T SS sp t:=⟨_,_,hs,Acy hB _,h⟩
theorem Af5 {T:Nat→Option Obj} (hB:NL T):AM.Abz Tryz.prog T SS trees:=AaV
 ⟨oo hB AkW (sc rfl<|sc rfl<|Ai),
 ⟨oo hB AkV (sc rfl<|sc rfl<|sc rfl<|sc rfl<|sc rfl<|sc rfl<|sc rfl<|sc rfl<|Ai),
 ⟨oo hB AkU (Ai),
 ⟨oo hB AkT (sc rfl<|Ai),
 ⟨oo hB AkS (sc rfl<|sc rfl<|sc rfl<|sc rfl<|Ai),
 ⟨oo hB AkR (Ai),
 ⟨oo hB AkQ (Ai),
 ⟨oo hB AhV (sc rfl<|sc rfl<|Ai),
 ⟨oo hB AhU (sc rfl<|sc rfl<|sc rfl<|Ai),
 ⟨oo hB AhT (sc rfl<|sc rfl<|sc rfl<|sc rfl<|sc rfl<|sc rfl<|sc rfl<|sc rfl<|Ai),
 ⟨oo hB AhS (sc rfl<|sc rfl<|sc rfl<|sc rfl<|sc rfl<|sc rfl<|sc rfl<|sc rfl<|sc rfl<|sc rfl<|Ai),
 ⟨oo hB AhR (sc rfl<|sc rfl<|sc rfl<|Ai),
 ⟨oo hB AhQ (sc rfl<|sc rfl<|sc rfl<|Ai),
 ⟨oo hB AhP (sc rfl<|sc rfl<|sc rfl<|sc rfl<|sc rfl<|sc rfl<|Ai),
 ⟨oo hB AhO (sc rfl<|sc rfl<|sc rfl<|Ai),
 ⟨oo hB AhN (sc rfl<|sc rfl<|sc rfl<|Ai),
 ⟨oo hB AhM (sc rfl<|Ai),
 ⟨oo hB AhL (sc rfl<|sc rfl<|sc rfl<|Ai),
 ⟨oo hB AhK (sc rfl<|sc rfl<|sc rfl<|Ai),
 ⟨oo hB AhJ (sc rfl<|sc rfl<|sc rfl<|sc rfl<|sc rfl<|sc rfl<|Ai),
 ⟨oo hB AhI (sc rfl<|sc rfl<|sc rfl<|Ai),
 ⟨oo hB AhH (sc rfl<|sc rfl<|sc rfl<|Ai),
 ⟨oo hB AhG (sc rfl<|Ai),
 ⟨oo hB AhF (sc rfl<|sc rfl<|Ai),
 ⟨oo hB AhE (sc rfl<|sc rfl<|sc rfl<|sc rfl<|Ai),
 ⟨oo hB AhD (sc rfl<|sc rfl<|sc rfl<|Ai),
 ⟨oo hB AhC (sc rfl<|sc rfl<|sc rfl<|Ai),
 ⟨oo hB AhB (sc rfl<|sc rfl<|Ai),
 ⟨oo hB AhA (sc rfl<|sc rfl<|sc rfl<|sc rfl<|Ai),
 ⟨oo hB Ah9 (sc rfl<|sc rfl<|sc rfl<|Ai),
 ⟨oo hB Ah8 (sc rfl<|sc rfl<|sc rfl<|Ai),
 ⟨oo hB Ah7 (sc rfl<|sc rfl<|Ai),
 ⟨oo hB Ah6 (sc rfl<|Ai),
 ⟨oo hB Ah5 (sc rfl<|sc rfl<|Ai),
 ⟨oo hB Ah4 (sc rfl<|Ai),
 ⟨oo hB Ah3 (sc rfl<|sc rfl<|Ai),
 ⟨oo hB Ah2 (sc rfl<|sc rfl<|Ai),
 ⟨oo hB Ah1 (sc rfl<|Ai),
 ⟨oo hB Ah0 (sc rfl<|Ai),
 ⟨oo hB Ahz (sc rfl<|sc rfl<|Ai),
 ⟨oo hB Ahy (sc rfl<|sc rfl<|sc rfl<|Ai),
 ⟨oo hB Ahx (sc rfl<|Ai),
 ⟨oo hB Ahw (sc rfl<|sc rfl<|sc rfl<|sc rfl<|sc rfl<|sc rfl<|Ai),
 ⟨oo hB Ahv (sc rfl<|Ai),
 ⟨oo hB Ahu (sc rfl<|sc rfl<|sc rfl<|sc rfl<|sc rfl<|sc rfl<|Ai),
 ⟨oo hB Aht (sc rfl<|sc rfl<|Ai),
 ⟨oo hB Ahs (sc rfl<|sc rfl<|sc rfl<|Ai),
 ⟨oo hB Ahr (sc rfl<|Ai),
 ⟨oo hB Ahq (sc rfl<|sc rfl<|sc rfl<|Ai),
 ⟨oo hB Ahp (sc rfl<|sc rfl<|Ai),
 ⟨oo hB Aho (sc rfl<|Ai),
 ⟨oo hB Ahn (sc rfl<|sc rfl<|Ai),
 ⟨oo hB Ahm (sc rfl<|sc rfl<|sc rfl<|Ai),
 ⟨oo hB Ahl (sc rfl<|sc rfl<|sc rfl<|Ai),
 ⟨oo hB Ahk (Ai),
 ⟨oo hB Ahj (sc rfl<|sc rfl<|Ai),
 ⟨oo hB Ahi (sc rfl<|sc rfl<|sc rfl<|Ai),
 ⟨oo hB Ahh (sc rfl<|sc rfl<|Ai),
 ⟨oo hB Ahg (sc rfl<|sc rfl<|sc rfl<|Ai),
 ⟨oo hB Ahf (sc rfl<|sc rfl<|Ai),
 ⟨oo hB Ahe (Ai),
 ⟨oo hB Ahd (sc rfl<|sc rfl<|Ai),
 ⟨oo hB Ahc (sc rfl<|sc rfl<|sc rfl<|Ai),
 ⟨oo hB Ahb (sc rfl<|sc rfl<|Ai),
 ⟨oo hB Aha (sc rfl<|sc rfl<|Ai),
 ⟨oo hB AgZ (sc rfl<|sc rfl<|Ai),
 ⟨oo hB AgY (sc rfl<|sc rfl<|Ai),
 ⟨oo hB AgX (sc rfl<|sc rfl<|sc rfl<|Ai),
 ⟨oo hB AgW (sc rfl<|Ai),
 ⟨oo hB AgV (sc rfl<|Ai),
 ⟨oo hB AgU (sc rfl<|sc rfl<|Ai),
 ⟨oo hB AgT (sc rfl<|Ai),
 ⟨oo hB AgS (sc rfl<|Ai),
 ⟨oo hB AgR (sc rfl<|sc rfl<|Ai),
 ⟨oo hB AgQ (sc rfl<|sc rfl<|sc rfl<|sc rfl<|sc rfl<|sc rfl<|sc rfl<|sc rfl<|sc rfl<|sc rfl<|sc rfl<|sc rfl<|sc rfl<|Ai),
 ⟨oo hB AgP (Ai),
 ⟨oo hB AgO (Ai),
 ⟨oo hB AgN (Ai),
 ⟨oo hB AgM (Ai),
 ⟨oo hB AgL (Ai),
 ⟨oo hB AgK (Ai),
 ⟨oo hB AgJ (Ai),
 ⟨oo hB AgI (Ai),
 ⟨oo hB AgH (Ai),
 ⟨oo hB AgG (sc rfl<|sc rfl<|sc rfl<|sc rfl<|Ai),
 ⟨oo hB AgF (sc rfl<|Ai),
 ⟨oo hB AgE (Ai),
 ⟨oo hB AeT (sc rfl<|sc rfl<|Ai),
 ⟨oo hB AeS (sc rfl<|sc rfl<|sc rfl<|sc rfl<|Ai),
 ⟨oo hB AeR (sc rfl<|sc rfl<|Ai),
 ⟨oo hB AeQ (sc rfl<|Ai),
 ⟨oo hB AeP (sc rfl<|Ai),
 ⟨oo hB AeO (sc rfl<|sc rfl<|sc rfl<|Ai),
 ⟨oo hB AeN (sc rfl<|Ai),
 ⟨oo hB AeM (sc rfl<|Ai),
 ⟨oo hB AeL (sc rfl<|Ai),
 ⟨oo hB AeK (sc rfl<|sc rfl<|Ai),
 ⟨oo hB AeJ (sc rfl<|sc rfl<|Ai),
 ⟨oo hB AeI (sc rfl<|sc rfl<|sc rfl<|sc rfl<|sc rfl<|Ai),
 ⟨oo hB AeH (sc rfl<|Ai),
 ⟨oo hB AeG (sc rfl<|Ai),
 ⟨oo hB AeF (sc rfl<|Ai),
 ⟨oo hB AeE (sc rfl<|Ai),
 ⟨oo hB AeD (sc rfl<|sc rfl<|sc rfl<|sc rfl<|sc rfl<|sc rfl<|sc rfl<|sc rfl<|Ai),
 ⟨oo hB AeC (sc rfl<|Ai),
 ⟨oo hB AeB (sc rfl<|Ai),
 ⟨oo hB AeA (sc rfl<|sc rfl<|Ai),
 ⟨oo hB Ae9 (sc rfl<|sc rfl<|Ai),
 ⟨oo hB Ae8 (sc rfl<|Ai),
 ⟨oo hB Ae7 (sc rfl<|sc rfl<|Ai),
 ⟨oo hB Ae6 (sc rfl<|sc rfl<|Ai),
 ⟨oo hB Ae5 (sc rfl<|sc rfl<|sc rfl<|sc rfl<|Ai),
 ⟨oo hB Ae4 (sc rfl<|Ai),
 ⟨oo hB Ae3 (sc rfl<|Ai),
 ⟨oo hB Ae2 (sc rfl<|Ai),
 ⟨oo hB Ae1 (sc rfl<|sc rfl<|Ai),
 ⟨oo hB Ae0 (sc rfl<|Ai),
 ⟨oo hB Aez (sc rfl<|Ai),
 ⟨oo hB Aey (Ai),
 ⟨oo hB Aex (Ai),
 ⟨oo hB Aew (sc rfl<|Ai),
 ⟨oo hB Aev (sc rfl<|sc rfl<|Ai),
 ⟨oo hB Aeu (sc rfl<|sc rfl<|sc rfl<|sc rfl<|sc rfl<|Ai),
 ⟨oo hB Aet (sc rfl<|Ai),
 ⟨oo hB Aes (sc rfl<|Ai),
 ⟨oo hB Aer (sc rfl<|Ai),
 ⟨oo hB Aeq (sc rfl<|sc rfl<|Ai),
 ⟨oo hB Aep (sc rfl<|sc rfl<|Ai),
 ⟨oo hB Aeo (sc rfl<|sc rfl<|sc rfl<|sc rfl<|Ai),
 ⟨oo hB Aen (sc rfl<|Ai),
 ⟨oo hB Aem (sc rfl<|Ai),
 ⟨oo hB Ael (sc rfl<|sc rfl<|Ai),
 ⟨oo hB Aek (sc rfl<|Ai),
 ⟨oo hB Aej (sc rfl<|sc rfl<|Ai),
 ⟨oo hB Aei (sc rfl<|Ai),
 ⟨oo hB Aeh (sc rfl<|Ai),trivial⟩⟩⟩⟩⟩⟩⟩⟩⟩⟩⟩⟩⟩⟩⟩⟩⟩⟩⟩⟩⟩⟩⟩⟩⟩⟩⟩⟩⟩⟩⟩⟩⟩⟩⟩⟩⟩⟩⟩⟩⟩⟩⟩⟩⟩⟩⟩⟩⟩⟩⟩⟩⟩⟩⟩⟩⟩⟩⟩⟩⟩⟩⟩⟩⟩⟩⟩⟩⟩⟩⟩⟩⟩⟩⟩⟩⟩⟩⟩⟩⟩⟩⟩⟩⟩⟩⟩⟩⟩⟩⟩⟩⟩⟩⟩⟩⟩⟩⟩⟩⟩⟩⟩⟩⟩⟩⟩⟩⟩⟩⟩⟩⟩⟩⟩⟩⟩⟩⟩⟩⟩⟩⟩⟩⟩⟩⟩⟩⟩⟩⟩⟩⟩⟩⟩⟩
theorem good {T:Nat→Option Obj} (hB:NL T) (n:Nat):AM.Good Tryz.prog T SS (mir trees n):=St (Af5 hB) n
end Go.Proofs.YtbmofjdmgjpfoaaGreatDoor.Am
end
section
namespace Go.AM
def Dz (B:List (List PV)):Prop:=∀(i:Nat) (x:List PV),B[i]?=some x→∃n:Int,0≤n∧n≤255∧x=[.int .u8 n]
theorem AaO {B:List (List PV)} (h:Dz B) (i:Int) (o:0≤i) (k:i<B.length):∃n:Int,0≤n∧n≤255∧B[i.toNat]?=some [.int .u8 n]:=by
 have c:i.toNat<B.length:=by omega
 obtain ⟨n,d,g,j⟩:=h i.toNat _ (List.getElem?_eq_getElem c)
 exact ⟨n,d,g,by rw [List.getElem?_eq_getElem c,j]⟩
theorem sound_app {P:Program} {ρ:Env} {l m:List (Nat×By)} (c:∀x∈l,CD P ρ x.1 x.2) (d:∀x∈m,CD P ρ x.1 x.2):∀x∈l++m,CD P ρ x.1 x.2:=fun x g=>by
 rcases List.mem_append.1 g with h|h
 ·exact c x h
 ·exact d x h
theorem w_i8 (e:Int) (h:(-128:Int)≤e∧e≤(127:Int):=by omega):IntKind.wrap .i8 e=e:=Pz .i8 e h
theorem w_i16 (e:Int) (h:(-32768:Int)≤e∧e≤(32767:Int):=by omega):IntKind.wrap .i16 e=e:=Pz .i16 e h
theorem AfP (e:Int) (h:(-2147483648:Int)≤e∧e≤(2147483647:Int):=by omega):IntKind.wrap .i32 e=e:=Pz .i32 e h
theorem AfO (e:Int) (h:(-9223372036854775808:Int)≤e∧e≤(9223372036854775807:Int):=by omega):IntKind.wrap .i64 e=e:=Pz .i64 e h
theorem Akz (e:Int) (h:(0:Int)≤e∧e≤(255:Int):=by omega):IntKind.wrap .u8 e=e:=Pz .u8 e h
theorem w_u16 (e:Int) (h:(0:Int)≤e∧e≤(65535:Int):=by omega):IntKind.wrap .u16 e=e:=Pz .u16 e h
theorem w_u32 (e:Int) (h:(0:Int)≤e∧e≤(4294967295:Int):=by omega):IntKind.wrap .u32 e=e:=Pz .u32 e h
theorem w_u64 (e:Int) (h:(0:Int)≤e∧e≤(18446744073709551615:Int):=by omega):IntKind.wrap .u64 e=e:=Pz .u64 e h
end Go.AM
end
section
namespace Go.AM
theorem Yy {e:Int} (h:(-9223372036854775808:Int)≤e∧e≤9223372036854775807):IntKind.wrap .i64 e=e:=AfO e h
theorem Ab6 {e:Int} (h:(-2147483648:Int)≤e∧e≤2147483647):IntKind.wrap .i32 e=e:=AfP e h
theorem Aky {e:Int} (h:(0:Int)≤e∧e≤255):IntKind.wrap .u8 e=e:=Akz e h
theorem Ab7 {a b:Int} (h:0≤a):Int.tmod a b=a%b:=Int.tmod_eq_emod_of_nonneg h
theorem Ab8 {a b:Int} (h:0≤a):Int.tdiv a b=a/b:=Int.tdiv_eq_ediv_of_nonneg h
theorem kn {p:Prop} (h:p:=by first|omega|assumption|rfl|(simp only [lA,lC,lN,lT',List.length_drop,true_and,and_true];omega) |(simp only [lA,lC,lN,lT',List.length_drop,true_and,and_true]at*;omega) |(subst_vars;first|assumption|omega)):p:=h
theorem dead {p:Prop} (h:False:=by first|omega|contradiction|(simp only [lA,lC,lN,lT',List.length_drop,true_and,and_true]at*;omega)):p:=h.elim
section
variable {ρ:Env} {t a b:ST} {x y:Int}
theorem d8 (h:t.den ρ=x) (r:0≤x∧x≤255):(ST.conv .u8 t).den ρ=x:=by show IntKind.wrap .u8 (t.den ρ)=x;rw [h];exact Aky r
theorem d32 (h:t.den ρ=x) (r:(-2147483648:Int)≤x∧x≤2147483647):(ST.conv .i32 t).den ρ=x:=by show IntKind.wrap .i32 (t.den ρ)=x;rw [h];exact Ab6 r
theorem d64 (h:t.den ρ=x) (r:(-9223372036854775808:Int)≤x∧x≤9223372036854775807):(ST.conv .i64 t).den ρ=x:=by show IntKind.wrap .i64 (t.den ρ)=x;rw [h];exact Yy r
theorem da (h:a.den ρ=x) (g:b.den ρ=y) (r:(-9223372036854775808:Int)≤x+y∧x+y≤9223372036854775807):(ST.bin .add .i64 a b).den ρ=x+y:=by show IntKind.wrap .i64 (a.den ρ+b.den ρ)=_;rw [h,g];exact Yy r
theorem ds (h:a.den ρ=x) (g:b.den ρ=y) (r:(-9223372036854775808:Int)≤x-y∧x-y≤9223372036854775807):(ST.bin .sub .i64 a b).den ρ=x-y:=by show IntKind.wrap .i64 (a.den ρ-b.den ρ)=_;rw [h,g];exact Yy r
theorem dm (h:a.den ρ=x) (g:b.den ρ=y) (r:(-9223372036854775808:Int)≤x*y∧x*y≤9223372036854775807):(ST.bin .mul .i64 a b).den ρ=x*y:=by show IntKind.wrap .i64 (a.den ρ*b.den ρ)=_;rw [h,g];exact Yy r
theorem da2 (h:a.den ρ=x) (g:b.den ρ=y) (r:(-2147483648:Int)≤x+y∧x+y≤2147483647):(ST.bin .add .i32 a b).den ρ=x+y:=by show IntKind.wrap .i32 (a.den ρ+b.den ρ)=_;rw [h,g];exact Ab6 r
theorem ds2 (h:a.den ρ=x) (g:b.den ρ=y) (r:(-2147483648:Int)≤x-y∧x-y≤2147483647):(ST.bin .sub .i32 a b).den ρ=x-y:=by show IntKind.wrap .i32 (a.den ρ-b.den ρ)=_;rw [h,g];exact Ab6 r
theorem dm2 (h:a.den ρ=x) (g:b.den ρ=y) (r:(-2147483648:Int)≤x*y∧x*y≤2147483647):(ST.bin .mul .i32 a b).den ρ=x*y:=by show IntKind.wrap .i32 (a.den ρ*b.den ρ)=_;rw [h,g];exact Ab6 r
theorem dr {k:IntKind} (h:a.den ρ=x) (g:b.den ρ=y) (r:0≤x):(ST.bin .rem k a b).den ρ=x%y:=by show Int.tmod (a.den ρ) (b.den ρ)=_;rw [h,g];exact Ab7 r
theorem dq (h:a.den ρ=x) (g:b.den ρ=y) (r:0≤x∧-9223372036854775808≤x/y∧x/y≤9223372036854775807):(ST.bin .quo .i64 a b).den ρ=x/y:=by show IntKind.wrap .i64 (Int.tdiv (a.den ρ) (b.den ρ))=_;rw [h,g,Ab8 r.1];exact Yy r.2
theorem Ala {i:Nat} (h:ρ.val i=x):(ST.var i).den ρ=x:=h
theorem dlit:(ST.lit x).den ρ=x:=rfl
theorem Aix {n:Nat} (h:(n:Int)=x):(ST.lit (.ofNat n)).den ρ=x:=h
theorem dn (h:t.den ρ=x:=by repeat (first|with_reducible refine Ala ?_|with_reducible refine Aix ?_|with_reducible refine d64 ?_ ?_|with_reducible refine da ?_ ?_ ?_|with_reducible refine ds ?_ ?_ ?_|with_reducible refine dr ?_ ?_ ?_|with_reducible refine dq ?_ ?_ ?_|with_reducible refine dm ?_ ?_ ?_|with_reducible refine d32 ?_ ?_|with_reducible refine da2 ?_ ?_ ?_|with_reducible refine ds2 ?_ ?_ ?_|with_reducible refine dm2 ?_ ?_ ?_|with_reducible refine d8 ?_ ?_|exact rfl|omega)):t.den ρ=x:=h
theorem Aiy {ts:List ST} {c:List Int} (h:t.den ρ=x) (g:ts.map (fun t=>t.den ρ)=c):(t::ts).map (fun t=>t.den ρ)=x::c:=by rw [List.map_cons,h,g]
theorem Alb:([]:List ST).map (fun t=>t.den ρ)=[]:=rfl
theorem vmk {τ:De} {n:List Int} {s:List (List Nat)} {l:List (List (List PV))} {m:List (List (List Nat×List PV))} (h:τ.n.map (fun t=>t.den ρ)=n) (hs:τ.s.map (B4 ρ)=s) (hl:τ.l.map ρ.lst=l) (c:τ.m.map ρ.map=m):τ.vals ρ=⟨n,s,l,m⟩:=by
 subst h;subst hs;subst hl;subst c;rfl
theorem vn {τ:De} {v:Ah} (h:τ.vals ρ=v:=by refine vmk ?_ rfl rfl rfl;repeat (first|with_reducible refine Aiy ?_ ?_|with_reducible exact Alb|exact dn)):τ.vals ρ=v:=h
theorem AcX {k:IntKind} (h:t.den ρ=x):GS ρ (.int k) (.int k t)=some (.int k x):=by
 have:Un k k=true:=by cases k<;>rfl
 simp [GS,this,h]
theorem WX {c:CK} {sh:List CK} {a:Aa} {az9:List Aa} {p:PV} {d:List PV} (h:GS ρ c a=some p) (g:CC ρ sh az9=some d):CC ρ (c::sh) (a::az9)=some (p::d):=by simp only [CC,h,g]
theorem ZJ {sh:List CK} {a:List Aa} {az9:List (List Aa)} {p:List PV} {c:List (List PV)} (h:CC ρ sh a=some p) (g:GQ ρ sh az9=some c):GQ ρ sh (a::az9)=some (p::c):=by simp only [GQ,h,g]
theorem Aeg {sh:List CK} {c:List (List Aa)} {l:List (List PV)} (h:GQ ρ sh c=some l):D6 ρ sh (.els c)=some l:=h
variable {sh:List CK} {p q r:AQ} {l l2 l3:List (List PV)}
theorem FL (h:D6 ρ sh p=some l):CH ρ sh [p]=some l:=by simp [CH,h]
theorem BG (h:D6 ρ sh p=some l) (g:D6 ρ sh q=some l2):CH ρ sh [p,q]=some (l++l2):=by simp [CH,h,g]
theorem ZO (h:D6 ρ sh p=some l) (g:D6 ρ sh q=some l2) (f:D6 ρ sh r=some l3):CH ρ sh [p,q,r]=some (l++l2++l3):=by simp [CH,h,g,f]
theorem X8 {i:Nat} {n:ST} {n':Int} (h:n.den ρ=n') (c:0≤n'∧n'≤((ρ.lst i).length:Int)):D6 ρ sh (.take i n)=some ((ρ.lst i).take n'.toNat):=by
 simp only [D6,h];rw [if_pos c]
theorem part_drop {i:Nat} {n:ST} {n':Int} (h:n.den ρ=n') (c:0≤n'∧n'≤((ρ.lst i).length:Int)):D6 ρ sh (.drop i n)=some ((ρ.lst i).drop n'.toNat):=by
 simp only [D6,h];rw [if_pos c]
theorem pe {c:List (List Aa)} (h:D6 ρ sh (.els c)=some l:=by first|rfl|(refine Aeg ?_;repeat (first|refine ZJ ?_ ?_|refine WX ?_ ?_|exact AcX dn|rfl))):D6 ρ sh (.els c)=some l:=h
theorem pw {i:Nat} {n:ST} (x:Int) (L:List (List PV)) (h:n.den ρ=x:=by exact dn) (hl:ρ.lst i=L:=by rfl) (c:x=(L.length:Int):=by exact kn):D6 ρ sh (.take i n)=some L:=by
 subst hl;subst c
 simp only [D6,h]
 rw [if_pos ⟨by omega,by omega⟩,Int.toNat_natCast,List.take_length]
theorem pt {i:Nat} {n:ST} (x:Int) (L:List (List PV)) (h:n.den ρ=x:=by exact dn) (hl:ρ.lst i=L:=by rfl) (c:0≤x∧x≤(L.length:Int):=by exact kn):D6 ρ sh (.take i n)=some (L.take x.toNat):=by
 subst hl;exact X8 h c
theorem pd {i:Nat} {n:ST} (x:Int) (L:List (List PV)) (h:n.den ρ=x:=by exact dn) (hl:ρ.lst i=L:=by rfl) (c:0≤x∧x≤(L.length:Int):=by exact kn):D6 ρ sh (.drop i n)=some (L.drop x.toNat):=by
 subst hl;exact part_drop h c
end
def Ok (trees:Nat→Tree) (c:Nat) (v:Ah) (R:Out→Prop):Prop:=∃o,R o∧∀Q:Out→Prop,Q o→Eg trees c v Q
theorem Ok.of {trees:Nat→Tree} {c:Nat} {v:Ah} {R:Out→Prop} {t:Tree} (d:trees c=t) (h:t.wp (Eg trees) R v):Ok trees c v R:=by
 subst d;exact Eg.elim (Sw h)
theorem Fi {c g:Prop} {d:Decidable c} {A B:Prop} (hc:c↔g) (k:g→A) (j:¬g→B):@ite Prop c d A B:=by
 split
 ·rename_i h;exact k (hc.1 h)
 ·rename_i h;exact j fun o=>h (hc.2 o)
theorem Du {c:Prop} {d:Decidable c} {A B:Prop} (hc:c) (g:A):@ite Prop c d A B:=by rw [if_pos hc];exact g
theorem MI {c:Prop} {d:Decidable c} {A B:Prop} (hc:¬c) (g:B):@ite Prop c d A B:=by rw [if_neg hc];exact g
section
variable {trees:Nat→Tree} {Q:Out→Prop} {t e k:Tree} {v:Ah}
abbrev W (trees:Nat→Tree) (Q:Out→Prop) (t:Tree) (v:Ah):Prop:=t.wp (Eg trees) Q v
section
variable {a b:ST} (x y:Int)
theorem lt (g:x<y→W trees Q t v) (j:¬(x<y)→W trees Q e v) (c:a.den v.e=x:=by exact dn) (d:b.den v.e=y:=by exact dn):W trees Q (.test .lss a b t e) v:=by subst c;subst d;exact Fi Iff.rfl g j
theorem BD (d:W trees Q t v) (hc:x<y:=by exact kn) (g:a.den v.e=x:=by exact dn) (c:b.den v.e=y:=by exact dn):W trees Q (.test .lss a b t e) v:=by subst g;subst c;exact Du hc d
theorem En (g:W trees Q e v) (hc:¬(x<y):=by exact kn) (c:a.den v.e=x:=by exact dn) (d:b.den v.e=y:=by exact dn):W trees Q (.test .lss a b t e) v:=by subst c;subst d;exact MI hc g
theorem le (g:x≤y→W trees Q t v) (j:¬(x≤y)→W trees Q e v) (c:a.den v.e=x:=by exact dn) (d:b.den v.e=y:=by exact dn):W trees Q (.test .leq a b t e) v:=by subst c;subst d;exact Fi Iff.rfl g j
theorem F8 (d:W trees Q t v) (hc:x≤y:=by exact kn) (g:a.den v.e=x:=by exact dn) (c:b.den v.e=y:=by exact dn):W trees Q (.test .leq a b t e) v:=by subst g;subst c;exact Du hc d
theorem leN (g:W trees Q e v) (hc:¬(x≤y):=by exact kn) (c:a.den v.e=x:=by exact dn) (d:b.den v.e=y:=by exact dn):W trees Q (.test .leq a b t e) v:=by subst c;subst d;exact MI hc g
theorem gt (g:x>y→W trees Q t v) (j:¬(x>y)→W trees Q e v) (c:a.den v.e=x:=by exact dn) (d:b.den v.e=y:=by exact dn):W trees Q (.test .gtr a b t e) v:=by subst c;subst d;exact Fi Iff.rfl g j
theorem gtY (d:W trees Q t v) (hc:x>y:=by exact kn) (g:a.den v.e=x:=by exact dn) (c:b.den v.e=y:=by exact dn):W trees Q (.test .gtr a b t e) v:=by subst g;subst c;exact Du hc d
theorem Ss (g:W trees Q e v) (hc:¬(x>y):=by exact kn) (c:a.den v.e=x:=by exact dn) (d:b.den v.e=y:=by exact dn):W trees Q (.test .gtr a b t e) v:=by subst c;subst d;exact MI hc g
theorem ge (g:x≥y→W trees Q t v) (j:¬(x≥y)→W trees Q e v) (c:a.den v.e=x:=by exact dn) (d:b.den v.e=y:=by exact dn):W trees Q (.test .geq a b t e) v:=by subst c;subst d;exact Fi Iff.rfl g j
theorem CX (d:W trees Q t v) (hc:x≥y:=by exact kn) (g:a.den v.e=x:=by exact dn) (c:b.den v.e=y:=by exact dn):W trees Q (.test .geq a b t e) v:=by subst g;subst c;exact Du hc d
theorem IZ (g:W trees Q e v) (hc:¬(x≥y):=by exact kn) (c:a.den v.e=x:=by exact dn) (d:b.den v.e=y:=by exact dn):W trees Q (.test .geq a b t e) v:=by subst c;subst d;exact MI hc g
theorem eq (g:x=y→W trees Q t v) (j:¬(x=y)→W trees Q e v) (c:a.den v.e=x:=by exact dn) (d:b.den v.e=y:=by exact dn):W trees Q (.test .eql a b t e) v:=by subst c;subst d;exact Fi Iff.rfl g j
theorem BL (d:W trees Q t v) (hc:x=y:=by exact kn) (g:a.den v.e=x:=by exact dn) (c:b.den v.e=y:=by exact dn):W trees Q (.test .eql a b t e) v:=by subst g;subst c;exact Du hc d
theorem AT (g:W trees Q e v) (hc:¬(x=y):=by exact kn) (c:a.den v.e=x:=by exact dn) (d:b.den v.e=y:=by exact dn):W trees Q (.test .eql a b t e) v:=by subst c;subst d;exact MI hc g
theorem ne (g:x≠y→W trees Q t v) (j:¬(x≠y)→W trees Q e v) (c:a.den v.e=x:=by exact dn) (d:b.den v.e=y:=by exact dn):W trees Q (.test .neq a b t e) v:=by subst c;subst d;exact Fi Iff.rfl g j
theorem neY (d:W trees Q t v) (hc:x≠y:=by exact kn) (g:a.den v.e=x:=by exact dn) (c:b.den v.e=y:=by exact dn):W trees Q (.test .neq a b t e) v:=by subst g;subst c;exact Du hc d
theorem Cc (g:W trees Q e v) (hc:¬(x≠y):=by exact kn) (c:a.den v.e=x:=by exact dn) (d:b.den v.e=y:=by exact dn):W trees Q (.test .neq a b t e) v:=by subst c;subst d;exact MI hc g
end
section
variable {i:Nat} {n':Int} {s:List Nat}
theorem sn (x n:Int) (g:x=n→W trees Q t v) (d:¬x=n→W trees Q e v) (j:v.n.getD i 0=x:=by rfl) (c:n'=n:=by rfl):W trees Q (.Ay i n' t e) v:=by subst j;subst c;exact Fi Iff.rfl g d
theorem Cq (x n:Int) (d:W trees Q t v) (hc:x=n:=by exact kn) (g:v.n.getD i 0=x:=by rfl) (c:n'=n:=by rfl):W trees Q (.Ay i n' t e) v:=by subst g;subst c;exact Du hc d
theorem snN (x n:Int) (d:W trees Q e v) (hc:¬x=n:=by exact kn) (g:v.n.getD i 0=x:=by rfl) (c:n'=n:=by rfl):W trees Q (.Ay i n' t e) v:=by subst g;subst c;exact MI hc d
theorem ss (x:List Nat) (d:x=s→W trees Q t v) (g:¬x=s→W trees Q e v) (c:v.s.getD i []=x:=by rfl):W trees Q (.sets i s t e) v:=by subst c;exact Fi Iff.rfl d g
theorem Xu (x:List Nat) (c:W trees Q t v) (hc:x=s:=by first|rfl|assumption) (d:v.s.getD i []=x:=by rfl):W trees Q (.sets i s t e) v:=by subst d;exact Du hc c
theorem ssN (x:List Nat) (d:W trees Q e v) (hc:¬x=s:=by first|decide|assumption) (c:v.s.getD i []=x:=by rfl):W trees Q (.sets i s t e) v:=by subst c;exact MI hc d
variable {p q:Aa}
theorem se (x y:List Nat) (g:x=y→W trees Q t v) (c:¬x=y→W trees Q e v) (j:B4 v.e p=x:=by rfl) (d:B4 v.e q=y:=by rfl):W trees Q (.Fe p q t e) v:=by subst j;subst d;exact Fi Iff.rfl g c
theorem seY (x y:List Nat) (d:W trees Q t v) (hc:x=y:=by first|rfl|assumption) (g:B4 v.e p=x:=by rfl) (c:B4 v.e q=y:=by rfl):W trees Q (.Fe p q t e) v:=by subst g;subst c;exact Du hc d
theorem seN (x y:List Nat) (c:W trees Q e v) (hc:¬x=y:=by first|decide|assumption) (g:B4 v.e p=x:=by rfl) (d:B4 v.e q=y:=by rfl):W trees Q (.Fe p q t e) v:=by subst g;subst d;exact MI hc c
end
theorem el {l:Nat} {j:ST} {sh:List CK} {c:List PV} {w:Ah} {j':Int} (u:(v.l.getD l [])[j'.toNat]?=some c) (o:W trees Q k (v.app (w.fit (HR sh)))) (q:j.den v.e=j':=by exact dn) (g:0≤j':=by exact kn) (d:Da sh c=some w:=by rfl):W trees Q (.elem l j sh k) v:=by
 show WR _ _ _ _
 unfold WR
 rw [q,u]
 simp only [d]
 exact ⟨g,o⟩
theorem ll {l:Nat} {t:ST} (x:Int) (L:List (List PV)) (c:W trees Q k v) (d:t.den v.e=x:=by exact dn) (hl:v.l.getD l []=L:=by rfl) (h:x=(L.length:Int):=by first|rfl|exact kn):W trees Q (.Ad l t k) v:=by subst d;subst hl;exact Du h c
theorem sl {s d c:Nat} (S:List Nat) (g:W trees Q k (v.app {n:=[(S.length:Int)]})) (hs:v.s.getD s []=S:=by rfl) (h:d≤S.length∧S.length≤c:=by first|omega|(simp;done)):W trees Q (.BA s d c k) v:=by subst hs;exact Du h g
theorem ca {x y:Aa} (X Y:List Nat) (g:W trees Q k (v.app {s:=[X++Y]})) (c:B4 v.e x=X:=by rfl) (d:B4 v.e y=Y:=by rfl) (h:X.length+Y.length≤1048576:=by first|omega|(simp only [lA,lC,lN];omega) |(simp;done)):W trees Q (.cat x y k) v:=by subst c;subst d;exact Du h g
theorem bu {t:ST} {n:Nat} (x:Int) (c:W trees Q k (v.app {n:=[x+n]})) (d:t.den v.e=x:=by exact dn) (h:x+n≤1048576:=by omega):W trees Q (.bump t n k) v:=by subst d;exact Du h c
theorem de {c:List AQ} {sh:List CK} (l:List (List PV)) (d:W trees Q k (v.app {n:=[(l.length:Int)],l:=[l]})) (h:CH v.e sh c=some l:=by first|rfl|repeat (first|refine FL ?_|refine BG ?_ ?_|refine ZO ?_ ?_ ?_|refine Aeg ?_|refine ZJ ?_ ?_|refine WX ?_ ?_|exact AcX dn|rfl)):W trees Q (.Az c sh k) v:=by
 show J1 _ _
 rw [h];exact d
theorem dL {c:List AQ} {sh:List CK} (l0:List (List PV)) (d:∀l,l=l0→W trees Q k (v.app {n:=[(l.length:Int)],l:=[l]})) (h:CH v.e sh c=some l0:=by first|rfl|repeat (first|refine FL ?_|refine BG ?_ ?_|refine ZO ?_ ?_ ?_|refine Aeg ?_|refine ZJ ?_ ?_|refine WX ?_ ?_|exact AcX dn|rfl)):W trees Q (.Az c sh k) v:=de l0 (d l0 rfl) h
theorem fr {z:Nat×Nat×Nat×Nat×Nat} (c:W trees Q k v):W trees Q (.BI z k) v:=c
theorem md {c:List (Aa×List Aa)} {sh:List CK} (l:List (List Nat×List PV)) (d:W trees Q k (v.app {m:=[l]})) (h:CP v.e sh c=some l:=by rfl):W trees Q (.LA c sh k) v:=by
 show J1 _ _
 rw [h];exact d
theorem up {m:Nat} {key:Aa} {cs:List Aa} {sh:List CK} (c:List PV) (d:W trees Q k (v.app {m:=[Bn (v.m.getD m []) (B4 v.e key) c]})) (h:CC v.e sh cs=some c:=by first|rfl|repeat (first|refine WX ?_ ?_|exact AcX dn|rfl)):W trees Q (.up m key cs sh k) v:=by
 show J1 _ _
 rw [h];exact d
theorem lh {m:Nat} {key:Aa} {sh:List CK} {c:List PV} {w:Ah} (j:BO (v.m.getD m []) (B4 v.e key)=some c) (g:W trees Q t (v.app (w.fit (HR sh)))) (d:Da sh c=some w:=by rfl):W trees Q (.look m key sh t e) v:=by
 show OQ _ _ _ _ _
 unfold OQ
 rw [j]
 simp only [d]
 exact g
theorem lm {m:Nat} {key:Aa} {sh:List CK} (d:BO (v.m.getD m []) (B4 v.e key)=none) (c:W trees Q e v):W trees Q (.look m key sh t e) v:=by
 show OQ _ _ _ _ _
 unfold OQ
 rw [d]
 exact c
section
variable {c alt alt':Nat} {τ:De} {u:C5} {v' w:Ah}
theorem ch (g:∀Q:Out→Prop,Q (alt,w)→Eg trees c v' Q) (d:W trees Q k (v.app (w.fit u))) (j:τ.vals v.e=v':=by exact vn):W trees Q (.call c alt τ u k e) v:=by
 show Eg trees c (τ.vals v.e) _
 rw [j]
 exact g _ (by simp only [if_true];exact d)
theorem cm (g:∀Q:Out→Prop,Q (alt',w)→Eg trees c v' Q) (o:W trees Q e v) (d:alt'≠alt:=by decide) (j:τ.vals v.e=v':=by exact vn):W trees Q (.call c alt τ u k e) v:=by
 show Eg trees c (τ.vals v.e) _
 rw [j]
 exact g _ (by rw [if_neg d];exact o)
theorem Aj {d:List Nat} (w:Ah) (h:Q (alt,w)) (c:τ.vals v.e=w:=by exact vn):W trees Q (.leaf alt d τ) v:=by
 show Q _
 rw [c];exact h
end
end
def EN (c:List Int):Tree→Option (Nat×List Int)
 |.leaf a _ ⟨ts,[],[],[]⟩=>some (a,ts.map fun t=>t.den (Ah.e ⟨c,[],[],[]⟩))
 |.Ay i n t e=>if c.getD i 0=n then EN c t else EN c e
 |.test .lss a b t e=>if a.den (Ah.e ⟨c,[],[],[]⟩)<b.den (Ah.e ⟨c,[],[],[]⟩)then EN c t else EN c e
 |.test .eql a b t e=>if a.den (Ah.e ⟨c,[],[],[]⟩)=b.den (Ah.e ⟨c,[],[],[]⟩)then EN c t else EN c e
 |.test .neq a b t e=>if a.den (Ah.e ⟨c,[],[],[]⟩)≠b.den (Ah.e ⟨c,[],[],[]⟩)then EN c t else EN c e
 |_=>none
theorem Ec {trees:Nat→Tree} {Q:Out→Prop} {c:List Int} {a:Nat} {ms:List Int}:∀(t:Tree),EN c t=some (a,ms)→Q (a,⟨ms,[],[],[]⟩)→W trees Q t ⟨c,[],[],[]⟩
 |.leaf b nw ⟨ts,[],[],[]⟩,h,hq=>by
  simp only [EN,oI,Prod.mk.injEq]at h
  obtain ⟨d,g⟩:=h
  subst d;subst g;exact hq
 |.Ay i n t e,h,hq=>by
  simp only [EN]at h
  refine sn (c.getD i 0) n (fun k=>?_) fun k=>?_
  ·rw [if_pos k]at h;exact Ec t h hq
  ·rw [if_neg k]at h;exact Ec e h hq
 |.test .lss a b t e,h,hq=>by
  simp only [EN]at h
  refine lt (a.den (Ah.e ⟨c,[],[],[]⟩)) (b.den (Ah.e ⟨c,[],[],[]⟩)) (fun k=>?_) (fun k=>?_) rfl rfl
  ·rw [if_pos k]at h;exact Ec t h hq
  ·rw [if_neg k]at h;exact Ec e h hq
 |.test .eql a b t e,h,hq=>by
  simp only [EN]at h
  refine eq (a.den (Ah.e ⟨c,[],[],[]⟩)) (b.den (Ah.e ⟨c,[],[],[]⟩)) (fun k=>?_) (fun k=>?_) rfl rfl
  ·rw [if_pos k]at h;exact Ec t h hq
  ·rw [if_neg k]at h;exact Ec e h hq
 |.test .neq a b t e,h,hq=>by
  simp only [EN]at h
  refine ne (a.den (Ah.e ⟨c,[],[],[]⟩)) (b.den (Ah.e ⟨c,[],[],[]⟩)) (fun k=>?_) (fun k=>?_) rfl rfl
  ·rw [if_pos k]at h;exact Ec t h hq
  ·rw [if_neg k]at h;exact Ec e h hq
theorem Ok.num {trees:Nat→Tree} {c:Nat} {d:List Int} {R:Out→Prop} {t:Tree} {a:Nat} {ms:List Int} (j:trees c=t) (h:EN d t=some (a,ms)) (g:R (a,⟨ms,[],[],[]⟩)):Ok trees c ⟨d,[],[],[]⟩ R:=.of j (Ec t h g)
end Go.AM
end
section
namespace Go.AM.K
abbrev Rs:=List (List PV)
abbrev Mp:=List (List Nat×List PV)
abbrev v0:Ah:=⟨[],[],[],[]⟩
abbrev Row:=List PV
inductive E where
 |node (k o t v:Int) (s:List Nat) (a:List E)
mutual
def E.enc:E→Row
 |.node k o t v s a=>[.int .i64 k,.int .i64 o,.int .i64 t,.str s,.int .i32 v,.list 6 (E.Ac a)]
def E.Ac:List E→List Row
 |[]=>[]
 |e::l=>e.enc::E.Ac l
end
mutual
def E.nodes:E→Nat
 |.node k _ _ _ _ a=>(if k=0 then 0 else 1)+E.Ag a
def E.Ag:List E→Nat
 |[]=>0
 |e::l=>e.nodes+E.Ag l
end
mutual
def E.high:E→Nat
 |.node _ _ _ _ _ a=>1+E.BY a
def E.BY:List E→Nat
 |[]=>0
 |e::l=>max e.high (E.BY l)
end
def E0:E:=.node 0 0 0 0 [] []
theorem E.A7:∀l,(E.Ac l).length=l.length
 |[]=>rfl
 |_::l=>by simp only [E.Ac,lC,E.A7 l]
theorem E.HO:∀(l:List E) (i:Nat),(E.Ac l)[i]?=(l[i]?).map E.enc
 |[],i=>by simp [E.Ac]
 |e::l,0=>by simp [E.Ac]
 |e::l,i+1=>by simp only [E.Ac,List.getElem?_cons_succ];exact E.HO l i
theorem E.HP:∀(l m:List E),E.Ac (l++m)=E.Ac l++E.Ac m
 |[],m=>rfl
 |e::l,m=>by simp only [List.cons_append,E.Ac,E.HP l m]
theorem E.get (a:List E) (j:Int) (d:0≤j) (c:j<((E.Ac a).length:Int)):∃(k o t v:Int) (s:List Nat) (b:List E),(E.Ac a)[j.toNat]?=some [.int .i64 k,.int .i64 o,.int .i64 t,.str s,.int .i32 v,.list 6 (E.Ac b)]∧a[j.toNat]?=some (.node k o t v s b):=by
 rw [E.A7]at c
 have h:j.toNat<a.length:=by omega
 rcases he:a[j.toNat]with ⟨k,o,t,v,s,b⟩
 exact ⟨k,o,t,v,s,b,by rw [E.HO,List.getElem?_eq_getElem h,he];rfl,by rw [List.getElem?_eq_getElem h,he]⟩
theorem E.Kw:∀{l:List E} {i:Nat} {e:E},l[i]?=some e→e.nodes+E.Ag (l.drop (i+1))=E.Ag (l.drop i)
 |[],i,e,h=>by simp at h
 |x::l,0,e,h=>by simp at h;subst h;simp [E.Ag]
 |x::l,i+1,e,h=>by
  simp only [List.getElem?_cons_succ]at h
  simpa using E.Kw h
theorem E.MJ:∀{l:List E} {i:Nat} {e:E},l[i]?=some e→e.high≤E.BY l
 |[],i,e,h=>by simp at h
 |x::l,0,e,h=>by simp at h;subst h;simp only [E.BY];omega
 |x::l,i+1,e,h=>by
  simp only [List.getElem?_cons_succ]at h
  have:=E.MJ h
  simp only [E.BY];omega
abbrev Ctx:=List Nat→Option (Int×Int×Int)
def Ctx.GM (Γ:Ctx) (s:List Nat) (x:Int×Int×Int):Ctx:=fun n=>if n=s then some x else Γ n
theorem CM {Γ:Ctx} {s x}:Γ.GM s x s=some x:=if_pos rfl
theorem BV {Γ:Ctx} {s x n} (h:n≠s):Γ.GM s x n=Γ n:=if_neg h
def vn (i:Nat):List Nat:=if i<10 then [118,48+i]else [118,49+(i-10)/10,48+i%10]
def names:List (List Nat):=[[107],[97],[102],[115],[112],[98],[110],[116],[99],[104],[120],[121],[113,113,57],[113,113,56]]++(List.range 24).map vn
def Nm (s:List Nat):Prop:=s∈names
instance {s:List Nat}:Decidable (Nm s):=by unfold Nm;infer_instance
theorem Nm.len {s:List Nat} (h:Nm s):s.length≤3:=by
 have:∀s∈names,s.length≤3:=by decide
 exact this s h
theorem Nm.vn {i:Nat} (h:i<24):Nm (vn i):=by
 have:∀i,i<24→K.vn i∈names:=by decide
 exact this i h
theorem AdR {i j:Nat} (c:i<24) (d:j<24) (h:vn i=vn j):i=j:=by
 have:∀i,i<24→∀j,j<24→vn i=vn j→i=j:=by decide
 exact this i c j d h
def UnT (o t u:Int):Prop:=((o=1∨o=3)∧(t=1∨t=2)∧u=t)∨(o=2∧(t=1∨t=3)∧u=t)∨(o=4∧t=1∧u=2)∨(o=5∧t=2∧u=1)
def LD (o t u:Int):Prop:=((o=10∨o=11∨o=22∨o=23)∧(t=1∨t=2)∧u=t)∨((o=12∨o=13∨o=14∨o=20∨o=21)∧t=1∧u=1)∨((o=15∨o=16)∧t=2∧u=2)
 ∨((o=17∨o=18∨o=19)∧(t=1∨t=3)∧u=t)∨((o=24∨o=25)∧1≤t∧t≤3∧u=3)∨((o=26∨o=27∨o=28∨o=29)∧(t=1∨t=2)∧u=3)
instance {o t u}:Decidable (UnT o t u):=by unfold UnT;infer_instance
instance {o t u}:Decidable (LD o t u):=by unfold LD;infer_instance
def Fx (v:Int):Prop:=∃x:Nat,x<256∧v=x*16384-100000
theorem Fx.mk {x v:Int} (d:0≤x) (c:x≤255) (h:v=x*16384-100000):Fx v:=⟨x.toNat,by omega,by omega⟩
inductive T (Γ:Ctx):Int→E→Prop
 |num {t v:Int}:1≤t→t≤3→(t=3→v=0∨v=1)→(t=2→Fx v)→-200000≤v∧v≤5000000→T Γ t (.node 1 0 t v [] [])
 |id {o:Int}:1≤o→o≤7→T Γ 1 (.node 3 o 0 0 [] [])
 |var {s:List Nat} {k t i:Int}:Nm s→(k=2∨k=3)→1≤t→t≤3→Γ s=some (k,t,i)→T Γ t (.node 2 0 0 0 s [])
 |un {o t u:Int} {a:E}:UnT o t u→T Γ t a→T Γ u (.node 4 o 0 0 [] [a])
 |bin {o t u:Int} {a b:E}:LD o t u→T Γ t a→T Γ t b→T Γ u (.node 5 o 0 0 [] [a,b])
 |cond {t:Int} {a b c:E}:T Γ 3 a→T Γ t b→T Γ t c→T Γ t (.node 6 0 0 0 [] [a,b,c])
 |load {s:List Nat} {t i:Int} {a:E}:Nm s→1≤t→t≤3→Γ s=some (0,t,i)→T Γ 1 a→T Γ t (.node 7 0 0 0 s [a])
 |call {i:Int} {a b:E}:Γ [104]=some (1,1,i)→T Γ 1 a→T Γ 1 b→T Γ 1 (.node 8 0 0 0 [104] [a,b])
def F (d:Int):Nat:=if d≤1 then 1 else if d=2 then 4 else 13
theorem AdP (d:Int):1≤F d:=by
 unfold F
 repeat' split
 all_goals omega
theorem NJ {d:Int} (g:¬d≤1) (c:d≤3):1+3*F (d-1)≤F d:=by
 have:d=2∨d=3:=by omega
 rcases this with h|h<;>subst h<;>decide
def Dd (Γ:Ctx) (t d k o ty v:Int) (s:List Nat) (A:List Row):Prop:=
 ∃a:List E,A=E.Ac a∧T Γ t (.node k o ty v s a)∧(E.node k o ty v s a).nodes≤F d∧((E.node k o ty v s a).high:Int)≤2*max d 1-1
section
variable {Γ:Ctx}
theorem Dd.leaf {t d k o ty v:Int} {s:List Nat} (h:T Γ t (.node k o ty v s [])):Dd Γ t d k o ty v s []:=by
 refine ⟨[],rfl,h,?_,?_⟩
 ·have:=AdP d
  simp only [E.nodes,E.Ag];split<;>omega
 ·simp only [E.high,E.BY];omega
theorem Dd.num {t d v:Int} (c:1≤t) (j:t≤3) (g:t=3→v=0∨v=1) (hf:t=2→Fx v) (hb: -200000≤v∧v≤5000000):Dd Γ t d 1 0 t v [] []:=.leaf (.num c j g hf hb)
theorem Dd.id {d o:Int} (c:1≤o) (g:o≤7):Dd Γ 1 d 3 o 0 0 [] []:=.leaf (.id c g)
theorem Dd.var {t d k i:Int} {s:List Nat} (c:Nm s) (o:k=2∨k=3) (g:1≤t) (j:t≤3) (h:Γ s=some (k,t,i)):Dd Γ t d 2 0 0 0 s []:=.leaf (.var c o g j h)
theorem Dd.mono {t d c k o ty v:Int} {s:List Nat} {A:List Row} (h:Dd Γ t d k o ty v s A) (hd:d≤max c 1):Dd Γ t c k o ty v s A:=by
 obtain ⟨a,g,j,q,u⟩:=h
 refine ⟨a,g,j,?_,by omega⟩
 have:F d≤F c:=by
  unfold F
  repeat' split
  all_goals omega
 omega
def GV (k o ty v:Int) (s:List Nat) (A:List Row):Row:=[.int .i64 k,.int .i64 o,.int .i64 ty,.str s,.int .i32 v,.list 6 A]
theorem E3 {k o ty v:Int} {s:List Nat} {A:List Row} {a:List E} (h:A=E.Ac a):GV k o ty v s A=(E.node k o ty v s a).enc:=by subst h;rfl
theorem Dd.un {d t u o c g k j:Int} {q:List Nat} {v:List Row} (h:Dd Γ t (d-1) c g k j q v) (x:UnT o t u) (A:¬d≤1) (C:d≤3):Dd Γ u d 4 o 0 0 [] [GV c g k j q v]:=by
 obtain ⟨a,y,z,H,J⟩:=h
 refine ⟨[.node c g k j q a],by simp only [E.Ac,E3 y],.un x z,?_,?_⟩
 ·have:=NJ A C
  have D:¬(4:Int)=0:=by decide
  rw [E.nodes,if_neg D]
  simp only [E.Ag]at*;omega
 ·rw [E.high];simp only [E.BY]at*;omega
theorem Dd.bin {d t u o c j y k z q x v:Int} {C A:List Nat} {D H:List Row} (h:Dd Γ t (d-1) c j y k C D) (g:Dd Γ t (d-1) z q x v A H) (J:LD o t u) (P:¬d≤1) (R:d≤3):
  Dd Γ u d 5 o 0 0 [] [GV c j y k C D,GV z q x v A H]:=by
 obtain ⟨a,M,N,Z,hh⟩:=h
 obtain ⟨b,Q,O,gn,gh⟩:=g
 refine ⟨[.node c j y k C a,.node z q x v A b],by simp only [E.Ac,E3 M,E3 Q],.bin J N O,?_,?_⟩
 ·have:=NJ P R
  have U:¬(5:Int)=0:=by decide
  rw [E.nodes,if_neg U]
  simp only [E.Ag]at*;omega
 ·rw [E.high];simp only [E.BY]at*;omega
theorem Dd.call {d i j c v k x o u q:Int} {z y:List Nat} {A C:List Row} (N:¬d≤1) (P:d≤3) (D:Γ [104]=some (1,1,i)) (h:Dd Γ 1 (d-1) j c v k z A) (g:Dd Γ 1 (d-1) x o u q y C):
  Dd Γ 1 d 8 0 0 0 [104] [GV j c v k z A,GV x o u q y C]:=by
 obtain ⟨a,H,J,U,hh⟩:=h
 obtain ⟨b,O,M,R,Z⟩:=g
 refine ⟨[.node j c v k z a,.node x o u q y b],by simp only [E.Ac,E3 H,E3 O],.call D J M,?_,?_⟩
 ·have:=NJ N P
  have Q:¬(8:Int)=0:=by decide
  rw [E.nodes,if_neg Q]
  simp only [E.Ag]at*;omega
 ·rw [E.high];simp only [E.BY]at*;omega
theorem Dd.cond {d t k y D q H u C A v o j z:Int} {M x J:List Nat} {N O P:List Row} (h1:¬d≤1) (Z:d≤3) (h:Dd Γ 3 (d-1) k y D q M N) (g:Dd Γ t (d-1) H u C A x O) (f:Dd Γ t (d-1) v o j z J P):
  Dd Γ t d 6 0 0 0 [] [GV k y D q M N,GV H u C A x O,GV v o j z J P]:=by
 obtain ⟨a,Q,R,hn,hh⟩:=h
 obtain ⟨b,U,gT,gn,gh⟩:=g
 obtain ⟨c,fA,fT,fn,fh⟩:=f
 refine ⟨[.node k y D q M a,.node H u C A x b,.node v o j z J c],by simp only [E.Ac,E3 Q,E3 U,E3 fA],.cond R gT fT,?_,?_⟩
 ·have:=NJ h1 Z
  have e4:¬(6:Int)=0:=by decide
  rw [E.nodes,if_neg e4]
  simp only [E.Ag]at*;omega
 ·rw [E.high];simp only [E.BY]at*;omega
def Idx (Γ:Ctx) (d:Int) (A:List Row):Prop:=
 ∃a:List E,A=E.Ac a∧T Γ 1 (.node 5 17 0 0 [] a)∧(E.node 5 17 0 0 [] a).nodes≤2+F (d-1)∧((E.node 5 17 0 0 [] a).high:Int)≤2*max (d-1) 1
theorem Idx.mk {d n g c j k:Int} {o:List Nat} {q:List Row} (h:Dd Γ 1 (d-1) g c j k o q) (hb: -200000≤n∧n≤5000000):Idx Γ d [GV g c j k o q,GV 1 0 1 n [] []]:=by
 obtain ⟨a,u,x,y,z⟩:=h
 refine ⟨[.node g c j k o a,.node 1 0 1 n [] []],by simp only [E.Ac,E3 u];rfl,.bin (by decide) x (.num (by decide) (by decide) (fun h=>absurd h (by decide)) (fun h=>absurd h (by decide)) hb),?_,?_⟩
 ·have v:¬(5:Int)=0:=by decide
  rw [E.nodes,if_neg v]
  have:(E.node 1 0 1 n [] []).nodes=1:=rfl
  simp only [E.Ag,this]at*;omega
 ·have:(E.node 1 0 1 n [] []).high=1:=rfl
  rw [E.high];simp only [E.BY,this]at*;omega
theorem Dd.load {d t i:Int} {s:List Nat} {g:List Row} (k:¬d≤1) (o:d≤3) (hs:Nm s) (c:1≤t) (j:t≤3) (x:Γ s=some (0,t,i)) (h:Idx Γ d g):Dd Γ t d 7 0 0 0 s [GV 5 17 0 0 [] g]:=by
 obtain ⟨a,q,v,y,z⟩:=h
 refine ⟨[.node 5 17 0 0 [] a],by simp only [E.Ac,E3 q],.load hs c j x v,?_,?_⟩
 ·have:=NJ k o
  have:=AdP (d-1)
  have u:¬(7:Int)=0:=by decide
  rw [E.nodes,if_neg u]
  simp only [E.Ag]at*;omega
 ·rw [E.high];simp only [E.BY]at*;omega
end
def Px (Γ:Ctx) (t:Int) (s:List Nat):Prop:=∃k:Int,Γ s=some (k,t,0)∧(k=2∨k=3)∧Nm s
def AlP (Γ:Ctx) (f c:Int) (V:List Row):Prop:=∀j:Int,0≤j→j<c→∃(nm:List Nat) (t:Int),V[j.toNat]?=some [.str nm,.int .i64 t]∧Px Γ t nm∧(f≤j→Γ nm=some (3,t,0))∧1≤t∧t≤3
def HX (Γ:Ctx) (t:Int) (L:List Row):Prop:=∀j:Int,0≤j→j<(L.length:Int)→∃nm:List Nat,L[j.toNat]?=some [.str nm]∧Px Γ t nm
theorem HX.one {Γ:Ctx} {t:Int} {s:List Nat} (h:Px Γ t s):HX Γ t [[.str s]]:=fun j d c=>by
 simp only [lC,lN]at c
 have:j=0:=by omega
 subst this;exact ⟨s,rfl,h⟩
theorem HX.snoc {Γ:Ctx} {t:Int} {L:List Row} {s:List Nat} (g:HX Γ t L) (h:Px Γ t s):HX Γ t (L++[[.str s]]):=fun j d c=>by
 simp only [lA,lC,lN]at c
 by_cases hj:j<(L.length:Int)
 ·obtain ⟨nm,g1,g2⟩:=g j d hj
  exact ⟨nm,by rw [List.getElem?_append_left (by omega)];exact g1,g2⟩
 ·have:j.toNat=L.length:=by omega
  exact ⟨s,by rw [this];simp,h⟩
structure Jq (Γ:Ctx) (call:Int):Prop where
 a:Γ [97]=some (0,1,0)
 f:Γ [102]=some (0,2,1)
 s:Γ [115]=some (0,1,2)
 p:Γ [112]=some (0,1,3)
 b:Γ [98]=some (0,3,4)
 h:call=1→∃i,Γ [104]=some (1,1,i)
def G (d:Int):Int:=if d≤1 then 3 else if d=2 then 12 else 40
theorem GU (d:Int):3≤G d∧G d≤40:=by
 unfold G
 repeat' split
 all_goals omega
theorem KK (d:Int) (c:d≤3):d≤1∨1+3*G (d-1)≤G d:=by
 have:d≤1∨d=2∨d=3:=by omega
 rcases this with h|h|h
 ·exact .inl h
 ·subst h;exact .inr (by decide)
 ·subst h;exact .inr (by decide)
def Tg (Γ:Ctx) (d:Int) (A:List Row):Prop:=∃I,A=[GV 5 17 0 0 [] I]∧Idx Γ d I
section
variable {Γ:Ctx}
theorem Dd.cast {t t' d k o ty v:Int} {s:List Nat} {A:List Row} (h:Dd Γ t d k o ty v s A) (e:t'=t):Dd Γ t' d k o ty v s A:=by subst e;exact h
theorem Dd.var' {t d:Int} {s:List Nat} (h:Px Γ t s) (c:1≤t) (g:t≤3):Dd Γ t d 2 0 0 0 s []:=by
 obtain ⟨k,g1,g2,g3⟩:=h
 exact .var g3 g2 c g g1
theorem Tg.mk {d:Int} {I:List Row} (h:Idx Γ d I):Tg Γ d [GV 5 17 0 0 [] I]:=⟨I,rfl,h⟩
theorem Dd.AhW {d t i:Int} {s:List Nat} {A:List Row} (k:Γ s=some (0,t,i)) (h:Tg Γ d A) (hs:Nm s) (g:¬d≤1) (j:d≤3) (c:1≤t∧t≤3):Dd Γ t d 7 0 0 0 s A:=by
 obtain ⟨I,rfl,h⟩:=h
 exact .load g j hs c.1 c.2 k h
theorem Dd.call' {d j x A o C q z y:Int} {D v:List Nat} {k u:List Row} (J:¬d≤1) (H:d≤3) (c:∃i,Γ [104]=some (1,1,i)) (h:Dd Γ 1 (d-1) j x A o D k) (g:Dd Γ 1 (d-1) C q z y v u):
  Dd Γ 1 d 8 0 0 0 [104] [GV j x A o D k,GV C q z y v u]:=by
 obtain ⟨i,c⟩:=c
 exact .call J H c h g
end
theorem Pr {B:List (List PV)} (h:Dz B) (i:Int) (j:0≤i) (c:i<B.length):∃n:Int,B[i.toNat]?=some [.int .u8 n]∧0≤n∧n≤255:=by
 obtain ⟨n,d,g,k⟩:=AaO h i j c
 exact ⟨n,k,d,g⟩
structure NN (Γ:Ctx) (f bl vl count left call loads:Int) (B V:List Row):Prop where
 hB:Dz B
 hl:bl=B.length
 hvl:vl≤V.length
 Hi:0≤vl∧vl≤30
 hV:AlP Γ f vl V
 hb:Jq Γ call
 hc:call=0∨call=1
 hd:loads=0∨loads=1
theorem Ain {p:Prop} (h:p:=by
  first
  |assumption
  |(apply Dd.mono;assumption;omega)
  |(apply Dd.cast;assumption;omega)
  |(refine Dd.num ?_ ?_ ?_ ?_ ?_<;>first|omega|(intro h;exfalso;omega) |(intro _;refine Fx.mk (x:=_) ?_ ?_ rfl<;>omega))
  |(refine Dd.id ?_ ?_<;>omega)
  |(refine Dd.var' ?_ ?_ ?_<;>first|assumption|omega)
  |(apply Dd.un;assumption;all_goals first|omega|decide|(unfold UnT;omega))
  |(apply Dd.bin;assumption;assumption;all_goals first|omega|decide|(unfold LD;omega))
  |(refine Dd.cond ?_ ?_ ?_ ?_ ?_<;>first|assumption|omega)
  |(refine Dd.call' ?_ ?_ ?_ ?_ ?_<;>first|assumption|omega|(refine Jq.h (by assumption) ?_;omega))
  |(apply Dd.AhW;(first|exact Jq.a (by assumption) |exact Jq.f (by assumption) |exact Jq.s (by assumption) |exact Jq.p (by assumption) |exact Jq.b (by assumption));assumption;decide;all_goals first|omega|decide)
  |(refine Idx.mk ?_ ?_;assumption;omega)
  |(refine Tg.mk ?_;assumption)
  |(refine HX.one ?_;first|assumption|(subst_vars;assumption))
  |(refine HX.snoc ?_ ?_<;>first|assumption|(subst_vars;assumption))
  |rfl
  |exact kn):p:=h
theorem fin {p:Prop} (h:p:=by first|exact Ain|(subst_vars;exact Ain)):p:=h
end Go.AM.K
end
section
namespace Go.AM.K
inductive S where
 |node (k o t b:Int) (nm:List Nat) (x y:E) (body els:List S)
mutual
def S.enc:S→Row
 |.node k o t b nm x y bo el=>.int .i64 k::.int .i64 o::.int .i64 t::.int .i64 b::.str nm::(x.enc++(y.enc++[.list 19 (S.Ac bo),.list 19 (S.Ac el)]))
def S.Ac:List S→List Row
 |[]=>[]
 |e::l=>e.enc::S.Ac l
end
mutual
def S.nodes:S→Nat
 |.node _ _ _ _ _ x y bo el=>1+x.nodes+y.nodes+S.Ag bo+S.Ag el
def S.Ag:List S→Nat
 |[]=>0
 |e::l=>e.nodes+S.Ag l
end
mutual
def S.deep:S→Nat
 |.node _ _ _ _ _ _ _ bo el=>1+max (S.A4 bo) (S.A4 el)
def S.A4:List S→Nat
 |[]=>0
 |e::l=>max e.deep (S.A4 l)
end
theorem S.A7:∀l,(S.Ac l).length=l.length
 |[]=>rfl
 |_::l=>by simp only [S.Ac,lC,S.A7 l]
theorem S.HO:∀(l:List S) (i:Nat),(S.Ac l)[i]?=(l[i]?).map S.enc
 |[],i=>by simp [S.Ac]
 |e::l,0=>by simp [S.Ac]
 |e::l,i+1=>by simp only [S.Ac,List.getElem?_cons_succ];exact S.HO l i
theorem S.HP:∀(l m:List S),S.Ac (l++m)=S.Ac l++S.Ac m
 |[],m=>rfl
 |e::l,m=>by simp only [List.cons_append,S.Ac,S.HP l m]
theorem S.IS:∀(l m:List S),S.Ag (l++m)=S.Ag l+S.Ag m
 |[],m=>by simp [S.Ag]
 |e::l,m=>by simp only [List.cons_append,S.Ag,S.IS l m];omega
theorem S.KH:∀(l m:List S),S.A4 (l++m)=max (S.A4 l) (S.A4 m)
 |[],m=>by simp [S.A4]
 |e::l,m=>by simp only [List.cons_append,S.A4,S.KH l m];omega
def Vn (n:List Nat):Prop:=∃i:Nat,i<24∧n=vn i
theorem Vn.nm {n:List Nat} (h:Vn n):Nm n:=by obtain ⟨i,c,rfl⟩:=h;exact Nm.vn c
mutual
inductive DP:Int→Int→Ctx→S→Ctx→Prop
 |var {lo pu Γ n t x}:Vn n→Γ n=none→1≤t→t≤3→T Γ t x→x.high≤5→DP lo pu Γ (.node 1 0 t 0 n x E0 [] []) (Γ.GM n (3,t,0))
 |set {lo pu Γ n t x i}:Nm n→Γ n=some (3,t,i)→T Γ t x→x.high≤5→DP lo pu Γ (.node 2 0 0 0 n x E0 [] []) Γ
 |store {lo Γ n t x y i}:Nm n→0≤i→i≤4→Γ n=some (0,t,i)→T Γ 1 x→T Γ t y→x.high≤5→y.high≤5→DP lo 0 Γ (.node 3 0 0 0 n x y [] []) Γ
 |atom {lo Γ n o x y i}:Nm n→i=0∨i=2→Γ n=some (0,1,i)→(o=10∨o=17∨o=18∨o=19∨o=22∨o=23)→T Γ 1 x→T Γ 1 y→x.high≤5→y.high≤5→DP lo 0 Γ (.node 4 o 0 0 n x y [] []) Γ
 |ife {lo pu Γ x bo el Γ1 Γ2}:T Γ 3 x→x.high≤5→CE lo pu Γ bo Γ1→CE lo pu Γ el Γ2→DP lo pu Γ (.node 5 0 0 0 [] x E0 bo el) Γ
 |whl {lo pu Γ x b bo Γ1}:T Γ 3 x→x.high≤5→1≤b→b≤4→CE 1 pu Γ bo Γ1→DP lo pu Γ (.node 6 0 0 b [] x E0 bo []) Γ
 |esc {lo pu Γ k}:k=7∨k=8→lo≠0→DP lo pu Γ (.node k 0 0 0 [] E0 E0 [] []) Γ
 |bar {lo Γ k}:k=9∨k=10→DP lo 0 Γ (.node k 0 0 0 [] E0 E0 [] []) Γ
 |MX {lo Γ o}:o=1∨o=2→DP lo 0 Γ (.node 11 o 0 0 [] E0 E0 [] []) Γ
 |Tq {lo Γ n o t u x i}:Nm n→Γ n=some (3,t,i)→1≤t→t≤3→((o=1∧t=1∧u=3)∨((o=2∨o=3)∧t=3∧u=3)∨((o=5∨o=6)∧t≠3∧u=t))→T Γ u x→x.high≤5→DP lo 0 Γ (.node 12 o 0 0 n x E0 [] []) Γ
 |Tp {lo Γ n t x y i}:Nm n→Γ n=some (3,t,i)→1≤t→t≤3→T Γ t x→T Γ 1 y→x.high≤5→y.high≤5→DP lo 0 Γ (.node 12 4 0 0 n x y [] []) Γ
inductive CE:Int→Int→Ctx→List S→Ctx→Prop
 |nil {lo pu Γ}:CE lo pu Γ [] Γ
 |cons {lo pu Γ s Γ1 l Γ2}:DP lo pu Γ s Γ1→CE lo pu Γ1 l Γ2→CE lo pu Γ (s::l) Γ2
end
theorem CE.snoc {lo pu:Int} {Γ d c:Ctx} {l:List S} {s:S} (h:CE lo pu Γ l d) (g:DP lo pu d s c):CE lo pu Γ (l++[s]) c:=by
 induction l generalizing Γ with
 |nil=>cases h;exact .cons g .nil
 |cons x l ih=>cases h with|cons a b=>exact .cons a (ih b)
abbrev Bh (k o t b:Int) (nm:List Nat) (q x g:Int) (d:List Nat) (v:Int) (X:List Row) (yk u j:Int) (c:List Nat) (y:Int) (Y:List Row) (B L:List Row):Row:=
 [.int .i64 k,.int .i64 o,.int .i64 t,.int .i64 b,.str nm,.int .i64 q,.int .i64 x,.int .i64 g,.str d,.int .i32 v,.list 6 X,.int .i64 yk,.int .i64 u,.int .i64 j,.str c,.int .i32 y,.list 6 Y,.list 19 B,.list 19 L]
def Ei (lo pu D:Int) (Γ Γ':Ctx) (left left':Int) (c:Row):Prop:=∃s:S,c=s.enc∧DP lo pu Γ s Γ'∧(s.nodes:Int)+40*left'≤40*left∧(s.deep:Int)≤D
def AZ (lo pu D:Int) (Γ Γ':Ctx) (left left':Int) (R:List Row):Prop:=∃l:List S,R=S.Ac l∧CE lo pu Γ l Γ'∧(S.Ag l:Int)+40*left'≤40*left∧(S.A4 l:Int)≤D
def ID (lo pu D:Int) (Γ:Ctx) (left left':Int) (R:List Row):Prop:=∃Γ',AZ lo pu D Γ Γ' left left' R
section
variable {lo pu D left left':Int} {Γ Γ':Ctx}
theorem AZ.nil (h:0≤D∧left'≤left):AZ lo pu D Γ Γ left left' []:=⟨[],rfl,.nil,by simp only [S.Ag];omega,by simp only [S.A4];omega⟩
theorem AZ.snoc {d:Ctx} {c:Int} {R:List Row} {r:Row} (h:AZ lo pu D Γ d left c R) (g:Ei lo pu D d Γ' c left' r):AZ lo pu D Γ Γ' left left' (R++[r]):=by
 obtain ⟨l,rfl,j,k,o⟩:=h
 obtain ⟨s,rfl,g1,g2,g3⟩:=g
 refine ⟨l++[s],by rw [S.HP];rfl,j.snoc g1,?_,?_⟩
 ·rw [S.IS];simp only [S.Ag];omega
 ·rw [S.KH];simp only [S.A4];omega
theorem AZ.one {r:Row} (g:Ei lo pu D Γ Γ' left left' r) (h:0≤D):AZ lo pu D Γ Γ' left left' [r]:=(AZ.nil (left':=left) ⟨h,Int.le_refl _⟩).snoc g
theorem AZ.mono {d c g:Int} {R:List Row} (h:AZ lo pu D Γ Γ' left left' R) (hd:D≤d∧left-left'≤c-g):AZ lo pu d Γ Γ' c g R:=by
 obtain ⟨l,k,j,o,q⟩:=h
 exact ⟨l,k,j,by omega,by omega⟩
theorem ID.mk {R:List Row} (h:AZ lo pu D Γ Γ' left left' R):ID lo pu D Γ left left' R:=⟨_,h⟩
theorem ID.nil (h:0≤D∧left'≤left):ID lo pu D Γ left left' []:=⟨_,AZ.nil h⟩
theorem JR {Γ:Ctx} {t d k o ty v:Int} {s:List Nat} {A:List Row} (h:Dd Γ t d k o ty v s A) (hd:d≤3):∃x:E,GV k o ty v s A=x.enc∧T Γ t x∧x.nodes≤13∧x.high≤5:=by
 obtain ⟨a,rfl,c,g,j⟩:=h
 refine ⟨_,rfl,c,?_,by omega⟩
 have:F d≤13:=by
  unfold F
  repeat' split
  all_goals omega
 omega
theorem Ad0 {Γ:Ctx} {A:List Row} (h:Idx Γ 3 A):∃x:E,GV 5 17 0 0 [] A=x.enc∧T Γ 1 x∧x.nodes≤6∧x.high≤4:=by
 obtain ⟨a,rfl,c,d,g⟩:=h
 refine ⟨_,rfl,c,?_,by omega⟩
 have:F (3-1)=4:=by decide
 omega
theorem Fu:E0.nodes=0:=rfl
section
variable {k o t v k2 o2 t2 v2:Int} {s s2 n:List Nat} {A A2:List Row} {u d d2:Int}
theorem Ei.var (h:Dd Γ u d k o t v s A) (g:Vn n) (y:Γ n=none) (c:d≤3∧1≤u∧u≤3∧1≤D∧left'+1≤left):Ei lo pu D Γ (Γ.GM n (3,u,0)) left left' (Bh 1 0 u 0 n k o t s v A 0 0 0 [] 0 [] [] []):=by
 obtain ⟨x,e,q,z,j⟩:=JR h c.1
 refine ⟨.node 1 0 u 0 n x E0 [] [],?_,.var g y c.2.1 c.2.2.1 q j,?_,?_⟩
 ·rw [S.enc,←e];rfl
 ·simp only [S.nodes,S.Ag,Fu];omega
 ·simp only [S.deep,S.A4];omega
theorem Ei.set {i:Int} (h:Dd Γ u d k o t v s A) (c:Nm n) (y:Γ n=some (3,u,i)) (j:d≤3∧1≤D∧left'+1≤left):Ei lo pu D Γ Γ left left' (Bh 2 0 0 0 n k o t s v A 0 0 0 [] 0 [] [] []):=by
 obtain ⟨x,e,q,z,g⟩:=JR h j.1
 refine ⟨.node 2 0 0 0 n x E0 [] [],?_,.set c y q g,?_,?_⟩
 ·rw [S.enc,←e];rfl
 ·simp only [S.nodes,S.Ag,Fu];omega
 ·simp only [S.deep,S.A4];omega
theorem Ei.store {i:Int} (h:Idx Γ 3 A) (g:Dd Γ u d k2 o2 t2 v2 s2 A2) (j:Nm n) (H:Γ n=some (0,u,i)) (v:pu=0) (c:0≤i∧i≤4) (z:d≤3∧1≤D∧left'+1≤left):Ei lo pu D Γ Γ left left' (Bh 3 0 0 0 n 5 17 0 [] 0 A k2 o2 t2 s2 v2 A2 [] []):=by
 obtain ⟨x,e,C,N,M⟩:=Ad0 h
 obtain ⟨y,k,q,J,o⟩:=JR g z.1
 subst v
 refine ⟨.node 3 0 0 0 n x y [] [],?_,.store j c.1 c.2 H C q (by omega) o,?_,?_⟩
 ·rw [S.enc,←e,←k];rfl
 ·simp only [S.nodes,S.Ag];omega
 ·simp only [S.deep,S.A4];omega
theorem Ei.atom {i:Int} (h:Idx Γ 3 A) (g:Dd Γ 1 d k2 o2 t2 v2 s2 A2) (H:Nm n) (z:Γ n=some (0,1,i)) (j:i=0∨i=2) (c:o=10∨o=17∨o=18∨o=19∨o=22∨o=23) (k:pu=0) (q:d≤3∧1≤D∧left'+1≤left):Ei lo pu D Γ Γ left left' (Bh 4 o 0 0 n 5 17 0 [] 0 A k2 o2 t2 s2 v2 A2 [] []):=by
 obtain ⟨x,e,v,O,N⟩:=Ad0 h
 obtain ⟨y,u,C,M,J⟩:=JR g q.1
 subst k
 refine ⟨.node 4 o 0 0 n x y [] [],?_,.atom H j z c v C (by omega) J,?_,?_⟩
 ·rw [S.enc,←e,←u];rfl
 ·simp only [S.nodes,S.Ag];omega
 ·simp only [S.deep,S.A4];omega
theorem Ei.ife {D1 D2 c g a2 b2:Int} {B L:List Row} (h:Dd Γ 3 d k o t v s A) (hb:ID lo pu D1 Γ c g B) (q:ID lo pu D2 Γ a2 b2 L) (u:d≤3∧D1+1≤D∧D2+1≤D∧1+left'+(c-g)+(a2-b2)≤left):Ei lo pu D Γ Γ left left' (Bh 5 0 0 0 [] k o t s v A 0 0 0 [] 0 [] B L):=by
 obtain ⟨x,e,y,P,H⟩:=JR h u.1
 obtain ⟨M,j,rfl,z,J,N⟩:=hb
 obtain ⟨O,C,rfl,g1,g2,g3⟩:=q
 refine ⟨.node 5 0 0 0 [] x E0 j C,?_,.ife y H z g1,?_,?_⟩
 ·rw [S.enc,←e];rfl
 ·simp only [S.nodes,Fu];omega
 ·simp only [S.deep];omega
theorem Ei.whl {D1 g j b:Int} {B:List Row} (h:Dd Γ 3 d k o t v s A) (hb:ID 1 pu D1 Γ g j B) (c:d≤3∧D1+1≤D∧1≤D∧1+left'+(g-j)≤left∧1≤b∧b≤4):Ei lo pu D Γ Γ left left' (Bh 6 0 0 b [] k o t s v A 0 0 0 [] 0 [] B []):=by
 obtain ⟨x,e,u,M,z⟩:=JR h c.1
 obtain ⟨H,q,rfl,y,C,J⟩:=hb
 refine ⟨.node 6 0 0 b [] x E0 q [],?_,.whl u z c.2.2.2.2.1 c.2.2.2.2.2 y,?_,?_⟩
 ·rw [S.enc,←e];rfl
 ·simp only [S.nodes,S.Ag,Fu];omega
 ·simp only [S.deep,S.A4];omega
theorem Ei.esc (c:k=7∨k=8) (hl:lo≠0) (d:1≤D∧left'+1≤left):Ei lo pu D Γ Γ left left' (Bh k 0 0 0 [] 0 0 0 [] 0 [] 0 0 0 [] 0 [] [] []):=
 ⟨.node k 0 0 0 [] E0 E0 [] [],rfl,.esc c hl,by simp only [S.nodes,S.Ag,Fu];omega,by simp only [S.deep,S.A4];omega⟩
theorem Ei.bar (d:k=9∨k=10) (c:pu=0) (g:1≤D∧left'+1≤left):Ei lo pu D Γ Γ left left' (Bh k 0 0 0 [] 0 0 0 [] 0 [] 0 0 0 [] 0 [] [] []):=by
 subst c
 exact ⟨.node k 0 0 0 [] E0 E0 [] [],rfl,.bar d,by simp only [S.nodes,S.Ag,Fu];omega,by simp only [S.deep,S.A4];omega⟩
theorem Ei.MX (d:o=1∨o=2) (c:pu=0) (g:1≤D∧left'+1≤left):Ei lo pu D Γ Γ left left' (Bh 11 o 0 0 [] 0 0 0 [] 0 [] 0 0 0 [] 0 [] [] []):=by
 subst c
 exact ⟨.node 11 o 0 0 [] E0 E0 [] [],rfl,.MX d,by simp only [S.nodes,S.Ag,Fu];omega,by simp only [S.deep,S.A4];omega⟩
theorem Ei.Tq {w i op:Int} (h:Dd Γ w d k o t v s A) (g:Nm n) (C:Γ n=some (3,u,i)) (j:(op=1∧u=1∧w=3)∨((op=2∨op=3)∧u=3∧w=3)∨((op=5∨op=6)∧u≠3∧w=u)) (y:pu=0) (c:d≤3∧1≤D∧left'+1≤left∧1≤u∧u≤3):Ei lo pu D Γ Γ left left' (Bh 12 op 0 0 n k o t s v A 0 0 0 [] 0 [] [] []):=by
 obtain ⟨x,e,z,H,q⟩:=JR h c.1
 subst y
 refine ⟨.node 12 op 0 0 n x E0 [] [],?_,.Tq g C c.2.2.2.1 c.2.2.2.2 j z q,?_,?_⟩
 ·rw [S.enc,←e];rfl
 ·simp only [S.nodes,S.Ag,Fu];omega
 ·simp only [S.deep,S.A4];omega
theorem Ei.Tp {i:Int} (h:Dd Γ u d k o t v s A) (g:Dd Γ 1 d2 k2 o2 t2 v2 s2 A2) (j:Nm n) (N:Γ n=some (3,u,i)) (J:pu=0) (c:d≤3∧d2≤3∧1≤D∧left'+1≤left∧1≤u∧u≤3):Ei lo pu D Γ Γ left left' (Bh 12 4 0 0 n k o t s v A k2 o2 t2 s2 v2 A2 [] []):=by
 obtain ⟨x,e,M,P,H⟩:=JR h c.1
 obtain ⟨y,q,C,O,z⟩:=JR g c.2.1
 subst J
 refine ⟨.node 12 4 0 0 n x y [] [],?_,.Tp j N c.2.2.2.2.1 c.2.2.2.2.2 M C H z,?_,?_⟩
 ·rw [S.enc,←e,←q];rfl
 ·simp only [S.nodes,S.Ag];omega
 ·simp only [S.deep,S.A4];omega
end
theorem Ei.mono {d c g:Int} {r:Row} (h:Ei lo pu D Γ Γ' left left' r) (hd:D≤d∧left-left'≤c-g):Ei lo pu d Γ Γ' c g r:=by
 obtain ⟨s,k,j,o,q⟩:=h
 exact ⟨s,k,j,by omega,by omega⟩
end
structure MS (E:Bool) (Γ:Ctx) (f K M bl pos vl count left call loads:Int) (B V:List Row):Prop where
 m:NN Γ f bl vl count left call loads B V
 fr:∀i:Nat,count≤i→i<24→Γ (vn i)=none
 c0:0≤count
 cl:count+left≤K
 l0:0≤left
 vc:vl≤count+3
 p0:0≤pos
 p1:pos+300*left≤M
 f0:0≤f
 kk:K≤16∧M≤20000
 ex:E=true→vl=V.length
theorem NN.at_ {Γ:Ctx} {f bl vl count left call loads:Int} {B V:List Row} (h:NN Γ f bl vl count left call loads B V) (c l:Int):NN Γ f bl vl c l call loads B V:=⟨h.hB,h.hl,h.hvl,h.Hi,h.hV,h.hb,h.hc,h.hd⟩
section
variable {E:Bool} {Γ:Ctx} {f K M bl pos vl count left call loads:Int} {B V:List Row}
theorem MS.mv {c left':Int} (h:MS E Γ f K M bl pos vl count left call loads B V) (k:0≤c∧0≤left'∧left'≤left∧c+300*left'≤M:=by exact kn):MS E Γ f K M bl c vl count left' call loads B V:=
 ⟨h.m.at_ _ _,h.fr,h.c0,by have:=h.cl;omega,k.2.1,h.vc,k.1,k.2.2.2,h.f0,h.kk,h.ex⟩
theorem MS.Fv (h:MS E Γ f K M bl pos vl count left call loads B V) (c l:Int):NN Γ f bl vl c l call loads B V:=h.m.at_ _ _
theorem DT {Γ:Ctx} {n s:List Nat} {x z:Int×Int×Int} (h:Γ n=some z) (g:Γ s=none):Γ.GM s x n=some z:=by
 rw [BV];exact h
 intro e;subst e;rw [g]at h;cases h
def Ext (vl:Int) (V c:List Row):Prop:=∀j:Int,0≤j→j<vl→c[j.toNat]?=V[j.toNat]?
theorem Ext.refl:Ext vl V V:=fun _ _ _=>rfl
theorem Ext.trans {c:Int} {V1 V2:List Row} (h:Ext vl V V1) (g:Ext c V1 V2) (o:vl≤c):Ext vl V V2:=fun j d k=>(g j d (by omega)).trans (h j d k)
theorem Ext.more {W:List Row} (h:0≤vl∧vl≤V.length):Ext vl V (V.take vl.toNat++W):=fun j d c=>by
 rw [List.getElem?_append_left (by rw [lT'];omega),List.getElem?_take,if_pos (by omega)]
theorem MS.more {d t:Int} {n:List Nat} (h:MS E Γ f K M bl pos vl count left call loads B V) (D:n=vn count.toNat) (v:1≤t∧t≤3) (ab:count+left+1≤K)
  (k:0≤left∧0≤d∧d+300*left≤M):MS false (Γ.GM n (3,t,0)) f K M bl d ((V.take vl.toNat++[[PV.str n,PV.int .i64 t]]).length:Nat) (count+1) left call loads B (V.take vl.toNat++[[PV.str n,PV.int .i64 t]]):=by
 subst D
 have aa:=h.c0;have U:=h.vc;have x:=h.m.Hi;have hvl:=h.m.hvl;have Z:=h.l0;have z:=h.kk
 have c:Γ (vn count.toNat)=none:=h.fr _ (by omega) (by omega)
 have o:((V.take vl.toNat++[[PV.str (vn count.toNat),PV.int .i64 t]]).length:Int)=vl+1:=by
  simp only [lA,lC,lN,lT'];omega
 rw [o]
 refine ⟨⟨h.m.hB,h.m.hl,by omega,by omega,?_,?_,h.m.hc,h.m.hd⟩,?_,by omega,by omega,by omega,by omega,k.2.1,k.2.2,h.f0,z,fun e=>by cases e⟩
 ·intro j y hj
  by_cases hjv:j<vl
  ·obtain ⟨nm,u,g1,⟨kk,g2,g3,P⟩,O,A,H⟩:=h.m.hV j y hjv
   exact ⟨nm,u,(Ext.more ⟨x.1,hvl⟩ j y hjv).trans g1,⟨kk,DT g2 c,g3,P⟩,fun hf=>DT (O hf) c,A,H⟩
  ·have:j=vl:=by omega
   subst this
   refine ⟨vn count.toNat,t,?_,⟨3,CM,.inr rfl,Nm.vn (by omega)⟩,fun _=>CM,v.1,v.2⟩
   rw [List.getElem?_append_right (by rw [lT'];omega),lT',show j.toNat-min j.toNat V.length=0 by omega];rfl
 ·obtain ⟨J,R,bs,Q,N,C⟩:=h.m.hb
  exact ⟨DT J c,DT R c,DT bs c,DT Q c,DT N c,fun hc=>let ⟨i,q⟩:=C hc;⟨i,DT q c⟩⟩
 ·intro i q g
  rw [BV]
  ·exact h.fr i (by omega) g
  ·intro e
   have:=AdR g (by omega) e
   omega
theorem MS.ZU {c t:Int} {n:List Nat} (h:MS true Γ f K M bl pos vl count left call loads B V) (j:n=vn count.toNat) (g:1≤t∧t≤3) (d:count+left+1≤K)
  (k:0≤left∧0≤c∧c+300*left≤M):MS false (Γ.GM n (3,t,0)) f K M bl c ((V++[[PV.str n,PV.int .i64 t]]).length:Nat) (count+1) left call loads B (V++[[PV.str n,PV.int .i64 t]]):=by
 have e:V.take vl.toNat=V:=List.take_of_length_le (by have:=h.ex rfl;omega)
 have:=h.more j g d k
 rw [e]at this;exact this
theorem Ext.ZU {W:List Row} (h:vl=V.length):Ext vl V (V++W):=fun j d c=>by rw [List.getElem?_append_left (by omega)]
theorem MS.back {y:Bool} {z:Ctx} {k o c d:Int} {V1:List Row} (h:MS E Γ f K M bl pos vl count left call loads B V) (g:MS y z f K M bl k o c d call loads B V1) (A:Ext vl V V1) (hc:count≤c∧vl≤o):MS false Γ f K M bl k vl c d call loads B V1:=
 ⟨⟨h.m.hB,h.m.hl,by have:=g.m.hvl;omega,h.m.Hi,fun j v q=>by
   obtain ⟨nm,u,g1,g2⟩:=h.m.hV j v q
   exact ⟨nm,u,(A j v q).trans g1,g2⟩,h.m.hb,h.m.hc,h.m.hd⟩,fun i C x=>h.fr i (by omega) x,g.c0,g.cl,g.l0,by have:=h.vc;omega,g.p0,g.p1,h.f0,h.kk,fun e=>by cases e⟩
theorem Ei.decl {lo pu D l left' k o t v d u:Int} {s n:List Nat} {A:List Row} (c:MS E Γ f K M bl pos vl count left call loads B V) (h:Dd Γ u d k o t v s A) (j:n=vn count.toNat) (g:d≤3∧1≤u∧u≤3∧1≤D∧left'+1≤l):Ei lo pu D Γ (Γ.GM n (3,u,0)) l left' (Bh 1 0 u 0 n k o t s v A 0 0 0 [] 0 [] [] []):=by
 have x:=c.c0;have z:=c.cl;have q:=c.l0;have y:=c.kk
 subst j
 exact .var h ⟨count.toNat,by omega,rfl⟩ (c.fr _ (by omega) (by omega)) g
end
theorem Aim {p:Prop} (h:p:=by
  first
  |assumption
  |(apply Ei.mono;assumption;omega)
  |(apply AZ.mono;assumption;omega)
  |(apply Ei.set (d:=3);assumption;assumption;assumption;omega)
  |(apply Ei.store (d:=3);assumption;assumption;decide;(first|exact Jq.a (by assumption) |exact Jq.f (by assumption) |exact Jq.s (by assumption) |exact Jq.p (by assumption) |exact Jq.b (by assumption));all_goals omega)
  |(apply Ei.atom (d:=3);assumption;assumption;decide;(first|exact Jq.a (by assumption) |exact Jq.s (by assumption));all_goals omega)
  |(refine Ei.esc ?_ ?_ ?_<;>omega)
  |(refine Ei.bar ?_ ?_ ?_<;>omega)
  |(refine Ei.MX ?_ ?_ ?_<;>omega)
  |(apply Ei.Tq (d:=3);assumption;assumption;assumption;all_goals omega)
  |(apply Ei.Tp (d:=2) (d2:=2);assumption;assumption;assumption;assumption;all_goals omega)
  |(apply Ei.ife (d:=3);assumption;assumption;(first|assumption|(apply ID.nil (D:=0) (left:=0) (left':=0);exact ⟨Int.le_refl 0,Int.le_refl 0⟩));omega)
  |(apply Ei.whl (d:=3);assumption;assumption;omega)
  |exact Ext.refl
  |(apply Ext.trans;assumption;assumption;omega)
  |(apply Ext.trans;assumption;apply Ext.trans;assumption;assumption;all_goals omega)
  |exact kn):p:=h
theorem AE {p:Prop} (h:p:=by first|exact Aim|(subst_vars;exact Aim)):p:=h
end Go.AM.K
end
section
namespace Go.AM.K
def aΓ:Ctx:=fun s=>if s=[97]then some (0,1,0)else if s=[102]then some (0,2,1)else if s=[115]then some (0,1,2)else if s=[112]then some (0,1,3)else if s=[98]then some (0,3,4)else none
def fΓ:Ctx:=(aΓ.GM [120] (2,1,0)).GM [121] (2,1,0)
def pΓ:Ctx:=((aΓ.GM [110] (2,1,0)).GM [116] (2,2,0)).GM [99] (2,3,0)
def bΓ (call:Int):Ctx:=if call=1 then pΓ.GM [104] (1,1,0)else pΓ
def A0:List Row:=[[.str [97],.int .i64 1,.int .i64 1,.int .i64 8],[.str [102],.int .i64 1,.int .i64 2,.int .i64 4],[.str [115],.int .i64 2,.int .i64 1,.int .i64 8],[.str [112],.int .i64 3,.int .i64 1,.int .i64 4],[.str [98],.int .i64 2,.int .i64 3,.int .i64 4]]
def As:List Row:=[[.str [110],.int .i64 1],[.str [116],.int .i64 2],[.str [99],.int .i64 3]]
def AF:List Row:=[[.str [120],.int .i64 1],[.str [121],.int .i64 1]]
theorem Aii {i:Nat} (h:i<24):fΓ (vn i)=none:=by
 have:∀i,i<24→fΓ (vn i)=none:=by decide
 exact this i h
theorem Aje {c:Int} {i:Nat} (h:i<24):bΓ c (vn i)=none:=by
 have g:∀i,i<24→pΓ (vn i)=none:=by decide
 have d:∀i,i<24→(pΓ.GM [104] (1,1,0)) (vn i)=none:=by decide
 unfold bΓ
 split
 ·exact d i h
 ·exact g i h
section
variable {B:List Row} {bl pos count call:Int}
theorem MS.Afl (hB:Dz B) (hl:bl=B.length) (h:0≤pos∧pos≤100):MS true fΓ 2 4 1400 bl pos 2 0 4 0 0 B [[PV.str [120],PV.int .i64 1],[PV.str [121],PV.int .i64 1]]:=by
 refine ⟨⟨hB,hl,by decide,by decide,?_,⟨rfl,rfl,rfl,rfl,rfl,fun h=>by cases h⟩,.inl rfl,.inl rfl⟩,fun i _ c=>Aii c,by decide,by decide,by decide,by decide,h.1,by omega,by decide,by decide,fun _=>rfl⟩
 intro j g d
 have:j=0∨j=1:=by omega
 rcases this with rfl|rfl
 ·exact ⟨[120],1,rfl,⟨2,rfl,.inl rfl,by decide⟩,fun h=>absurd h (by decide),by decide,by decide⟩
 ·exact ⟨[121],1,rfl,⟨2,rfl,.inl rfl,by decide⟩,fun h=>absurd h (by decide),by decide,by decide⟩
theorem MS.Pu (hB:Dz B) (hl:bl=B.length) (h:0≤pos∧pos≤2000) (hc:0≤count∧count≤4) (c:call=0∨call=1):MS false (bΓ call) 3 16 19000 bl pos 3 count 12 call 1 B [[PV.str [110],PV.int .i64 1],[PV.str [116],PV.int .i64 2],[PV.str [99],PV.int .i64 3]]:=by
 have hb:Jq (bΓ call) call:=by
  rcases c with rfl|rfl
  ·exact ⟨rfl,rfl,rfl,rfl,rfl,fun h=>by cases h⟩
  ·exact ⟨rfl,rfl,rfl,rfl,rfl,fun _=>⟨0,rfl⟩⟩
 have d:bΓ call [110]=some (2,1,0)∧bΓ call [116]=some (2,2,0)∧bΓ call [99]=some (2,3,0):=by
  rcases c with rfl|rfl
  ·exact ⟨rfl,rfl,rfl⟩
  ·exact ⟨rfl,rfl,rfl⟩
 refine ⟨⟨hB,hl,by decide,by decide,?_,hb,c,.inr rfl⟩,fun i _ g=>Aje g,hc.1,by omega,by decide,by omega,h.1,by omega,by decide,by decide,fun e=>by cases e⟩
 intro j o k
 have:j=0∨j=1∨j=2:=by omega
 rcases this with rfl|rfl|rfl
 ·exact ⟨[110],1,rfl,⟨2,d.1,.inl rfl,by decide⟩,fun h=>absurd h (by decide),by decide,by decide⟩
 ·exact ⟨[116],2,rfl,⟨2,d.2.1,.inl rfl,by decide⟩,fun h=>absurd h (by decide),by decide,by decide⟩
 ·exact ⟨[99],3,rfl,⟨2,d.2.2,.inl rfl,by decide⟩,fun h=>absurd h (by decide),by decide,by decide⟩
end
def Jo (R:List Row) (k o y w:Int) (s:List Nat) (A:List Row):Prop:=∃(c:Ctx) (l:Int),AZ 0 1 2 fΓ c 4 l R∧0≤l∧Dd c 1 3 k o y w s A
theorem Jo.mk {c:Ctx} {l k o y w:Int} {R A:List Row} {s:List Nat} (h:AZ 0 1 2 fΓ c 4 l R) (hl:0≤l) (g:Dd c 1 3 k o y w s A):Jo R k o y w s A:=⟨_,_,h,hl,g⟩
theorem Jo.nil {k o y w:Int} {A:List Row} {s:List Nat} (g:Dd fΓ 1 3 k o y w s A):Jo [] k o y w s A:=⟨_,4,AZ.nil ⟨by decide,by decide⟩,by decide,g⟩
def Ak (Γ:Ctx) (R:List Row):Prop:=∃(c:Ctx) (l:Int),AZ 0 0 4 Γ c 32 l R∧0≤l
theorem Ak.of {Γ c:Ctx} {l:Int} {R:List Row} (h:AZ 0 0 3 Γ c 12 l R) (hl:0≤l):Ak Γ R:=⟨_,l+20,h.mono ⟨by decide,by omega⟩,by omega⟩
theorem Ak.nil {Γ:Ctx}:Ak Γ []:=⟨_,0,AZ.nil ⟨by decide,by decide⟩,by decide⟩
theorem Ak.plus {Γ c:Ctx} {l j k o y w:Int} {s:List Nat} {A R:List Row} {g:Row} (h:AZ 0 0 3 Γ c 12 l R) (hl:0≤l) (x:Dd c 3 3 k o y w s A) (q:Ei 0 0 3 c c (j+1) j g):
  Ak Γ (R++[Bh 5 0 0 0 [] k o y s w A 0 0 0 [] 0 [] [Bh 9 0 0 0 [] 0 0 0 [] 0 [] 0 0 0 [] 0 [] [] []] [],g]):=by
 have u:AZ 0 0 4 Γ c 32 (l+20) R:=h.mono ⟨by decide,by omega⟩
 have hb:ID 0 0 1 c 2 1 [Bh 9 0 0 0 [] 0 0 0 [] 0 [] 0 0 0 [] 0 [] [] []]:=.mk (AZ.one (Ei.bar (.inl rfl) rfl ⟨by decide,by decide⟩) (by decide))
 have z:Ei 0 0 4 c c (l+20) (l+10) (Bh 5 0 0 0 [] k o y s w A 0 0 0 [] 0 [] [Bh 9 0 0 0 [] 0 0 0 [] 0 [] 0 0 0 [] 0 [] [] []] []):=
  Ei.ife (d:=3) (D1:=1) (D2:=0) (a2:=0) (b2:=0) x hb (ID.nil ⟨by decide,by decide⟩) ⟨by decide,by decide,by decide,by omega⟩
 have v:Ei 0 0 4 c c (l+10) l g:=q.mono ⟨by decide,by omega⟩
 have:=(u.snoc z).snoc v
 rw [List.append_assoc]at this
 exact ⟨_,l,this,hl⟩
theorem Ak.BX {Γ:Ctx} {c k o y w:Int} {s:List Nat} {A:List Row} {d:Row} (g:Dd Γ 3 3 k o y w s A) (j:Ei 0 0 3 Γ Γ (c+1) c d):
  Ak Γ [Bh 5 0 0 0 [] k o y s w A 0 0 0 [] 0 [] [Bh 9 0 0 0 [] 0 0 0 [] 0 [] 0 0 0 [] 0 [] [] []] [],d]:=
 Ak.plus (R:=[]) (l:=12) (AZ.nil ⟨by decide,by decide⟩) (by decide) g j
def C4 (g sub:Int):Prop:=(sub=1∨sub=2∨sub=4∨sub=8)∧g%sub=0
def hrow (P R:List Row) (k o y:Int) (s:List Nat) (w:Int) (A:List Row):Row:=[.str [104],.list 2 P,.int .i64 1,.list 19 R,.int .i64 k,.int .i64 o,.int .i64 y,.str s,.int .i32 w,.list 6 A]
def B3 (g sub:Int) (d P c R:List Row):Prop:=d=A0∧P=As∧0<R.length∧(g=4∨g=1∨g=2∨g=8∨g=6)∧C4 g sub∧
 ((c=[]∧Ak (bΓ 0) R)∨(∃(F:List Row) (k o y w:Int) (s:List Nat) (A:List Row),c=[hrow AF F k o y s w A]∧Jo F k o y w s A∧Ak (bΓ 1) R))
theorem B3.a {g sub:Int} {R:List Row} (d:g=4∨g=1∨g=2∨g=8∨g=6) (hs:C4 g sub) (h:Ak (bΓ 0) R) (c:0<R.length):B3 g sub A0 As [] R:=⟨rfl,rfl,c,d,hs,.inl ⟨rfl,h⟩⟩
theorem B3.b {g sub k o y w:Int} {s:List Nat} {P F A R:List Row} (j:g=4∨g=1∨g=2∨g=8∨g=6) (hs:C4 g sub) (d:P=AF) (hf:Jo F k o y w s A) (h:Ak (bΓ 1) R) (c:0<R.length):B3 g sub A0 As [hrow P F k o y s w A] R:=by
 subst d
 exact ⟨rfl,rfl,c,j,hs,.inr ⟨F,k,o,y,w,s,A,rfl,hf,h⟩⟩
theorem nv {trees:Nat→Tree} {Q:Out→Prop} {t:Tree} {v:Ah} (c:Ah) (h:W trees Q t c) (e:v=c:=by rfl):W trees Q t v:=by subst e;exact h
theorem MS.wide {E:Bool} {Γ:Ctx} {f K M M' bl pos vl count left call loads:Int} {B V:List Row} (h:MS E Γ f K M bl pos vl count left call loads B V) (k:M≤M'∧M'≤20000):MS E Γ f K M' bl pos vl count left call loads B V:=
 ⟨h.m,h.fr,h.c0,h.cl,h.l0,h.vc,h.p0,by have:=h.p1;omega,h.f0,⟨h.kk.1,k.2⟩,h.ex⟩
end Go.AM.K
end
section
namespace Go.AM.K
def TL (Γ:Ctx) (a:List E):Prop:=∀e∈a,∃t,T Γ t e
section
variable {Γ:Ctx} {t k o ty v:Int} {s:List Nat} {a:List E}
theorem T.args (h:T Γ t (.node k o ty v s a)):TL Γ a:=by
 cases h with
 |num=>intro e c;cases c
 |id=>intro e c;cases c
 |var=>intro e c;cases c
 |un _ h1=>intro e c;simp only [List.mem_cons,List.not_mem_nil,or_false]at c;subst c;exact ⟨_,h1⟩
 |bin _ h1 h2=>intro e c;simp only [List.mem_cons,List.not_mem_nil,or_false]at c;rcases c with rfl|rfl<;>first|exact ⟨_,h1⟩|exact ⟨_,h2⟩
 |cond h1 h2 h3=>intro e c;simp only [List.mem_cons,List.not_mem_nil,or_false]at c;rcases c with rfl|rfl|rfl<;>first|exact ⟨_,h1⟩|exact ⟨_,h2⟩|exact ⟨_,h3⟩
 |load _ _ _ _ h1=>intro e c;simp only [List.mem_cons,List.not_mem_nil,or_false]at c;subst c;exact ⟨_,h1⟩
 |call _ h1 h2=>intro e c;simp only [List.mem_cons,List.not_mem_nil,or_false]at c;rcases c with rfl|rfl<;>first|exact ⟨_,h1⟩|exact ⟨_,h2⟩
theorem T.kind (h:T Γ t (.node k o ty v s a)):1≤k∧k≤8∧a.length≤3:=by
 cases h<;>simp
theorem T.nodes (h:T Γ t (.node k o ty v s a)):(E.node k o ty v s a).nodes=1+E.Ag a:=by
 have:=h.kind
 rw [E.nodes,if_neg (by omega)]
theorem LJ:(E.node k o ty v s a).high=1+E.BY a:=by rw [E.high]
theorem TL.get (h:TL Γ a) (j:Int) (g:0≤j) (d:j<((E.Ac a).length:Int)):∃(k o t v:Int) (s:List Nat) (b:List E) (u:Int),
  (E.Ac a)[j.toNat]?=some [.int .i64 k,.int .i64 o,.int .i64 t,.str s,.int .i32 v,.list 6 (E.Ac b)]∧T Γ u (.node k o t v s b)∧(E.node k o t v s b).high≤E.BY a∧1≤(E.node k o t v s b).nodes∧(E.node k o t v s b).nodes+E.Ag (a.drop (j+1).toNat)=E.Ag (a.drop j.toNat):=by
 obtain ⟨k,o,t,v,s,b,g1,g2⟩:=E.get a j g d
 obtain ⟨u,c⟩:=h _ (List.mem_of_getElem? g2)
 refine ⟨k,o,t,v,s,b,u,g1,c,E.MJ g2,by have:=c.nodes;omega,?_⟩
 rw [show (j+1).toNat=j.toNat+1 by omega]
 exact E.Kw g2
theorem Np {j:Int} (h:((E.Ac a).length:Int)≤j):E.Ag (a.drop j.toNat)=0:=by
 rw [E.A7]at h
 rw [List.drop_eq_nil_of_le (by omega)];rfl
theorem T.len {Γ:Ctx} (h:TL Γ a):(a.length:Int)≤E.Ag a:=by
 induction a with
 |nil=>simp [E.Ag]
 |cons e l ih=>
  have g:=ih fun x d=>h x (List.mem_cons_of_mem _ d)
  obtain ⟨u,c⟩:=h e List.mem_cons_self
  obtain ⟨k,o,t,v,s,b⟩:=e
  have:=c.nodes
  simp only [lC,E.Ag];omega
end
abbrev Bg (t:Int):Row:=[.int .i64 t]
inductive Ts (Γ:Ctx):List Int→List E→Prop
 |nil:Ts Γ [] []
 |cons {t:Int} {e:E} {ts:List Int} {a:List E}:T Γ t e→Ts Γ ts a→Ts Γ (t::ts) (e::a)
theorem Ts.len {Γ:Ctx}:∀{ts:List Int} {a:List E},Ts Γ ts a→ts.length=a.length
 |_,_,.nil=>rfl
 |_,_,.cons _ h=>by simp [h.len]
theorem Ts.at {Γ:Ctx}:∀{ts:List Int} {a:List E} (_:Ts Γ ts a) {i:Nat} {e:E},a[i]?=some e→∃t,ts[i]?=some t∧T Γ t e
 |_,_,.nil,i,e,h=>by simp at h
 |_,_,.cons h g,0,e,k=>by simp at k;subst k;exact ⟨_,rfl,h⟩
 |_,_,.cons h g,i+1,e,k=>by simpa using g.at (by simpa using k)
theorem Ts.get {Γ:Ctx} {ts:List Int} {a:List E} (h:Ts Γ ts a) (j:Int) (q:0≤j) (g:j<((E.Ac a).length:Int)):∃(k o t v:Int) (s:List Nat) (b:List E) (u:Int),
  (E.Ac a)[j.toNat]?=some [.int .i64 k,.int .i64 o,.int .i64 t,.str s,.int .i32 v,.list 6 (E.Ac b)]∧T Γ u (.node k o t v s b)∧(E.node k o t v s b).high≤E.BY a∧ts[j.toNat]?=some u:=by
 obtain ⟨k,o,t,v,s,b,g1,g2⟩:=E.get a j q g
 obtain ⟨u,c,d⟩:=h.at g2
 exact ⟨k,o,t,v,s,b,u,g1,d,E.MJ g2,c⟩
theorem HZ {ts:List Int} {j u:Int} (h:ts[j.toNat]?=some u) (c:0≤j):(ts.take j.toNat).map Bg++[[PV.int .i64 u]]=(ts.take (j+1).toNat).map Bg:=by
 rw [show (j+1).toNat=j.toNat+1 by omega,List.take_add_one,h];simp [Bg]
theorem Y8 {ts:List Int} {j:Int} (h:(ts.length:Int)≤j):(ts.take j.toNat).map Bg=ts.map Bg:=by
 rw [List.take_of_length_le (by omega)]
theorem UnT.rng {o t u:Int} (h:UnT o t u):1≤o∧o≤5∧1≤t∧t≤3∧1≤u∧u≤3:=by unfold UnT at h;omega
theorem LD.rng {o t u:Int} (h:LD o t u):10≤o∧o≤29∧1≤t∧t≤3∧1≤u∧u≤3:=by unfold LD at h;omega
section
variable {Γ:Ctx} {t k o ty v:Int} {s:List Nat} {a:List E}
theorem T.inv (h:T Γ t (.node k o ty v s a)):
  (k=1∧o=0∧ty=t∧s=[]∧a=[]∧1≤t∧t≤3∧(t=3→v=0∨v=1)∧(t=2→Fx v)∧-200000≤v∧v≤5000000)∨
  (k=3∧ty=0∧v=0∧s=[]∧a=[]∧t=1∧1≤o∧o≤7)∨
  (k=2∧o=0∧ty=0∧v=0∧a=[]∧Nm s∧∃kk i,(kk=2∨kk=3)∧1≤t∧t≤3∧Γ s=some (kk,t,i))∨
  (k=4∧ty=0∧v=0∧s=[]∧∃d j q g x u w,a=[.node d j q g x u]∧UnT o w t∧T Γ w (.node d j q g x u))∨
  (k=5∧ty=0∧v=0∧s=[]∧∃d j q g x u D y C A z b2 w,a=[.node d j q g x u,.node D y C A z b2]∧LD o w t∧T Γ w (.node d j q g x u)∧T Γ w (.node D y C A z b2))∨
  (k=6∧o=0∧ty=0∧v=0∧s=[]∧∃d j q g x u D y C A z b2 N J H O P M,a=[.node d j q g x u,.node D y C A z b2,.node N J H O P M]∧T Γ 3 (.node d j q g x u)∧T Γ t (.node D y C A z b2)∧T Γ t (.node N J H O P M))∨
  (k=7∧o=0∧ty=0∧v=0∧Nm s∧∃d j q g x u i,a=[.node d j q g x u]∧1≤t∧t≤3∧Γ s=some (0,t,i)∧T Γ 1 (.node d j q g x u))∨
  (k=8∧o=0∧ty=0∧v=0∧s=[104]∧∃d j q g x u D y C A z b2 i,a=[.node d j q g x u,.node D y C A z b2]∧t=1∧Γ [104]=some (1,1,i)∧T Γ 1 (.node d j q g x u)∧T Γ 1 (.node D y C A z b2)):=by
 cases h with
 |num h1 h2 h3 h4 h5=>exact .inl ⟨rfl,rfl,rfl,rfl,rfl,h1,h2,h3,h4,h5⟩
 |id h1 h2=>exact .inr (.inl ⟨rfl,rfl,rfl,rfl,rfl,rfl,h1,h2⟩)
 |var h1 h2 h3 h4 h5=>exact .inr (.inr (.inl ⟨rfl,rfl,rfl,rfl,rfl,h1,_,_,h2,h3,h4,h5⟩))
 |@un _ _ _ a h1 h2=>
  obtain ⟨_,_,_,_,_,_⟩:=a
  exact .inr (.inr (.inr (.inl ⟨rfl,rfl,rfl,rfl,_,_,_,_,_,_,_,rfl,h1,h2⟩)))
 |@bin _ _ _ a b h1 h2 h3=>
  obtain ⟨_,_,_,_,_,_⟩:=a
  obtain ⟨_,_,_,_,_,_⟩:=b
  exact .inr (.inr (.inr (.inr (.inl ⟨rfl,rfl,rfl,rfl,_,_,_,_,_,_,_,_,_,_,_,_,_,rfl,h1,h2,h3⟩))))
 |@cond _ a b c h1 h2 h3=>
  obtain ⟨_,_,_,_,_,_⟩:=a
  obtain ⟨_,_,_,_,_,_⟩:=b
  obtain ⟨_,_,_,_,_,_⟩:=c
  exact .inr (.inr (.inr (.inr (.inr (.inl ⟨rfl,rfl,rfl,rfl,rfl,_,_,_,_,_,_,_,_,_,_,_,_,_,_,_,_,_,_,rfl,h1,h2,h3⟩)))))
 |@load _ _ _ a h1 h2 h3 h4 h5=>
  obtain ⟨_,_,_,_,_,_⟩:=a
  exact .inr (.inr (.inr (.inr (.inr (.inr (.inl ⟨rfl,rfl,rfl,rfl,h1,_,_,_,_,_,_,_,rfl,h2,h3,h4,h5⟩))))))
 |@call _ a b h1 h2 h3=>
  obtain ⟨_,_,_,_,_,_⟩:=a
  obtain ⟨_,_,_,_,_,_⟩:=b
  exact .inr (.inr (.inr (.inr (.inr (.inr (.inr ⟨rfl,rfl,rfl,rfl,rfl,_,_,_,_,_,_,_,_,_,_,_,_,_,rfl,rfl,h1,h2,h3⟩))))))
theorem n1 {x:E}:E.Ag [x]=x.nodes:=by simp only [E.Ag];omega
theorem n2 {x y:E}:E.Ag [x,y]=x.nodes+y.nodes:=by simp only [E.Ag];omega
theorem n3 {x y z:E}:E.Ag [x,y,z]=x.nodes+y.nodes+z.nodes:=by simp only [E.Ag];omega
theorem g1 {x:E}:E.BY [x]=x.high:=by simp only [E.BY];omega
theorem g2 {x y:E}:E.BY [x,y]=max x.high y.high:=by simp only [E.BY];omega
theorem g3 {x y z:E}:E.BY [x,y,z]=max x.high (max y.high z.high):=by simp only [E.BY];omega
end
def Nf (s:List Nat):Tree→Option Nat
 |.leaf a _ ⟨[],[],[],[]⟩=>some a
 |.sets 0 l t e=>if s=l then Nf s t else Nf s e
 |_=>none
theorem Nd {trees:Nat→Tree} {Q:Out→Prop} {s:List Nat} {a:Nat}:∀(t:Tree),Nf s t=some a→Q (a,⟨[],[],[],[]⟩)→W trees Q t ⟨[],[s],[],[]⟩
 |.leaf b nw ⟨[],[],[],[]⟩,h,hq=>by
  simp only [Nf,oI]at h
  subst h;exact hq
 |.sets 0 l t e,h,hq=>by
  simp only [Nf]at h
  refine ss s (fun k=>?_) fun k=>?_
  ·rw [if_pos k]at h;exact Nd t h hq
  ·rw [if_neg k]at h;exact Nd e h hq
theorem Ok.str {trees:Nat→Tree} {c:Nat} {s:List Nat} {R:Out→Prop} {t:Tree} {a:Nat} (g:trees c=t) (h:Nf s t=some a) (d:R (a,⟨[],[],[],[]⟩)):Ok trees c ⟨[],[s],[],[]⟩ R:=.of g (Nd t h d)
structure Ck (Γ:Ctx) (al fl:Int) (Ar Fs:List Row) (m:List (List Nat×List PV)):Prop where
 see:∀s,BO m s=(Γ s).map fun z=>[PV.int .i64 z.1,PV.int .i64 z.2.1,PV.int .i64 z.2.2]
 ha:al=Ar.length
 hf:fl=Fs.length
 ar:∀s t i,Γ s=some (0,t,i)→0≤i∧i<al∧∃(nm:List Nat) (sp ln:Int),Ar[i.toNat]?=some [.str nm,.int .i64 sp,.int .i64 t,.int .i64 ln]∧(i=0∨i=2→sp≠3)
 fn:∀i,Γ [104]=some (1,1,i)→0≤i∧i<fl∧∃(F:List Row) (k o y w:Int) (s:List Nat) (A:List Row),Fs[i.toNat]?=some [.str [104],.list 2 AF,.int .i64 1,.list 19 F,.int .i64 k,.int .i64 o,.int .i64 y,.str s,.int .i32 w,.list 6 A]
theorem Ck.look {Γ:Ctx} {o c:Int} {d j:List Row} {m:List (List Nat×List PV)} (h:Ck Γ o c d j m) {s:List Nat} {k t i:Int} (g:Γ s=some (k,t,i)):BO m s=some [PV.int .i64 k,PV.int .i64 t,PV.int .i64 i]:=by
 rw [h.see,g];rfl
theorem Ck.Afa {Γ:Ctx} {k c:Int} {d j:List Row} {m:List (List Nat×List PV)} (h:Ck Γ k c d j m) {s:List Nat} (g:Γ s=none):BO m s=none:=by
 rw [h.see,g];rfl
theorem Pe (j:Int) (c:0≤j) (d:j<2):∃nm:List Nat,AF[j.toNat]?=some [.str nm,.int .i64 1]:=by
 have:j=0∨j=1:=by omega
 rcases this with rfl|rfl
 ·exact ⟨[120],rfl⟩
 ·exact ⟨[121],rfl⟩
theorem Sd (j:Int) (c:0≤j) (d:j<2):([1,1].map Bg)[j.toNat]?=some [PV.int .i64 1]:=by
 have:j=0∨j=1:=by omega
 rcases this with rfl|rfl<;>rfl
theorem Ts.none {Γ:Ctx} {ts:List Int} {a:List E} (h:Ts Γ ts a) (c:((E.Ac a).length:Int)≤0):ts=[]:=by
 rw [E.A7]at c
 have:=h.len
 exact List.eq_nil_of_length_eq_zero (by omega)
theorem Ts.end {Γ:Ctx} {ts:List Int} {a:List E} (h:Ts Γ ts a) {j:Int} (c:((E.Ac a).length:Int)≤j):(ts.take j.toNat).map Bg=ts.map Bg:=by
 rw [E.A7]at c
 exact Y8 (by rw [h.len];omega)
theorem Ts.Db {ts:List Int}:((ts.map Bg).length:Int)=ts.length:=by simp
theorem S.len:∀l:List S,l.length≤S.Ag l
 |[]=>by simp
 |s::l=>by
  have:=S.len l
  obtain ⟨_,_,_,_,_,_,_,_,_⟩:=s
  simp only [lC,S.Ag,S.nodes];omega
end Go.AM.K
end
section
namespace Go.AM.K
def EOk (Γ:Ctx) (e:E):Prop:=e=E0∨((∃t,T Γ t e)∧e.high≤5)
theorem E0_high:E0.high=1:=rfl
def No (k o t v:Int) (s:List Nat) (a:List E):Prop:=k=0∧o=0∧t=0∧v=0∧s=[]∧a=[]
theorem No.of {k o t v:Int} {s:List Nat} {a:List E} (h:E.node k o t v s a=E0):No k o t v s a:=by
 unfold E0 at h
 simp only [E.node.injEq]at h
 exact h
theorem No.eq {k o t v:Int} {s:List Nat} {a:List E} (h:No k o t v s a):E.node k o t v s a=E0:=by
 obtain ⟨rfl,rfl,rfl,rfl,rfl,rfl⟩:=h;rfl
section
variable {lo pu:Int} {Γ Γ':Ctx} {k o t b xk xo xt xv yk yo yt yv:Int} {nm xn yn:List Nat} {xa ya:List E} {bo el:List S}
theorem DP.inv (h:DP lo pu Γ (.node k o t b nm (.node xk xo xt xv xn xa) (.node yk yo yt yv yn ya) bo el) Γ'):
  (k=1∧o=0∧b=0∧No yk yo yt yv yn ya∧bo=[]∧el=[]∧Nm nm∧Γ nm=none∧1≤t∧t≤3∧T Γ t (.node xk xo xt xv xn xa)∧(E.node xk xo xt xv xn xa).high≤5∧Γ'=Γ.GM nm (3,t,0))∨
  (k=2∧o=0∧t=0∧b=0∧No yk yo yt yv yn ya∧bo=[]∧el=[]∧Nm nm∧Γ'=Γ∧∃u i,Γ nm=some (3,u,i)∧T Γ u (.node xk xo xt xv xn xa)∧(E.node xk xo xt xv xn xa).high≤5)∨
  (k=3∧o=0∧t=0∧b=0∧bo=[]∧el=[]∧pu=0∧Nm nm∧Γ'=Γ∧∃u i,0≤i∧i≤4∧Γ nm=some (0,u,i)∧T Γ 1 (.node xk xo xt xv xn xa)∧T Γ u (.node yk yo yt yv yn ya)∧(E.node xk xo xt xv xn xa).high≤5∧(E.node yk yo yt yv yn ya).high≤5)∨
  (k=4∧t=0∧b=0∧bo=[]∧el=[]∧pu=0∧Nm nm∧Γ'=Γ∧∃i,(i=0∨i=2)∧Γ nm=some (0,1,i)∧(o=10∨o=17∨o=18∨o=19∨o=22∨o=23)∧T Γ 1 (.node xk xo xt xv xn xa)∧T Γ 1 (.node yk yo yt yv yn ya)∧(E.node xk xo xt xv xn xa).high≤5∧(E.node yk yo yt yv yn ya).high≤5)∨
  (k=5∧o=0∧t=0∧b=0∧nm=[]∧No yk yo yt yv yn ya∧T Γ 3 (.node xk xo xt xv xn xa)∧(E.node xk xo xt xv xn xa).high≤5∧Γ'=Γ∧∃c d,CE lo pu Γ bo c∧CE lo pu Γ el d)∨
  (k=6∧o=0∧t=0∧nm=[]∧No yk yo yt yv yn ya∧el=[]∧T Γ 3 (.node xk xo xt xv xn xa)∧(E.node xk xo xt xv xn xa).high≤5∧1≤b∧b≤4∧Γ'=Γ∧∃c,CE 1 pu Γ bo c)∨
  ((k=7∨k=8)∧o=0∧t=0∧b=0∧nm=[]∧No xk xo xt xv xn xa∧No yk yo yt yv yn ya∧bo=[]∧el=[]∧lo≠0∧Γ'=Γ)∨
  ((k=9∨k=10)∧o=0∧t=0∧b=0∧nm=[]∧No xk xo xt xv xn xa∧No yk yo yt yv yn ya∧bo=[]∧el=[]∧pu=0∧Γ'=Γ)∨
  (k=11∧(o=1∨o=2)∧t=0∧b=0∧nm=[]∧No xk xo xt xv xn xa∧No yk yo yt yv yn ya∧bo=[]∧el=[]∧pu=0∧Γ'=Γ)∨
  (k=12∧t=0∧b=0∧No yk yo yt yv yn ya∧bo=[]∧el=[]∧pu=0∧Nm nm∧Γ'=Γ∧∃u w i,Γ nm=some (3,u,i)∧1≤u∧u≤3∧((o=1∧u=1∧w=3)∨((o=2∨o=3)∧u=3∧w=3)∨((o=5∨o=6)∧u≠3∧w=u))∧T Γ w (.node xk xo xt xv xn xa)∧(E.node xk xo xt xv xn xa).high≤5)∨
  (k=12∧o=4∧t=0∧b=0∧bo=[]∧el=[]∧pu=0∧Nm nm∧Γ'=Γ∧∃u i,Γ nm=some (3,u,i)∧1≤u∧u≤3∧T Γ u (.node xk xo xt xv xn xa)∧T Γ 1 (.node yk yo yt yv yn ya)∧(E.node xk xo xt xv xn xa).high≤5∧(E.node yk yo yt yv yn ya).high≤5):=by
 generalize hx:E.node xk xo xt xv xn xa=x at h⊢
 generalize hy:E.node yk yo yt yv yn ya=y at h⊢
 cases h with
 |var h1 h2 h3 h4 h5 h6=>exact .inl ⟨rfl,rfl,rfl,.of hy,rfl,rfl,h1.nm,h2,h3,h4,h5,h6,rfl⟩
 |set h1 h2 h3 h4=>exact .inr (.inl ⟨rfl,rfl,rfl,rfl,.of hy,rfl,rfl,h1,rfl,_,_,h2,h3,h4⟩)
 |store h1 h2 h3 h4 h5 h6 h7 h8=>exact .inr (.inr (.inl ⟨rfl,rfl,rfl,rfl,rfl,rfl,rfl,h1,rfl,_,_,h2,h3,h4,h5,h6,h7,h8⟩))
 |atom h1 h2 h3 h4 h5 h6 h7 h8=>exact .inr (.inr (.inr (.inl ⟨rfl,rfl,rfl,rfl,rfl,rfl,h1,rfl,_,h2,h3,h4,h5,h6,h7,h8⟩)))
 |ife h1 h2 h3 h4=>exact .inr (.inr (.inr (.inr (.inl ⟨rfl,rfl,rfl,rfl,rfl,.of hy,h1,h2,rfl,_,_,h3,h4⟩))))
 |whl h1 h2 h3 h4 h5=>exact .inr (.inr (.inr (.inr (.inr (.inl ⟨rfl,rfl,rfl,rfl,.of hy,rfl,h1,h2,h3,h4,rfl,_,h5⟩)))))
 |esc h1 h2=>exact .inr (.inr (.inr (.inr (.inr (.inr (.inl ⟨h1,rfl,rfl,rfl,rfl,.of hx,.of hy,rfl,rfl,h2,rfl⟩))))))
 |bar h1=>exact .inr (.inr (.inr (.inr (.inr (.inr (.inr (.inl ⟨h1,rfl,rfl,rfl,rfl,.of hx,.of hy,rfl,rfl,rfl,rfl⟩)))))))
 |MX h1=>exact .inr (.inr (.inr (.inr (.inr (.inr (.inr (.inr (.inl ⟨rfl,h1,rfl,rfl,rfl,.of hx,.of hy,rfl,rfl,rfl,rfl⟩))))))))
 |Tq h1 h2 h3 h4 h5 h6 h7=>exact .inr (.inr (.inr (.inr (.inr (.inr (.inr (.inr (.inr (.inl ⟨rfl,rfl,rfl,.of hy,rfl,rfl,rfl,h1,rfl,_,_,_,h2,h3,h4,h5,h6,h7⟩)))))))))
 |Tp h1 h2 h3 h4 h5 h6 h7 h8=>exact .inr (.inr (.inr (.inr (.inr (.inr (.inr (.inr (.inr (.inr ⟨rfl,rfl,rfl,rfl,rfl,rfl,rfl,h1,rfl,_,_,h2,h3,h4,h5,h6,h7,h8⟩)))))))))
theorem DP.exprs {s:S} (h:DP lo pu Γ s Γ'):∃k o t b nm x y bo el,s=.node k o t b nm x y bo el∧EOk Γ x∧EOk Γ y∧∃c d g j,CE c pu Γ bo g∧CE d pu Γ el j:=by
 cases h with
 |var h1 h2 h3 h4 h5 h6=>exact ⟨_,_,_,_,_,_,_,_,_,rfl,.inr ⟨⟨_,h5⟩,h6⟩,.inl rfl,0,0,_,_,.nil,.nil⟩
 |set h1 h2 h3 h4=>exact ⟨_,_,_,_,_,_,_,_,_,rfl,.inr ⟨⟨_,h3⟩,h4⟩,.inl rfl,0,0,_,_,.nil,.nil⟩
 |store h1 h2 h3 h4 h5 h6 h7 h8=>exact ⟨_,_,_,_,_,_,_,_,_,rfl,.inr ⟨⟨_,h5⟩,h7⟩,.inr ⟨⟨_,h6⟩,h8⟩,0,0,_,_,.nil,.nil⟩
 |atom h1 h2 h3 h4 h5 h6 h7 h8=>exact ⟨_,_,_,_,_,_,_,_,_,rfl,.inr ⟨⟨_,h5⟩,h7⟩,.inr ⟨⟨_,h6⟩,h8⟩,0,0,_,_,.nil,.nil⟩
 |ife h1 h2 h3 h4=>exact ⟨_,_,_,_,_,_,_,_,_,rfl,.inr ⟨⟨_,h1⟩,h2⟩,.inl rfl,_,_,_,_,h3,h4⟩
 |whl h1 h2 h3 h4 h5=>exact ⟨_,_,_,_,_,_,_,_,_,rfl,.inr ⟨⟨_,h1⟩,h2⟩,.inl rfl,_,0,_,_,h5,.nil⟩
 |esc h1 h2=>exact ⟨_,_,_,_,_,_,_,_,_,rfl,.inl rfl,.inl rfl,0,0,_,_,.nil,.nil⟩
 |bar h1=>exact ⟨_,_,_,_,_,_,_,_,_,rfl,.inl rfl,.inl rfl,0,0,_,_,.nil,.nil⟩
 |MX h1=>exact ⟨_,_,_,_,_,_,_,_,_,rfl,.inl rfl,.inl rfl,0,0,_,_,.nil,.nil⟩
 |Tq h1 h2 h3 h4 h5 h6 h7=>exact ⟨_,_,_,_,_,_,_,_,_,rfl,.inr ⟨⟨_,h6⟩,h7⟩,.inl rfl,0,0,_,_,.nil,.nil⟩
 |Tp h1 h2 h3 h4 h5 h6 h7 h8=>exact ⟨_,_,_,_,_,_,_,_,_,rfl,.inr ⟨⟨_,h5⟩,h7⟩,.inr ⟨⟨_,h6⟩,h8⟩,0,0,_,_,.nil,.nil⟩
theorem CE.get {l:List S} (j:Int) (h:CE lo pu Γ (l.drop j.toNat) Γ') (q:0≤j) (c:j<((S.Ac l).length:Int)):∃(k o t b:Int) (nm:List Nat) (xk xo xt xv:Int) (xn:List Nat) (xa:List E) (yk yo yt yv:Int) (yn:List Nat) (ya:List E) (bo el:List S) (d:Ctx),
  (S.Ac l)[j.toNat]?=some [.int .i64 k,.int .i64 o,.int .i64 t,.int .i64 b,.str nm,.int .i64 xk,.int .i64 xo,.int .i64 xt,.str xn,.int .i32 xv,.list 6 (E.Ac xa),.int .i64 yk,.int .i64 yo,.int .i64 yt,.str yn,.int .i32 yv,.list 6 (E.Ac ya),.list 19 (S.Ac bo),.list 19 (S.Ac el)]∧
  DP lo pu Γ (.node k o t b nm (.node xk xo xt xv xn xa) (.node yk yo yt yv yn ya) bo el) d∧CE lo pu d (l.drop (j+1).toNat) Γ'∧
  S.Ag (l.drop j.toNat)=1+(E.node xk xo xt xv xn xa).nodes+(E.node yk yo yt yv yn ya).nodes+S.Ag bo+S.Ag el+S.Ag (l.drop (j+1).toNat)∧
  S.A4 (l.drop j.toNat)=max (1+max (S.A4 bo) (S.A4 el)) (S.A4 (l.drop (j+1).toNat)):=by
 rw [S.A7]at c
 have g:j.toNat<l.length:=by omega
 have hd:l.drop j.toNat=l[j.toNat]::l.drop (j+1).toNat:=by
  rw [show (j+1).toNat=j.toNat+1 by omega];exact List.drop_eq_getElem_cons g
 rw [hd]at h⊢
 generalize he:l[j.toNat]=s at h⊢
 obtain ⟨k,o,t,b,nm,⟨xk,xo,xt,xv,xn,xa⟩,⟨yk,yo,yt,yv,yn,ya⟩,bo,el⟩:=s
 cases h with
 |cons c h2=>
  exact ⟨k,o,t,b,nm,xk,xo,xt,xv,xn,xa,yk,yo,yt,yv,yn,ya,bo,el,_,by rw [S.HO,List.getElem?_eq_getElem g,he];rfl,c,h2,rfl,rfl⟩
theorem DP.parts (h:DP lo pu Γ (.node k o t b nm (.node xk xo xt xv xn xa) (.node yk yo yt yv yn ya) bo el) Γ'):(∀e∈[E.node xk xo xt xv xn xa,.node yk yo yt yv yn ya],EOk Γ e)∧∃g u v z,CE g pu Γ bo v∧CE u pu Γ el z:=by
 obtain ⟨_,_,_,_,_,x,y,_,_,e,d,j,q⟩:=h.exprs
 simp only [S.node.injEq]at e
 obtain ⟨_,_,_,_,_,rfl,rfl,rfl,rfl⟩:=e
 refine ⟨fun e c=>?_,q⟩
 simp only [List.mem_cons,List.not_mem_nil,or_false]at c
 rcases c with rfl|rfl
 ·exact d
 ·exact j
theorem Bv {l:List S} {j:Int} (h:((S.Ac l).length:Int)≤j):S.Ag (l.drop j.toNat)=0∧S.A4 (l.drop j.toNat)=0∧l.drop j.toNat=[]:=by
 rw [S.A7]at h
 rw [List.drop_eq_nil_of_le (by omega)];exact ⟨rfl,rfl,rfl⟩
theorem EL.get {a:List E} (h:∀e∈a,EOk Γ e) (j:Int) (g:0≤j) (d:j<((E.Ac a).length:Int)):∃(k o t v:Int) (s:List Nat) (b:List E) (u:Int),
  (E.Ac a)[j.toNat]?=some [.int .i64 k,.int .i64 o,.int .i64 t,.str s,.int .i32 v,.list 6 (E.Ac b)]∧(k≠0→T Γ u (.node k o t v s b))∧(k≠0→(E.node k o t v s b).high≤5)∧(k=0→(E.node k o t v s b).nodes=0)∧(E.node k o t v s b).nodes+E.Ag (a.drop (j+1).toNat)=E.Ag (a.drop j.toNat):=by
 obtain ⟨k,o,t,v,s,b,g1,g2⟩:=E.get a j g d
 have c:=E.Kw g2
 rw [show j.toNat+1=(j+1).toNat by omega]at c
 rcases h _ (List.mem_of_getElem? g2)with e|⟨⟨u,hu⟩,hh⟩
 ·obtain ⟨rfl,rfl,rfl,rfl,rfl,rfl⟩:=No.of e
  exact ⟨0,0,0,0,[],[],0,g1,fun h=>absurd rfl h,fun h=>absurd rfl h,fun _=>rfl,c⟩
 ·refine ⟨k,o,t,v,s,b,u,g1,fun _=>hu,fun _=>hh,fun h=>?_,c⟩
  have:=hu.kind;omega
theorem DP.AhY (h:DP lo pu Γ (.node k o t b nm (.node xk xo xt xv xn xa) (.node yk yo yt yv yn ya) bo el) Γ') (c:k=1):o=0∧b=0∧No yk yo yt yv yn ya∧bo=[]∧el=[]∧Nm nm∧Γ nm=none∧1≤t∧t≤3∧T Γ t (.node xk xo xt xv xn xa)∧(E.node xk xo xt xv xn xa).high≤5∧Γ'=Γ.GM nm (3,t,0):=by
 rcases h.inv with hv|hv|hv|hv|hv|hv|hv|hv|hv|hv|hv
 ·exact hv.2
 ·exfalso;have:=hv.1;omega
 ·exfalso;have:=hv.1;omega
 ·exfalso;have:=hv.1;omega
 ·exfalso;have:=hv.1;omega
 ·exfalso;have:=hv.1;omega
 ·exfalso;have:=hv.1;omega
 ·exfalso;have:=hv.1;omega
 ·exfalso;have:=hv.1;omega
 ·exfalso;have:=hv.1;omega
 ·exfalso;have:=hv.1;omega
theorem DP.AhZ (h:DP lo pu Γ (.node k o t b nm (.node xk xo xt xv xn xa) (.node yk yo yt yv yn ya) bo el) Γ') (c:k=2):o=0∧t=0∧b=0∧No yk yo yt yv yn ya∧bo=[]∧el=[]∧Nm nm∧Γ'=Γ∧∃u i,Γ nm=some (3,u,i)∧T Γ u (.node xk xo xt xv xn xa)∧(E.node xk xo xt xv xn xa).high≤5:=by
 rcases h.inv with hv|hv|hv|hv|hv|hv|hv|hv|hv|hv|hv
 ·exfalso;have:=hv.1;omega
 ·exact hv.2
 ·exfalso;have:=hv.1;omega
 ·exfalso;have:=hv.1;omega
 ·exfalso;have:=hv.1;omega
 ·exfalso;have:=hv.1;omega
 ·exfalso;have:=hv.1;omega
 ·exfalso;have:=hv.1;omega
 ·exfalso;have:=hv.1;omega
 ·exfalso;have:=hv.1;omega
 ·exfalso;have:=hv.1;omega
theorem DP.Afe (h:DP lo pu Γ (.node k o t b nm (.node xk xo xt xv xn xa) (.node yk yo yt yv yn ya) bo el) Γ') (c:k=3):o=0∧t=0∧b=0∧bo=[]∧el=[]∧pu=0∧Nm nm∧Γ'=Γ∧∃u i,0≤i∧i≤4∧Γ nm=some (0,u,i)∧T Γ 1 (.node xk xo xt xv xn xa)∧T Γ u (.node yk yo yt yv yn ya)∧(E.node xk xo xt xv xn xa).high≤5∧(E.node yk yo yt yv yn ya).high≤5:=by
 rcases h.inv with hv|hv|hv|hv|hv|hv|hv|hv|hv|hv|hv
 ·exfalso;have:=hv.1;omega
 ·exfalso;have:=hv.1;omega
 ·exact hv.2
 ·exfalso;have:=hv.1;omega
 ·exfalso;have:=hv.1;omega
 ·exfalso;have:=hv.1;omega
 ·exfalso;have:=hv.1;omega
 ·exfalso;have:=hv.1;omega
 ·exfalso;have:=hv.1;omega
 ·exfalso;have:=hv.1;omega
 ·exfalso;have:=hv.1;omega
theorem DP.Aib (h:DP lo pu Γ (.node k o t b nm (.node xk xo xt xv xn xa) (.node yk yo yt yv yn ya) bo el) Γ') (c:k=4):t=0∧b=0∧bo=[]∧el=[]∧pu=0∧Nm nm∧Γ'=Γ∧∃i,(i=0∨i=2)∧Γ nm=some (0,1,i)∧(o=10∨o=17∨o=18∨o=19∨o=22∨o=23)∧T Γ 1 (.node xk xo xt xv xn xa)∧T Γ 1 (.node yk yo yt yv yn ya)∧(E.node xk xo xt xv xn xa).high≤5∧(E.node yk yo yt yv yn ya).high≤5:=by
 rcases h.inv with hv|hv|hv|hv|hv|hv|hv|hv|hv|hv|hv
 ·exfalso;have:=hv.1;omega
 ·exfalso;have:=hv.1;omega
 ·exfalso;have:=hv.1;omega
 ·exact hv.2
 ·exfalso;have:=hv.1;omega
 ·exfalso;have:=hv.1;omega
 ·exfalso;have:=hv.1;omega
 ·exfalso;have:=hv.1;omega
 ·exfalso;have:=hv.1;omega
 ·exfalso;have:=hv.1;omega
 ·exfalso;have:=hv.1;omega
theorem DP.kif (h:DP lo pu Γ (.node k o t b nm (.node xk xo xt xv xn xa) (.node yk yo yt yv yn ya) bo el) Γ') (g:k=5):o=0∧t=0∧b=0∧nm=[]∧No yk yo yt yv yn ya∧T Γ 3 (.node xk xo xt xv xn xa)∧(E.node xk xo xt xv xn xa).high≤5∧Γ'=Γ∧∃d c,CE lo pu Γ bo d∧CE lo pu Γ el c:=by
 rcases h.inv with hv|hv|hv|hv|hv|hv|hv|hv|hv|hv|hv
 ·exfalso;have:=hv.1;omega
 ·exfalso;have:=hv.1;omega
 ·exfalso;have:=hv.1;omega
 ·exfalso;have:=hv.1;omega
 ·exact hv.2
 ·exfalso;have:=hv.1;omega
 ·exfalso;have:=hv.1;omega
 ·exfalso;have:=hv.1;omega
 ·exfalso;have:=hv.1;omega
 ·exfalso;have:=hv.1;omega
 ·exfalso;have:=hv.1;omega
theorem DP.AhX (h:DP lo pu Γ (.node k o t b nm (.node xk xo xt xv xn xa) (.node yk yo yt yv yn ya) bo el) Γ') (d:k=6):o=0∧t=0∧nm=[]∧No yk yo yt yv yn ya∧el=[]∧T Γ 3 (.node xk xo xt xv xn xa)∧(E.node xk xo xt xv xn xa).high≤5∧1≤b∧b≤4∧Γ'=Γ∧∃c,CE 1 pu Γ bo c:=by
 rcases h.inv with hv|hv|hv|hv|hv|hv|hv|hv|hv|hv|hv
 ·exfalso;have:=hv.1;omega
 ·exfalso;have:=hv.1;omega
 ·exfalso;have:=hv.1;omega
 ·exfalso;have:=hv.1;omega
 ·exfalso;have:=hv.1;omega
 ·exact hv.2
 ·exfalso;have:=hv.1;omega
 ·exfalso;have:=hv.1;omega
 ·exfalso;have:=hv.1;omega
 ·exfalso;have:=hv.1;omega
 ·exfalso;have:=hv.1;omega
theorem DP.AkX (h:DP lo pu Γ (.node k o t b nm (.node xk xo xt xv xn xa) (.node yk yo yt yv yn ya) bo el) Γ') (c:k=12):(t=0∧b=0∧No yk yo yt yv yn ya∧bo=[]∧el=[]∧pu=0∧Nm nm∧Γ'=Γ∧∃u w i,Γ nm=some (3,u,i)∧1≤u∧u≤3∧((o=1∧u=1∧w=3)∨((o=2∨o=3)∧u=3∧w=3)∨((o=5∨o=6)∧u≠3∧w=u))∧T Γ w (.node xk xo xt xv xn xa)∧(E.node xk xo xt xv xn xa).high≤5)∨(o=4∧t=0∧b=0∧bo=[]∧el=[]∧pu=0∧Nm nm∧Γ'=Γ∧∃u i,Γ nm=some (3,u,i)∧1≤u∧u≤3∧T Γ u (.node xk xo xt xv xn xa)∧T Γ 1 (.node yk yo yt yv yn ya)∧(E.node xk xo xt xv xn xa).high≤5∧(E.node yk yo yt yv yn ya).high≤5):=by
 rcases h.inv with hv|hv|hv|hv|hv|hv|hv|hv|hv|hv|hv
 ·exfalso;have:=hv.1;omega
 ·exfalso;have:=hv.1;omega
 ·exfalso;have:=hv.1;omega
 ·exfalso;have:=hv.1;omega
 ·exfalso;have:=hv.1;omega
 ·exfalso;have:=hv.1;omega
 ·exfalso;have:=hv.1;omega
 ·exfalso;have:=hv.1;omega
 ·exfalso;have:=hv.1;omega
 ·exact .inl hv.2
 ·exact .inr hv.2
theorem DP.same (h:DP lo pu Γ (.node k o t b nm (.node xk xo xt xv xn xa) (.node yk yo yt yv yn ya) bo el) Γ') (c:k≠1):Γ'=Γ:=by
 rcases h.inv with hv|hv|hv|hv|hv|hv|hv|hv|hv|hv|hv
 ·exfalso;have:=hv.1;omega
 ·exact hv.2.2.2.2.2.2.2.2.1
 ·exact hv.2.2.2.2.2.2.2.2.1
 ·exact hv.2.2.2.2.2.2.2.1
 ·exact hv.2.2.2.2.2.2.2.2.1
 ·exact hv.2.2.2.2.2.2.2.2.2.2.1
 ·exact hv.2.2.2.2.2.2.2.2.2.2
 ·exact hv.2.2.2.2.2.2.2.2.2.2
 ·exact hv.2.2.2.2.2.2.2.2.2.2
 ·exact hv.2.2.2.2.2.2.2.2.1
 ·exact hv.2.2.2.2.2.2.2.2.1
theorem DP.kinds (h:DP lo pu Γ (.node k o t b nm (.node xk xo xt xv xn xa) (.node yk yo yt yv yn ya) bo el) Γ'):1≤k∧k≤12:=by
 rcases h.inv with hv|hv|hv|hv|hv|hv|hv|hv|hv|hv|hv<;>(have:=hv.1;omega)
theorem DP.Aaa (h:DP lo pu Γ (.node k o t b nm (.node xk xo xt xv xn xa) (.node yk yo yt yv yn ya) bo el) Γ'):k=7∨k=8→lo≠0:=by
 intro c
 rcases h.inv with hv|hv|hv|hv|hv|hv|hv|hv|hv|hv|hv
 ·exfalso;have:=hv.1;omega
 ·exfalso;have:=hv.1;omega
 ·exfalso;have:=hv.1;omega
 ·exfalso;have:=hv.1;omega
 ·exfalso;have:=hv.1;omega
 ·exfalso;have:=hv.1;omega
 ·exact hv.2.2.2.2.2.2.2.2.2.1
 ·exfalso;have:=hv.1;omega
 ·exfalso;have:=hv.1;omega
 ·exfalso;have:=hv.1;omega
 ·exfalso;have:=hv.1;omega
theorem DP.pure (h:DP lo pu Γ (.node k o t b nm (.node xk xo xt xv xn xa) (.node yk yo yt yv yn ya) bo el) Γ'):3≤k→k≤4∨9≤k→pu=0:=by
 intro _ c
 rcases h.inv with hv|hv|hv|hv|hv|hv|hv|hv|hv|hv|hv
 ·exfalso;have:=hv.1;omega
 ·exfalso;have:=hv.1;omega
 ·exact hv.2.2.2.2.2.2.1
 ·exact hv.2.2.2.2.2.1
 ·exfalso;have:=hv.1;omega
 ·exfalso;have:=hv.1;omega
 ·exfalso;have:=hv.1;omega
 ·exact hv.2.2.2.2.2.2.2.2.2.1
 ·exact hv.2.2.2.2.2.2.2.2.2.1
 ·exact hv.2.2.2.2.2.2.1
 ·exact hv.2.2.2.2.2.2.1
end
theorem Ud (m:List (List Nat×List PV)) (k c:List Nat) (v:List PV):BO (Bn m k v) c=if c=k then some v else BO m c:=by
 induction m with
 |nil=>
  simp only [Bn,BO]
  by_cases h:c=k
  ·subst h;simp
  ·rw [if_neg h,if_neg (fun e=>h e.symm)]
 |cons e r ih=>
  simp only [Bn]
  by_cases h:e.1=k
  ·rw [if_pos h]
   simp only [BO]
   by_cases h':c=k
   ·subst h';simp
   ·rw [if_neg (fun e=>h' e.symm),if_neg h',if_neg (fun x=>h' (x.symm.trans h))]
  ·rw [if_neg h]
   simp only [BO,ih]
   by_cases h':e.1=c
   ·rw [if_pos h',if_pos h',if_neg (fun x=>h (h'.trans x))]
   ·rw [if_neg h',if_neg h']
section
variable {Γ:Ctx} {al fl:Int} {Ar Fs:List Row} {mp:List (List Nat×List PV)}
theorem Ck.GM (h:Ck Γ al fl Ar Fs mp) {s:List Nat} {t:Int} (g:Γ s=none):Ck (Γ.GM s (3,t,0)) al fl Ar Fs (Bn mp s [PV.int .i64 3,PV.int .i64 t,PV.int .i64 0]):=by
 refine ⟨fun k=>?_,h.ha,h.hf,fun k t' i c=>?_,fun i d=>?_⟩
 ·rw [Ud]
  by_cases e:k=s
  ·subst e;rw [if_pos rfl,CM];rfl
  ·rw [if_neg e,BV e];exact h.see k
 ·by_cases e:k=s
  ·subst e;rw [CM]at c;cases c
  ·rw [BV e]at c;exact h.ar k t' i c
 ·by_cases e:[104]=s
  ·rw [←e,CM]at d;cases d
  ·rw [BV e]at d;exact h.fn i d
theorem Ck.keep {lo pu:Int} {Γ':Ctx} {k o t b xk xo xt xv yk yo yt yv:Int} {nm xn yn:List Nat} {xa ya:List E} {bo el:List S} (h:Ck Γ al fl Ar Fs mp) (hs:DP lo pu Γ (.node k o t b nm (.node xk xo xt xv xn xa) (.node yk yo yt yv yn ya) bo el) Γ') (c:k≠1):Ck Γ' al fl Ar Fs mp:=by
 have:=hs.same c
 subst this;exact h
end
theorem T.tl1 {Γ:Ctx} {t:Int} {x:E} (h:T Γ t x):TL Γ [x]:=fun e c=>by
 simp only [List.mem_cons,List.not_mem_nil,or_false]at c;subst c;exact ⟨t,h⟩
theorem T.tl2 {Γ:Ctx} {t u:Int} {x y:E} (h:T Γ t x) (g:T Γ u y):TL Γ [x,y]:=fun e c=>by
 simp only [List.mem_cons,List.not_mem_nil,or_false]at c
 rcases c with rfl|rfl
 ·exact ⟨t,h⟩
 ·exact ⟨u,g⟩
end Go.AM.K
end
section
namespace Go.AM.K
def Dl (j:Int):List (List Nat×List PV):=
 ([([97],[PV.int .i64 0,PV.int .i64 1,PV.int .i64 0]),([102],[PV.int .i64 0,PV.int .i64 2,PV.int .i64 1]),([115],[PV.int .i64 0,PV.int .i64 1,PV.int .i64 2]),([112],[PV.int .i64 0,PV.int .i64 1,PV.int .i64 3]),([98],[PV.int .i64 0,PV.int .i64 3,PV.int .i64 4])]:List (List Nat×List PV)).take j.toNat
def EI (j:Int):List (List Nat×List PV):=
 Dl 5++([([110],[PV.int .i64 2,PV.int .i64 1,PV.int .i64 0]),([116],[PV.int .i64 2,PV.int .i64 2,PV.int .i64 0]),([99],[PV.int .i64 2,PV.int .i64 3,PV.int .i64 0])]:List (List Nat×List PV)).take j.toNat
def MP:List (List Nat×List PV):=EI 3++[([104],[PV.int .i64 1,PV.int .i64 1,PV.int .i64 0])]
def HE (j:Int):List (List Nat×List PV):=
 Dl 5++([([120],[PV.int .i64 2,PV.int .i64 1,PV.int .i64 0]),([121],[PV.int .i64 2,PV.int .i64 1,PV.int .i64 0])]:List (List Nat×List PV)).take j.toNat
theorem Sl {m:List (List Nat×List PV)} {s:List Nat} (h:∀e∈m,e.1≠s):BO m s=none:=by
 induction m with
 |nil=>rfl
 |cons e r ih=>
  simp only [BO]
  rw [if_neg (h e List.mem_cons_self)]
  exact ih fun x c=>h x (List.mem_cons_of_mem _ c)
theorem Aee {Γ:Ctx} {m:List (List Nat×List PV)} (L:List (List Nat)) (j:∀s∈L,BO m s=(Γ s).map fun z=>[PV.int .i64 z.1,PV.int .i64 z.2.1,PV.int .i64 z.2.2]) (c:∀s,s∉L→Γ s=none) (k:∀e∈m,e.1∈L) (s:List Nat):
  BO m s=(Γ s).map fun z=>[PV.int .i64 z.1,PV.int .i64 z.2.1,PV.int .i64 z.2.2]:=by
 by_cases h:s∈L
 ·exact j s h
 ·rw [c s h,Sl fun e g d=>h (by rw [←d];exact k e g)];rfl
theorem Xd {s:List Nat} (h:s∉([[97],[102],[115],[112],[98]]:List (List Nat))):aΓ s=none:=by
 simp only [List.mem_cons,List.not_mem_nil,or_false,not_or]at h
 unfold aΓ
 rw [if_neg h.1,if_neg h.2.1,if_neg h.2.2.1,if_neg h.2.2.2.1,if_neg h.2.2.2.2]
theorem Rh {Γ:Ctx} {s:List Nat} {t i:Int} (g:∀s t i,Γ s=some (0,t,i)→aΓ s=some (0,t,i)) (h:Γ s=some (0,t,i)):0≤i∧i<5∧∃(nm:List Nat) (c d:Int),A0[i.toNat]?=some [.str nm,.int .i64 c,.int .i64 t,.int .i64 d]∧(i=0∨i=2→c≠3):=by
 have h:=g s t i h
 unfold aΓ at h
 repeat' split at h
 all_goals first|(cases h;done) |skip
 all_goals
  simp only [oI,Prod.mk.injEq,true_and]at h
  obtain ⟨rfl,rfl⟩:=h
 ·exact ⟨by decide,by decide,[97],1,8,rfl,fun _=>by decide⟩
 ·exact ⟨by decide,by decide,[102],1,4,rfl,fun h=>by omega⟩
 ·exact ⟨by decide,by decide,[115],2,8,rfl,fun _=>by decide⟩
 ·exact ⟨by decide,by decide,[112],3,4,rfl,fun h=>by omega⟩
 ·exact ⟨by decide,by decide,[98],2,4,rfl,fun h=>by omega⟩
theorem FT {Γ:Ctx} {s n:List Nat} {z:Int×Int×Int} (h:s≠n) (g:Γ s=none):Γ.GM n z s=none:=by rw [BV h];exact g
theorem HY {Γ:Ctx} {n s:List Nat} {z:Int×Int×Int} {t i:Int} (c:z.1≠0) (h:Γ.GM n z s=some (0,t,i)):Γ s=some (0,t,i):=by
 by_cases e:s=n
 ·subst e;rw [CM]at h;simp only [oI]at h;subst h;exact absurd rfl c
 ·rwa [BV e]at h
theorem Ck.Afl {d:List Row} {c:Int} (hf:c=d.length):Ck fΓ 5 c A0 d (HE 2):=by
 refine ⟨Aee [[97],[102],[115],[112],[98],[120],[121]] (fun s hs=>by simp only [List.mem_cons,List.not_mem_nil,or_false]at hs;rcases hs with rfl|rfl|rfl|rfl|rfl|rfl|rfl<;>rfl) (fun s hs=>?_) (by decide),rfl,hf,fun s t i h=>?_,fun i h=>?_⟩
 ·simp only [List.mem_cons,List.not_mem_nil,or_false,not_or]at hs
  refine FT hs.2.2.2.2.2.2 (FT hs.2.2.2.2.2.1 (Xd ?_))
  simp only [List.mem_cons,List.not_mem_nil,or_false,not_or]
  exact ⟨hs.1,hs.2.1,hs.2.2.1,hs.2.2.2.1,hs.2.2.2.2.1⟩
 ·exact Rh (Γ:=fΓ) (fun s t i h=>HY (by decide) (HY (by decide) h)) h
 ·have e:fΓ [104]=none:=rfl
  rw [e]at h;cases h
theorem Ww {s:List Nat} (hs:s∉([[97],[102],[115],[112],[98],[110],[116],[99]]:List (List Nat))):pΓ s=none:=by
 simp only [List.mem_cons,List.not_mem_nil,or_false,not_or]at hs
 refine FT hs.2.2.2.2.2.2.2 (FT hs.2.2.2.2.2.2.1 (FT hs.2.2.2.2.2.1 (Xd ?_)))
 simp only [List.mem_cons,List.not_mem_nil,or_false,not_or]
 exact ⟨hs.1,hs.2.1,hs.2.2.1,hs.2.2.2.1,hs.2.2.2.2.1⟩
theorem ZL {s:List Nat} {t i:Int} (h:pΓ s=some (0,t,i)):aΓ s=some (0,t,i):=HY (by decide) (HY (by decide) (HY (by decide) h))
theorem Ck.Pu {d:List Row} {c:Int} (hf:c=d.length):Ck (bΓ 0) 5 c A0 d (EI 3):=by
 have e:bΓ 0=pΓ:=rfl
 rw [e]
 refine ⟨Aee [[97],[102],[115],[112],[98],[110],[116],[99]] (fun s hs=>by simp only [List.mem_cons,List.not_mem_nil,or_false]at hs;rcases hs with rfl|rfl|rfl|rfl|rfl|rfl|rfl|rfl<;>rfl) (fun s hs=>Ww hs) (by decide),rfl,hf,fun s t i h=>Rh (Γ:=pΓ) (fun s t i h=>ZL h) h,fun i h=>?_⟩
 have e:pΓ [104]=none:=rfl
 rw [e]at h;cases h
theorem Ck.AdK {k o y w:Int} {s:List Nat} {F A:List Row}:Ck (bΓ 1) 5 1 A0 [hrow AF F k o y s w A] MP:=by
 have e:bΓ 1=pΓ.GM [104] (1,1,0):=rfl
 rw [e]
 refine ⟨Aee [[97],[102],[115],[112],[98],[110],[116],[99],[104]] (fun s hs=>by simp only [List.mem_cons,List.not_mem_nil,or_false]at hs;rcases hs with rfl|rfl|rfl|rfl|rfl|rfl|rfl|rfl|rfl<;>rfl) (fun s hs=>?_) (by decide),rfl,rfl,fun s t i h=>Rh (Γ:=pΓ.GM [104] (1,1,0)) (fun s t i h=>ZL (HY (by decide) h)) h,fun i h=>?_⟩
 ·simp only [List.mem_cons,List.not_mem_nil,or_false,not_or]at hs
  refine FT hs.2.2.2.2.2.2.2.2 (Ww ?_)
  simp only [List.mem_cons,List.not_mem_nil,or_false,not_or]
  exact ⟨hs.1,hs.2.1,hs.2.2.1,hs.2.2.2.1,hs.2.2.2.2.1,hs.2.2.2.2.2.1,hs.2.2.2.2.2.2.1,hs.2.2.2.2.2.2.2.1⟩
 ·rw [CM]at h
  simp only [oI,Prod.mk.injEq,true_and]at h
  subst h
  exact ⟨by decide,by decide,F,k,o,y,w,s,A,rfl⟩
def Hg (k:List Row):Prop:=k=[]∨∃(g:List S) (d:List E) (j:Ctx) (rk ro ry rw:Int) (c:List Nat),k=[hrow AF (S.Ac g) rk ro ry c rw (E.Ac d)]∧CE 0 1 fΓ g j∧T j 1 (.node rk ro ry rw c d)∧
 S.A4 g≤2∧S.Ag g≤160∧(E.node rk ro ry rw c d).nodes≤13∧(E.node rk ro ry rw c d).high≤5
theorem Hg.mk {F A:List Row} {k o y w:Int} {s:List Nat} (h:Jo F k o y w s A):Hg [hrow AF F k o y s w A]:=by
 obtain ⟨q,l,⟨d,rfl,j,v,z⟩,hl,g,rfl,c,x,C⟩:=h
 have u:F 3=13:=rfl
 exact .inr ⟨d,g,q,k,o,y,w,s,rfl,j,c,by omega,by omega,by omega,by omega⟩
theorem AcT {ρ:Env} {a b:ST} {x y z:Int} (h:a.den ρ=x) (g:b.den ρ=y) (r:bits .and .i64 x y=z):(ST.bin .and .i64 a b).den ρ=z:=by
 show bits .and .i64 (a.den ρ) (b.den ρ)=z
 rw [h,g];exact r
theorem Hg.list {c:List Row} (h:Hg c):c=[]∨∃F k o y w s A,c=[hrow AF F k o y s w A]:=by
 rcases h with h|⟨fb,fa,Γe,rk,ro,ry,rw,rs,h,_⟩
 ·exact .inl h
 ·exact .inr ⟨_,_,_,_,_,_,_,h⟩
end Go.AM.K
end
section
namespace Go.AM.K
theorem T.weak {Γ c:Ctx} {t:Int} {e:E} (h:T Γ t e) (hs:∀s z,Γ s=some z→c s=some z):T c t e:=by
 induction h with
 |num h1 h2 h3 h4 h5=>exact .num h1 h2 h3 h4 h5
 |id h1 h2=>exact .id h1 h2
 |var h1 h2 h3 h4 h5=>exact .var h1 h2 h3 h4 (hs _ _ h5)
 |un h1 _ ih=>exact .un h1 ih
 |bin h1 _ _ ih1 ih2=>exact .bin h1 ih1 ih2
 |cond _ _ _ ih1 ih2 ih3=>exact .cond ih1 ih2 ih3
 |load h1 h2 h3 h4 _ ih=>exact .load h1 h2 h3 (hs _ _ h4) ih
 |call h1 _ _ ih1 ih2=>exact .call (hs _ _ h1) ih1 ih2
theorem Y3 {Γ:Ctx} {m n:List Nat} {y z:Int×Int×Int} (h:m≠n):(Γ.GM m y).GM n z=(Γ.GM n z).GM m y:=by
 funext s
 by_cases h1:s=m
 ·subst h1;rw [BV h,CM,CM]
 ·by_cases h2:s=n
  ·subst h2;rw [CM,BV h1,CM]
  ·rw [BV h2,BV h1,BV h1,BV h2]
theorem C6 {Γ:Ctx} {n:List Nat} {z:Int×Int×Int} (c:Γ n=none):∀s y,Γ s=some y→Γ.GM n z s=some y:=fun _ _ h=>DT h c
mutual
theorem DP.weak {o k:Int} {Γ j:Ctx} {s:S} {n:List Nat} {z:Int×Int×Int} (g:¬Vn n) (c:Γ n=none):DP o k Γ s j→DP o k (Γ.GM n z) s (j.GM n z)∧j n=none
 |.var h1 h2 h3 h4 h5 h6=>by
  have d:∀{m:List Nat},Vn m→m≠n:=fun q e=>g (e▸q)
  refine ⟨?_,by rw [BV (fun e=>d h1 e.symm)];exact c⟩
  rw [Y3 (d h1)]
  exact .var h1 (by rw [BV (d h1)];exact h2) h3 h4 (h5.weak (C6 c)) h6
 |.set h1 h2 h3 h4=>⟨.set h1 (C6 c _ _ h2) (h3.weak (C6 c)) h4,c⟩
 |.store h1 h2 h3 h4 h5 h6 h7 h8=>⟨.store h1 h2 h3 (C6 c _ _ h4) (h5.weak (C6 c)) (h6.weak (C6 c)) h7 h8,c⟩
 |.atom h1 h2 h3 h4 h5 h6 h7 h8=>⟨.atom h1 h2 (C6 c _ _ h3) h4 (h5.weak (C6 c)) (h6.weak (C6 c)) h7 h8,c⟩
 |.ife h1 h2 h3 h4=>⟨.ife (h1.weak (C6 c)) h2 (CE.weak g c h3).1 (CE.weak g c h4).1,c⟩
 |.whl h1 h2 h3 h4 h5=>⟨.whl (h1.weak (C6 c)) h2 h3 h4 (CE.weak g c h5).1,c⟩
 |.esc h1 h2=>⟨.esc h1 h2,c⟩
 |.bar h1=>⟨.bar h1,c⟩
 |.MX h1=>⟨.MX h1,c⟩
 |.Tq h1 h2 h3 h4 h5 h6 h7=>⟨.Tq h1 (C6 c _ _ h2) h3 h4 h5 (h6.weak (C6 c)) h7,c⟩
 |.Tp h1 h2 h3 h4 h5 h6 h7 h8=>⟨.Tp h1 (C6 c _ _ h2) h3 h4 (h5.weak (C6 c)) (h6.weak (C6 c)) h7 h8,c⟩
theorem CE.weak {o k:Int} {Γ c:Ctx} {l:List S} {n:List Nat} {z:Int×Int×Int} (j:¬Vn n) (d:Γ n=none):CE o k Γ l c→CE o k (Γ.GM n z) l (c.GM n z)∧c n=none
 |.nil=>⟨.nil,d⟩
 |.cons h g=>
  have a:=DP.weak j d h
  have b:=CE.weak j a.2 g
  ⟨.cons a.1 b.1,b.2⟩
end
theorem X6:¬Vn [113,113,57]:=by
 rintro ⟨i,hi,h⟩
 have:∀i,i<24→[113,113,57]≠vn i:=by decide
 exact this i hi h
theorem AaN {c:Int}:bΓ c [113,113,57]=none:=by
 unfold bΓ
 split<;>rfl
def Dx:S:=.node 2 0 0 0 [113,113,57] (.node 1 0 1 1 [] []) E0 [] []
theorem CE.bad {Γ c:Ctx} {l:List S} (h:CE 0 0 Γ l c) (d:Γ [113,113,57]=none):CE 0 0 (Γ.GM [113,113,57] (3,1,0)) (l++[Dx]) (c.GM [113,113,57] (3,1,0))∧c [113,113,57]=none:=by
 have w:=CE.weak (z:=(3,1,0)) X6 d h
 exact ⟨w.1.snoc (.set (by decide) CM (.num (by decide) (by decide) (fun h=>absurd h (by decide)) (fun h=>absurd h (by decide)) (by decide)) (by decide)),w.2⟩
theorem AcQ {l:List S} {x:S} {j:Int} (c:j<(l.length:Int)) (d:0≤j):(S.Ac (l++[x]))[j.toNat]?=(S.Ac l)[j.toNat]?:=by
 rw [S.HP,List.getElem?_append_left (by rw [S.A7];omega)]
theorem CE.AkY {O N:Int} {Γ R:Ctx} {l:List S} {x:S} (j:Int) (h:CE O N Γ (l.drop j.toNat) R) (P:0≤j) (Q:j<(l.length:Int)):∃(k o t b:Int) (nm:List Nat) (A D y d:Int) (v:List Nat) (H:List E) (yk C z J:Int) (u:List Nat) (q:List E) (c el:List S) (M:Ctx),
  (S.Ac (l++[x]))[j.toNat]?=some [.int .i64 k,.int .i64 o,.int .i64 t,.int .i64 b,.str nm,.int .i64 A,.int .i64 D,.int .i64 y,.str v,.int .i32 d,.list 6 (E.Ac H),.int .i64 yk,.int .i64 C,.int .i64 z,.str u,.int .i32 J,.list 6 (E.Ac q),.list 19 (S.Ac c),.list 19 (S.Ac el)]∧
  DP O N Γ (.node k o t b nm (.node A D y d v H) (.node yk C z J u q) c el) M∧CE O N M (l.drop (j+1).toNat) R∧
  S.Ag (l.drop j.toNat)=1+(E.node A D y d v H).nodes+(E.node yk C z J u q).nodes+S.Ag c+S.Ag el+S.Ag (l.drop (j+1).toNat)∧
  S.A4 (l.drop j.toNat)=max (1+max (S.A4 c) (S.A4 el)) (S.A4 (l.drop (j+1).toNat)):=by
 obtain ⟨k,o,t,b,nm,A,D,y,d,v,H,yk,C,z,J,u,q,c,el,M,g1,g⟩:=h.get j P (by rw [S.A7];exact Q)
 exact ⟨k,o,t,b,nm,A,D,y,d,v,H,yk,C,z,J,u,q,c,el,M,(AcQ Q P).trans g1,g⟩
theorem Adf {l:List S}:(S.Ac (l++[Dx]))[(l.length:Int).toNat]?=some [.int .i64 2,.int .i64 0,.int .i64 0,.int .i64 0,.str [113,113,57],.int .i64 1,.int .i64 0,.int .i64 1,.str [],.int .i32 1,.list 6 [],.int .i64 0,.int .i64 0,.int .i64 0,.str [],.int .i32 0,.list 6 [],.list 19 [],.list 19 []]:=by
 rw [S.HP,Int.toNat_natCast,List.getElem?_append_right (by rw [S.A7];exact Nat.le_refl _),S.A7,Nat.sub_self];rfl
theorem Rf {l:List S}:((S.Ac (l++[Dx])).length:Int)=l.length+1:=by rw [S.A7];simp
end Go.AM.K
end
