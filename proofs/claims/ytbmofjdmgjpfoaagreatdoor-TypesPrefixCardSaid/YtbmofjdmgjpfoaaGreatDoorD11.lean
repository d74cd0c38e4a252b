/- Part 11 of the proof of TypesPrefix. -/
import Derived.Test.YtbmofjdmgjpfoaaGreatDoorD4
import Derived.Test.YtbmofjdmgjpfoaaGreatDoorD5
import Derived.Test.YtbmofjdmgjpfoaaGreatDoorD6
import Derived.Test.YtbmofjdmgjpfoaaGreatDoorD7
import Derived.Test.YtbmofjdmgjpfoaaGreatDoorD8
import Derived.Test.YtbmofjdmgjpfoaaGreatDoorD9
import Derived.Test.YtbmofjdmgjpfoaaGreatDoorD10
import Derived.KernelRfl
set_option linter.all false
section
namespace Go.Proofs.YtbmofjdmgjpfoaaGreatDoor.Am
open Go.AM
set_option maxRecDepth 100000
def Agl:List (Nat×AM.Tree):=[(2,t_2),(4,X8),(5,t_5),(6,t_6),(7,t_7),(8,t_8),(9,t_9),(10,AcK),(11,AcJ),(12,AgA),(13,Ag9),(14,AcI),(15,Ag8),(16,Ag7),(17,Ag6),(18,Ag5),(19,Ag4),(20,AcH),(21,Ag3),(22,Ag2),(23,Ag1),(24,Ag0),(25,Agz),(26,Agy),(27,Agx),(28,Agw),(29,Agv),(30,Agu),(31,Agt),(32,Ags),(33,Agr),(34,Agq),(35,Agp),(36,Ago),(37,Agn),(38,AcG),(39,AcF),(40,AcE),(41,AcD),(42,AcC),(43,AcB),(44,X7),(45,AcA),(46,X6),(47,Ac9),(48,Ac8),(49,Ac7),(50,Ac6),(51,RN),(52,Ac5),(53,Ac4),(54,Ac3),(55,Ac2),(56,Ac1),(58,Ac0),(59,Acz),(60,Acy),(62,Acx),(63,Acw),(65,Acv),(66,Acu),(68,Acs),(69,Acr),(71,Acq),(72,Acp),(75,Aco),(77,Acn),(78,Jy),(79,Ob),(80,RM),(81,Acm),(82,Acl),(83,Ack),(84,Acj),(85,Aci),(86,Ach),(87,Ej),(88,Acg),(89,Acf),(90,Ace),(91,Acd),(92,Acb),(93,Aca),(94,AbZ),(95,AbY),(96,AbX),(97,Hh),(98,AbW),(99,Km),(100,Wd),(101,Wc),(102,Lf),(103,I3),(104,F4),(105,Wb),(106,F3),(107,I2),(108,Ld),(109,Lc),(110,AdE),(111,Wa),(112,Fz),(113,OG),(114,VZ),(115,OF),(116,GS),(117,OE),(118,VY),(119,Lb),(120,OD),(121,VX),(122,VW),(123,OC),(124,Em),(125,VV),(126,VU),(127,VT),(128,VS),(129,La),(130,VR),(131,YP),(132,VQ),(133,VP),(134,VO),(135,VN),(136,VM),(137,VL),(138,VK),(139,VJ),(140,VI),(141,Ek),(142,VH),(143,VG),(144,VF),(146,VE),(147,VD),(148,VC),(149,VB)]
def trees (c:Nat):AM.Tree:=YM c Agl
theorem sc {S' S:List (Nat×AM.Spec)} {c:Nat} {sp:AM.Spec} (h:Fo c S=some sp) (hr:AM.Sub S' S):AM.Sub ((c,sp)::S') S:=YR h hr
theorem oo {T:Nat→Option Obj} (hB:NW T) {S':List (Nat×AM.Spec)} {sp:AM.Spec} {t:AM.Tree} (h:sp.ok S' (runs sp.f) t=true) (hs:AM.Sub S' SS):AM.Ab0 Tryz.prog T SS sp t:=⟨_,_,hs,AcN hB _,h⟩
theorem AfN {T:Nat→Option Obj} (hB:NW T):AM.AbH Tryz.prog T SS trees:=Abl
 ⟨oo hB Alr (sc rfl<|sc rfl<|sc rfl<|Ai),
 ⟨oo hB Alq (sc rfl<|sc rfl<|sc rfl<|sc rfl<|sc rfl<|sc rfl<|sc rfl<|sc rfl<|Ai),
 ⟨oo hB Alp (Ai),
 ⟨oo hB Alo (sc rfl<|Ai),
 ⟨oo hB Aln (sc rfl<|sc rfl<|sc rfl<|sc rfl<|Ai),
 ⟨oo hB Alm (Ai),
 ⟨oo hB All (Ai),
 ⟨oo hB Aio (sc rfl<|sc rfl<|Ai),
 ⟨oo hB Ain (sc rfl<|sc rfl<|sc rfl<|Ai),
 ⟨oo hB Aim (sc rfl<|sc rfl<|sc rfl<|sc rfl<|sc rfl<|sc rfl<|sc rfl<|sc rfl<|Ai),
 ⟨oo hB Ail (sc rfl<|sc rfl<|sc rfl<|sc rfl<|sc rfl<|sc rfl<|sc rfl<|sc rfl<|sc rfl<|sc rfl<|Ai),
 ⟨oo hB Aik (sc rfl<|sc rfl<|sc rfl<|Ai),
 ⟨oo hB Aij (sc rfl<|sc rfl<|sc rfl<|Ai),
 ⟨oo hB Aii (sc rfl<|sc rfl<|sc rfl<|sc rfl<|sc rfl<|sc rfl<|Ai),
 ⟨oo hB Aih (sc rfl<|sc rfl<|sc rfl<|Ai),
 ⟨oo hB Aig (sc rfl<|sc rfl<|sc rfl<|Ai),
 ⟨oo hB Aif (sc rfl<|Ai),
 ⟨oo hB Aie (sc rfl<|sc rfl<|sc rfl<|Ai),
 ⟨oo hB Aid (sc rfl<|sc rfl<|sc rfl<|Ai),
 ⟨oo hB Aic (sc rfl<|sc rfl<|sc rfl<|sc rfl<|sc rfl<|sc rfl<|Ai),
 ⟨oo hB Aib (sc rfl<|sc rfl<|sc rfl<|Ai),
 ⟨oo hB Aia (sc rfl<|sc rfl<|sc rfl<|Ai),
 ⟨oo hB AhZ (sc rfl<|Ai),
 ⟨oo hB AhY (sc rfl<|sc rfl<|Ai),
 ⟨oo hB AhX (sc rfl<|sc rfl<|sc rfl<|sc rfl<|Ai),
 ⟨oo hB AhW (sc rfl<|sc rfl<|sc rfl<|Ai),
 ⟨oo hB AhV (sc rfl<|sc rfl<|sc rfl<|Ai),
 ⟨oo hB AhU (sc rfl<|sc rfl<|Ai),
 ⟨oo hB AhT (sc rfl<|sc rfl<|sc rfl<|sc rfl<|Ai),
 ⟨oo hB AhS (sc rfl<|sc rfl<|sc rfl<|Ai),
 ⟨oo hB AhR (sc rfl<|sc rfl<|sc rfl<|Ai),
 ⟨oo hB AhQ (sc rfl<|sc rfl<|Ai),
 ⟨oo hB AhP (sc rfl<|Ai),
 ⟨oo hB AhO (sc rfl<|sc rfl<|Ai),
 ⟨oo hB AhN (sc rfl<|Ai),
 ⟨oo hB AhM (sc rfl<|sc rfl<|Ai),
 ⟨oo hB AhL (sc rfl<|sc rfl<|Ai),
 ⟨oo hB AhK (sc rfl<|Ai),
 ⟨oo hB AhJ (sc rfl<|Ai),
 ⟨oo hB AhI (sc rfl<|sc rfl<|Ai),
 ⟨oo hB AhH (sc rfl<|sc rfl<|sc rfl<|Ai),
 ⟨oo hB AhG (sc rfl<|Ai),
 ⟨oo hB AhF (sc rfl<|Ai),
 ⟨oo hB AhE (sc rfl<|sc rfl<|sc rfl<|sc rfl<|sc rfl<|sc rfl<|Ai),
 ⟨oo hB AhD (sc rfl<|Ai),
 ⟨oo hB AhC (sc rfl<|Ai),
 ⟨oo hB AhB (sc rfl<|sc rfl<|sc rfl<|sc rfl<|sc rfl<|sc rfl<|Ai),
 ⟨oo hB AhA (sc rfl<|sc rfl<|Ai),
 ⟨oo hB Ah9 (sc rfl<|sc rfl<|sc rfl<|Ai),
 ⟨oo hB Ah8 (sc rfl<|Ai),
 ⟨oo hB Ah7 (sc rfl<|sc rfl<|sc rfl<|Ai),
 ⟨oo hB Ah6 (sc rfl<|sc rfl<|Ai),
 ⟨oo hB Ah5 (sc rfl<|Ai),
 ⟨oo hB Ah4 (sc rfl<|sc rfl<|Ai),
 ⟨oo hB Ah3 (sc rfl<|sc rfl<|sc rfl<|Ai),
 ⟨oo hB Ah2 (sc rfl<|sc rfl<|sc rfl<|Ai),
 ⟨oo hB Ah1 (Ai),
 ⟨oo hB Ah0 (sc rfl<|sc rfl<|Ai),
 ⟨oo hB Ahz (sc rfl<|sc rfl<|sc rfl<|Ai),
 ⟨oo hB Ahy (sc rfl<|sc rfl<|Ai),
 ⟨oo hB Ahx (sc rfl<|sc rfl<|sc rfl<|Ai),
 ⟨oo hB Ahw (sc rfl<|sc rfl<|Ai),
 ⟨oo hB Ahv (Ai),
 ⟨oo hB Ahu (sc rfl<|sc rfl<|Ai),
 ⟨oo hB Aht (sc rfl<|sc rfl<|sc rfl<|Ai),
 ⟨oo hB Ahs (sc rfl<|sc rfl<|Ai),
 ⟨oo hB Ahr (sc rfl<|sc rfl<|Ai),
 ⟨oo hB Ahq (sc rfl<|sc rfl<|Ai),
 ⟨oo hB Ahp (sc rfl<|sc rfl<|Ai),
 ⟨oo hB Aho (sc rfl<|sc rfl<|sc rfl<|Ai),
 ⟨oo hB Ahn (sc rfl<|Ai),
 ⟨oo hB Ahm (sc rfl<|Ai),
 ⟨oo hB Ahl (sc rfl<|sc rfl<|Ai),
 ⟨oo hB Ahk (sc rfl<|Ai),
 ⟨oo hB Ahj (sc rfl<|Ai),
 ⟨oo hB Ahi (sc rfl<|sc rfl<|Ai),
 ⟨oo hB Ahh (sc rfl<|sc rfl<|sc rfl<|sc rfl<|sc rfl<|sc rfl<|sc rfl<|sc rfl<|sc rfl<|sc rfl<|sc rfl<|sc rfl<|sc rfl<|Ai),
 ⟨oo hB Ahg (Ai),
 ⟨oo hB Ahf (Ai),
 ⟨oo hB Ahe (Ai),
 ⟨oo hB Ahd (Ai),
 ⟨oo hB Ahc (Ai),
 ⟨oo hB Ahb (Ai),
 ⟨oo hB Aha (Ai),
 ⟨oo hB AgZ (Ai),
 ⟨oo hB AgY (Ai),
 ⟨oo hB AgX (sc rfl<|sc rfl<|sc rfl<|sc rfl<|Ai),
 ⟨oo hB AgW (sc rfl<|Ai),
 ⟨oo hB AgV (Ai),
 ⟨oo hB Afm (sc rfl<|sc rfl<|Ai),
 ⟨oo hB Afl (sc rfl<|sc rfl<|sc rfl<|sc rfl<|Ai),
 ⟨oo hB Afk (sc rfl<|sc rfl<|Ai),
 ⟨oo hB Afj (sc rfl<|Ai),
 ⟨oo hB Afi (sc rfl<|Ai),
 ⟨oo hB Afh (sc rfl<|sc rfl<|sc rfl<|Ai),
 ⟨oo hB Afg (sc rfl<|Ai),
 ⟨oo hB Aff (sc rfl<|Ai),
 ⟨oo hB Afe (sc rfl<|Ai),
 ⟨oo hB Afd (sc rfl<|sc rfl<|Ai),
 ⟨oo hB Afc (sc rfl<|sc rfl<|Ai),
 ⟨oo hB Afb (sc rfl<|sc rfl<|sc rfl<|sc rfl<|sc rfl<|Ai),
 ⟨oo hB Afa (sc rfl<|Ai),
 ⟨oo hB AeZ (sc rfl<|Ai),
 ⟨oo hB AeY (sc rfl<|Ai),
 ⟨oo hB AeX (sc rfl<|Ai),
 ⟨oo hB AeW (sc rfl<|sc rfl<|sc rfl<|sc rfl<|sc rfl<|sc rfl<|sc rfl<|sc rfl<|Ai),
 ⟨oo hB AeV (sc rfl<|Ai),
 ⟨oo hB AeU (sc rfl<|Ai),
 ⟨oo hB AeT (sc rfl<|sc rfl<|Ai),
 ⟨oo hB AeS (sc rfl<|sc rfl<|Ai),
 ⟨oo hB AeR (sc rfl<|Ai),
 ⟨oo hB AeQ (sc rfl<|sc rfl<|Ai),
 ⟨oo hB AeP (sc rfl<|sc rfl<|Ai),
 ⟨oo hB AeO (sc rfl<|sc rfl<|sc rfl<|sc rfl<|Ai),
 ⟨oo hB AeN (sc rfl<|Ai),
 ⟨oo hB AeM (sc rfl<|Ai),
 ⟨oo hB AeL (sc rfl<|Ai),
 ⟨oo hB AeK (sc rfl<|sc rfl<|Ai),
 ⟨oo hB AeJ (sc rfl<|Ai),
 ⟨oo hB AeI (sc rfl<|Ai),
 ⟨oo hB AeH (Ai),
 ⟨oo hB AeG (Ai),
 ⟨oo hB AeF (sc rfl<|Ai),
 ⟨oo hB AeE (sc rfl<|sc rfl<|Ai),
 ⟨oo hB AeD (sc rfl<|sc rfl<|sc rfl<|sc rfl<|sc rfl<|Ai),
 ⟨oo hB AeC (sc rfl<|Ai),
 ⟨oo hB AeB (sc rfl<|Ai),
 ⟨oo hB AeA (sc rfl<|Ai),
 ⟨oo hB Ae9 (sc rfl<|sc rfl<|Ai),
 ⟨oo hB Ae8 (sc rfl<|sc rfl<|Ai),
 ⟨oo hB Ae7 (sc rfl<|sc rfl<|sc rfl<|sc rfl<|Ai),
 ⟨oo hB Ae6 (sc rfl<|Ai),
 ⟨oo hB Ae5 (sc rfl<|Ai),
 ⟨oo hB Ae4 (sc rfl<|sc rfl<|Ai),
 ⟨oo hB Ae3 (sc rfl<|Ai),
 ⟨oo hB Ae2 (sc rfl<|sc rfl<|Ai),
 ⟨oo hB Ae1 (sc rfl<|Ai),
 ⟨oo hB Ae0 (sc rfl<|Ai),trivial⟩⟩⟩⟩⟩⟩⟩⟩⟩⟩⟩⟩⟩⟩⟩⟩⟩⟩⟩⟩⟩⟩⟩⟩⟩⟩⟩⟩⟩⟩⟩⟩⟩⟩⟩⟩⟩⟩⟩⟩⟩⟩⟩⟩⟩⟩⟩⟩⟩⟩⟩⟩⟩⟩⟩⟩⟩⟩⟩⟩⟩⟩⟩⟩⟩⟩⟩⟩⟩⟩⟩⟩⟩⟩⟩⟩⟩⟩⟩⟩⟩⟩⟩⟩⟩⟩⟩⟩⟩⟩⟩⟩⟩⟩⟩⟩⟩⟩⟩⟩⟩⟩⟩⟩⟩⟩⟩⟩⟩⟩⟩⟩⟩⟩⟩⟩⟩⟩⟩⟩⟩⟩⟩⟩⟩⟩⟩⟩⟩⟩⟩⟩⟩⟩⟩⟩⟩⟩
theorem good {T:Nat→Option Obj} (hB:NW T) (n:Nat):AM.Good Tryz.prog T SS (mir trees n):=SK (AfN hB) n
end Go.Proofs.YtbmofjdmgjpfoaaGreatDoor.Am
end
section
namespace Go.AM
def Dw (B:List (List PV)):Prop:=∀(i:Nat) (x:List PV),B[i]?=some x→∃n:Int,0≤n∧n≤255∧x=[.int .u8 n]
theorem Abe {B:List (List PV)} (h:Dw B) (i:Int) (o:0≤i) (k:i<B.length):∃n:Int,0≤n∧n≤255∧B[i.toNat]?=some [.int .u8 n]:=by
 have c:i.toNat<B.length:=by omega
 obtain ⟨n,g,d,j⟩:=h i.toNat _ (List.getElem?_eq_getElem c)
 exact ⟨n,g,d,by rw [List.getElem?_eq_getElem c,j]⟩
theorem Agh (e:Int) (h:(-2147483648:Int)≤e∧e≤(2147483647:Int):=by omega):IntKind.wrap .i32 e=e:=PG .i32 e h
theorem Agg (e:Int) (h:(-9223372036854775808:Int)≤e∧e≤(9223372036854775807:Int):=by omega):IntKind.wrap .i64 e=e:=PG .i64 e h
theorem AkJ (e:Int) (h:(0:Int)≤e∧e≤(255:Int):=by omega):IntKind.wrap .u8 e=e:=PG .u8 e h
end Go.AM
end
section
namespace Go.AM
theorem YE {e:Int} (h:(-9223372036854775808:Int)≤e∧e≤9223372036854775807):IntKind.wrap .i64 e=e:=Agg e h
theorem AbS {e:Int} (h:(-2147483648:Int)≤e∧e≤2147483647):IntKind.wrap .i32 e=e:=Agh e h
theorem AkI {e:Int} (h:(0:Int)≤e∧e≤255):IntKind.wrap .u8 e=e:=AkJ e h
theorem AbU {a b:Int} (h:0≤a):Int.tmod a b=a%b:=Int.tmod_eq_emod_of_nonneg h
theorem AbV {a b:Int} (h:0≤a):Int.tdiv a b=a/b:=Int.tdiv_eq_ediv_of_nonneg h
theorem kn {p:Prop} (h:p:=by first|omega|assumption|rfl|(simp only [lA,lC,lN,lT',List.length_drop,true_and,and_true];omega) |(simp only [lA,lC,lN,lT',List.length_drop,true_and,and_true]at*;omega) |(subst_vars;first|assumption|omega)):p:=h
theorem dead {p:Prop} (h:False:=by first|omega|contradiction|(simp only [lA,lC,lN,lT',List.length_drop,true_and,and_true]at*;omega)):p:=h.elim
section
variable {ρ:Env} {t a b:ST} {x y:Int}
theorem d8 (h:t.den ρ=x) (r:0≤x∧x≤255):(ST.conv .u8 t).den ρ=x:=by show IntKind.wrap .u8 (t.den ρ)=x;rw [h];exact AkI r
theorem d32 (h:t.den ρ=x) (r:(-2147483648:Int)≤x∧x≤2147483647):(ST.conv .i32 t).den ρ=x:=by show IntKind.wrap .i32 (t.den ρ)=x;rw [h];exact AbS r
theorem d64 (h:t.den ρ=x) (r:(-9223372036854775808:Int)≤x∧x≤9223372036854775807):(ST.conv .i64 t).den ρ=x:=by show IntKind.wrap .i64 (t.den ρ)=x;rw [h];exact YE r
theorem da (h:a.den ρ=x) (g:b.den ρ=y) (r:(-9223372036854775808:Int)≤x+y∧x+y≤9223372036854775807):(ST.bin .add .i64 a b).den ρ=x+y:=by show IntKind.wrap .i64 (a.den ρ+b.den ρ)=_;rw [h,g];exact YE r
theorem ds (h:a.den ρ=x) (g:b.den ρ=y) (r:(-9223372036854775808:Int)≤x-y∧x-y≤9223372036854775807):(ST.bin .sub .i64 a b).den ρ=x-y:=by show IntKind.wrap .i64 (a.den ρ-b.den ρ)=_;rw [h,g];exact YE r
theorem dm (h:a.den ρ=x) (g:b.den ρ=y) (r:(-9223372036854775808:Int)≤x*y∧x*y≤9223372036854775807):(ST.bin .mul .i64 a b).den ρ=x*y:=by show IntKind.wrap .i64 (a.den ρ*b.den ρ)=_;rw [h,g];exact YE r
theorem da2 (h:a.den ρ=x) (g:b.den ρ=y) (r:(-2147483648:Int)≤x+y∧x+y≤2147483647):(ST.bin .add .i32 a b).den ρ=x+y:=by show IntKind.wrap .i32 (a.den ρ+b.den ρ)=_;rw [h,g];exact AbS r
theorem ds2 (h:a.den ρ=x) (g:b.den ρ=y) (r:(-2147483648:Int)≤x-y∧x-y≤2147483647):(ST.bin .sub .i32 a b).den ρ=x-y:=by show IntKind.wrap .i32 (a.den ρ-b.den ρ)=_;rw [h,g];exact AbS r
theorem dm2 (h:a.den ρ=x) (g:b.den ρ=y) (r:(-2147483648:Int)≤x*y∧x*y≤2147483647):(ST.bin .mul .i32 a b).den ρ=x*y:=by show IntKind.wrap .i32 (a.den ρ*b.den ρ)=_;rw [h,g];exact AbS r
theorem dr {k:IntKind} (h:a.den ρ=x) (g:b.den ρ=y) (r:0≤x):(ST.bin .rem k a b).den ρ=x%y:=by show Int.tmod (a.den ρ) (b.den ρ)=_;rw [h,g];exact AbU r
theorem dq (h:a.den ρ=x) (g:b.den ρ=y) (r:0≤x∧-9223372036854775808≤x/y∧x/y≤9223372036854775807):(ST.bin .quo .i64 a b).den ρ=x/y:=by show IntKind.wrap .i64 (Int.tdiv (a.den ρ) (b.den ρ))=_;rw [h,g,AbV r.1];exact YE r.2
theorem Alw {i:Nat} (h:ρ.val i=x):(ST.var i).den ρ=x:=h
theorem AiH {n:Nat} (h:(n:Int)=x):(ST.lit (.ofNat n)).den ρ=x:=h
theorem dn (h:t.den ρ=x:=by repeat (first|with_reducible refine Alw ?_|with_reducible refine AiH ?_|with_reducible refine d64 ?_ ?_|with_reducible refine da ?_ ?_ ?_|with_reducible refine ds ?_ ?_ ?_|with_reducible refine dr ?_ ?_ ?_|with_reducible refine dq ?_ ?_ ?_|with_reducible refine dm ?_ ?_ ?_|with_reducible refine d32 ?_ ?_|with_reducible refine da2 ?_ ?_ ?_|with_reducible refine ds2 ?_ ?_ ?_|with_reducible refine dm2 ?_ ?_ ?_|with_reducible refine d8 ?_ ?_|exact rfl|omega)):t.den ρ=x:=h
theorem AiI {ts:List ST} {c:List Int} (h:t.den ρ=x) (g:ts.map (fun t=>t.den ρ)=c):(t::ts).map (fun t=>t.den ρ)=x::c:=by rw [List.map_cons,h,g]
theorem Alx:([]:List ST).map (fun t=>t.den ρ)=[]:=rfl
theorem vmk {τ:Db} {n:List Int} {s:List (List Nat)} {l:List (List (List PV))} {m:List (List (List Nat×List PV))} (h:τ.n.map (fun t=>t.den ρ)=n) (hs:τ.s.map (Bz ρ)=s) (hl:τ.l.map ρ.lst=l) (c:τ.m.map ρ.map=m):τ.vals ρ=⟨n,s,l,m⟩:=by
 subst h;subst hs;subst hl;subst c;rfl
theorem vn {τ:Db} {v:Ah} (h:τ.vals ρ=v:=by refine vmk ?_ rfl rfl rfl;repeat (first|with_reducible refine AiI ?_ ?_|with_reducible exact Alx|exact dn)):τ.vals ρ=v:=h
theorem Adx {k:IntKind} (h:t.den ρ=x):GZ ρ (.int k) (.int k t)=some (.int k x):=by
 have:U4 k k=true:=by cases k<;>rfl
 simp [GZ,this,h]
theorem Xm {c:CK} {sh:List CK} {a:Aa} {az9:List Aa} {p:PV} {ps:List PV} (h:GZ ρ c a=some p) (g:CB ρ sh az9=some ps):CB ρ (c::sh) (a::az9)=some (p::ps):=by simp only [CB,h,g]
theorem ZZ {sh:List CK} {a:List Aa} {az9:List (List Aa)} {p:List PV} {ps:List (List PV)} (h:CB ρ sh a=some p) (g:GX ρ sh az9=some ps):GX ρ sh (a::az9)=some (p::ps):=by simp only [GX,h,g]
theorem Aez {sh:List CK} {c:List (List Aa)} {l:List (List PV)} (h:GX ρ sh c=some l):Dy ρ sh (.els c)=some l:=h
variable {sh:List CK} {p q r:AR} {l l2 l3:List (List PV)}
theorem Fi (h:Dy ρ sh p=some l):CF ρ sh [p]=some l:=by simp [CF,h]
theorem BG (h:Dy ρ sh p=some l) (g:Dy ρ sh q=some l2):CF ρ sh [p,q]=some (l++l2):=by simp [CF,h,g]
theorem Aag (h:Dy ρ sh p=some l) (g:Dy ρ sh q=some l2) (f:Dy ρ sh r=some l3):CF ρ sh [p,q,r]=some (l++l2++l3):=by simp [CF,h,g,f]
theorem XN {i:Nat} {n:ST} {n':Int} (h:n.den ρ=n') (c:0≤n'∧n'≤((ρ.lst i).length:Int)):Dy ρ sh (.take i n)=some ((ρ.lst i).take n'.toNat):=by
 simp only [Dy,h];rw [if_pos c]
theorem pe {c:List (List Aa)} (h:Dy ρ sh (.els c)=some l:=by first|rfl|(refine Aez ?_;repeat (first|refine ZZ ?_ ?_|refine Xm ?_ ?_|exact Adx dn|rfl))):Dy ρ sh (.els c)=some l:=h
theorem pw {i:Nat} {n:ST} (x:Int) (L:List (List PV)) (h:n.den ρ=x:=by exact dn) (hl:ρ.lst i=L:=by rfl) (hx:x=(L.length:Int):=by exact kn):Dy ρ sh (.take i n)=some L:=by
 subst hl;subst hx
 simp only [Dy,h]
 rw [if_pos ⟨by omega,by omega⟩,Int.toNat_natCast,List.take_length]
theorem pt {i:Nat} {n:ST} (x:Int) (L:List (List PV)) (h:n.den ρ=x:=by exact dn) (hl:ρ.lst i=L:=by rfl) (hx:0≤x∧x≤(L.length:Int):=by exact kn):Dy ρ sh (.take i n)=some (L.take x.toNat):=by
 subst hl;exact XN h hx
end
def Ok (trees:Nat→Tree) (c:Nat) (v:Ah) (R:Out→Prop):Prop:=∃o,R o∧∀Q:Out→Prop,Q o→Ef trees c v Q
theorem Ok.of {trees:Nat→Tree} {c:Nat} {v:Ah} {R:Out→Prop} {t:Tree} (d:trees c=t) (h:t.wp (Ef trees) R v):Ok trees c v R:=by
 subst d;exact Ef.elim (SN h)
theorem Fl {c d:Prop} {g:Decidable c} {A B:Prop} (hc:c↔d) (o:d→A) (j:¬d→B):@ite Prop c g A B:=by
 split
 ·rename_i h;exact o (hc.1 h)
 ·rename_i h;exact j fun k=>h (hc.2 k)
theorem Dr {c:Prop} {d:Decidable c} {A B:Prop} (hc:c) (g:A):@ite Prop c d A B:=by rw [if_pos hc];exact g
theorem K7 {c:Prop} {d:Decidable c} {A B:Prop} (hc:¬c) (g:B):@ite Prop c d A B:=by rw [if_neg hc];exact g
section
variable {trees:Nat→Tree} {Q:Out→Prop} {t e k:Tree} {v:Ah}
abbrev W (trees:Nat→Tree) (Q:Out→Prop) (t:Tree) (v:Ah):Prop:=t.wp (Ef trees) Q v
section
variable {a b:ST} (x y:Int)
theorem lt (c:x<y→W trees Q t v) (d:¬(x<y)→W trees Q e v) (hx:a.den v.e=x:=by exact dn) (g:b.den v.e=y:=by exact dn):W trees Q (.test .lss a b t e) v:=by subst hx;subst g;exact Fl Iff.rfl c d
theorem BD (c:W trees Q t v) (hc:x<y:=by exact kn) (hx:a.den v.e=x:=by exact dn) (d:b.den v.e=y:=by exact dn):W trees Q (.test .lss a b t e) v:=by subst hx;subst d;exact Dr hc c
theorem En (c:W trees Q e v) (hc:¬(x<y):=by exact kn) (hx:a.den v.e=x:=by exact dn) (d:b.den v.e=y:=by exact dn):W trees Q (.test .lss a b t e) v:=by subst hx;subst d;exact K7 hc c
theorem le (c:x≤y→W trees Q t v) (d:¬(x≤y)→W trees Q e v) (hx:a.den v.e=x:=by exact dn) (g:b.den v.e=y:=by exact dn):W trees Q (.test .leq a b t e) v:=by subst hx;subst g;exact Fl Iff.rfl c d
theorem FA (c:W trees Q t v) (hc:x≤y:=by exact kn) (hx:a.den v.e=x:=by exact dn) (d:b.den v.e=y:=by exact dn):W trees Q (.test .leq a b t e) v:=by subst hx;subst d;exact Dr hc c
theorem gt (c:x>y→W trees Q t v) (d:¬(x>y)→W trees Q e v) (hx:a.den v.e=x:=by exact dn) (g:b.den v.e=y:=by exact dn):W trees Q (.test .gtr a b t e) v:=by subst hx;subst g;exact Fl Iff.rfl c d
theorem gtY (c:W trees Q t v) (hc:x>y:=by exact kn) (hx:a.den v.e=x:=by exact dn) (d:b.den v.e=y:=by exact dn):W trees Q (.test .gtr a b t e) v:=by subst hx;subst d;exact Dr hc c
theorem SJ (c:W trees Q e v) (hc:¬(x>y):=by exact kn) (hx:a.den v.e=x:=by exact dn) (d:b.den v.e=y:=by exact dn):W trees Q (.test .gtr a b t e) v:=by subst hx;subst d;exact K7 hc c
theorem CJ (c:W trees Q t v) (hc:x≥y:=by exact kn) (hx:a.den v.e=x:=by exact dn) (d:b.den v.e=y:=by exact dn):W trees Q (.test .geq a b t e) v:=by subst hx;subst d;exact Dr hc c
theorem Jc (c:W trees Q e v) (hc:¬(x≥y):=by exact kn) (hx:a.den v.e=x:=by exact dn) (d:b.den v.e=y:=by exact dn):W trees Q (.test .geq a b t e) v:=by subst hx;subst d;exact K7 hc c
theorem eq (c:x=y→W trees Q t v) (d:¬(x=y)→W trees Q e v) (hx:a.den v.e=x:=by exact dn) (g:b.den v.e=y:=by exact dn):W trees Q (.test .eql a b t e) v:=by subst hx;subst g;exact Fl Iff.rfl c d
theorem BI (c:W trees Q t v) (hc:x=y:=by exact kn) (hx:a.den v.e=x:=by exact dn) (d:b.den v.e=y:=by exact dn):W trees Q (.test .eql a b t e) v:=by subst hx;subst d;exact Dr hc c
theorem AQ (c:W trees Q e v) (hc:¬(x=y):=by exact kn) (hx:a.den v.e=x:=by exact dn) (d:b.den v.e=y:=by exact dn):W trees Q (.test .eql a b t e) v:=by subst hx;subst d;exact K7 hc c
theorem ne (c:x≠y→W trees Q t v) (d:¬(x≠y)→W trees Q e v) (hx:a.den v.e=x:=by exact dn) (g:b.den v.e=y:=by exact dn):W trees Q (.test .neq a b t e) v:=by subst hx;subst g;exact Fl Iff.rfl c d
theorem neY (c:W trees Q t v) (hc:x≠y:=by exact kn) (hx:a.den v.e=x:=by exact dn) (d:b.den v.e=y:=by exact dn):W trees Q (.test .neq a b t e) v:=by subst hx;subst d;exact Dr hc c
theorem BY (c:W trees Q e v) (hc:¬(x≠y):=by exact kn) (hx:a.den v.e=x:=by exact dn) (d:b.den v.e=y:=by exact dn):W trees Q (.test .neq a b t e) v:=by subst hx;subst d;exact K7 hc c
end
section
variable {i:Nat} {n':Int} {s:List Nat}
theorem sn (x n:Int) (g:x=n→W trees Q t v) (c:¬x=n→W trees Q e v) (hx:v.n.getD i 0=x:=by rfl) (d:n'=n:=by rfl):W trees Q (.A0 i n' t e) v:=by subst hx;subst d;exact Fl Iff.rfl g c
theorem Cp (x n:Int) (d:W trees Q t v) (hc:x=n:=by exact kn) (hx:v.n.getD i 0=x:=by rfl) (c:n'=n:=by rfl):W trees Q (.A0 i n' t e) v:=by subst hx;subst c;exact Dr hc d
theorem ss (x:List Nat) (c:x=s→W trees Q t v) (d:¬x=s→W trees Q e v) (hx:v.s.getD i []=x:=by rfl):W trees Q (.sets i s t e) v:=by subst hx;exact Fl Iff.rfl c d
theorem XB (x:List Nat) (c:W trees Q t v) (hc:x=s:=by first|rfl|assumption) (hx:v.s.getD i []=x:=by rfl):W trees Q (.sets i s t e) v:=by subst hx;exact Dr hc c
variable {p q:Aa}
theorem seY (x y:List Nat) (d:W trees Q t v) (hc:x=y:=by first|rfl|assumption) (hx:Bz v.e p=x:=by rfl) (c:Bz v.e q=y:=by rfl):W trees Q (.E5 p q t e) v:=by subst hx;subst c;exact Dr hc d
theorem seN (x y:List Nat) (c:W trees Q e v) (hc:¬x=y:=by first|decide|assumption) (hx:Bz v.e p=x:=by rfl) (d:Bz v.e q=y:=by rfl):W trees Q (.E5 p q t e) v:=by subst hx;subst d;exact K7 hc c
end
theorem el {l:Nat} {j:ST} {sh:List CK} {ps:List PV} {w:Ah} {j':Int} (hg:(v.l.getD l [])[j'.toNat]?=some ps) (d:W trees Q k (v.app (w.fit (HU sh)))) (c:j.den v.e=j':=by exact dn) (g:0≤j':=by exact kn) (o:CX sh ps=some w:=by rfl):W trees Q (.elem l j sh k) v:=by
 show Xg _ _ _ _
 unfold Xg
 rw [c,hg]
 simp only [o]
 exact ⟨g,d⟩
theorem ll {l:Nat} {t:ST} (x:Int) (L:List (List PV)) (c:W trees Q k v) (hx:t.den v.e=x:=by exact dn) (hl:v.l.getD l []=L:=by rfl) (h:x=(L.length:Int):=by first|rfl|exact kn):W trees Q (.Ad l t k) v:=by subst hx;subst hl;exact Dr h c
theorem sl {s d c:Nat} (S:List Nat) (g:W trees Q k (v.app {n:=[(S.length:Int)]})) (hs:v.s.getD s []=S:=by rfl) (h:d≤S.length∧S.length≤c:=by first|omega|(simp;done)):W trees Q (.BA s d c k) v:=by subst hs;exact Dr h g
theorem ca {x y:Aa} (X Y:List Nat) (d:W trees Q k (v.app {s:=[X++Y]})) (hx:Bz v.e x=X:=by rfl) (c:Bz v.e y=Y:=by rfl) (h:X.length+Y.length≤1048576:=by first|omega|(simp only [lA,lC,lN];omega) |(simp;done)):W trees Q (.cat x y k) v:=by subst hx;subst c;exact Dr h d
theorem bu {t:ST} {n:Nat} (x:Int) (c:W trees Q k (v.app {n:=[x+n]})) (hx:t.den v.e=x:=by exact dn) (h:x+n≤1048576:=by omega):W trees Q (.bump t n k) v:=by subst hx;exact Dr h c
theorem de {ps:List AR} {sh:List CK} (l:List (List PV)) (c:W trees Q k (v.app {n:=[(l.length:Int)],l:=[l]})) (h:CF v.e sh ps=some l:=by first|rfl|repeat (first|refine Fi ?_|refine BG ?_ ?_|refine Aag ?_ ?_ ?_|refine Aez ?_|refine ZZ ?_ ?_|refine Xm ?_ ?_|exact Adx dn|rfl)):W trees Q (.Az ps sh k) v:=by
 show J4 _ _
 rw [h];exact c
theorem dL {ps:List AR} {sh:List CK} (l0:List (List PV)) (c:∀l,l=l0→W trees Q k (v.app {n:=[(l.length:Int)],l:=[l]})) (h:CF v.e sh ps=some l0:=by first|rfl|repeat (first|refine Fi ?_|refine BG ?_ ?_|refine Aag ?_ ?_ ?_|refine Aez ?_|refine ZZ ?_ ?_|refine Xm ?_ ?_|exact Adx dn|rfl)):W trees Q (.Az ps sh k) v:=de l0 (c l0 rfl) h
theorem fr {z:Nat×Nat×Nat×Nat×Nat} (c:W trees Q k v):W trees Q (.BJ z k) v:=c
theorem md {c:List (Aa×List Aa)} {sh:List CK} (l:List (List Nat×List PV)) (d:W trees Q k (v.app {m:=[l]})) (h:CN v.e sh c=some l:=by rfl):W trees Q (.LM c sh k) v:=by
 show J4 _ _
 rw [h];exact d
theorem up {m:Nat} {key:Aa} {cs:List Aa} {sh:List CK} (ps:List PV) (c:W trees Q k (v.app {m:=[Bn (v.m.getD m []) (Bz v.e key) ps]})) (h:CB v.e sh cs=some ps:=by first|rfl|repeat (first|refine Xm ?_ ?_|exact Adx dn|rfl)):W trees Q (.up m key cs sh k) v:=by
 show J4 _ _
 rw [h];exact c
theorem lh {m:Nat} {key:Aa} {sh:List CK} {ps:List PV} {w:Ah} (hg:BO (v.m.getD m []) (Bz v.e key)=some ps) (c:W trees Q t (v.app (w.fit (HU sh)))) (d:CX sh ps=some w:=by rfl):W trees Q (.look m key sh t e) v:=by
 show Pe _ _ _ _ _
 unfold Pe
 rw [hg]
 simp only [d]
 exact c
theorem lm {m:Nat} {key:Aa} {sh:List CK} (hg:BO (v.m.getD m []) (Bz v.e key)=none) (c:W trees Q e v):W trees Q (.look m key sh t e) v:=by
 show Pe _ _ _ _ _
 unfold Pe
 rw [hg]
 exact c
section
variable {c alt alt':Nat} {τ:Db} {u:C4} {v' w:Ah}
theorem ch (g:∀Q:Out→Prop,Q (alt,w)→Ef trees c v' Q) (d:W trees Q k (v.app (w.fit u))) (hv:τ.vals v.e=v':=by exact vn):W trees Q (.call c alt τ u k e) v:=by
 show Ef trees c (τ.vals v.e) _
 rw [hv]
 exact g _ (by simp only [if_true];exact d)
theorem cm (j:∀Q:Out→Prop,Q (alt',w)→Ef trees c v' Q) (g:W trees Q e v) (d:alt'≠alt:=by decide) (hv:τ.vals v.e=v':=by exact vn):W trees Q (.call c alt τ u k e) v:=by
 show Ef trees c (τ.vals v.e) _
 rw [hv]
 exact j _ (by rw [if_neg d];exact g)
theorem Aj {c:List Nat} (w:Ah) (h:Q (alt,w)) (hv:τ.vals v.e=w:=by exact vn):W trees Q (.leaf alt c τ) v:=by
 show Q _
 rw [hv];exact h
end
end
def ER (c:List Int):Tree→Option (Nat×List Int)
 |.leaf a _ ⟨ts,[],[],[]⟩=>some (a,ts.map fun t=>t.den (Ah.e ⟨c,[],[],[]⟩))
 |.A0 i n t e=>if c.getD i 0=n then ER c t else ER c e
 |.test .lss a b t e=>if a.den (Ah.e ⟨c,[],[],[]⟩)<b.den (Ah.e ⟨c,[],[],[]⟩)then ER c t else ER c e
 |.test .eql a b t e=>if a.den (Ah.e ⟨c,[],[],[]⟩)=b.den (Ah.e ⟨c,[],[],[]⟩)then ER c t else ER c e
 |.test .neq a b t e=>if a.den (Ah.e ⟨c,[],[],[]⟩)≠b.den (Ah.e ⟨c,[],[],[]⟩)then ER c t else ER c e
 |_=>none
theorem Eb {trees:Nat→Tree} {Q:Out→Prop} {c:List Int} {a:Nat} {ms:List Int}:∀(t:Tree),ER c t=some (a,ms)→Q (a,⟨ms,[],[],[]⟩)→W trees Q t ⟨c,[],[],[]⟩
 |.leaf b nw ⟨ts,[],[],[]⟩,h,hq=>by
  simp only [ER,oI,Prod.mk.injEq]at h
  obtain ⟨g,d⟩:=h
  subst g;subst d;exact hq
 |.A0 i n t e,h,hq=>by
  simp only [ER]at h
  refine sn (c.getD i 0) n (fun k=>?_) fun k=>?_
  ·rw [if_pos k]at h;exact Eb t h hq
  ·rw [if_neg k]at h;exact Eb e h hq
 |.test .lss a b t e,h,hq=>by
  simp only [ER]at h
  refine lt (a.den (Ah.e ⟨c,[],[],[]⟩)) (b.den (Ah.e ⟨c,[],[],[]⟩)) (fun k=>?_) (fun k=>?_) rfl rfl
  ·rw [if_pos k]at h;exact Eb t h hq
  ·rw [if_neg k]at h;exact Eb e h hq
 |.test .eql a b t e,h,hq=>by
  simp only [ER]at h
  refine eq (a.den (Ah.e ⟨c,[],[],[]⟩)) (b.den (Ah.e ⟨c,[],[],[]⟩)) (fun k=>?_) (fun k=>?_) rfl rfl
  ·rw [if_pos k]at h;exact Eb t h hq
  ·rw [if_neg k]at h;exact Eb e h hq
 |.test .neq a b t e,h,hq=>by
  simp only [ER]at h
  refine ne (a.den (Ah.e ⟨c,[],[],[]⟩)) (b.den (Ah.e ⟨c,[],[],[]⟩)) (fun k=>?_) (fun k=>?_) rfl rfl
  ·rw [if_pos k]at h;exact Eb t h hq
  ·rw [if_neg k]at h;exact Eb e h hq
theorem Ok.num {trees:Nat→Tree} {c:Nat} {d:List Int} {R:Out→Prop} {t:Tree} {a:Nat} {ms:List Int} (j:trees c=t) (h:ER d t=some (a,ms)) (g:R (a,⟨ms,[],[],[]⟩)):Ok trees c ⟨d,[],[],[]⟩ R:=.of j (Eb t h g)
end Go.AM
end
section
namespace Go.AM.K
abbrev Rs:=List (List PV)
abbrev Mp:=List (List Nat×List PV)
abbrev v0:Ah:=⟨[],[],[],[]⟩
theorem om {p:Prop} (h:p:=by omega):p:=h
abbrev Row:=List PV
inductive E where
 |node (k o t v:Int) (s:List Nat) (a:List E)
mutual
def E.enc:E→Row
 |.node k o t v s a=>[.int .i64 k,.int .i64 o,.int .i64 t,.str s,.int .i32 v,.list 6 (E.Ab a)]
def E.Ab:List E→List Row
 |[]=>[]
 |e::l=>e.enc::E.Ab l
end
mutual
def E.nodes:E→Nat
 |.node k _ _ _ _ a=>(if k=0 then 0 else 1)+E.Ae a
def E.Ae:List E→Nat
 |[]=>0
 |e::l=>e.nodes+E.Ae l
end
mutual
def E.high:E→Nat
 |.node _ _ _ _ _ a=>1+E.BX a
def E.BX:List E→Nat
 |[]=>0
 |e::l=>max e.high (E.BX l)
end
def E0:E:=.node 0 0 0 0 [] []
theorem E.A7:∀l,(E.Ab l).length=l.length
 |[]=>rfl
 |_::l=>by simp only [E.Ab,lC,E.A7 l]
theorem E.EF:∀(l:List E) (i:Nat),(E.Ab l)[i]?=(l[i]?).map E.enc
 |[],i=>by simp [E.Ab]
 |e::l,0=>by simp [E.Ab]
 |e::l,i+1=>by simp only [E.Ab,List.getElem?_cons_succ];exact E.EF l i
theorem E.get (a:List E) (j:Int) (d:0≤j) (c:j<((E.Ab a).length:Int)):∃(k o t v:Int) (s:List Nat) (b:List E),(E.Ab a)[j.toNat]?=some [.int .i64 k,.int .i64 o,.int .i64 t,.str s,.int .i32 v,.list 6 (E.Ab b)]∧a[j.toNat]?=some (.node k o t v s b):=by
 rw [E.A7]at c
 have h:j.toNat<a.length:=by omega
 rcases he:a[j.toNat]with ⟨k,o,t,v,s,b⟩
 exact ⟨k,o,t,v,s,b,by rw [E.EF,List.getElem?_eq_getElem h,he];rfl,by rw [List.getElem?_eq_getElem h,he]⟩
theorem E.K1:∀{l:List E} {i:Nat} {e:E},l[i]?=some e→e.nodes+E.Ae (l.drop (i+1))=E.Ae (l.drop i)
 |[],i,e,h=>by simp at h
 |x::l,0,e,h=>by simp at h;subst h;simp [E.Ae]
 |x::l,i+1,e,h=>by
  simp only [List.getElem?_cons_succ]at h
  simpa using E.K1 h
theorem E.MW:∀{l:List E} {i:Nat} {e:E},l[i]?=some e→e.high≤E.BX l
 |[],i,e,h=>by simp at h
 |x::l,0,e,h=>by simp at h;subst h;simp only [E.BX];omega
 |x::l,i+1,e,h=>by
  simp only [List.getElem?_cons_succ]at h
  have:=E.MW h
  simp only [E.BX];omega
abbrev Ctx:=List Nat→Option (Int×Int×Int)
def Ctx.I1 (Γ:Ctx) (s:List Nat) (x:Int×Int×Int):Ctx:=fun n=>if n=s then some x else Γ n
theorem DR {Γ:Ctx} {s x}:Γ.I1 s x s=some x:=if_pos rfl
theorem DG {Γ:Ctx} {s x n} (h:n≠s):Γ.I1 s x n=Γ n:=if_neg h
def vn (i:Nat):List Nat:=if i<10 then [118,48+i]else [118,49+(i-10)/10,48+i%10]
def names:List (List Nat):=[[107],[97],[102],[115],[112],[98],[110],[116],[99],[104],[120],[121],[113,113,57],[113,113,56]]++(List.range 24).map vn
def Nm (s:List Nat):Prop:=s∈names
instance {s:List Nat}:Decidable (Nm s):=by unfold Nm;infer_instance
theorem Nm.len {s:List Nat} (h:Nm s):s.length≤3:=by
 have:∀s∈names,s.length≤3:=by decide
 exact this s h
theorem Nm.vn {i:Nat} (h:i<24):Nm (vn i):=by
 have:∀i,i<24→K.vn i∈names:=by decide
 exact this i h
theorem Aek {i j:Nat} (c:i<24) (d:j<24) (h:vn i=vn j):i=j:=by
 have:∀i,i<24→∀j,j<24→vn i=vn j→i=j:=by decide
 exact this i c j d h
def UnT (o t u:Int):Prop:=((o=1∨o=3)∧(t=1∨t=2)∧u=t)∨(o=2∧(t=1∨t=3)∧u=t)∨(o=4∧t=1∧u=2)∨(o=5∧t=2∧u=1)
def LQ (o t u:Int):Prop:=((o=10∨o=11∨o=22∨o=23)∧(t=1∨t=2)∧u=t)∨((o=12∨o=13∨o=14∨o=20∨o=21)∧t=1∧u=1)∨((o=15∨o=16)∧t=2∧u=2)
 ∨((o=17∨o=18∨o=19)∧(t=1∨t=3)∧u=t)∨((o=24∨o=25)∧1≤t∧t≤3∧u=3)∨((o=26∨o=27∨o=28∨o=29)∧(t=1∨t=2)∧u=3)
instance {o t u}:Decidable (UnT o t u):=by unfold UnT;infer_instance
instance {o t u}:Decidable (LQ o t u):=by unfold LQ;infer_instance
def Fx (v:Int):Prop:=∃x:Nat,x<256∧v=x*16384-100000
theorem Fx.mk {x v:Int} (c:0≤x) (d:x≤255) (h:v=x*16384-100000):Fx v:=⟨x.toNat,by omega,by omega⟩
inductive T (Γ:Ctx):Int→E→Prop
 |num {t v:Int}:1≤t→t≤3→(t=3→v=0∨v=1)→(t=2→Fx v)→-200000≤v∧v≤5000000→T Γ t (.node 1 0 t v [] [])
 |id {o:Int}:1≤o→o≤7→T Γ 1 (.node 3 o 0 0 [] [])
 |var {s:List Nat} {k t i:Int}:Nm s→(k=2∨k=3)→1≤t→t≤3→Γ s=some (k,t,i)→T Γ t (.node 2 0 0 0 s [])
 |un {o t u:Int} {a:E}:UnT o t u→T Γ t a→T Γ u (.node 4 o 0 0 [] [a])
 |bin {o t u:Int} {a b:E}:LQ o t u→T Γ t a→T Γ t b→T Γ u (.node 5 o 0 0 [] [a,b])
 |cond {t:Int} {a b c:E}:T Γ 3 a→T Γ t b→T Γ t c→T Γ t (.node 6 0 0 0 [] [a,b,c])
 |load {s:List Nat} {t i:Int} {a:E}:Nm s→1≤t→t≤3→Γ s=some (0,t,i)→T Γ 1 a→T Γ t (.node 7 0 0 0 s [a])
 |call {i:Int} {a b:E}:Γ [104]=some (1,1,i)→T Γ 1 a→T Γ 1 b→T Γ 1 (.node 8 0 0 0 [104] [a,b])
def F (d:Int):Nat:=if d≤1 then 1 else if d=2 then 4 else 13
theorem Aei (d:Int):1≤F d:=by
 unfold F
 repeat' split
 all_goals omega
theorem NU {d:Int} (g:¬d≤1) (c:d≤3):1+3*F (d-1)≤F d:=by
 have:d=2∨d=3:=by omega
 rcases this with h|h<;>subst h<;>decide
def Da (Γ:Ctx) (t d k o ty v:Int) (s:List Nat) (A:List Row):Prop:=
 ∃a:List E,A=E.Ab a∧T Γ t (.node k o ty v s a)∧(E.node k o ty v s a).nodes≤F d∧((E.node k o ty v s a).high:Int)≤2*max d 1-1
section
variable {Γ:Ctx}
theorem Da.leaf {t d k o ty v:Int} {s:List Nat} (h:T Γ t (.node k o ty v s [])):Da Γ t d k o ty v s []:=by
 refine ⟨[],rfl,h,?_,?_⟩
 ·have:=Aei d
  simp only [E.nodes,E.Ae];split<;>omega
 ·simp only [E.high,E.BX];omega
theorem Da.num {t d v:Int} (c:1≤t) (g:t≤3) (hv:t=3→v=0∨v=1) (hf:t=2→Fx v) (hb: -200000≤v∧v≤5000000):Da Γ t d 1 0 t v [] []:=.leaf (.num c g hv hf hb)
theorem Da.id {d o:Int} (g:1≤o) (c:o≤7):Da Γ 1 d 3 o 0 0 [] []:=.leaf (.id g c)
theorem Da.var {t d k i:Int} {s:List Nat} (o:Nm s) (j:k=2∨k=3) (c:1≤t) (g:t≤3) (h:Γ s=some (k,t,i)):Da Γ t d 2 0 0 0 s []:=.leaf (.var o j c g h)
theorem Da.mono {t d c k o ty v:Int} {s:List Nat} {A:List Row} (h:Da Γ t d k o ty v s A) (hd:d≤max c 1):Da Γ t c k o ty v s A:=by
 obtain ⟨a,j,g,u,q⟩:=h
 refine ⟨a,j,g,?_,by omega⟩
 have:F d≤F c:=by
  unfold F
  repeat' split
  all_goals omega
 omega
def Hg (k o ty v:Int) (s:List Nat) (A:List Row):Row:=[.int .i64 k,.int .i64 o,.int .i64 ty,.str s,.int .i32 v,.list 6 A]
theorem E3 {k o ty v:Int} {s:List Nat} {A:List Row} {a:List E} (h:A=E.Ab a):Hg k o ty v s A=(E.node k o ty v s a).enc:=by subst h;rfl
theorem Da.un {d t u o c j k q:Int} {g:List Nat} {v:List Row} (h:Da Γ t (d-1) c j k q g v) (A:UnT o t u) (C:¬d≤1) (y:d≤3):Da Γ u d 4 o 0 0 [] [Hg c j k q g v]:=by
 obtain ⟨a,D,x,J,H⟩:=h
 refine ⟨[.node c j k q g a],by simp only [E.Ab,E3 D],.un A x,?_,?_⟩
 ·have:=NU C y
  have z:¬(4:Int)=0:=by decide
  rw [E.nodes,if_neg z]
  simp only [E.Ae]at*;omega
 ·rw [E.high];simp only [E.BX]at*;omega
theorem Da.bin {d t u o k v x z A c C j:Int} {q y:List Nat} {D H:List Row} (h:Da Γ t (d-1) k v x z q D) (g:Da Γ t (d-1) A c C j y H) (P:LQ o t u) (Q:¬d≤1) (M:d≤3):
  Da Γ u d 5 o 0 0 [] [Hg k v x z q D,Hg A c C j y H]:=by
 obtain ⟨a,U,J,hn,X⟩:=h
 obtain ⟨b,R,O,Z,gh⟩:=g
 refine ⟨[.node k v x z q a,.node A c C j y b],by simp only [E.Ab,E3 U,E3 R],.bin P J O,?_,?_⟩
 ·have:=NU Q M
  have N:¬(5:Int)=0:=by decide
  rw [E.nodes,if_neg N]
  simp only [E.Ae]at*;omega
 ·rw [E.high];simp only [E.BX]at*;omega
theorem Da.call {d i k q u x y c z j:Int} {o v:List Nat} {A C:List Row} (N:¬d≤1) (H:d≤3) (O:Γ [104]=some (1,1,i)) (h:Da Γ 1 (d-1) k q u x o A) (g:Da Γ 1 (d-1) y c z j v C):
  Da Γ 1 d 8 0 0 0 [104] [Hg k q u x o A,Hg y c z j v C]:=by
 obtain ⟨a,Q,D,X,R⟩:=h
 obtain ⟨b,P,M,U,Z⟩:=g
 refine ⟨[.node k q u x o a,.node y c z j v b],by simp only [E.Ab,E3 Q,E3 P],.call O D M,?_,?_⟩
 ·have:=NU N H
  have J:¬(8:Int)=0:=by decide
  rw [E.nodes,if_neg J]
  simp only [E.Ae]at*;omega
 ·rw [E.high];simp only [E.BX]at*;omega
theorem Da.cond {d t y C D J q v M x z j o A:Int} {k H u:List Nat} {O P N:List Row} (h1:¬d≤1) (Q:d≤3) (h:Da Γ 3 (d-1) y C D J k O) (g:Da Γ t (d-1) q v M x H P) (f:Da Γ t (d-1) z j o A u N):
  Da Γ t d 6 0 0 0 [] [Hg y C D J k O,Hg q v M x H P,Hg z j o A u N]:=by
 obtain ⟨a,hA,Z,hn,hh⟩:=h
 obtain ⟨b,gA,U,gn,gh⟩:=g
 obtain ⟨c,fA,X,fn,fh⟩:=f
 refine ⟨[.node y C D J k a,.node q v M x H b,.node z j o A u c],by simp only [E.Ab,E3 hA,E3 gA,E3 fA],.cond Z U X,?_,?_⟩
 ·have:=NU h1 Q
  have R:¬(6:Int)=0:=by decide
  rw [E.nodes,if_neg R]
  simp only [E.Ae]at*;omega
 ·rw [E.high];simp only [E.BX]at*;omega
def Idx (Γ:Ctx) (d:Int) (A:List Row):Prop:=
 ∃a:List E,A=E.Ab a∧T Γ 1 (.node 5 17 0 0 [] a)∧(E.node 5 17 0 0 [] a).nodes≤2+F (d-1)∧((E.node 5 17 0 0 [] a).high:Int)≤2*max (d-1) 1
theorem Idx.mk {d n o g j k:Int} {c:List Nat} {q:List Row} (h:Da Γ 1 (d-1) o g j k c q) (hb: -200000≤n∧n≤5000000):Idx Γ d [Hg o g j k c q,Hg 1 0 1 n [] []]:=by
 obtain ⟨a,v,u,z,y⟩:=h
 refine ⟨[.node o g j k c a,.node 1 0 1 n [] []],by simp only [E.Ab,E3 v];rfl,.bin (by decide) u (.num (by decide) (by decide) (fun h=>absurd h (by decide)) (fun h=>absurd h (by decide)) hb),?_,?_⟩
 ·have x:¬(5:Int)=0:=by decide
  rw [E.nodes,if_neg x]
  have:(E.node 1 0 1 n [] []).nodes=1:=rfl
  simp only [E.Ae,this]at*;omega
 ·have:(E.node 1 0 1 n [] []).high=1:=rfl
  rw [E.high];simp only [E.BX,this]at*;omega
theorem Da.load {d t i:Int} {s:List Nat} {g:List Row} (q:¬d≤1) (u:d≤3) (hs:Nm s) (c:1≤t) (j:t≤3) (hg:Γ s=some (0,t,i)) (h:Idx Γ d g):Da Γ t d 7 0 0 0 s [Hg 5 17 0 0 [] g]:=by
 obtain ⟨a,o,k,y,x⟩:=h
 refine ⟨[.node 5 17 0 0 [] a],by simp only [E.Ab,E3 o],.load hs c j hg k,?_,?_⟩
 ·have:=NU q u
  have:=Aei (d-1)
  have v:¬(7:Int)=0:=by decide
  rw [E.nodes,if_neg v]
  simp only [E.Ae]at*;omega
 ·rw [E.high];simp only [E.BX]at*;omega
end
def PE (Γ:Ctx) (t:Int) (s:List Nat):Prop:=∃k:Int,Γ s=some (k,t,0)∧(k=2∨k=3)∧Nm s
def Amk (Γ:Ctx) (f c:Int) (V:List Row):Prop:=∀j:Int,0≤j→j<c→∃(nm:List Nat) (t:Int),V[j.toNat]?=some [.str nm,.int .i64 t]∧PE Γ t nm∧(f≤j→Γ nm=some (3,t,0))∧1≤t∧t≤3
def Ia (Γ:Ctx) (t:Int) (L:List Row):Prop:=∀j:Int,0≤j→j<(L.length:Int)→∃nm:List Nat,L[j.toNat]?=some [.str nm]∧PE Γ t nm
theorem Ia.one {Γ:Ctx} {t:Int} {s:List Nat} (h:PE Γ t s):Ia Γ t [[.str s]]:=fun j d c=>by
 simp only [lC,lN]at c
 have:j=0:=by omega
 subst this;exact ⟨s,rfl,h⟩
theorem Ia.snoc {Γ:Ctx} {t:Int} {L:List Row} {s:List Nat} (g:Ia Γ t L) (h:PE Γ t s):Ia Γ t (L++[[.str s]]):=fun j c d=>by
 simp only [lA,lC,lN]at d
 by_cases hj:j<(L.length:Int)
 ·obtain ⟨nm,g1,g2⟩:=g j c hj
  exact ⟨nm,by rw [List.getElem?_append_left om];exact g1,g2⟩
 ·have:j.toNat=L.length:=by omega
  exact ⟨s,by rw [this];simp,h⟩
structure Js (Γ:Ctx) (call:Int):Prop where
 a:Γ [97]=some (0,1,0)
 f:Γ [102]=some (0,2,1)
 s:Γ [115]=some (0,1,2)
 p:Γ [112]=some (0,1,3)
 b:Γ [98]=some (0,3,4)
 h:call=1→∃i,Γ [104]=some (1,1,i)
def G (d:Int):Int:=if d≤1 then 3 else if d=2 then 12 else 40
theorem He (d:Int):3≤G d∧G d≤40:=by
 unfold G
 repeat' split
 all_goals omega
theorem KS (d:Int) (c:d≤3):d≤1∨1+3*G (d-1)≤G d:=by
 have:d≤1∨d=2∨d=3:=by omega
 rcases this with h|h|h
 ·exact .inl h
 ·subst h;exact .inr (by decide)
 ·subst h;exact .inr (by decide)
def Tz (Γ:Ctx) (d:Int) (A:List Row):Prop:=∃I,A=[Hg 5 17 0 0 [] I]∧Idx Γ d I
section
variable {Γ:Ctx}
theorem Da.cast {t t' d k o ty v:Int} {s:List Nat} {A:List Row} (h:Da Γ t d k o ty v s A) (e:t'=t):Da Γ t' d k o ty v s A:=by subst e;exact h
theorem Da.var' {t d:Int} {s:List Nat} (h:PE Γ t s) (c:1≤t) (g:t≤3):Da Γ t d 2 0 0 0 s []:=by
 obtain ⟨k,g1,g2,g3⟩:=h
 exact .var g3 g2 c g g1
theorem Tz.mk {d:Int} {I:List Row} (h:Idx Γ d I):Tz Γ d [Hg 5 17 0 0 [] I]:=⟨I,rfl,h⟩
theorem Da.Aiq {d t i:Int} {s:List Nat} {A:List Row} (hg:Γ s=some (0,t,i)) (h:Tz Γ d A) (hs:Nm s) (g:¬d≤1) (j:d≤3) (c:1≤t∧t≤3):Da Γ t d 7 0 0 0 s A:=by
 obtain ⟨I,rfl,h⟩:=h
 exact .load g j hs c.1 c.2 hg h
theorem Da.call' {d v x y C o q D u:Int} {k A:List Nat} {j z:List Row} (J:¬d≤1) (H:d≤3) (c:∃i,Γ [104]=some (1,1,i)) (h:Da Γ 1 (d-1) v x y C k j) (g:Da Γ 1 (d-1) o q D u A z):
  Da Γ 1 d 8 0 0 0 [104] [Hg v x y C k j,Hg o q D u A z]:=by
 obtain ⟨i,c⟩:=c
 exact .call J H c h g
end
theorem PA {B:List (List PV)} (h:Dw B) (i:Int) (g:0≤i) (c:i<B.length):∃n:Int,B[i.toNat]?=some [.int .u8 n]∧0≤n∧n≤255:=by
 obtain ⟨n,j,d,k⟩:=Abe h i g c
 exact ⟨n,k,j,d⟩
structure NY (Γ:Ctx) (f bl vl count left call loads:Int) (B V:List Row):Prop where
 hB:Dw B
 hl:bl=B.length
 hvl:vl≤V.length
 Hq:0≤vl∧vl≤30
 hV:Amk Γ f vl V
 hb:Js Γ call
 hc:call=0∨call=1
 hd:loads=0∨loads=1
theorem Ai7 {p:Prop} (h:p:=by
  first
  |assumption
  |(apply Da.mono;assumption;omega)
  |(apply Da.cast;assumption;omega)
  |(refine Da.num ?_ ?_ ?_ ?_ ?_<;>first|omega|(intro h;exfalso;omega) |(intro _;refine Fx.mk (x:=_) ?_ ?_ rfl<;>omega))
  |(refine Da.id ?_ ?_<;>omega)
  |(refine Da.var' ?_ ?_ ?_<;>first|assumption|omega)
  |(apply Da.un;assumption;all_goals first|omega|decide|(unfold UnT;omega))
  |(apply Da.bin;assumption;assumption;all_goals first|omega|decide|(unfold LQ;omega))
  |(refine Da.cond ?_ ?_ ?_ ?_ ?_<;>first|assumption|omega)
  |(refine Da.call' ?_ ?_ ?_ ?_ ?_<;>first|assumption|omega|(refine Js.h (by assumption) ?_;omega))
  |(apply Da.Aiq;(first|exact Js.a (by assumption) |exact Js.f (by assumption) |exact Js.s (by assumption) |exact Js.p (by assumption) |exact Js.b (by assumption));assumption;decide;all_goals first|omega|decide)
  |(refine Idx.mk ?_ ?_;assumption;omega)
  |(refine Tz.mk ?_;assumption)
  |(refine Ia.one ?_;first|assumption|(subst_vars;assumption))
  |(refine Ia.snoc ?_ ?_<;>first|assumption|(subst_vars;assumption))
  |rfl
  |exact kn):p:=h
theorem fin {p:Prop} (h:p:=by first|exact Ai7|(subst_vars;exact Ai7)):p:=h
end Go.AM.K
end
section
namespace Go.AM.K
inductive S where
 |node (k o t b:Int) (nm:List Nat) (x y:E) (body els:List S)
mutual
def S.enc:S→Row
 |.node k o t b nm x y bo el=>.int .i64 k::.int .i64 o::.int .i64 t::.int .i64 b::.str nm::(x.enc++(y.enc++[.list 19 (S.Ab bo),.list 19 (S.Ab el)]))
def S.Ab:List S→List Row
 |[]=>[]
 |e::l=>e.enc::S.Ab l
end
mutual
def S.nodes:S→Nat
 |.node _ _ _ _ _ x y bo el=>1+x.nodes+y.nodes+S.Ae bo+S.Ae el
def S.Ae:List S→Nat
 |[]=>0
 |e::l=>e.nodes+S.Ae l
end
mutual
def S.deep:S→Nat
 |.node _ _ _ _ _ _ _ bo el=>1+max (S.Ax bo) (S.Ax el)
def S.Ax:List S→Nat
 |[]=>0
 |e::l=>max e.deep (S.Ax l)
end
theorem S.A7:∀l,(S.Ab l).length=l.length
 |[]=>rfl
 |_::l=>by simp only [S.Ab,lC,S.A7 l]
theorem S.EF:∀(l:List S) (i:Nat),(S.Ab l)[i]?=(l[i]?).map S.enc
 |[],i=>by simp [S.Ab]
 |e::l,0=>by simp [S.Ab]
 |e::l,i+1=>by simp only [S.Ab,List.getElem?_cons_succ];exact S.EF l i
theorem S.Ny:∀(l m:List S),S.Ab (l++m)=S.Ab l++S.Ab m
 |[],m=>rfl
 |e::l,m=>by simp only [List.cons_append,S.Ab,S.Ny l m]
theorem S.IV:∀(l m:List S),S.Ae (l++m)=S.Ae l+S.Ae m
 |[],m=>by simp [S.Ae]
 |e::l,m=>by simp only [List.cons_append,S.Ae,S.IV l m];omega
theorem S.KN:∀(l m:List S),S.Ax (l++m)=max (S.Ax l) (S.Ax m)
 |[],m=>by simp [S.Ax]
 |e::l,m=>by simp only [List.cons_append,S.Ax,S.KN l m];omega
def Vn (n:List Nat):Prop:=∃i:Nat,i<24∧n=vn i
theorem Vn.nm {n:List Nat} (h:Vn n):Nm n:=by obtain ⟨i,c,rfl⟩:=h;exact Nm.vn c
mutual
inductive Dv:Int→Int→Ctx→S→Ctx→Prop
 |var {lo pu Γ n t x}:Vn n→Γ n=none→1≤t→t≤3→T Γ t x→x.high≤5→Dv lo pu Γ (.node 1 0 t 0 n x E0 [] []) (Γ.I1 n (3,t,0))
 |set {lo pu Γ n t x i}:Nm n→Γ n=some (3,t,i)→T Γ t x→x.high≤5→Dv lo pu Γ (.node 2 0 0 0 n x E0 [] []) Γ
 |store {lo Γ n t x y i}:Nm n→0≤i→i≤4→Γ n=some (0,t,i)→T Γ 1 x→T Γ t y→x.high≤5→y.high≤5→Dv lo 0 Γ (.node 3 0 0 0 n x y [] []) Γ
 |atom {lo Γ n o x y i}:Nm n→i=0∨i=2→Γ n=some (0,1,i)→(o=10∨o=17∨o=18∨o=19∨o=22∨o=23)→T Γ 1 x→T Γ 1 y→x.high≤5→y.high≤5→Dv lo 0 Γ (.node 4 o 0 0 n x y [] []) Γ
 |ife {lo pu Γ x bo el Γ1 Γ2}:T Γ 3 x→x.high≤5→C8 lo pu Γ bo Γ1→C8 lo pu Γ el Γ2→Dv lo pu Γ (.node 5 0 0 0 [] x E0 bo el) Γ
 |whl {lo pu Γ x b bo Γ1}:T Γ 3 x→x.high≤5→1≤b→b≤4→C8 1 pu Γ bo Γ1→Dv lo pu Γ (.node 6 0 0 b [] x E0 bo []) Γ
 |esc {lo pu Γ k}:k=7∨k=8→lo≠0→Dv lo pu Γ (.node k 0 0 0 [] E0 E0 [] []) Γ
 |bar {lo Γ k}:k=9∨k=10→Dv lo 0 Γ (.node k 0 0 0 [] E0 E0 [] []) Γ
 |Nj {lo Γ o}:o=1∨o=2→Dv lo 0 Γ (.node 11 o 0 0 [] E0 E0 [] []) Γ
 |T9 {lo Γ n o t u x i}:Nm n→Γ n=some (3,t,i)→1≤t→t≤3→((o=1∧t=1∧u=3)∨((o=2∨o=3)∧t=3∧u=3)∨((o=5∨o=6)∧t≠3∧u=t))→T Γ u x→x.high≤5→Dv lo 0 Γ (.node 12 o 0 0 n x E0 [] []) Γ
 |T8 {lo Γ n t x y i}:Nm n→Γ n=some (3,t,i)→1≤t→t≤3→T Γ t x→T Γ 1 y→x.high≤5→y.high≤5→Dv lo 0 Γ (.node 12 4 0 0 n x y [] []) Γ
inductive C8:Int→Int→Ctx→List S→Ctx→Prop
 |nil {lo pu Γ}:C8 lo pu Γ [] Γ
 |cons {lo pu Γ s Γ1 l Γ2}:Dv lo pu Γ s Γ1→C8 lo pu Γ1 l Γ2→C8 lo pu Γ (s::l) Γ2
end
theorem C8.snoc {lo pu:Int} {Γ d c:Ctx} {l:List S} {s:S} (h:C8 lo pu Γ l d) (g:Dv lo pu d s c):C8 lo pu Γ (l++[s]) c:=by
 induction l generalizing Γ with
 |nil=>cases h;exact .cons g .nil
 |cons x l ih=>cases h with|cons a b=>exact .cons a (ih b)
abbrev Be (k o t b:Int) (nm:List Nat) (u x g:Int) (q:List Nat) (v:Int) (X:List Row) (yk y c:Int) (j:List Nat) (d:Int) (Y:List Row) (B L:List Row):Row:=
 [.int .i64 k,.int .i64 o,.int .i64 t,.int .i64 b,.str nm,.int .i64 u,.int .i64 x,.int .i64 g,.str q,.int .i32 v,.list 6 X,.int .i64 yk,.int .i64 y,.int .i64 c,.str j,.int .i32 d,.list 6 Y,.list 19 B,.list 19 L]
def Ei (lo pu D:Int) (Γ Γ':Ctx) (left left':Int) (c:Row):Prop:=∃s:S,c=s.enc∧Dv lo pu Γ s Γ'∧(s.nodes:Int)+40*left'≤40*left∧(s.deep:Int)≤D
def AZ (lo pu D:Int) (Γ Γ':Ctx) (left left':Int) (R:List Row):Prop:=∃l:List S,R=S.Ab l∧C8 lo pu Γ l Γ'∧(S.Ae l:Int)+40*left'≤40*left∧(S.Ax l:Int)≤D
def IG (lo pu D:Int) (Γ:Ctx) (left left':Int) (R:List Row):Prop:=∃Γ',AZ lo pu D Γ Γ' left left' R
section
variable {lo pu D left left':Int} {Γ Γ':Ctx}
theorem AZ.nil (h:0≤D∧left'≤left):AZ lo pu D Γ Γ left left' []:=⟨[],rfl,.nil,by simp only [S.Ae];omega,by simp only [S.Ax];omega⟩
theorem AZ.snoc {c:Ctx} {d:Int} {R:List Row} {r:Row} (h:AZ lo pu D Γ c left d R) (g:Ei lo pu D c Γ' d left' r):AZ lo pu D Γ Γ' left left' (R++[r]):=by
 obtain ⟨l,rfl,j,k,o⟩:=h
 obtain ⟨s,rfl,g1,g2,g3⟩:=g
 refine ⟨l++[s],by rw [S.Ny];rfl,j.snoc g1,?_,?_⟩
 ·rw [S.IV];simp only [S.Ae];omega
 ·rw [S.KN];simp only [S.Ax];omega
theorem AZ.one {r:Row} (g:Ei lo pu D Γ Γ' left left' r) (h:0≤D):AZ lo pu D Γ Γ' left left' [r]:=(AZ.nil (left':=left) ⟨h,Int.le_refl _⟩).snoc g
theorem AZ.mono {g c d:Int} {R:List Row} (h:AZ lo pu D Γ Γ' left left' R) (hd:D≤g∧left-left'≤c-d):AZ lo pu g Γ Γ' c d R:=by
 obtain ⟨l,k,j,o,q⟩:=h
 exact ⟨l,k,j,by omega,by omega⟩
theorem IG.mk {R:List Row} (h:AZ lo pu D Γ Γ' left left' R):IG lo pu D Γ left left' R:=⟨_,h⟩
theorem IG.nil (h:0≤D∧left'≤left):IG lo pu D Γ left left' []:=⟨_,AZ.nil h⟩
theorem JU {Γ:Ctx} {t d k o ty v:Int} {s:List Nat} {A:List Row} (h:Da Γ t d k o ty v s A) (hd:d≤3):∃x:E,Hg k o ty v s A=x.enc∧T Γ t x∧x.nodes≤13∧x.high≤5:=by
 obtain ⟨a,rfl,c,j,g⟩:=h
 refine ⟨_,rfl,c,?_,by omega⟩
 have:F d≤13:=by
  unfold F
  repeat' split
  all_goals omega
 omega
theorem AdN {Γ:Ctx} {A:List Row} (h:Idx Γ 3 A):∃x:E,Hg 5 17 0 0 [] A=x.enc∧T Γ 1 x∧x.nodes≤6∧x.high≤4:=by
 obtain ⟨a,rfl,c,g,d⟩:=h
 refine ⟨_,rfl,c,?_,by omega⟩
 have:F (3-1)=4:=by decide
 omega
theorem Eh:E0.nodes=0:=rfl
section
variable {k o t v k2 o2 t2 v2:Int} {s s2 n:List Nat} {A A2:List Row} {u d d2:Int}
theorem Ei.var (h:Da Γ u d k o t v s A) (q:Vn n) (hg:Γ n=none) (c:d≤3∧1≤u∧u≤3∧1≤D∧left'+1≤left):Ei lo pu D Γ (Γ.I1 n (3,u,0)) left left' (Be 1 0 u 0 n k o t s v A 0 0 0 [] 0 [] [] []):=by
 obtain ⟨x,e,g,hx,j⟩:=JU h c.1
 refine ⟨.node 1 0 u 0 n x E0 [] [],?_,.var q hg c.2.1 c.2.2.1 g j,?_,?_⟩
 ·rw [S.enc,←e];rfl
 ·simp only [S.nodes,S.Ae,Eh];omega
 ·simp only [S.deep,S.Ax];omega
theorem Ei.set {i:Int} (h:Da Γ u d k o t v s A) (q:Nm n) (hg:Γ n=some (3,u,i)) (j:d≤3∧1≤D∧left'+1≤left):Ei lo pu D Γ Γ left left' (Be 2 0 0 0 n k o t s v A 0 0 0 [] 0 [] [] []):=by
 obtain ⟨x,e,c,hx,g⟩:=JU h j.1
 refine ⟨.node 2 0 0 0 n x E0 [] [],?_,.set q hg c g,?_,?_⟩
 ·rw [S.enc,←e];rfl
 ·simp only [S.nodes,S.Ae,Eh];omega
 ·simp only [S.deep,S.Ax];omega
theorem Ei.store {i:Int} (h:Idx Γ 3 A) (g:Da Γ u d k2 o2 t2 v2 s2 A2) (z:Nm n) (hg:Γ n=some (0,u,i)) (q:pu=0) (c:0≤i∧i≤4) (v:d≤3∧1≤D∧left'+1≤left):Ei lo pu D Γ Γ left left' (Be 3 0 0 0 n 5 17 0 [] 0 A k2 o2 t2 s2 v2 A2 [] []):=by
 obtain ⟨x,e,j,hx,H⟩:=AdN h
 obtain ⟨y,k,C,J,o⟩:=JU g v.1
 subst q
 refine ⟨.node 3 0 0 0 n x y [] [],?_,.store z c.1 c.2 hg j C om o,?_,?_⟩
 ·rw [S.enc,←e,←k];rfl
 ·simp only [S.nodes,S.Ae];omega
 ·simp only [S.deep,S.Ax];omega
theorem Ei.atom {i:Int} (h:Idx Γ 3 A) (g:Da Γ 1 d k2 o2 t2 v2 s2 A2) (u:Nm n) (hg:Γ n=some (0,1,i)) (j:i=0∨i=2) (z:o=10∨o=17∨o=18∨o=19∨o=22∨o=23) (q:pu=0) (H:d≤3∧1≤D∧left'+1≤left):Ei lo pu D Γ Γ left left' (Be 4 o 0 0 n 5 17 0 [] 0 A k2 o2 t2 s2 v2 A2 [] []):=by
 obtain ⟨x,e,c,hx,J⟩:=AdN h
 obtain ⟨y,k,v,M,C⟩:=JU g H.1
 subst q
 refine ⟨.node 4 o 0 0 n x y [] [],?_,.atom u j hg z c v om C,?_,?_⟩
 ·rw [S.enc,←e,←k];rfl
 ·simp only [S.nodes,S.Ae];omega
 ·simp only [S.deep,S.Ax];omega
theorem Ei.ife {D1 D2 c g a2 b2:Int} {B L:List Row} (h:Da Γ 3 d k o t v s A) (hb:IG lo pu D1 Γ c g B) (y:IG lo pu D2 Γ a2 b2 L) (C:d≤3∧D1+1≤D∧D2+1≤D∧1+left'+(c-g)+(a2-b2)≤left):Ei lo pu D Γ Γ left left' (Be 5 0 0 0 [] k o t s v A 0 0 0 [] 0 [] B L):=by
 obtain ⟨x,e,j,hx,q⟩:=JU h C.1
 obtain ⟨J,H,rfl,z,O,M⟩:=hb
 obtain ⟨N,u,rfl,g1,g2,g3⟩:=y
 refine ⟨.node 5 0 0 0 [] x E0 H u,?_,.ife j q z g1,?_,?_⟩
 ·rw [S.enc,←e];rfl
 ·simp only [S.nodes,Eh];omega
 ·simp only [S.deep];omega
theorem Ei.whl {D1 g j b:Int} {B:List Row} (h:Da Γ 3 d k o t v s A) (hb:IG 1 pu D1 Γ g j B) (c:d≤3∧D1+1≤D∧1≤D∧1+left'+(g-j)≤left∧1≤b∧b≤4):Ei lo pu D Γ Γ left left' (Be 6 0 0 b [] k o t s v A 0 0 0 [] 0 [] B []):=by
 obtain ⟨x,e,q,hx,u⟩:=JU h c.1
 obtain ⟨C,z,rfl,y,J,H⟩:=hb
 refine ⟨.node 6 0 0 b [] x E0 z [],?_,.whl q u c.2.2.2.2.1 c.2.2.2.2.2 y,?_,?_⟩
 ·rw [S.enc,←e];rfl
 ·simp only [S.nodes,S.Ae,Eh];omega
 ·simp only [S.deep,S.Ax];omega
theorem Ei.esc (c:k=7∨k=8) (hl:lo≠0) (d:1≤D∧left'+1≤left):Ei lo pu D Γ Γ left left' (Be k 0 0 0 [] 0 0 0 [] 0 [] 0 0 0 [] 0 [] [] []):=
 ⟨.node k 0 0 0 [] E0 E0 [] [],rfl,.esc c hl,by simp only [S.nodes,S.Ae,Eh];omega,by simp only [S.deep,S.Ax];omega⟩
theorem Ei.bar (c:k=9∨k=10) (d:pu=0) (g:1≤D∧left'+1≤left):Ei lo pu D Γ Γ left left' (Be k 0 0 0 [] 0 0 0 [] 0 [] 0 0 0 [] 0 [] [] []):=by
 subst d
 exact ⟨.node k 0 0 0 [] E0 E0 [] [],rfl,.bar c,by simp only [S.nodes,S.Ae,Eh];omega,by simp only [S.deep,S.Ax];omega⟩
theorem Ei.Nj (c:o=1∨o=2) (d:pu=0) (g:1≤D∧left'+1≤left):Ei lo pu D Γ Γ left left' (Be 11 o 0 0 [] 0 0 0 [] 0 [] 0 0 0 [] 0 [] [] []):=by
 subst d
 exact ⟨.node 11 o 0 0 [] E0 E0 [] [],rfl,.Nj c,by simp only [S.nodes,S.Ae,Eh];omega,by simp only [S.deep,S.Ax];omega⟩
theorem Ei.T9 {w i op:Int} (h:Da Γ w d k o t v s A) (y:Nm n) (hg:Γ n=some (3,u,i)) (z:(op=1∧u=1∧w=3)∨((op=2∨op=3)∧u=3∧w=3)∨((op=5∨op=6)∧u≠3∧w=u)) (q:pu=0) (c:d≤3∧1≤D∧left'+1≤left∧1≤u∧u≤3):Ei lo pu D Γ Γ left left' (Be 12 op 0 0 n k o t s v A 0 0 0 [] 0 [] [] []):=by
 obtain ⟨x,e,g,hx,j⟩:=JU h c.1
 subst q
 refine ⟨.node 12 op 0 0 n x E0 [] [],?_,.T9 y hg c.2.2.2.1 c.2.2.2.2 z g j,?_,?_⟩
 ·rw [S.enc,←e];rfl
 ·simp only [S.nodes,S.Ae,Eh];omega
 ·simp only [S.deep,S.Ax];omega
theorem Ei.T8 {i:Int} (h:Da Γ u d k o t v s A) (g:Da Γ 1 d2 k2 o2 t2 v2 s2 A2) (J:Nm n) (hg:Γ n=some (3,u,i)) (H:pu=0) (c:d≤3∧d2≤3∧1≤D∧left'+1≤left∧1≤u∧u≤3):Ei lo pu D Γ Γ left left' (Be 12 4 0 0 n k o t s v A k2 o2 t2 s2 v2 A2 [] []):=by
 obtain ⟨x,e,j,hx,q⟩:=JU h c.1
 obtain ⟨y,z,M,N,C⟩:=JU g c.2.1
 subst H
 refine ⟨.node 12 4 0 0 n x y [] [],?_,.T8 J hg c.2.2.2.2.1 c.2.2.2.2.2 j M q C,?_,?_⟩
 ·rw [S.enc,←e,←z];rfl
 ·simp only [S.nodes,S.Ae];omega
 ·simp only [S.deep,S.Ax];omega
end
theorem Ei.mono {g c d:Int} {r:Row} (h:Ei lo pu D Γ Γ' left left' r) (hd:D≤g∧left-left'≤c-d):Ei lo pu g Γ Γ' c d r:=by
 obtain ⟨s,k,j,o,q⟩:=h
 exact ⟨s,k,j,by omega,by omega⟩
end
structure MS (E:Bool) (Γ:Ctx) (f K M bl pos vl count left call loads:Int) (B V:List Row):Prop where
 m:NY Γ f bl vl count left call loads B V
 fr:∀i:Nat,count≤i→i<24→Γ (vn i)=none
 c0:0≤count
 cl:count+left≤K
 l0:0≤left
 vc:vl≤count+3
 p0:0≤pos
 p1:pos+300*left≤M
 f0:0≤f
 kk:K≤16∧M≤20000
 ex:E=true→vl=V.length
theorem NY.at_ {Γ:Ctx} {f bl vl count left call loads:Int} {B V:List Row} (h:NY Γ f bl vl count left call loads B V) (c l:Int):NY Γ f bl vl c l call loads B V:=⟨h.hB,h.hl,h.hvl,h.Hq,h.hV,h.hb,h.hc,h.hd⟩
section
variable {E:Bool} {Γ:Ctx} {f K M bl pos vl count left call loads:Int} {B V:List Row}
theorem MS.mv {c left':Int} (h:MS E Γ f K M bl pos vl count left call loads B V) (k:0≤c∧0≤left'∧left'≤left∧c+300*left'≤M:=by exact kn):MS E Γ f K M bl c vl count left' call loads B V:=
 ⟨h.m.at_ _ _,h.fr,h.c0,by have:=h.cl;omega,k.2.1,h.vc,k.1,k.2.2.2,h.f0,h.kk,h.ex⟩
theorem MS.Fy (h:MS E Γ f K M bl pos vl count left call loads B V) (c l:Int):NY Γ f bl vl c l call loads B V:=h.m.at_ _ _
theorem DS {Γ:Ctx} {n s:List Nat} {x z:Int×Int×Int} (h:Γ n=some z) (g:Γ s=none):Γ.I1 s x n=some z:=by
 rw [DG];exact h
 intro e;subst e;rw [g]at h;cases h
def Ext (vl:Int) (V c:List Row):Prop:=∀j:Int,0≤j→j<vl→c[j.toNat]?=V[j.toNat]?
theorem Ext.refl:Ext vl V V:=fun _ _ _=>rfl
theorem Ext.trans {c:Int} {V1 V2:List Row} (h:Ext vl V V1) (g:Ext c V1 V2) (hv:vl≤c):Ext vl V V2:=fun j d k=>(g j d om).trans (h j d k)
theorem Ext.more {W:List Row} (h:0≤vl∧vl≤V.length):Ext vl V (V.take vl.toNat++W):=fun j d c=>by
 rw [List.getElem?_append_left (by rw [lT'];omega),List.getElem?_take,if_pos om]
theorem MS.more {d t:Int} {n:List Nat} (h:MS E Γ f K M bl pos vl count left call loads B V) (C:n=vn count.toNat) (v:1≤t∧t≤3) (X:count+left+1≤K)
  (k:0≤left∧0≤d∧d+300*left≤M):MS false (Γ.I1 n (3,t,0)) f K M bl d ((V.take vl.toNat++[[PV.str n,PV.int .i64 t]]).length:Nat) (count+1) left call loads B (V.take vl.toNat++[[PV.str n,PV.int .i64 t]]):=by
 subst C
 have aa:=h.c0;have Z:=h.vc;have q:=h.m.Hq;have hvl:=h.m.hvl;have U:=h.l0;have z:=h.kk
 have c:Γ (vn count.toNat)=none:=h.fr _ om om
 have o:((V.take vl.toNat++[[PV.str (vn count.toNat),PV.int .i64 t]]).length:Int)=vl+1:=by
  simp only [lA,lC,lN,lT'];omega
 rw [o]
 refine ⟨⟨h.m.hB,h.m.hl,by omega,by omega,?_,?_,h.m.hc,h.m.hd⟩,?_,by omega,by omega,by omega,by omega,k.2.1,k.2.2,h.f0,z,fun e=>by cases e⟩
 ·intro j y hj
  by_cases hjv:j<vl
  ·obtain ⟨nm,u,g1,⟨kk,g2,g3,N⟩,H,J,Q⟩:=h.m.hV j y hjv
   exact ⟨nm,u,(Ext.more ⟨q.1,hvl⟩ j y hjv).trans g1,⟨kk,DS g2 c,g3,N⟩,fun hf=>DS (H hf) c,J,Q⟩
  ·have:j=vl:=by omega
   subst this
   refine ⟨vn count.toNat,t,?_,⟨3,DR,.inr rfl,Nm.vn om⟩,fun _=>DR,v.1,v.2⟩
   rw [List.getElem?_append_right (by rw [lT'];omega),lT',show j.toNat-min j.toNat V.length=0 by omega];rfl
 ·obtain ⟨O,A,bs,R,P,D⟩:=h.m.hb
  exact ⟨DS O c,DS A c,DS bs c,DS R c,DS P c,fun hc=>let ⟨i,x⟩:=D hc;⟨i,DS x c⟩⟩
 ·intro i x g
  rw [DG]
  ·exact h.fr i om g
  ·intro e
   have:=Aek g om e
   omega
theorem MS.Aam {c t:Int} {n:List Nat} (h:MS true Γ f K M bl pos vl count left call loads B V) (g:n=vn count.toNat) (j:1≤t∧t≤3) (d:count+left+1≤K)
  (k:0≤left∧0≤c∧c+300*left≤M):MS false (Γ.I1 n (3,t,0)) f K M bl c ((V++[[PV.str n,PV.int .i64 t]]).length:Nat) (count+1) left call loads B (V++[[PV.str n,PV.int .i64 t]]):=by
 have e:V.take vl.toNat=V:=List.take_of_length_le (by have:=h.ex rfl;omega)
 have:=h.more g j d k
 rw [e]at this;exact this
theorem Ext.Aam {W:List Row} (h:vl=V.length):Ext vl V (V++W):=fun j d c=>by rw [List.getElem?_append_left om]
theorem MS.back {y:Bool} {x:Ctx} {k o c d:Int} {V1:List Row} (h:MS E Γ f K M bl pos vl count left call loads B V) (g:MS y x f K M bl k o c d call loads B V1) (hx:Ext vl V V1) (hc:count≤c∧vl≤o):MS false Γ f K M bl k vl c d call loads B V1:=
 ⟨⟨h.m.hB,h.m.hl,by have:=g.m.hvl;omega,h.m.Hq,fun j q v=>by
   obtain ⟨nm,u,g1,g2⟩:=h.m.hV j q v
   exact ⟨nm,u,(hx j q v).trans g1,g2⟩,h.m.hb,h.m.hc,h.m.hd⟩,fun i A z=>h.fr i om z,g.c0,g.cl,g.l0,by have:=h.vc;omega,g.p0,g.p1,h.f0,h.kk,fun e=>by cases e⟩
theorem Ei.decl {lo pu D l left' k o t v d u:Int} {s n:List Nat} {A:List Row} (c:MS E Γ f K M bl pos vl count left call loads B V) (h:Da Γ u d k o t v s A) (g:n=vn count.toNat) (j:d≤3∧1≤u∧u≤3∧1≤D∧left'+1≤l):Ei lo pu D Γ (Γ.I1 n (3,u,0)) l left' (Be 1 0 u 0 n k o t s v A 0 0 0 [] 0 [] [] []):=by
 have x:=c.c0;have z:=c.cl;have y:=c.l0;have q:=c.kk
 subst g
 exact .var h ⟨count.toNat,by omega,rfl⟩ (c.fr _ om om) j
end
theorem Ai6 {p:Prop} (h:p:=by
  first
  |assumption
  |(apply Ei.mono;assumption;omega)
  |(apply AZ.mono;assumption;omega)
  |(apply Ei.set (d:=3);assumption;assumption;assumption;omega)
  |(apply Ei.store (d:=3);assumption;assumption;decide;(first|exact Js.a (by assumption) |exact Js.f (by assumption) |exact Js.s (by assumption) |exact Js.p (by assumption) |exact Js.b (by assumption));all_goals omega)
  |(apply Ei.atom (d:=3);assumption;assumption;decide;(first|exact Js.a (by assumption) |exact Js.s (by assumption));all_goals omega)
  |(refine Ei.esc ?_ ?_ ?_<;>omega)
  |(refine Ei.bar ?_ ?_ ?_<;>omega)
  |(refine Ei.Nj ?_ ?_ ?_<;>omega)
  |(apply Ei.T9 (d:=3);assumption;assumption;assumption;all_goals omega)
  |(apply Ei.T8 (d:=2) (d2:=2);assumption;assumption;assumption;assumption;all_goals omega)
  |(apply Ei.ife (d:=3);assumption;assumption;(first|assumption|(apply IG.nil (D:=0) (left:=0) (left':=0);exact ⟨Int.le_refl 0,Int.le_refl 0⟩));omega)
  |(apply Ei.whl (d:=3);assumption;assumption;omega)
  |exact Ext.refl
  |(apply Ext.trans;assumption;assumption;omega)
  |(apply Ext.trans;assumption;apply Ext.trans;assumption;assumption;all_goals omega)
  |exact kn):p:=h
theorem AE {p:Prop} (h:p:=by first|exact Ai6|(subst_vars;exact Ai6)):p:=h
end Go.AM.K
end
section
namespace Go.AM.K
def aΓ:Ctx:=fun s=>if s=[97]then some (0,1,0)else if s=[102]then some (0,2,1)else if s=[115]then some (0,1,2)else if s=[112]then some (0,1,3)else if s=[98]then some (0,3,4)else none
def fΓ:Ctx:=(aΓ.I1 [120] (2,1,0)).I1 [121] (2,1,0)
def pΓ:Ctx:=((aΓ.I1 [110] (2,1,0)).I1 [116] (2,2,0)).I1 [99] (2,3,0)
def bΓ (call:Int):Ctx:=if call=1 then pΓ.I1 [104] (1,1,0)else pΓ
def A4:List Row:=[[.str [97],.int .i64 1,.int .i64 1,.int .i64 8],[.str [102],.int .i64 1,.int .i64 2,.int .i64 4],[.str [115],.int .i64 2,.int .i64 1,.int .i64 8],[.str [112],.int .i64 3,.int .i64 1,.int .i64 4],[.str [98],.int .i64 2,.int .i64 3,.int .i64 4]]
def Au:List Row:=[[.str [110],.int .i64 1],[.str [116],.int .i64 2],[.str [99],.int .i64 3]]
def AH:List Row:=[[.str [120],.int .i64 1],[.str [121],.int .i64 1]]
theorem Ai2 {i:Nat} (h:i<24):fΓ (vn i)=none:=by
 have:∀i,i<24→fΓ (vn i)=none:=by decide
 exact this i h
theorem Ajz {c:Int} {i:Nat} (h:i<24):bΓ c (vn i)=none:=by
 have g:∀i,i<24→pΓ (vn i)=none:=by decide
 have d:∀i,i<24→(pΓ.I1 [104] (1,1,0)) (vn i)=none:=by decide
 unfold bΓ
 split
 ·exact d i h
 ·exact g i h
section
variable {B:List Row} {bl pos count call:Int}
theorem MS.Af2 (hB:Dw B) (hl:bl=B.length) (h:0≤pos∧pos≤100):MS true fΓ 2 4 1400 bl pos 2 0 4 0 0 B [[PV.str [120],PV.int .i64 1],[PV.str [121],PV.int .i64 1]]:=by
 refine ⟨⟨hB,hl,by decide,by decide,?_,⟨rfl,rfl,rfl,rfl,rfl,fun h=>by cases h⟩,.inl rfl,.inl rfl⟩,fun i _ c=>Ai2 c,by decide,by decide,by decide,by decide,h.1,by omega,by decide,by decide,fun _=>rfl⟩
 intro j g d
 have:j=0∨j=1:=by omega
 rcases this with rfl|rfl
 ·exact ⟨[120],1,rfl,⟨2,rfl,.inl rfl,by decide⟩,fun h=>absurd h (by decide),by decide,by decide⟩
 ·exact ⟨[121],1,rfl,⟨2,rfl,.inl rfl,by decide⟩,fun h=>absurd h (by decide),by decide,by decide⟩
theorem MS.To (hB:Dw B) (hl:bl=B.length) (h:0≤pos∧pos≤2000) (hc:0≤count∧count≤4) (c:call=0∨call=1):MS false (bΓ call) 3 16 19000 bl pos 3 count 12 call 1 B [[PV.str [110],PV.int .i64 1],[PV.str [116],PV.int .i64 2],[PV.str [99],PV.int .i64 3]]:=by
 have hb:Js (bΓ call) call:=by
  rcases c with rfl|rfl
  ·exact ⟨rfl,rfl,rfl,rfl,rfl,fun h=>by cases h⟩
  ·exact ⟨rfl,rfl,rfl,rfl,rfl,fun _=>⟨0,rfl⟩⟩
 have hx:bΓ call [110]=some (2,1,0)∧bΓ call [116]=some (2,2,0)∧bΓ call [99]=some (2,3,0):=by
  rcases c with rfl|rfl
  ·exact ⟨rfl,rfl,rfl⟩
  ·exact ⟨rfl,rfl,rfl⟩
 refine ⟨⟨hB,hl,by decide,by decide,?_,hb,c,.inr rfl⟩,fun i _ d=>Ajz d,hc.1,by omega,by decide,by omega,h.1,by omega,by decide,by decide,fun e=>by cases e⟩
 intro j g k
 have:j=0∨j=1∨j=2:=by omega
 rcases this with rfl|rfl|rfl
 ·exact ⟨[110],1,rfl,⟨2,hx.1,.inl rfl,by decide⟩,fun h=>absurd h (by decide),by decide,by decide⟩
 ·exact ⟨[116],2,rfl,⟨2,hx.2.1,.inl rfl,by decide⟩,fun h=>absurd h (by decide),by decide,by decide⟩
 ·exact ⟨[99],3,rfl,⟨2,hx.2.2,.inl rfl,by decide⟩,fun h=>absurd h (by decide),by decide,by decide⟩
end
def Jq (R:List Row) (k o y w:Int) (s:List Nat) (A:List Row):Prop:=∃(c:Ctx) (l:Int),AZ 0 1 2 fΓ c 4 l R∧0≤l∧Da c 1 3 k o y w s A
theorem Jq.mk {c:Ctx} {l k o y w:Int} {R A:List Row} {s:List Nat} (h:AZ 0 1 2 fΓ c 4 l R) (hl:0≤l) (g:Da c 1 3 k o y w s A):Jq R k o y w s A:=⟨_,_,h,hl,g⟩
theorem Jq.nil {k o y w:Int} {A:List Row} {s:List Nat} (g:Da fΓ 1 3 k o y w s A):Jq [] k o y w s A:=⟨_,4,AZ.nil ⟨by decide,by decide⟩,by decide,g⟩
def Ak (Γ:Ctx) (R:List Row):Prop:=∃(c:Ctx) (l:Int),AZ 0 0 4 Γ c 17 l R∧0≤l
theorem Ak.of {Γ c:Ctx} {l:Int} {R:List Row} (h:AZ 0 0 3 Γ c 12 l R) (hl:0≤l):Ak Γ R:=⟨_,l+5,h.mono ⟨by decide,by omega⟩,by omega⟩
theorem Ak.nil {Γ:Ctx}:Ak Γ []:=⟨_,0,AZ.nil ⟨by decide,by decide⟩,by decide⟩
theorem Ak.plus {Γ c:Ctx} {l j k o y w:Int} {s:List Nat} {A R:List Row} {g:Row} (h:AZ 0 0 3 Γ c 12 l R) (hl:0≤l) (hx:Da c 3 3 k o y w s A) (v:Ei 0 0 3 c c (j+1) j g):
  Ak Γ (R++[Be 5 0 0 0 [] k o y s w A 0 0 0 [] 0 [] [Be 9 0 0 0 [] 0 0 0 [] 0 [] 0 0 0 [] 0 [] [] []] [],g]):=by
 have q:AZ 0 0 4 Γ c 17 (l+5) R:=h.mono ⟨by decide,by omega⟩
 have hb:IG 0 0 1 c 2 1 [Be 9 0 0 0 [] 0 0 0 [] 0 [] 0 0 0 [] 0 [] [] []]:=.mk (AZ.one (Ei.bar (.inl rfl) rfl ⟨by decide,by decide⟩) (by decide))
 have u:Ei 0 0 4 c c (l+5) (l+3) (Be 5 0 0 0 [] k o y s w A 0 0 0 [] 0 [] [Be 9 0 0 0 [] 0 0 0 [] 0 [] 0 0 0 [] 0 [] [] []] []):=
  Ei.ife (d:=3) (D1:=1) (D2:=0) (a2:=0) (b2:=0) hx hb (IG.nil ⟨by decide,by decide⟩) ⟨by decide,by decide,by decide,by omega⟩
 have x:Ei 0 0 4 c c (l+3) l g:=v.mono ⟨by decide,by omega⟩
 have:=(q.snoc u).snoc x
 rw [List.append_assoc]at this
 exact ⟨_,l,this,hl⟩
theorem Ak.BW {Γ:Ctx} {c k o y w:Int} {s:List Nat} {A:List Row} {d:Row} (hx:Da Γ 3 3 k o y w s A) (g:Ei 0 0 3 Γ Γ (c+1) c d):
  Ak Γ [Be 5 0 0 0 [] k o y s w A 0 0 0 [] 0 [] [Be 9 0 0 0 [] 0 0 0 [] 0 [] 0 0 0 [] 0 [] [] []] [],d]:=
 Ak.plus (R:=[]) (l:=12) (AZ.nil ⟨by decide,by decide⟩) (by decide) hx g
def Cz (g sub:Int):Prop:=(sub=1∨sub=2∨sub=4∨sub=8)∧g%sub=0
def hrow (P R:List Row) (k o y:Int) (s:List Nat) (w:Int) (A:List Row):Row:=[.str [104],.list 2 P,.int .i64 1,.list 19 R,.int .i64 k,.int .i64 o,.int .i64 y,.str s,.int .i32 w,.list 6 A]
def B9 (g sub:Int) (d P c R:List Row):Prop:=d=A4∧P=Au∧0<R.length∧(g=4∨g=1∨g=2∨g=8∨g=6)∧Cz g sub∧
 ((c=[]∧Ak (bΓ 0) R)∨(∃(F:List Row) (k o y w:Int) (s:List Nat) (A:List Row),c=[hrow AH F k o y s w A]∧Jq F k o y w s A∧Ak (bΓ 1) R))
theorem B9.a {g sub:Int} {R:List Row} (hg:g=4∨g=1∨g=2∨g=8∨g=6) (hs:Cz g sub) (h:Ak (bΓ 0) R) (c:0<R.length):B9 g sub A4 Au [] R:=⟨rfl,rfl,c,hg,hs,.inl ⟨rfl,h⟩⟩
theorem B9.b {g sub k o y w:Int} {s:List Nat} {P F A R:List Row} (hg:g=4∨g=1∨g=2∨g=8∨g=6) (hs:Cz g sub) (c:P=AH) (hf:Jq F k o y w s A) (h:Ak (bΓ 1) R) (d:0<R.length):B9 g sub A4 Au [hrow P F k o y s w A] R:=by
 subst c
 exact ⟨rfl,rfl,d,hg,hs,.inr ⟨F,k,o,y,w,s,A,rfl,hf,h⟩⟩
theorem nv {trees:Nat→Tree} {Q:Out→Prop} {t:Tree} {v:Ah} (c:Ah) (h:W trees Q t c) (e:v=c:=by rfl):W trees Q t v:=by subst e;exact h
theorem MS.wide {E:Bool} {Γ:Ctx} {f K M M' bl pos vl count left call loads:Int} {B V:List Row} (h:MS E Γ f K M bl pos vl count left call loads B V) (k:M≤M'∧M'≤20000):MS E Γ f K M' bl pos vl count left call loads B V:=
 ⟨h.m,h.fr,h.c0,h.cl,h.l0,h.vc,h.p0,by have:=h.p1;omega,h.f0,⟨h.kk.1,k.2⟩,h.ex⟩
end Go.AM.K
end
section
namespace Go.AM.K
def TL (Γ:Ctx) (a:List E):Prop:=∀e∈a,∃t,T Γ t e
section
variable {Γ:Ctx} {t k o ty v:Int} {s:List Nat} {a:List E}
theorem T.args (h:T Γ t (.node k o ty v s a)):TL Γ a:=by
 cases h with
 |num=>intro e c;cases c
 |id=>intro e c;cases c
 |var=>intro e c;cases c
 |un _ h1=>intro e c;simp only [List.mem_cons,List.not_mem_nil,or_false]at c;subst c;exact ⟨_,h1⟩
 |bin _ h1 h2=>intro e c;simp only [List.mem_cons,List.not_mem_nil,or_false]at c;rcases c with rfl|rfl<;>first|exact ⟨_,h1⟩|exact ⟨_,h2⟩
 |cond h1 h2 h3=>intro e c;simp only [List.mem_cons,List.not_mem_nil,or_false]at c;rcases c with rfl|rfl|rfl<;>first|exact ⟨_,h1⟩|exact ⟨_,h2⟩|exact ⟨_,h3⟩
 |load _ _ _ _ h1=>intro e c;simp only [List.mem_cons,List.not_mem_nil,or_false]at c;subst c;exact ⟨_,h1⟩
 |call _ h1 h2=>intro e c;simp only [List.mem_cons,List.not_mem_nil,or_false]at c;rcases c with rfl|rfl<;>first|exact ⟨_,h1⟩|exact ⟨_,h2⟩
theorem T.kind (h:T Γ t (.node k o ty v s a)):1≤k∧k≤8∧a.length≤3:=by
 cases h<;>simp
theorem T.nodes (h:T Γ t (.node k o ty v s a)):(E.node k o ty v s a).nodes=1+E.Ae a:=by
 have:=h.kind
 rw [E.nodes,if_neg om]
theorem LW:(E.node k o ty v s a).high=1+E.BX a:=by rw [E.high]
theorem TL.get (h:TL Γ a) (j:Int) (d:0≤j) (g:j<((E.Ab a).length:Int)):∃(k o t v:Int) (s:List Nat) (b:List E) (u:Int),
  (E.Ab a)[j.toNat]?=some [.int .i64 k,.int .i64 o,.int .i64 t,.str s,.int .i32 v,.list 6 (E.Ab b)]∧T Γ u (.node k o t v s b)∧(E.node k o t v s b).high≤E.BX a∧1≤(E.node k o t v s b).nodes∧(E.node k o t v s b).nodes+E.Ae (a.drop (j+1).toNat)=E.Ae (a.drop j.toNat):=by
 obtain ⟨k,o,t,v,s,b,g1,g2⟩:=E.get a j d g
 obtain ⟨u,c⟩:=h _ (List.mem_of_getElem? g2)
 refine ⟨k,o,t,v,s,b,u,g1,c,E.MW g2,by have:=c.nodes;omega,?_⟩
 rw [show (j+1).toNat=j.toNat+1 by omega]
 exact E.K1 g2
theorem N1 {j:Int} (h:((E.Ab a).length:Int)≤j):E.Ae (a.drop j.toNat)=0:=by
 rw [E.A7]at h
 rw [List.drop_eq_nil_of_le om];rfl
theorem T.len {Γ:Ctx} (h:TL Γ a):(a.length:Int)≤E.Ae a:=by
 induction a with
 |nil=>simp [E.Ae]
 |cons e l ih=>
  have d:=ih fun x hx=>h x (List.mem_cons_of_mem _ hx)
  obtain ⟨u,c⟩:=h e List.mem_cons_self
  obtain ⟨k,o,t,v,s,b⟩:=e
  have:=c.nodes
  simp only [lC,E.Ae];omega
end
abbrev Bh (t:Int):Row:=[.int .i64 t]
inductive Ts (Γ:Ctx):List Int→List E→Prop
 |nil:Ts Γ [] []
 |cons {t:Int} {e:E} {ts:List Int} {a:List E}:T Γ t e→Ts Γ ts a→Ts Γ (t::ts) (e::a)
theorem Ts.len {Γ:Ctx}:∀{ts:List Int} {a:List E},Ts Γ ts a→ts.length=a.length
 |_,_,.nil=>rfl
 |_,_,.cons _ h=>by simp [h.len]
theorem Ts.at {Γ:Ctx}:∀{ts:List Int} {a:List E} (_:Ts Γ ts a) {i:Nat} {e:E},a[i]?=some e→∃t,ts[i]?=some t∧T Γ t e
 |_,_,.nil,i,e,h=>by simp at h
 |_,_,.cons h g,0,e,k=>by simp at k;subst k;exact ⟨_,rfl,h⟩
 |_,_,.cons h g,i+1,e,k=>by simpa using g.at (by simpa using k)
theorem Ts.get {Γ:Ctx} {ts:List Int} {a:List E} (h:Ts Γ ts a) (j:Int) (c:0≤j) (d:j<((E.Ab a).length:Int)):∃(k o t v:Int) (s:List Nat) (b:List E) (u:Int),
  (E.Ab a)[j.toNat]?=some [.int .i64 k,.int .i64 o,.int .i64 t,.str s,.int .i32 v,.list 6 (E.Ab b)]∧T Γ u (.node k o t v s b)∧(E.node k o t v s b).high≤E.BX a∧ts[j.toNat]?=some u:=by
 obtain ⟨k,o,t,v,s,b,g1,g2⟩:=E.get a j c d
 obtain ⟨u,g,q⟩:=h.at g2
 exact ⟨k,o,t,v,s,b,u,g1,q,E.MW g2,g⟩
theorem Ic {ts:List Int} {j u:Int} (h:ts[j.toNat]?=some u) (c:0≤j):(ts.take j.toNat).map Bh++[[PV.int .i64 u]]=(ts.take (j+1).toNat).map Bh:=by
 rw [show (j+1).toNat=j.toNat+1 by omega,List.take_add_one,h];simp [Bh]
theorem YN {ts:List Int} {j:Int} (h:(ts.length:Int)≤j):(ts.take j.toNat).map Bh=ts.map Bh:=by
 rw [List.take_of_length_le om]
theorem UnT.rng {o t u:Int} (h:UnT o t u):1≤o∧o≤5∧1≤t∧t≤3∧1≤u∧u≤3:=by unfold UnT at h;omega
theorem LQ.rng {o t u:Int} (h:LQ o t u):10≤o∧o≤29∧1≤t∧t≤3∧1≤u∧u≤3:=by unfold LQ at h;omega
section
variable {Γ:Ctx} {t k o ty v:Int} {s:List Nat} {a:List E}
theorem T.inv (h:T Γ t (.node k o ty v s a)):
  (k=1∧o=0∧ty=t∧s=[]∧a=[]∧1≤t∧t≤3∧(t=3→v=0∨v=1)∧(t=2→Fx v)∧-200000≤v∧v≤5000000)∨
  (k=3∧ty=0∧v=0∧s=[]∧a=[]∧t=1∧1≤o∧o≤7)∨
  (k=2∧o=0∧ty=0∧v=0∧a=[]∧Nm s∧∃kk i,(kk=2∨kk=3)∧1≤t∧t≤3∧Γ s=some (kk,t,i))∨
  (k=4∧ty=0∧v=0∧s=[]∧∃j q u x d g w,a=[.node j q u x d g]∧UnT o w t∧T Γ w (.node j q u x d g))∨
  (k=5∧ty=0∧v=0∧s=[]∧∃j q u x d g y z D A C b2 w,a=[.node j q u x d g,.node y z D A C b2]∧LQ o w t∧T Γ w (.node j q u x d g)∧T Γ w (.node y z D A C b2))∨
  (k=6∧o=0∧ty=0∧v=0∧s=[]∧∃j q u x d g y z D A C b2 O H J P N M,a=[.node j q u x d g,.node y z D A C b2,.node O H J P N M]∧T Γ 3 (.node j q u x d g)∧T Γ t (.node y z D A C b2)∧T Γ t (.node O H J P N M))∨
  (k=7∧o=0∧ty=0∧v=0∧Nm s∧∃j q u x d g i,a=[.node j q u x d g]∧1≤t∧t≤3∧Γ s=some (0,t,i)∧T Γ 1 (.node j q u x d g))∨
  (k=8∧o=0∧ty=0∧v=0∧s=[104]∧∃j q u x d g y z D A C b2 i,a=[.node j q u x d g,.node y z D A C b2]∧t=1∧Γ [104]=some (1,1,i)∧T Γ 1 (.node j q u x d g)∧T Γ 1 (.node y z D A C b2)):=by
 cases h with
 |num h1 h2 h3 h4 h5=>exact .inl ⟨rfl,rfl,rfl,rfl,rfl,h1,h2,h3,h4,h5⟩
 |id h1 h2=>exact .inr (.inl ⟨rfl,rfl,rfl,rfl,rfl,rfl,h1,h2⟩)
 |var h1 h2 h3 h4 h5=>exact .inr (.inr (.inl ⟨rfl,rfl,rfl,rfl,rfl,h1,_,_,h2,h3,h4,h5⟩))
 |@un _ _ _ a h1 h2=>
  obtain ⟨_,_,_,_,_,_⟩:=a
  exact .inr (.inr (.inr (.inl ⟨rfl,rfl,rfl,rfl,_,_,_,_,_,_,_,rfl,h1,h2⟩)))
 |@bin _ _ _ a b h1 h2 h3=>
  obtain ⟨_,_,_,_,_,_⟩:=a
  obtain ⟨_,_,_,_,_,_⟩:=b
  exact .inr (.inr (.inr (.inr (.inl ⟨rfl,rfl,rfl,rfl,_,_,_,_,_,_,_,_,_,_,_,_,_,rfl,h1,h2,h3⟩))))
 |@cond _ a b c h1 h2 h3=>
  obtain ⟨_,_,_,_,_,_⟩:=a
  obtain ⟨_,_,_,_,_,_⟩:=b
  obtain ⟨_,_,_,_,_,_⟩:=c
  exact .inr (.inr (.inr (.inr (.inr (.inl ⟨rfl,rfl,rfl,rfl,rfl,_,_,_,_,_,_,_,_,_,_,_,_,_,_,_,_,_,_,rfl,h1,h2,h3⟩)))))
 |@load _ _ _ a h1 h2 h3 h4 h5=>
  obtain ⟨_,_,_,_,_,_⟩:=a
  exact .inr (.inr (.inr (.inr (.inr (.inr (.inl ⟨rfl,rfl,rfl,rfl,h1,_,_,_,_,_,_,_,rfl,h2,h3,h4,h5⟩))))))
 |@call _ a b h1 h2 h3=>
  obtain ⟨_,_,_,_,_,_⟩:=a
  obtain ⟨_,_,_,_,_,_⟩:=b
  exact .inr (.inr (.inr (.inr (.inr (.inr (.inr ⟨rfl,rfl,rfl,rfl,rfl,_,_,_,_,_,_,_,_,_,_,_,_,_,rfl,rfl,h1,h2,h3⟩))))))
theorem n1 {x:E}:E.Ae [x]=x.nodes:=by simp only [E.Ae];omega
theorem n2 {x y:E}:E.Ae [x,y]=x.nodes+y.nodes:=by simp only [E.Ae];omega
theorem n3 {x y z:E}:E.Ae [x,y,z]=x.nodes+y.nodes+z.nodes:=by simp only [E.Ae];omega
theorem g1 {x:E}:E.BX [x]=x.high:=by simp only [E.BX];omega
theorem g2 {x y:E}:E.BX [x,y]=max x.high y.high:=by simp only [E.BX];omega
theorem g3 {x y z:E}:E.BX [x,y,z]=max x.high (max y.high z.high):=by simp only [E.BX];omega
end
def Ns (s:List Nat):Tree→Option Nat
 |.leaf a _ ⟨[],[],[],[]⟩=>some a
 |.sets 0 l t e=>if s=l then Ns s t else Ns s e
 |_=>none
theorem Nr {trees:Nat→Tree} {Q:Out→Prop} {s:List Nat} {a:Nat}:∀(t:Tree),Ns s t=some a→Q (a,⟨[],[],[],[]⟩)→W trees Q t ⟨[],[s],[],[]⟩
 |.leaf b nw ⟨[],[],[],[]⟩,h,hq=>by
  simp only [Ns,oI]at h
  subst h;exact hq
 |.sets 0 l t e,h,hq=>by
  simp only [Ns]at h
  refine ss s (fun k=>?_) fun k=>?_
  ·rw [if_pos k]at h;exact Nr t h hq
  ·rw [if_neg k]at h;exact Nr e h hq
theorem Ok.str {trees:Nat→Tree} {c:Nat} {s:List Nat} {R:Out→Prop} {t:Tree} {a:Nat} (g:trees c=t) (h:Ns s t=some a) (d:R (a,⟨[],[],[],[]⟩)):Ok trees c ⟨[],[s],[],[]⟩ R:=.of g (Nr t h d)
structure Ck (Γ:Ctx) (al fl:Int) (Ar Fs:List Row) (m:List (List Nat×List PV)):Prop where
 see:∀s,BO m s=(Γ s).map fun z=>[PV.int .i64 z.1,PV.int .i64 z.2.1,PV.int .i64 z.2.2]
 ha:al=Ar.length
 hf:fl=Fs.length
 ar:∀s t i,Γ s=some (0,t,i)→0≤i∧i<al∧∃(nm:List Nat) (sp ln:Int),Ar[i.toNat]?=some [.str nm,.int .i64 sp,.int .i64 t,.int .i64 ln]∧(i=0∨i=2→sp≠3)
 fn:∀i,Γ [104]=some (1,1,i)→0≤i∧i<fl∧∃(F:List Row) (k o y w:Int) (s:List Nat) (A:List Row),Fs[i.toNat]?=some [.str [104],.list 2 AH,.int .i64 1,.list 19 F,.int .i64 k,.int .i64 o,.int .i64 y,.str s,.int .i32 w,.list 6 A]
theorem Ck.look {Γ:Ctx} {d fl:Int} {c j:List Row} {m:List (List Nat×List PV)} (h:Ck Γ d fl c j m) {s:List Nat} {k t i:Int} (g:Γ s=some (k,t,i)):BO m s=some [PV.int .i64 k,PV.int .i64 t,PV.int .i64 i]:=by
 rw [h.see,g];rfl
theorem Ck.Aip {Γ:Ctx} {d fl:Int} {c j:List Row} {m:List (List Nat×List PV)} (h:Ck Γ d fl c j m) {s:List Nat} (g:Γ s=none):BO m s=none:=by
 rw [h.see,g];rfl
theorem Pv (j:Int) (c:0≤j) (d:j<2):∃nm:List Nat,AH[j.toNat]?=some [.str nm,.int .i64 1]:=by
 have:j=0∨j=1:=by omega
 rcases this with rfl|rfl
 ·exact ⟨[120],rfl⟩
 ·exact ⟨[121],rfl⟩
theorem Su (j:Int) (c:0≤j) (d:j<2):([1,1].map Bh)[j.toNat]?=some [PV.int .i64 1]:=by
 have:j=0∨j=1:=by omega
 rcases this with rfl|rfl<;>rfl
theorem Ts.none {Γ:Ctx} {ts:List Int} {a:List E} (h:Ts Γ ts a) (c:((E.Ab a).length:Int)≤0):ts=[]:=by
 rw [E.A7]at c
 have:=h.len
 exact List.eq_nil_of_length_eq_zero om
theorem Ts.end {Γ:Ctx} {ts:List Int} {a:List E} (h:Ts Γ ts a) {j:Int} (c:((E.Ab a).length:Int)≤j):(ts.take j.toNat).map Bh=ts.map Bh:=by
 rw [E.A7]at c
 exact YN (by rw [h.len];omega)
theorem Ts.CY {ts:List Int}:((ts.map Bh).length:Int)=ts.length:=by simp
theorem S.len:∀l:List S,l.length≤S.Ae l
 |[]=>by simp
 |s::l=>by
  have:=S.len l
  obtain ⟨_,_,_,_,_,_,_,_,_⟩:=s
  simp only [lC,S.Ae,S.nodes];omega
end Go.AM.K
end
section
namespace Go.AM.K
def EOk (Γ:Ctx) (e:E):Prop:=e=E0∨((∃t,T Γ t e)∧e.high≤5)
def No (k o t v:Int) (s:List Nat) (a:List E):Prop:=k=0∧o=0∧t=0∧v=0∧s=[]∧a=[]
theorem No.of {k o t v:Int} {s:List Nat} {a:List E} (h:E.node k o t v s a=E0):No k o t v s a:=by
 unfold E0 at h
 simp only [E.node.injEq]at h
 exact h
theorem No.eq {k o t v:Int} {s:List Nat} {a:List E} (h:No k o t v s a):E.node k o t v s a=E0:=by
 obtain ⟨rfl,rfl,rfl,rfl,rfl,rfl⟩:=h;rfl
section
variable {lo pu:Int} {Γ Γ':Ctx} {k o t b xk xo xt xv yk yo yt yv:Int} {nm xn yn:List Nat} {xa ya:List E} {bo el:List S}
theorem Dv.inv (h:Dv lo pu Γ (.node k o t b nm (.node xk xo xt xv xn xa) (.node yk yo yt yv yn ya) bo el) Γ'):
  (k=1∧o=0∧b=0∧No yk yo yt yv yn ya∧bo=[]∧el=[]∧Nm nm∧Γ nm=none∧1≤t∧t≤3∧T Γ t (.node xk xo xt xv xn xa)∧(E.node xk xo xt xv xn xa).high≤5∧Γ'=Γ.I1 nm (3,t,0))∨
  (k=2∧o=0∧t=0∧b=0∧No yk yo yt yv yn ya∧bo=[]∧el=[]∧Nm nm∧Γ'=Γ∧∃u i,Γ nm=some (3,u,i)∧T Γ u (.node xk xo xt xv xn xa)∧(E.node xk xo xt xv xn xa).high≤5)∨
  (k=3∧o=0∧t=0∧b=0∧bo=[]∧el=[]∧pu=0∧Nm nm∧Γ'=Γ∧∃u i,0≤i∧i≤4∧Γ nm=some (0,u,i)∧T Γ 1 (.node xk xo xt xv xn xa)∧T Γ u (.node yk yo yt yv yn ya)∧(E.node xk xo xt xv xn xa).high≤5∧(E.node yk yo yt yv yn ya).high≤5)∨
  (k=4∧t=0∧b=0∧bo=[]∧el=[]∧pu=0∧Nm nm∧Γ'=Γ∧∃i,(i=0∨i=2)∧Γ nm=some (0,1,i)∧(o=10∨o=17∨o=18∨o=19∨o=22∨o=23)∧T Γ 1 (.node xk xo xt xv xn xa)∧T Γ 1 (.node yk yo yt yv yn ya)∧(E.node xk xo xt xv xn xa).high≤5∧(E.node yk yo yt yv yn ya).high≤5)∨
  (k=5∧o=0∧t=0∧b=0∧nm=[]∧No yk yo yt yv yn ya∧T Γ 3 (.node xk xo xt xv xn xa)∧(E.node xk xo xt xv xn xa).high≤5∧Γ'=Γ∧∃c d,C8 lo pu Γ bo c∧C8 lo pu Γ el d)∨
  (k=6∧o=0∧t=0∧nm=[]∧No yk yo yt yv yn ya∧el=[]∧T Γ 3 (.node xk xo xt xv xn xa)∧(E.node xk xo xt xv xn xa).high≤5∧1≤b∧b≤4∧Γ'=Γ∧∃c,C8 1 pu Γ bo c)∨
  ((k=7∨k=8)∧o=0∧t=0∧b=0∧nm=[]∧No xk xo xt xv xn xa∧No yk yo yt yv yn ya∧bo=[]∧el=[]∧lo≠0∧Γ'=Γ)∨
  ((k=9∨k=10)∧o=0∧t=0∧b=0∧nm=[]∧No xk xo xt xv xn xa∧No yk yo yt yv yn ya∧bo=[]∧el=[]∧pu=0∧Γ'=Γ)∨
  (k=11∧(o=1∨o=2)∧t=0∧b=0∧nm=[]∧No xk xo xt xv xn xa∧No yk yo yt yv yn ya∧bo=[]∧el=[]∧pu=0∧Γ'=Γ)∨
  (k=12∧t=0∧b=0∧No yk yo yt yv yn ya∧bo=[]∧el=[]∧pu=0∧Nm nm∧Γ'=Γ∧∃u w i,Γ nm=some (3,u,i)∧1≤u∧u≤3∧((o=1∧u=1∧w=3)∨((o=2∨o=3)∧u=3∧w=3)∨((o=5∨o=6)∧u≠3∧w=u))∧T Γ w (.node xk xo xt xv xn xa)∧(E.node xk xo xt xv xn xa).high≤5)∨
  (k=12∧o=4∧t=0∧b=0∧bo=[]∧el=[]∧pu=0∧Nm nm∧Γ'=Γ∧∃u i,Γ nm=some (3,u,i)∧1≤u∧u≤3∧T Γ u (.node xk xo xt xv xn xa)∧T Γ 1 (.node yk yo yt yv yn ya)∧(E.node xk xo xt xv xn xa).high≤5∧(E.node yk yo yt yv yn ya).high≤5):=by
 generalize hx:E.node xk xo xt xv xn xa=x at h⊢
 generalize hy:E.node yk yo yt yv yn ya=y at h⊢
 cases h with
 |var h1 h2 h3 h4 h5 h6=>exact .inl ⟨rfl,rfl,rfl,.of hy,rfl,rfl,h1.nm,h2,h3,h4,h5,h6,rfl⟩
 |set h1 h2 h3 h4=>exact .inr (.inl ⟨rfl,rfl,rfl,rfl,.of hy,rfl,rfl,h1,rfl,_,_,h2,h3,h4⟩)
 |store h1 h2 h3 h4 h5 h6 h7 h8=>exact .inr (.inr (.inl ⟨rfl,rfl,rfl,rfl,rfl,rfl,rfl,h1,rfl,_,_,h2,h3,h4,h5,h6,h7,h8⟩))
 |atom h1 h2 h3 h4 h5 h6 h7 h8=>exact .inr (.inr (.inr (.inl ⟨rfl,rfl,rfl,rfl,rfl,rfl,h1,rfl,_,h2,h3,h4,h5,h6,h7,h8⟩)))
 |ife h1 h2 h3 h4=>exact .inr (.inr (.inr (.inr (.inl ⟨rfl,rfl,rfl,rfl,rfl,.of hy,h1,h2,rfl,_,_,h3,h4⟩))))
 |whl h1 h2 h3 h4 h5=>exact .inr (.inr (.inr (.inr (.inr (.inl ⟨rfl,rfl,rfl,rfl,.of hy,rfl,h1,h2,h3,h4,rfl,_,h5⟩)))))
 |esc h1 h2=>exact .inr (.inr (.inr (.inr (.inr (.inr (.inl ⟨h1,rfl,rfl,rfl,rfl,.of hx,.of hy,rfl,rfl,h2,rfl⟩))))))
 |bar h1=>exact .inr (.inr (.inr (.inr (.inr (.inr (.inr (.inl ⟨h1,rfl,rfl,rfl,rfl,.of hx,.of hy,rfl,rfl,rfl,rfl⟩)))))))
 |Nj h1=>exact .inr (.inr (.inr (.inr (.inr (.inr (.inr (.inr (.inl ⟨rfl,h1,rfl,rfl,rfl,.of hx,.of hy,rfl,rfl,rfl,rfl⟩))))))))
 |T9 h1 h2 h3 h4 h5 h6 h7=>exact .inr (.inr (.inr (.inr (.inr (.inr (.inr (.inr (.inr (.inl ⟨rfl,rfl,rfl,.of hy,rfl,rfl,rfl,h1,rfl,_,_,_,h2,h3,h4,h5,h6,h7⟩)))))))))
 |T8 h1 h2 h3 h4 h5 h6 h7 h8=>exact .inr (.inr (.inr (.inr (.inr (.inr (.inr (.inr (.inr (.inr ⟨rfl,rfl,rfl,rfl,rfl,rfl,rfl,h1,rfl,_,_,h2,h3,h4,h5,h6,h7,h8⟩)))))))))
theorem Dv.exprs {s:S} (h:Dv lo pu Γ s Γ'):∃k o t b nm x y bo el,s=.node k o t b nm x y bo el∧EOk Γ x∧EOk Γ y∧∃c j g d,C8 c pu Γ bo g∧C8 j pu Γ el d:=by
 cases h with
 |var h1 h2 h3 h4 h5 h6=>exact ⟨_,_,_,_,_,_,_,_,_,rfl,.inr ⟨⟨_,h5⟩,h6⟩,.inl rfl,0,0,_,_,.nil,.nil⟩
 |set h1 h2 h3 h4=>exact ⟨_,_,_,_,_,_,_,_,_,rfl,.inr ⟨⟨_,h3⟩,h4⟩,.inl rfl,0,0,_,_,.nil,.nil⟩
 |store h1 h2 h3 h4 h5 h6 h7 h8=>exact ⟨_,_,_,_,_,_,_,_,_,rfl,.inr ⟨⟨_,h5⟩,h7⟩,.inr ⟨⟨_,h6⟩,h8⟩,0,0,_,_,.nil,.nil⟩
 |atom h1 h2 h3 h4 h5 h6 h7 h8=>exact ⟨_,_,_,_,_,_,_,_,_,rfl,.inr ⟨⟨_,h5⟩,h7⟩,.inr ⟨⟨_,h6⟩,h8⟩,0,0,_,_,.nil,.nil⟩
 |ife h1 h2 h3 h4=>exact ⟨_,_,_,_,_,_,_,_,_,rfl,.inr ⟨⟨_,h1⟩,h2⟩,.inl rfl,_,_,_,_,h3,h4⟩
 |whl h1 h2 h3 h4 h5=>exact ⟨_,_,_,_,_,_,_,_,_,rfl,.inr ⟨⟨_,h1⟩,h2⟩,.inl rfl,_,0,_,_,h5,.nil⟩
 |esc h1 h2=>exact ⟨_,_,_,_,_,_,_,_,_,rfl,.inl rfl,.inl rfl,0,0,_,_,.nil,.nil⟩
 |bar h1=>exact ⟨_,_,_,_,_,_,_,_,_,rfl,.inl rfl,.inl rfl,0,0,_,_,.nil,.nil⟩
 |Nj h1=>exact ⟨_,_,_,_,_,_,_,_,_,rfl,.inl rfl,.inl rfl,0,0,_,_,.nil,.nil⟩
 |T9 h1 h2 h3 h4 h5 h6 h7=>exact ⟨_,_,_,_,_,_,_,_,_,rfl,.inr ⟨⟨_,h6⟩,h7⟩,.inl rfl,0,0,_,_,.nil,.nil⟩
 |T8 h1 h2 h3 h4 h5 h6 h7 h8=>exact ⟨_,_,_,_,_,_,_,_,_,rfl,.inr ⟨⟨_,h5⟩,h7⟩,.inr ⟨⟨_,h6⟩,h8⟩,0,0,_,_,.nil,.nil⟩
theorem C8.get {l:List S} (j:Int) (h:C8 lo pu Γ (l.drop j.toNat) Γ') (q:0≤j) (c:j<((S.Ab l).length:Int)):∃(k o t b:Int) (nm:List Nat) (xk xo xt xv:Int) (xn:List Nat) (xa:List E) (yk yo yt yv:Int) (yn:List Nat) (ya:List E) (bo el:List S) (d:Ctx),
  (S.Ab l)[j.toNat]?=some [.int .i64 k,.int .i64 o,.int .i64 t,.int .i64 b,.str nm,.int .i64 xk,.int .i64 xo,.int .i64 xt,.str xn,.int .i32 xv,.list 6 (E.Ab xa),.int .i64 yk,.int .i64 yo,.int .i64 yt,.str yn,.int .i32 yv,.list 6 (E.Ab ya),.list 19 (S.Ab bo),.list 19 (S.Ab el)]∧
  Dv lo pu Γ (.node k o t b nm (.node xk xo xt xv xn xa) (.node yk yo yt yv yn ya) bo el) d∧C8 lo pu d (l.drop (j+1).toNat) Γ'∧
  S.Ae (l.drop j.toNat)=1+(E.node xk xo xt xv xn xa).nodes+(E.node yk yo yt yv yn ya).nodes+S.Ae bo+S.Ae el+S.Ae (l.drop (j+1).toNat)∧
  S.Ax (l.drop j.toNat)=max (1+max (S.Ax bo) (S.Ax el)) (S.Ax (l.drop (j+1).toNat)):=by
 rw [S.A7]at c
 have g:j.toNat<l.length:=by omega
 have hd:l.drop j.toNat=l[j.toNat]::l.drop (j+1).toNat:=by
  rw [show (j+1).toNat=j.toNat+1 by omega];exact List.drop_eq_getElem_cons g
 rw [hd]at h⊢
 generalize he:l[j.toNat]=s at h⊢
 obtain ⟨k,o,t,b,nm,⟨xk,xo,xt,xv,xn,xa⟩,⟨yk,yo,yt,yv,yn,ya⟩,bo,el⟩:=s
 cases h with
 |cons c h2=>
  exact ⟨k,o,t,b,nm,xk,xo,xt,xv,xn,xa,yk,yo,yt,yv,yn,ya,bo,el,_,by rw [S.EF,List.getElem?_eq_getElem g,he];rfl,c,h2,rfl,rfl⟩
theorem Dv.parts (h:Dv lo pu Γ (.node k o t b nm (.node xk xo xt xv xn xa) (.node yk yo yt yv yn ya) bo el) Γ'):(∀e∈[E.node xk xo xt xv xn xa,.node yk yo yt yv yn ya],EOk Γ e)∧∃d z j g,C8 d pu Γ bo j∧C8 z pu Γ el g:=by
 obtain ⟨_,_,_,_,_,x,y,_,_,e,u,q,v⟩:=h.exprs
 simp only [S.node.injEq]at e
 obtain ⟨_,_,_,_,_,rfl,rfl,rfl,rfl⟩:=e
 refine ⟨fun e c=>?_,v⟩
 simp only [List.mem_cons,List.not_mem_nil,or_false]at c
 rcases c with rfl|rfl
 ·exact u
 ·exact q
theorem Bv {l:List S} {j:Int} (h:((S.Ab l).length:Int)≤j):S.Ae (l.drop j.toNat)=0∧S.Ax (l.drop j.toNat)=0∧l.drop j.toNat=[]:=by
 rw [S.A7]at h
 rw [List.drop_eq_nil_of_le om];exact ⟨rfl,rfl,rfl⟩
theorem EL.get {a:List E} (h:∀e∈a,EOk Γ e) (j:Int) (d:0≤j) (g:j<((E.Ab a).length:Int)):∃(k o t v:Int) (s:List Nat) (b:List E) (u:Int),
  (E.Ab a)[j.toNat]?=some [.int .i64 k,.int .i64 o,.int .i64 t,.str s,.int .i32 v,.list 6 (E.Ab b)]∧(k≠0→T Γ u (.node k o t v s b))∧(k≠0→(E.node k o t v s b).high≤5)∧(k=0→(E.node k o t v s b).nodes=0)∧(E.node k o t v s b).nodes+E.Ae (a.drop (j+1).toNat)=E.Ae (a.drop j.toNat):=by
 obtain ⟨k,o,t,v,s,b,g1,g2⟩:=E.get a j d g
 have c:=E.K1 g2
 rw [show j.toNat+1=(j+1).toNat by omega]at c
 rcases h _ (List.mem_of_getElem? g2)with e|⟨⟨u,hu⟩,hh⟩
 ·obtain ⟨rfl,rfl,rfl,rfl,rfl,rfl⟩:=No.of e
  exact ⟨0,0,0,0,[],[],0,g1,fun h=>absurd rfl h,fun h=>absurd rfl h,fun _=>rfl,c⟩
 ·refine ⟨k,o,t,v,s,b,u,g1,fun _=>hu,fun _=>hh,fun h=>?_,c⟩
  have:=hu.kind;omega
theorem Dv.Ais (h:Dv lo pu Γ (.node k o t b nm (.node xk xo xt xv xn xa) (.node yk yo yt yv yn ya) bo el) Γ') (c:k=1):o=0∧b=0∧No yk yo yt yv yn ya∧bo=[]∧el=[]∧Nm nm∧Γ nm=none∧1≤t∧t≤3∧T Γ t (.node xk xo xt xv xn xa)∧(E.node xk xo xt xv xn xa).high≤5∧Γ'=Γ.I1 nm (3,t,0):=by
 rcases h.inv with hv|hv|hv|hv|hv|hv|hv|hv|hv|hv|hv
 ·exact hv.2
 ·exfalso;have:=hv.1;omega
 ·exfalso;have:=hv.1;omega
 ·exfalso;have:=hv.1;omega
 ·exfalso;have:=hv.1;omega
 ·exfalso;have:=hv.1;omega
 ·exfalso;have:=hv.1;omega
 ·exfalso;have:=hv.1;omega
 ·exfalso;have:=hv.1;omega
 ·exfalso;have:=hv.1;omega
 ·exfalso;have:=hv.1;omega
theorem Dv.Ait (h:Dv lo pu Γ (.node k o t b nm (.node xk xo xt xv xn xa) (.node yk yo yt yv yn ya) bo el) Γ') (c:k=2):o=0∧t=0∧b=0∧No yk yo yt yv yn ya∧bo=[]∧el=[]∧Nm nm∧Γ'=Γ∧∃u i,Γ nm=some (3,u,i)∧T Γ u (.node xk xo xt xv xn xa)∧(E.node xk xo xt xv xn xa).high≤5:=by
 rcases h.inv with hv|hv|hv|hv|hv|hv|hv|hv|hv|hv|hv
 ·exfalso;have:=hv.1;omega
 ·exact hv.2
 ·exfalso;have:=hv.1;omega
 ·exfalso;have:=hv.1;omega
 ·exfalso;have:=hv.1;omega
 ·exfalso;have:=hv.1;omega
 ·exfalso;have:=hv.1;omega
 ·exfalso;have:=hv.1;omega
 ·exfalso;have:=hv.1;omega
 ·exfalso;have:=hv.1;omega
 ·exfalso;have:=hv.1;omega
theorem Dv.Afv (h:Dv lo pu Γ (.node k o t b nm (.node xk xo xt xv xn xa) (.node yk yo yt yv yn ya) bo el) Γ') (c:k=3):o=0∧t=0∧b=0∧bo=[]∧el=[]∧pu=0∧Nm nm∧Γ'=Γ∧∃u i,0≤i∧i≤4∧Γ nm=some (0,u,i)∧T Γ 1 (.node xk xo xt xv xn xa)∧T Γ u (.node yk yo yt yv yn ya)∧(E.node xk xo xt xv xn xa).high≤5∧(E.node yk yo yt yv yn ya).high≤5:=by
 rcases h.inv with hv|hv|hv|hv|hv|hv|hv|hv|hv|hv|hv
 ·exfalso;have:=hv.1;omega
 ·exfalso;have:=hv.1;omega
 ·exact hv.2
 ·exfalso;have:=hv.1;omega
 ·exfalso;have:=hv.1;omega
 ·exfalso;have:=hv.1;omega
 ·exfalso;have:=hv.1;omega
 ·exfalso;have:=hv.1;omega
 ·exfalso;have:=hv.1;omega
 ·exfalso;have:=hv.1;omega
 ·exfalso;have:=hv.1;omega
theorem Dv.Aiv (h:Dv lo pu Γ (.node k o t b nm (.node xk xo xt xv xn xa) (.node yk yo yt yv yn ya) bo el) Γ') (c:k=4):t=0∧b=0∧bo=[]∧el=[]∧pu=0∧Nm nm∧Γ'=Γ∧∃i,(i=0∨i=2)∧Γ nm=some (0,1,i)∧(o=10∨o=17∨o=18∨o=19∨o=22∨o=23)∧T Γ 1 (.node xk xo xt xv xn xa)∧T Γ 1 (.node yk yo yt yv yn ya)∧(E.node xk xo xt xv xn xa).high≤5∧(E.node yk yo yt yv yn ya).high≤5:=by
 rcases h.inv with hv|hv|hv|hv|hv|hv|hv|hv|hv|hv|hv
 ·exfalso;have:=hv.1;omega
 ·exfalso;have:=hv.1;omega
 ·exfalso;have:=hv.1;omega
 ·exact hv.2
 ·exfalso;have:=hv.1;omega
 ·exfalso;have:=hv.1;omega
 ·exfalso;have:=hv.1;omega
 ·exfalso;have:=hv.1;omega
 ·exfalso;have:=hv.1;omega
 ·exfalso;have:=hv.1;omega
 ·exfalso;have:=hv.1;omega
theorem Dv.kif (h:Dv lo pu Γ (.node k o t b nm (.node xk xo xt xv xn xa) (.node yk yo yt yv yn ya) bo el) Γ') (g:k=5):o=0∧t=0∧b=0∧nm=[]∧No yk yo yt yv yn ya∧T Γ 3 (.node xk xo xt xv xn xa)∧(E.node xk xo xt xv xn xa).high≤5∧Γ'=Γ∧∃d c,C8 lo pu Γ bo d∧C8 lo pu Γ el c:=by
 rcases h.inv with hv|hv|hv|hv|hv|hv|hv|hv|hv|hv|hv
 ·exfalso;have:=hv.1;omega
 ·exfalso;have:=hv.1;omega
 ·exfalso;have:=hv.1;omega
 ·exfalso;have:=hv.1;omega
 ·exact hv.2
 ·exfalso;have:=hv.1;omega
 ·exfalso;have:=hv.1;omega
 ·exfalso;have:=hv.1;omega
 ·exfalso;have:=hv.1;omega
 ·exfalso;have:=hv.1;omega
 ·exfalso;have:=hv.1;omega
theorem Dv.Air (h:Dv lo pu Γ (.node k o t b nm (.node xk xo xt xv xn xa) (.node yk yo yt yv yn ya) bo el) Γ') (d:k=6):o=0∧t=0∧nm=[]∧No yk yo yt yv yn ya∧el=[]∧T Γ 3 (.node xk xo xt xv xn xa)∧(E.node xk xo xt xv xn xa).high≤5∧1≤b∧b≤4∧Γ'=Γ∧∃c,C8 1 pu Γ bo c:=by
 rcases h.inv with hv|hv|hv|hv|hv|hv|hv|hv|hv|hv|hv
 ·exfalso;have:=hv.1;omega
 ·exfalso;have:=hv.1;omega
 ·exfalso;have:=hv.1;omega
 ·exfalso;have:=hv.1;omega
 ·exfalso;have:=hv.1;omega
 ·exact hv.2
 ·exfalso;have:=hv.1;omega
 ·exfalso;have:=hv.1;omega
 ·exfalso;have:=hv.1;omega
 ·exfalso;have:=hv.1;omega
 ·exfalso;have:=hv.1;omega
theorem Dv.Als (h:Dv lo pu Γ (.node k o t b nm (.node xk xo xt xv xn xa) (.node yk yo yt yv yn ya) bo el) Γ') (c:k=12):(t=0∧b=0∧No yk yo yt yv yn ya∧bo=[]∧el=[]∧pu=0∧Nm nm∧Γ'=Γ∧∃u w i,Γ nm=some (3,u,i)∧1≤u∧u≤3∧((o=1∧u=1∧w=3)∨((o=2∨o=3)∧u=3∧w=3)∨((o=5∨o=6)∧u≠3∧w=u))∧T Γ w (.node xk xo xt xv xn xa)∧(E.node xk xo xt xv xn xa).high≤5)∨(o=4∧t=0∧b=0∧bo=[]∧el=[]∧pu=0∧Nm nm∧Γ'=Γ∧∃u i,Γ nm=some (3,u,i)∧1≤u∧u≤3∧T Γ u (.node xk xo xt xv xn xa)∧T Γ 1 (.node yk yo yt yv yn ya)∧(E.node xk xo xt xv xn xa).high≤5∧(E.node yk yo yt yv yn ya).high≤5):=by
 rcases h.inv with hv|hv|hv|hv|hv|hv|hv|hv|hv|hv|hv
 ·exfalso;have:=hv.1;omega
 ·exfalso;have:=hv.1;omega
 ·exfalso;have:=hv.1;omega
 ·exfalso;have:=hv.1;omega
 ·exfalso;have:=hv.1;omega
 ·exfalso;have:=hv.1;omega
 ·exfalso;have:=hv.1;omega
 ·exfalso;have:=hv.1;omega
 ·exfalso;have:=hv.1;omega
 ·exact .inl hv.2
 ·exact .inr hv.2
theorem Dv.same (h:Dv lo pu Γ (.node k o t b nm (.node xk xo xt xv xn xa) (.node yk yo yt yv yn ya) bo el) Γ') (c:k≠1):Γ'=Γ:=by
 rcases h.inv with hv|hv|hv|hv|hv|hv|hv|hv|hv|hv|hv
 ·exfalso;have:=hv.1;omega
 ·exact hv.2.2.2.2.2.2.2.2.1
 ·exact hv.2.2.2.2.2.2.2.2.1
 ·exact hv.2.2.2.2.2.2.2.1
 ·exact hv.2.2.2.2.2.2.2.2.1
 ·exact hv.2.2.2.2.2.2.2.2.2.2.1
 ·exact hv.2.2.2.2.2.2.2.2.2.2
 ·exact hv.2.2.2.2.2.2.2.2.2.2
 ·exact hv.2.2.2.2.2.2.2.2.2.2
 ·exact hv.2.2.2.2.2.2.2.2.1
 ·exact hv.2.2.2.2.2.2.2.2.1
theorem Dv.kinds (h:Dv lo pu Γ (.node k o t b nm (.node xk xo xt xv xn xa) (.node yk yo yt yv yn ya) bo el) Γ'):1≤k∧k≤12:=by
 rcases h.inv with hv|hv|hv|hv|hv|hv|hv|hv|hv|hv|hv<;>(have:=hv.1;omega)
theorem Dv.Aas (h:Dv lo pu Γ (.node k o t b nm (.node xk xo xt xv xn xa) (.node yk yo yt yv yn ya) bo el) Γ'):k=7∨k=8→lo≠0:=by
 intro c
 rcases h.inv with hv|hv|hv|hv|hv|hv|hv|hv|hv|hv|hv
 ·exfalso;have:=hv.1;omega
 ·exfalso;have:=hv.1;omega
 ·exfalso;have:=hv.1;omega
 ·exfalso;have:=hv.1;omega
 ·exfalso;have:=hv.1;omega
 ·exfalso;have:=hv.1;omega
 ·exact hv.2.2.2.2.2.2.2.2.2.1
 ·exfalso;have:=hv.1;omega
 ·exfalso;have:=hv.1;omega
 ·exfalso;have:=hv.1;omega
 ·exfalso;have:=hv.1;omega
theorem Dv.pure (h:Dv lo pu Γ (.node k o t b nm (.node xk xo xt xv xn xa) (.node yk yo yt yv yn ya) bo el) Γ'):3≤k→k≤4∨9≤k→pu=0:=by
 intro _ c
 rcases h.inv with hv|hv|hv|hv|hv|hv|hv|hv|hv|hv|hv
 ·exfalso;have:=hv.1;omega
 ·exfalso;have:=hv.1;omega
 ·exact hv.2.2.2.2.2.2.1
 ·exact hv.2.2.2.2.2.1
 ·exfalso;have:=hv.1;omega
 ·exfalso;have:=hv.1;omega
 ·exfalso;have:=hv.1;omega
 ·exact hv.2.2.2.2.2.2.2.2.2.1
 ·exact hv.2.2.2.2.2.2.2.2.2.1
 ·exact hv.2.2.2.2.2.2.1
 ·exact hv.2.2.2.2.2.2.1
end
theorem Uu (m:List (List Nat×List PV)) (k c:List Nat) (v:List PV):BO (Bn m k v) c=if c=k then some v else BO m c:=by
 induction m with
 |nil=>
  simp only [Bn,BO]
  by_cases h:c=k
  ·subst h;simp
  ·rw [if_neg h,if_neg (fun e=>h e.symm)]
 |cons e r ih=>
  simp only [Bn]
  by_cases h:e.1=k
  ·rw [if_pos h]
   simp only [BO]
   by_cases h':c=k
   ·subst h';simp
   ·rw [if_neg (fun e=>h' e.symm),if_neg h',if_neg (fun x=>h' (x.symm.trans h))]
  ·rw [if_neg h]
   simp only [BO,ih]
   by_cases h':e.1=c
   ·rw [if_pos h',if_pos h',if_neg (fun x=>h (h'.trans x))]
   ·rw [if_neg h',if_neg h']
section
variable {Γ:Ctx} {al fl:Int} {Ar Fs:List Row} {mp:List (List Nat×List PV)}
theorem Ck.I1 (h:Ck Γ al fl Ar Fs mp) {s:List Nat} {t:Int} (g:Γ s=none):Ck (Γ.I1 s (3,t,0)) al fl Ar Fs (Bn mp s [PV.int .i64 3,PV.int .i64 t,PV.int .i64 0]):=by
 refine ⟨fun k=>?_,h.ha,h.hf,fun k t' i d=>?_,fun i c=>?_⟩
 ·rw [Uu]
  by_cases e:k=s
  ·subst e;rw [if_pos rfl,DR];rfl
  ·rw [if_neg e,DG e];exact h.see k
 ·by_cases e:k=s
  ·subst e;rw [DR]at d;cases d
  ·rw [DG e]at d;exact h.ar k t' i d
 ·by_cases e:[104]=s
  ·rw [←e,DR]at c;cases c
  ·rw [DG e]at c;exact h.fn i c
theorem Ck.keep {lo pu:Int} {Γ':Ctx} {k o t b xk xo xt xv yk yo yt yv:Int} {nm xn yn:List Nat} {xa ya:List E} {bo el:List S} (h:Ck Γ al fl Ar Fs mp) (hs:Dv lo pu Γ (.node k o t b nm (.node xk xo xt xv xn xa) (.node yk yo yt yv yn ya) bo el) Γ') (c:k≠1):Ck Γ' al fl Ar Fs mp:=by
 have:=hs.same c
 subst this;exact h
end
theorem T.tl1 {Γ:Ctx} {t:Int} {x:E} (h:T Γ t x):TL Γ [x]:=fun e c=>by
 simp only [List.mem_cons,List.not_mem_nil,or_false]at c;subst c;exact ⟨t,h⟩
theorem T.tl2 {Γ:Ctx} {t u:Int} {x y:E} (h:T Γ t x) (g:T Γ u y):TL Γ [x,y]:=fun e c=>by
 simp only [List.mem_cons,List.not_mem_nil,or_false]at c
 rcases c with rfl|rfl
 ·exact ⟨t,h⟩
 ·exact ⟨u,g⟩
end Go.AM.K
end
section
namespace Go.AM.K
def PSh (k o t b:Int) (nm:List Nat) (xk xo xt xv:Int) (xn:List Nat) (xa:List E) (yk yo yt yv:Int) (yn:List Nat) (ya:List E) (bo el:List S):Prop:=∃Γ:Ctx,
 (k=1∧o=0∧b=0∧No yk yo yt yv yn ya∧bo=[]∧el=[]∧Nm nm∧1≤t∧t≤3∧T Γ t (.node xk xo xt xv xn xa)∧(E.node xk xo xt xv xn xa).high≤5)∨
 (k=2∧o=0∧t=0∧b=0∧No yk yo yt yv yn ya∧bo=[]∧el=[]∧Nm nm∧∃u,T Γ u (.node xk xo xt xv xn xa)∧(E.node xk xo xt xv xn xa).high≤5)∨
 (k=3∧o=0∧t=0∧b=0∧bo=[]∧el=[]∧Nm nm∧∃u,T Γ 1 (.node xk xo xt xv xn xa)∧T Γ u (.node yk yo yt yv yn ya)∧(E.node xk xo xt xv xn xa).high≤5∧(E.node yk yo yt yv yn ya).high≤5)∨
 (k=4∧t=0∧b=0∧bo=[]∧el=[]∧Nm nm∧(o=10∨o=17∨o=18∨o=19∨o=22∨o=23)∧T Γ 1 (.node xk xo xt xv xn xa)∧T Γ 1 (.node yk yo yt yv yn ya)∧(E.node xk xo xt xv xn xa).high≤5∧(E.node yk yo yt yv yn ya).high≤5)∨
 (k=5∧o=0∧t=0∧b=0∧nm=[]∧No yk yo yt yv yn ya∧T Γ 3 (.node xk xo xt xv xn xa)∧(E.node xk xo xt xv xn xa).high≤5)∨
 (k=6∧o=0∧t=0∧nm=[]∧No yk yo yt yv yn ya∧el=[]∧T Γ 3 (.node xk xo xt xv xn xa)∧(E.node xk xo xt xv xn xa).high≤5∧1≤b∧b≤4)∨
 ((k=7∨k=8)∧o=0∧t=0∧b=0∧nm=[]∧No xk xo xt xv xn xa∧No yk yo yt yv yn ya∧bo=[]∧el=[])∨
 ((k=9∨k=10)∧o=0∧t=0∧b=0∧nm=[]∧No xk xo xt xv xn xa∧No yk yo yt yv yn ya∧bo=[]∧el=[])∨
 (k=11∧(o=1∨o=2)∧t=0∧b=0∧nm=[]∧No xk xo xt xv xn xa∧No yk yo yt yv yn ya∧bo=[]∧el=[])∨
 (k=12∧t=0∧b=0∧No yk yo yt yv yn ya∧bo=[]∧el=[]∧Nm nm∧∃u w,((o=1∧u=1∧w=3)∨((o=2∨o=3)∧u=3∧w=3)∨((o=5∨o=6)∧u≠(3:Int)∧w=u))∧T Γ w (.node xk xo xt xv xn xa)∧(E.node xk xo xt xv xn xa).high≤5)∨
 (k=12∧o=4∧t=0∧b=0∧bo=[]∧el=[]∧Nm nm∧∃u,T Γ u (.node xk xo xt xv xn xa)∧T Γ 1 (.node yk yo yt yv yn ya)∧(E.node xk xo xt xv xn xa).high≤5∧(E.node yk yo yt yv yn ya).high≤5)
mutual
inductive PS:S→Prop
 |mk {k o t b:Int} {nm:List Nat} {xk xo xt xv:Int} {xn:List Nat} {xa:List E} {yk yo yt yv:Int} {yn:List Nat} {ya:List E} {bo el:List S}:PSh k o t b nm xk xo xt xv xn xa yk yo yt yv yn ya bo el→PL bo→PL el→PS (.node k o t b nm (.node xk xo xt xv xn xa) (.node yk yo yt yv yn ya) bo el)
inductive PL:List S→Prop
 |nil:PL []
 |cons {s l}:PS s→PL l→PL (s::l)
end
theorem PL.app {l m:List S} (h:PL l) (g:PL m):PL (l++m):=by
 induction l with
 |nil=>exact g
 |cons s l ih=>cases h with|cons a b=>exact .cons a (ih b)
section
variable {k o t b xk xo xt xv yk yo yt yv:Int} {nm xn yn:List Nat} {xa ya:List E} {bo el:List S}
theorem PS.inv (h:PS (.node k o t b nm (.node xk xo xt xv xn xa) (.node yk yo yt yv yn ya) bo el)):PSh k o t b nm xk xo xt xv xn xa yk yo yt yv yn ya bo el∧PL bo∧PL el:=by
 cases h with|mk h1 h2 h3=>exact ⟨h1,h2,h3⟩
theorem PSh.of {M J:Int} {Γ H:Ctx} (h:Dv M J Γ (.node k o t b nm (.node xk xo xt xv xn xa) (.node yk yo yt yv yn ya) bo el) H):PSh k o t b nm xk xo xt xv xn xa yk yo yt yv yn ya bo el:=by
 refine ⟨Γ,?_⟩
 rcases h.inv with hv|hv|hv|hv|hv|hv|hv|hv|hv|hv|hv
 ·obtain ⟨q,j,c,g,d,x,A,_,z,v,C,D,_⟩:=hv;exact .inl ⟨q,j,c,g,d,x,A,z,v,C,D⟩
 ·obtain ⟨q,j,c,g,d,x,A,y,_,u,_,_,z,v⟩:=hv;exact .inr (.inl ⟨q,j,c,g,d,x,A,y,u,z,v⟩)
 ·obtain ⟨q,j,c,g,d,x,_,y,_,u,_,_,_,_,z,v,C,D⟩:=hv;exact .inr (.inr (.inl ⟨q,j,c,g,d,x,y,u,z,v,C,D⟩))
 ·obtain ⟨q,j,c,g,d,_,A,_,_,_,_,y,z,v,C,D⟩:=hv;exact .inr (.inr (.inr (.inl ⟨q,j,c,g,d,A,y,z,v,C,D⟩)))
 ·obtain ⟨q,j,c,g,d,x,A,y,_⟩:=hv;exact .inr (.inr (.inr (.inr (.inl ⟨q,j,c,g,d,x,A,y⟩))))
 ·obtain ⟨q,j,c,g,d,x,A,y,z,v,_⟩:=hv;exact .inr (.inr (.inr (.inr (.inr (.inl ⟨q,j,c,g,d,x,A,y,z,v⟩)))))
 ·obtain ⟨q,j,c,g,d,x,A,y,z,_⟩:=hv;exact .inr (.inr (.inr (.inr (.inr (.inr (.inl ⟨q,j,c,g,d,x,A,y,z⟩))))))
 ·obtain ⟨q,j,c,g,d,x,A,y,z,_⟩:=hv;exact .inr (.inr (.inr (.inr (.inr (.inr (.inr (.inl ⟨q,j,c,g,d,x,A,y,z⟩)))))))
 ·obtain ⟨q,j,c,g,d,x,A,y,z,_⟩:=hv;exact .inr (.inr (.inr (.inr (.inr (.inr (.inr (.inr (.inl ⟨q,j,c,g,d,x,A,y,z⟩))))))))
 ·obtain ⟨q,j,c,g,d,x,_,y,_,u,w,_,_,_,_,z,v,C⟩:=hv;exact .inr (.inr (.inr (.inr (.inr (.inr (.inr (.inr (.inr (.inl ⟨q,j,c,g,d,x,y,u,w,z,v,C⟩)))))))))
 ·obtain ⟨q,j,c,g,d,x,_,y,_,u,_,_,_,_,z,v,C,D⟩:=hv;exact .inr (.inr (.inr (.inr (.inr (.inr (.inr (.inr (.inr (.inr ⟨q,j,c,g,d,x,y,u,z,v,C,D⟩)))))))))
end
mutual
theorem Dv.ps {q d:Int} {Γ j:Ctx}:∀(s:S),Dv q d Γ s j→PS s
 |.node k o t b nm (.node xk xo xt xv xn xa) (.node yk yo yt yv yn ya) bo el,h=>by
  obtain ⟨_,u,y,x,v,c,g⟩:=h.parts
  exact .mk (PSh.of h) (C8.pl' bo c) (C8.pl' el g)
theorem C8.pl' {g d:Int} {Γ c:Ctx}:∀(l:List S),C8 g d Γ l c→PL l
 |[],_=>.nil
 |s::l,h=>by cases h with|cons a b=>exact .cons (Dv.ps s a) (C8.pl' l b)
end
theorem C8.pl {g d:Int} {Γ c:Ctx} {l:List S} (h:C8 g d Γ l c):PL l:=C8.pl' l h
theorem PL.get {l:List S} (j:Int) (h:PL (l.drop j.toNat)) (g:0≤j) (c:j<((S.Ab l).length:Int)):∃(k o t b:Int) (nm:List Nat) (xk xo xt xv:Int) (xn:List Nat) (xa:List E) (yk yo yt yv:Int) (yn:List Nat) (ya:List E) (bo el:List S),
  (S.Ab l)[j.toNat]?=some [.int .i64 k,.int .i64 o,.int .i64 t,.int .i64 b,.str nm,.int .i64 xk,.int .i64 xo,.int .i64 xt,.str xn,.int .i32 xv,.list 6 (E.Ab xa),.int .i64 yk,.int .i64 yo,.int .i64 yt,.str yn,.int .i32 yv,.list 6 (E.Ab ya),.list 19 (S.Ab bo),.list 19 (S.Ab el)]∧
  PS (.node k o t b nm (.node xk xo xt xv xn xa) (.node yk yo yt yv yn ya) bo el)∧PL (l.drop (j+1).toNat)∧
  S.Ae (l.drop j.toNat)=1+(E.node xk xo xt xv xn xa).nodes+(E.node yk yo yt yv yn ya).nodes+S.Ae bo+S.Ae el+S.Ae (l.drop (j+1).toNat)∧
  S.Ax (l.drop j.toNat)=max (1+max (S.Ax bo) (S.Ax el)) (S.Ax (l.drop (j+1).toNat)):=by
 rw [S.A7]at c
 have d:j.toNat<l.length:=by omega
 have hd:l.drop j.toNat=l[j.toNat]::l.drop (j+1).toNat:=by
  rw [show (j+1).toNat=j.toNat+1 by omega];exact List.drop_eq_getElem_cons d
 rw [hd]at h⊢
 generalize he:l[j.toNat]=s at h⊢
 obtain ⟨k,o,t,b,nm,⟨xk,xo,xt,xv,xn,xa⟩,⟨yk,yo,yt,yv,yn,ya⟩,bo,el⟩:=s
 cases h with
 |cons c h2=>
  exact ⟨k,o,t,b,nm,xk,xo,xt,xv,xn,xa,yk,yo,yt,yv,yn,ya,bo,el,by rw [S.EF,List.getElem?_eq_getElem d,he];rfl,c,h2,rfl,rfl⟩
theorem PS.parts {k o t b xk xo xt xv yk yo yt yv:Int} {nm xn yn:List Nat} {xa ya:List E} {bo el:List S} (h:PS (.node k o t b nm (.node xk xo xt xv xn xa) (.node yk yo yt yv yn ya) bo el)):∃Γ,(∀e∈[E.node xk xo xt xv xn xa,.node yk yo yt yv yn ya],EOk Γ e)∧PL bo∧PL el:=by
 obtain ⟨⟨Γ,hv⟩,A,z⟩:=h.inv
 refine ⟨Γ,?_,A,z⟩
 have key:∀{x y:E},EOk Γ x→EOk Γ y→∀e∈[x,y],EOk Γ e:=fun hx C e v=>by
  simp only [List.mem_cons,List.not_mem_nil,or_false]at v
  rcases v with rfl|rfl
  ·exact hx
  ·exact C
 rcases hv with hv|hv|hv|hv|hv|hv|hv|hv|hv|hv|hv
 ·obtain ⟨_,_,_,g,_,_,_,_,_,c,d⟩:=hv;exact key (.inr ⟨⟨_,c⟩,d⟩) (.inl g.eq)
 ·obtain ⟨_,_,_,_,g,_,_,_,u,c,d⟩:=hv;exact key (.inr ⟨⟨_,c⟩,d⟩) (.inl g.eq)
 ·obtain ⟨_,_,_,_,_,_,_,u,c,d,q,j⟩:=hv;exact key (.inr ⟨⟨_,c⟩,q⟩) (.inr ⟨⟨_,d⟩,j⟩)
 ·obtain ⟨_,_,_,_,_,_,_,c,d,q,j⟩:=hv;exact key (.inr ⟨⟨_,c⟩,q⟩) (.inr ⟨⟨_,d⟩,j⟩)
 ·obtain ⟨_,_,_,_,_,g,c,d⟩:=hv;exact key (.inr ⟨⟨_,c⟩,d⟩) (.inl g.eq)
 ·obtain ⟨_,_,_,_,g,_,c,d,_⟩:=hv;exact key (.inr ⟨⟨_,c⟩,d⟩) (.inl g.eq)
 ·obtain ⟨_,_,_,_,_,g,c,_⟩:=hv;exact key (.inl g.eq) (.inl c.eq)
 ·obtain ⟨_,_,_,_,_,g,c,_⟩:=hv;exact key (.inl g.eq) (.inl c.eq)
 ·obtain ⟨_,_,_,_,_,g,c,_⟩:=hv;exact key (.inl g.eq) (.inl c.eq)
 ·obtain ⟨_,_,_,g,_,_,_,u,w,_,c,d⟩:=hv;exact key (.inr ⟨⟨_,c⟩,d⟩) (.inl g.eq)
 ·obtain ⟨_,_,_,_,_,_,_,u,c,d,q,j⟩:=hv;exact key (.inr ⟨⟨_,c⟩,q⟩) (.inr ⟨⟨_,d⟩,j⟩)
end Go.AM.K
end
section
namespace Go.AM.K
def Di (j:Int):List (List Nat×List PV):=
 ([([97],[PV.int .i64 0,PV.int .i64 1,PV.int .i64 0]),([102],[PV.int .i64 0,PV.int .i64 2,PV.int .i64 1]),([115],[PV.int .i64 0,PV.int .i64 1,PV.int .i64 2]),([112],[PV.int .i64 0,PV.int .i64 1,PV.int .i64 3]),([98],[PV.int .i64 0,PV.int .i64 3,PV.int .i64 4])]:List (List Nat×List PV)).take j.toNat
def EA (j:Int):List (List Nat×List PV):=
 Di 5++([([110],[PV.int .i64 2,PV.int .i64 1,PV.int .i64 0]),([116],[PV.int .i64 2,PV.int .i64 2,PV.int .i64 0]),([99],[PV.int .i64 2,PV.int .i64 3,PV.int .i64 0])]:List (List Nat×List PV)).take j.toNat
def LN:List (List Nat×List PV):=EA 3++[([104],[PV.int .i64 1,PV.int .i64 1,PV.int .i64 0])]
def HJ (j:Int):List (List Nat×List PV):=
 Di 5++([([120],[PV.int .i64 2,PV.int .i64 1,PV.int .i64 0]),([121],[PV.int .i64 2,PV.int .i64 1,PV.int .i64 0])]:List (List Nat×List PV)).take j.toNat
theorem SC {m:List (List Nat×List PV)} {s:List Nat} (h:∀e∈m,e.1≠s):BO m s=none:=by
 induction m with
 |nil=>rfl
 |cons e r ih=>
  simp only [BO]
  rw [if_neg (h e List.mem_cons_self)]
  exact ih fun x hx=>h x (List.mem_cons_of_mem _ hx)
theorem Aex {Γ:Ctx} {m:List (List Nat×List PV)} (L:List (List Nat)) (j:∀s∈L,BO m s=(Γ s).map fun z=>[PV.int .i64 z.1,PV.int .i64 z.2.1,PV.int .i64 z.2.2]) (g:∀s,s∉L→Γ s=none) (d:∀e∈m,e.1∈L) (s:List Nat):
  BO m s=(Γ s).map fun z=>[PV.int .i64 z.1,PV.int .i64 z.2.1,PV.int .i64 z.2.2]:=by
 by_cases h:s∈L
 ·exact j s h
 ·rw [g s h,SC fun e c k=>h (by rw [←k];exact d e c)];rfl
theorem Xt {s:List Nat} (h:s∉([[97],[102],[115],[112],[98]]:List (List Nat))):aΓ s=none:=by
 simp only [List.mem_cons,List.not_mem_nil,or_false,not_or]at h
 unfold aΓ
 rw [if_neg h.1,if_neg h.2.1,if_neg h.2.2.1,if_neg h.2.2.2.1,if_neg h.2.2.2.2]
theorem Ry {Γ:Ctx} {s:List Nat} {t i:Int} (d:∀s t i,Γ s=some (0,t,i)→aΓ s=some (0,t,i)) (h:Γ s=some (0,t,i)):0≤i∧i<5∧∃(nm:List Nat) (c g:Int),A4[i.toNat]?=some [.str nm,.int .i64 c,.int .i64 t,.int .i64 g]∧(i=0∨i=2→c≠3):=by
 have h:=d s t i h
 unfold aΓ at h
 repeat' split at h
 all_goals first|(cases h;done) |skip
 all_goals
  simp only [oI,Prod.mk.injEq,true_and]at h
  obtain ⟨rfl,rfl⟩:=h
 ·exact ⟨by decide,by decide,[97],1,8,rfl,fun _=>by decide⟩
 ·exact ⟨by decide,by decide,[102],1,4,rfl,fun h=>by omega⟩
 ·exact ⟨by decide,by decide,[115],2,8,rfl,fun _=>by decide⟩
 ·exact ⟨by decide,by decide,[112],3,4,rfl,fun h=>by omega⟩
 ·exact ⟨by decide,by decide,[98],2,4,rfl,fun h=>by omega⟩
theorem FU {Γ:Ctx} {s n:List Nat} {z:Int×Int×Int} (h:s≠n) (g:Γ s=none):Γ.I1 n z s=none:=by rw [DG h];exact g
theorem Ib {Γ:Ctx} {n s:List Nat} {z:Int×Int×Int} {t i:Int} (c:z.1≠0) (h:Γ.I1 n z s=some (0,t,i)):Γ s=some (0,t,i):=by
 by_cases e:s=n
 ·subst e;rw [DR]at h;simp only [oI]at h;subst h;exact absurd rfl c
 ·rwa [DG e]at h
theorem Ck.Af2 {c:List Row} {fl:Int} (hf:fl=c.length):Ck fΓ 5 fl A4 c (HJ 2):=by
 refine ⟨Aex [[97],[102],[115],[112],[98],[120],[121]] (fun s hs=>by simp only [List.mem_cons,List.not_mem_nil,or_false]at hs;rcases hs with rfl|rfl|rfl|rfl|rfl|rfl|rfl<;>rfl) (fun s hs=>?_) (by decide),rfl,hf,fun s t i h=>?_,fun i h=>?_⟩
 ·simp only [List.mem_cons,List.not_mem_nil,or_false,not_or]at hs
  refine FU hs.2.2.2.2.2.2 (FU hs.2.2.2.2.2.1 (Xt ?_))
  simp only [List.mem_cons,List.not_mem_nil,or_false,not_or]
  exact ⟨hs.1,hs.2.1,hs.2.2.1,hs.2.2.2.1,hs.2.2.2.2.1⟩
 ·exact Ry (Γ:=fΓ) (fun s t i h=>Ib (by decide) (Ib (by decide) h)) h
 ·have e:fΓ [104]=none:=rfl
  rw [e]at h;cases h
theorem WJ {s:List Nat} (hs:s∉([[97],[102],[115],[112],[98],[110],[116],[99]]:List (List Nat))):pΓ s=none:=by
 simp only [List.mem_cons,List.not_mem_nil,or_false,not_or]at hs
 refine FU hs.2.2.2.2.2.2.2 (FU hs.2.2.2.2.2.2.1 (FU hs.2.2.2.2.2.1 (Xt ?_)))
 simp only [List.mem_cons,List.not_mem_nil,or_false,not_or]
 exact ⟨hs.1,hs.2.1,hs.2.2.1,hs.2.2.2.1,hs.2.2.2.2.1⟩
theorem Aac {s:List Nat} {t i:Int} (h:pΓ s=some (0,t,i)):aΓ s=some (0,t,i):=Ib (by decide) (Ib (by decide) (Ib (by decide) h))
theorem Ck.To {c:List Row} {fl:Int} (hf:fl=c.length):Ck (bΓ 0) 5 fl A4 c (EA 3):=by
 have e:bΓ 0=pΓ:=rfl
 rw [e]
 refine ⟨Aex [[97],[102],[115],[112],[98],[110],[116],[99]] (fun s hs=>by simp only [List.mem_cons,List.not_mem_nil,or_false]at hs;rcases hs with rfl|rfl|rfl|rfl|rfl|rfl|rfl|rfl<;>rfl) (fun s hs=>WJ hs) (by decide),rfl,hf,fun s t i h=>Ry (Γ:=pΓ) (fun s t i h=>Aac h) h,fun i h=>?_⟩
 have e:pΓ [104]=none:=rfl
 rw [e]at h;cases h
theorem Ck.Aj0 {k o y w:Int} {s:List Nat} {F A:List Row}:Ck (bΓ 1) 5 1 A4 [hrow AH F k o y s w A] LN:=by
 have e:bΓ 1=pΓ.I1 [104] (1,1,0):=rfl
 rw [e]
 refine ⟨Aex [[97],[102],[115],[112],[98],[110],[116],[99],[104]] (fun s hs=>by simp only [List.mem_cons,List.not_mem_nil,or_false]at hs;rcases hs with rfl|rfl|rfl|rfl|rfl|rfl|rfl|rfl|rfl<;>rfl) (fun s hs=>?_) (by decide),rfl,rfl,fun s t i h=>Ry (Γ:=pΓ.I1 [104] (1,1,0)) (fun s t i h=>Aac (Ib (by decide) h)) h,fun i h=>?_⟩
 ·simp only [List.mem_cons,List.not_mem_nil,or_false,not_or]at hs
  refine FU hs.2.2.2.2.2.2.2.2 (WJ ?_)
  simp only [List.mem_cons,List.not_mem_nil,or_false,not_or]
  exact ⟨hs.1,hs.2.1,hs.2.2.1,hs.2.2.2.1,hs.2.2.2.2.1,hs.2.2.2.2.2.1,hs.2.2.2.2.2.2.1,hs.2.2.2.2.2.2.2.1⟩
 ·rw [DR]at h
  simp only [oI,Prod.mk.injEq,true_and]at h
  subst h
  exact ⟨by decide,by decide,F,k,o,y,w,s,A,rfl⟩
def GR (k:List Row):Prop:=k=[]∨∃(c:List S) (g:List E) (j:Ctx) (rk ro ry rw:Int) (d:List Nat),k=[hrow AH (S.Ab c) rk ro ry d rw (E.Ab g)]∧C8 0 1 fΓ c j∧T j 1 (.node rk ro ry rw d g)∧
 S.Ax c≤2∧S.Ae c≤160∧(E.node rk ro ry rw d g).nodes≤13∧(E.node rk ro ry rw d g).high≤5
theorem GR.mk {F A:List Row} {k o y w:Int} {s:List Nat} (h:Jq F k o y w s A):GR [hrow AH F k o y s w A]:=by
 obtain ⟨g,l,⟨d,rfl,j,C,v⟩,hl,q,rfl,c,x,u⟩:=h
 have z:F 3=13:=rfl
 exact .inr ⟨d,q,g,k,o,y,w,s,rfl,j,c,by omega,by omega,by omega,by omega⟩
theorem Adt {ρ:Env} {a b:ST} {x y z:Int} (h:a.den ρ=x) (g:b.den ρ=y) (r:bits .and .i64 x y=z):(ST.bin .and .i64 a b).den ρ=z:=by
 show bits .and .i64 (a.den ρ) (b.den ρ)=z
 rw [h,g];exact r
theorem GR.list {c:List Row} (h:GR c):c=[]∨∃F k o y w s A,c=[hrow AH F k o y s w A]:=by
 rcases h with h|⟨fb,fa,Γe,rk,ro,ry,rw,rs,h,_⟩
 ·exact .inl h
 ·exact .inr ⟨_,_,_,_,_,_,_,h⟩
end Go.AM.K
end
section
namespace Go.AM.K
theorem T.weak {Γ c:Ctx} {t:Int} {e:E} (h:T Γ t e) (hs:∀s z,Γ s=some z→c s=some z):T c t e:=by
 induction h with
 |num h1 h2 h3 h4 h5=>exact .num h1 h2 h3 h4 h5
 |id h1 h2=>exact .id h1 h2
 |var h1 h2 h3 h4 h5=>exact .var h1 h2 h3 h4 (hs _ _ h5)
 |un h1 _ ih=>exact .un h1 ih
 |bin h1 _ _ ih1 ih2=>exact .bin h1 ih1 ih2
 |cond _ _ _ ih1 ih2 ih3=>exact .cond ih1 ih2 ih3
 |load h1 h2 h3 h4 _ ih=>exact .load h1 h2 h3 (hs _ _ h4) ih
 |call h1 _ _ ih1 ih2=>exact .call (hs _ _ h1) ih1 ih2
theorem AbT {Γ:Ctx} {n:List Nat} {z:Int×Int×Int} (c:Γ n=none):∀s y,Γ s=some y→Γ.I1 n z s=some y:=fun _ _ h=>DS h c
end Go.AM.K
end
section
namespace Go.AM.K
mutual
inductive Y1:Int→Int→Ctx→S→Prop
 |var {lo pu Γ n t x z}:Γ n=some z→1≤t→t≤3→T Γ t x→Y1 lo pu Γ (.node 1 0 t 0 n x E0 [] [])
 |thn {lo pu Γ x bo el}:T Γ 3 x→DF lo pu Γ bo→Y1 lo pu Γ (.node 5 0 0 0 [] x E0 bo el)
 |els {lo pu Γ x bo el Γ1}:T Γ 3 x→C8 lo pu Γ bo Γ1→DF lo pu Γ el→Y1 lo pu Γ (.node 5 0 0 0 [] x E0 bo el)
 |whl {lo pu Γ x b bo}:T Γ 3 x→1≤b→b≤4→DF 1 pu Γ bo→Y1 lo pu Γ (.node 6 0 0 b [] x E0 bo [])
inductive DF:Int→Int→Ctx→List S→Prop
 |head {lo pu Γ s l}:Y1 lo pu Γ s→DF lo pu Γ (s::l)
 |tail {lo pu Γ s l Γ1}:Dv lo pu Γ s Γ1→DF lo pu Γ1 l→DF lo pu Γ (s::l)
end
abbrev Le (Γ c:Ctx):Prop:=∀s z,Γ s=some z→c s=some z
theorem Le.I1 {Γ c:Ctx} {n:List Nat} {z:Int×Int×Int} (h:Le Γ c):Le (Γ.I1 n z) (c.I1 n z):=fun s y hs=>by
 by_cases e:s=n
 ·subst e;rw [DR]at hs⊢;exact hs
 ·rw [DG e]at hs⊢;exact h s y hs
mutual
theorem Dv.ext {lo pu:Int} {Γ d c:Ctx} {s:S} (hl:Le Γ c):Dv lo pu Γ s d→(∃g,Dv lo pu c s g∧Le d g)∨Y1 lo pu c s
 |.var (n:=n) (t:=t) h1 h2 h3 h4 h5 h6=>by
  cases e:c n with
  |none=>exact .inl ⟨_,.var h1 e h3 h4 (h5.weak hl) h6,hl.I1⟩
  |some z=>exact .inr (.var e h3 h4 (h5.weak hl))
 |.set h1 h2 h3 h4=>.inl ⟨_,.set h1 (hl _ _ h2) (h3.weak hl) h4,hl⟩
 |.store h1 h2 h3 h4 h5 h6 h7 h8=>.inl ⟨_,.store h1 h2 h3 (hl _ _ h4) (h5.weak hl) (h6.weak hl) h7 h8,hl⟩
 |.atom h1 h2 h3 h4 h5 h6 h7 h8=>.inl ⟨_,.atom h1 h2 (hl _ _ h3) h4 (h5.weak hl) (h6.weak hl) h7 h8,hl⟩
 |.ife h1 h2 h3 h4=>by
  rcases C8.ext hl h3 with ⟨_,a,_⟩|a
  ·rcases C8.ext hl h4 with ⟨_,b,_⟩|b
   ·exact .inl ⟨_,.ife (h1.weak hl) h2 a b,hl⟩
   ·exact .inr (.els (h1.weak hl) a b)
  ·exact .inr (.thn (h1.weak hl) a)
 |.whl h1 h2 h3 h4 h5=>by
  rcases C8.ext hl h5 with ⟨_,a,_⟩|a
  ·exact .inl ⟨_,.whl (h1.weak hl) h2 h3 h4 a,hl⟩
  ·exact .inr (.whl (h1.weak hl) h3 h4 a)
 |.esc h1 h2=>.inl ⟨_,.esc h1 h2,hl⟩
 |.bar h1=>.inl ⟨_,.bar h1,hl⟩
 |.Nj h1=>.inl ⟨_,.Nj h1,hl⟩
 |.T9 h1 h2 h3 h4 h5 h6 h7=>.inl ⟨_,.T9 h1 (hl _ _ h2) h3 h4 h5 (h6.weak hl) h7,hl⟩
 |.T8 h1 h2 h3 h4 h5 h6 h7 h8=>.inl ⟨_,.T8 h1 (hl _ _ h2) h3 h4 (h5.weak hl) (h6.weak hl) h7 h8,hl⟩
theorem C8.ext {lo pu:Int} {Γ j c:Ctx} {l:List S} (hl:Le Γ c):C8 lo pu Γ l j→(∃d,C8 lo pu c l d∧Le j d)∨DF lo pu c l
 |.nil=>.inl ⟨_,.nil,hl⟩
 |.cons h g=>by
  rcases Dv.ext hl h with ⟨d,a,hl3⟩|a
  ·rcases C8.ext hl3 g with ⟨Γ4,b,hl4⟩|b
   ·exact .inl ⟨_,.cons a b,hl4⟩
   ·exact .inr (.tail a b)
  ·exact .inr (.head a)
end
theorem Dv.le {lo pu:Int} {Γ c:Ctx} {s:S} (h:Dv lo pu Γ s c):Le Γ c:=by
 cases h with
 |var h1 h2=>exact AbT h2
 |_=>exact fun _ _ h=>h
theorem C8.le {lo pu:Int} {Γ c:Ctx}:∀{l:List S},C8 lo pu Γ l c→Le Γ c
 |_,.nil=>fun _ _ h=>h
 |_,.cons h g=>fun s z hs=>C8.le g s z (h.le s z hs)
def FV:List S→List (List Nat)
 |[]=>[]
 |.node k _ _ _ nm _ _ _ _::l=>if k=1 then nm::FV l else FV l
theorem C8.Kk {lo pu:Int} {Γ d:Ctx}:∀{l:List S},C8 lo pu Γ l d→∀n∈FV l,Γ n=none∧∃z,d n=some z
 |_,.nil,n,h=>by cases h
 |.node k o t b nm x y bo el::l,.cons h g,n,hn=>by
  have tail:n∈FV l→Γ n=none∧∃z,d n=some z:=fun q=>by
   obtain ⟨c,j⟩:=C8.Kk g n q
   refine ⟨?_,j⟩
   cases e:Γ n with
   |none=>rfl
   |some z=>rw [h.le n z e]at c;cases c
  simp only [FV]at hn
  split at hn
  ·rename_i u
   rcases List.mem_cons.1 hn with rfl|hn
   ·cases h with
    |var c j=>exact ⟨j,_,C8.le g _ _ DR⟩
    |esc c=>omega
    |bar c=>omega
    |_=>omega
   ·exact tail hn
  ·exact tail hn
theorem C8.Agk {Γ d:Ctx} {l:List S} {lo pu:Int} (h:C8 lo pu Γ l d) (j:FV l≠[]):DF lo pu d l:=by
 rcases h.ext h.le with ⟨Γ3,a,_⟩|a
 ·obtain ⟨n,r,e⟩:=List.exists_cons_of_ne_nil j
  have g:n∈FV l:=by rw [e];exact List.mem_cons_self
  obtain ⟨z,c⟩:=(h.Kk n g).2
  rw [(a.Kk n g).1]at c;cases c
 ·exact a
theorem C8.none {lo pu:Int} {Γ c:Ctx}:∀{l:List S},C8 lo pu Γ l c→FV l=[]→c=Γ
 |_,.nil,_=>rfl
 |.node k o t b nm x y bo el::l,.cons (Γ1:=Γ1) h g,ht=>by
  simp only [FV]at ht
  split at ht
  ·cases ht
  ·rename_i d
   have e:Γ1=Γ:=by
    cases h with
    |var=>exact absurd rfl d
    |_=>rfl
   subst e
   exact C8.none g ht
theorem C8.take {lo pu:Int} {Γ d:Ctx}:∀{l:List S} (n:Nat),C8 lo pu Γ l d→∃c,C8 lo pu Γ (l.take n) c
 |_,0,_=>⟨_,by rw [List.take_zero];exact .nil⟩
 |_,n+1,.nil=>⟨_,.nil⟩
 |_,n+1,.cons h g=>by
  obtain ⟨c,k⟩:=C8.take n g
  exact ⟨c,.cons h k⟩
theorem DF.after {lo pu:Int} {Γ c:Ctx} {l m:List S} (h:C8 lo pu Γ l c) (g:DF lo pu c m):DF lo pu Γ (l++m):=by
 induction l generalizing Γ with
 |nil=>cases h;exact g
 |cons x l ih=>cases h with|cons a b=>exact .tail a (ih b)
theorem S.MH:∀(l:List S) (n:Nat),S.Ae (l.take n)≤S.Ae l
 |_,0=>by simp [S.Ae]
 |[],n+1=>by simp [S.Ae]
 |s::l,n+1=>by have:=S.MH l n;simp only [List.take_succ_cons,S.Ae];omega
theorem S.P8:∀(l:List S) (n:Nat),S.Ax (l.take n)≤S.Ax l
 |_,0=>by simp [S.Ax]
 |[],n+1=>by simp [S.Ax]
 |s::l,n+1=>by have:=S.P8 l n;simp only [List.take_succ_cons,S.Ax];omega
theorem S.P4:∀(l:List S) (n:Nat),S.Ab (l.take n)=(S.Ab l).take n
 |_,0=>by simp [S.Ab]
 |[],n+1=>by simp [S.Ab]
 |s::l,n+1=>by simp only [List.take_succ_cons,S.Ab,S.P4 l n]
section
variable {lo pu:Int} {Γ:Ctx} {l:List S}
theorem DF.get (j:Int) (h:DF lo pu Γ (l.drop j.toNat)) (R:0≤j):j<(l.length:Int)∧
  ((∃(k o t b:Int) (nm:List Nat) (v y d q:Int) (g:List Nat) (u:List E) (yk D C H:Int) (J:List Nat) (A:List E) (c el:List S) (M:Ctx),
   (S.Ab l)[j.toNat]?=some [.int .i64 k,.int .i64 o,.int .i64 t,.int .i64 b,.str nm,.int .i64 v,.int .i64 y,.int .i64 d,.str g,.int .i32 q,.list 6 (E.Ab u),.int .i64 yk,.int .i64 D,.int .i64 C,.str J,.int .i32 H,.list 6 (E.Ab A),.list 19 (S.Ab c),.list 19 (S.Ab el)]∧
   Dv lo pu Γ (.node k o t b nm (.node v y d q g u) (.node yk D C H J A) c el) M∧DF lo pu M (l.drop (j+1).toNat)∧
   S.Ae (l.drop j.toNat)=1+(E.node v y d q g u).nodes+(E.node yk D C H J A).nodes+S.Ae c+S.Ae el+S.Ae (l.drop (j+1).toNat)∧
   S.Ax (l.drop j.toNat)=max (1+max (S.Ax c) (S.Ax el)) (S.Ax (l.drop (j+1).toNat)))∨
  (∃(t:Int) (nm:List Nat) (v y d q:Int) (g:List Nat) (u:List E) (O N P:Int),(S.Ab l)[j.toNat]?=some [.int .i64 1,.int .i64 0,.int .i64 t,.int .i64 0,.str nm,.int .i64 v,.int .i64 y,.int .i64 d,.str g,.int .i32 q,.list 6 (E.Ab u),.int .i64 0,.int .i64 0,.int .i64 0,.str [],.int .i32 0,.list 6 (E.Ab []),.list 19 (S.Ab []),.list 19 (S.Ab [])]∧Γ nm=some (O,N,P)∧1≤t∧t≤3∧T Γ t (.node v y d q g u))∨
  (∃(v y d q:Int) (g:List Nat) (u:List E) (c el:List S),(S.Ab l)[j.toNat]?=some [.int .i64 5,.int .i64 0,.int .i64 0,.int .i64 0,.str [],.int .i64 v,.int .i64 y,.int .i64 d,.str g,.int .i32 q,.list 6 (E.Ab u),.int .i64 0,.int .i64 0,.int .i64 0,.str [],.int .i32 0,.list 6 (E.Ab []),.list 19 (S.Ab c),.list 19 (S.Ab el)]∧T Γ 3 (.node v y d q g u)∧(DF lo pu Γ c∨((∃M,C8 lo pu Γ c M)∧DF lo pu Γ el))∧1+max (S.Ax c) (S.Ax el)≤S.Ax (l.drop j.toNat)∧S.Ae c+S.Ae el≤S.Ae (l.drop j.toNat))∨
  (∃(b v y d q:Int) (g:List Nat) (u:List E) (c:List S),(S.Ab l)[j.toNat]?=some [.int .i64 6,.int .i64 0,.int .i64 0,.int .i64 b,.str [],.int .i64 v,.int .i64 y,.int .i64 d,.str g,.int .i32 q,.list 6 (E.Ab u),.int .i64 0,.int .i64 0,.int .i64 0,.str [],.int .i32 0,.list 6 (E.Ab []),.list 19 (S.Ab c),.list 19 (S.Ab [])]∧T Γ 3 (.node v y d q g u)∧1≤b∧b≤4∧DF 1 pu Γ c∧1+S.Ax c≤S.Ax (l.drop j.toNat)∧S.Ae c≤S.Ae (l.drop j.toNat))):=by
 have Q:j.toNat<l.length:=by
  rcases Nat.lt_or_ge j.toNat l.length with h1|h1
  ·exact h1
  ·rw [List.drop_eq_nil_of_le h1]at h;cases h
 refine ⟨by omega,?_⟩
 have hd:l.drop j.toNat=l[j.toNat]::l.drop (j+1).toNat:=by
  rw [show (j+1).toNat=j.toNat+1 by omega];exact List.drop_eq_getElem_cons Q
 have hg:(S.Ab l)[j.toNat]?=some (l[j.toNat]).enc:=by rw [S.EF,List.getElem?_eq_getElem Q];rfl
 rw [hd]at h⊢
 generalize l[j.toNat]=s at h hg⊢
 cases h with
 |tail h1 h2=>
  obtain ⟨k,o,t,b,nm,⟨v,y,d,q,g,u⟩,⟨yk,D,C,H,J,A⟩,c,el⟩:=s
  exact .inl ⟨k,o,t,b,nm,v,y,d,q,g,u,yk,D,C,H,J,A,c,el,_,hg,h1,h2,rfl,rfl⟩
 |head h1=>
  refine .inr ?_
  cases h1 with
  |@var _ _ _ _ _ x z h1 h2 h3 h4=>
   obtain ⟨v,y,d,q,g,u⟩:=x
   obtain ⟨O,N,P⟩:=z
   exact .inl ⟨_,_,v,y,d,q,g,u,O,N,P,hg,h1,h2,h3,h4⟩
  |@thn _ _ _ x c el h1 h2=>
   obtain ⟨v,y,d,q,g,u⟩:=x
   exact .inr (.inl ⟨v,y,d,q,g,u,c,el,hg,h1,.inl h2,by simp only [S.Ax,S.deep];omega,by simp only [S.Ae,S.nodes];omega⟩)
  |@els _ _ _ x c el _ h1 h2 h3=>
   obtain ⟨v,y,d,q,g,u⟩:=x
   exact .inr (.inl ⟨v,y,d,q,g,u,c,el,hg,h1,.inr ⟨⟨_,h2⟩,h3⟩,by simp only [S.Ax,S.deep];omega,by simp only [S.Ae,S.nodes];omega⟩)
  |@whl _ _ _ x b c h1 h2 h3 h4=>
   obtain ⟨v,y,d,q,g,u⟩:=x
   exact .inr (.inr ⟨b,v,y,d,q,g,u,c,hg,h1,h2,h3,h4,by simp only [S.Ax,S.deep];omega,by simp only [S.Ae,S.nodes];omega⟩)
end
end Go.AM.K
end
section
namespace Go.AM.K
theorem PL.Alu {l:List S} (j:Int) (h:PL (l.drop j.toNat)) (M:0≤j) (H:j<(l.length:Int)):∃(k o t b:Int) (nm:List Nat) (C D g u:Int) (q:List Nat) (y:List E) (yk x d z:Int) (A:List Nat) (c:List E) (v el:List S),
  (S.Ab l)[j.toNat]?=some [.int .i64 k,.int .i64 o,.int .i64 t,.int .i64 b,.str nm,.int .i64 C,.int .i64 D,.int .i64 g,.str q,.int .i32 u,.list 6 (E.Ab y),.int .i64 yk,.int .i64 x,.int .i64 d,.str A,.int .i32 z,.list 6 (E.Ab c),.list 19 (S.Ab v),.list 19 (S.Ab el)]∧
  PL (l.drop (j+1).toNat)∧(k=1→Nm nm∧FV (l.drop j.toNat)=nm::FV (l.drop (j+1).toNat))∧(k≠1→FV (l.drop j.toNat)=FV (l.drop (j+1).toNat)):=by
 have J:j.toNat<l.length:=by omega
 have hd:l.drop j.toNat=l[j.toNat]::l.drop (j+1).toNat:=by
  rw [show (j+1).toNat=j.toNat+1 by omega];exact List.drop_eq_getElem_cons J
 have hg:(S.Ab l)[j.toNat]?=some (l[j.toNat]).enc:=by rw [S.EF,List.getElem?_eq_getElem J];rfl
 rw [hd]at h⊢
 generalize l[j.toNat]=s at h hg⊢
 obtain ⟨k,o,t,b,nm,⟨C,D,g,u,q,y⟩,⟨yk,x,d,z,A,c⟩,v,el⟩:=s
 cases h with
 |cons H h2=>
  refine ⟨k,o,t,b,nm,C,D,g,u,q,y,yk,x,d,z,A,c,v,el,hg,h2,fun e=>⟨?_,by simp only [FV,if_pos e]⟩,fun e=>by simp only [FV,if_neg e]⟩
  obtain ⟨⟨Γ,hv⟩,_⟩:=H.inv
  rcases hv with hv|hv|hv|hv|hv|hv|hv|hv|hv|hv|hv
  ·exact hv.2.2.2.2.2.2.1
  all_goals (exfalso;have:=hv.1;omega)
theorem Nm.ne {n:List Nat} (h:Nm n):n≠[]:=by
 intro e;subst e
 have:([]:List Nat)∉names:=by decide
 exact this h
end Go.AM.K
end
