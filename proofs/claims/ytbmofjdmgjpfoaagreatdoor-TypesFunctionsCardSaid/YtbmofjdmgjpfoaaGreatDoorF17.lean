/- Part 17 of TypesFunctions. -/
import Derived.Test.YtbmofjdmgjpfoaaGreatDoorF4
import Derived.Test.YtbmofjdmgjpfoaaGreatDoorF5
import Derived.Test.YtbmofjdmgjpfoaaGreatDoorF6
import Derived.Test.YtbmofjdmgjpfoaaGreatDoorF7
import Derived.Test.YtbmofjdmgjpfoaaGreatDoorF8
import Derived.Test.YtbmofjdmgjpfoaaGreatDoorF9
import Derived.Test.YtbmofjdmgjpfoaaGreatDoorF10
import Derived.Test.YtbmofjdmgjpfoaaGreatDoorF11
import Derived.Test.YtbmofjdmgjpfoaaGreatDoorF12
import Derived.Test.YtbmofjdmgjpfoaaGreatDoorF13
import Derived.Test.YtbmofjdmgjpfoaaGreatDoorF14
import Derived.Test.YtbmofjdmgjpfoaaGreatDoorF15
import Derived.Test.YtbmofjdmgjpfoaaGreatDoorF16
import Derived.KernelRfl
set_option linter.all false
namespace Go.Proofs.YtbmofjdmgjpfoaaGreatDoor.Am
section
open Go.AM
set_option maxHeartbeats 40000000
set_option maxRecDepth 100000
noncomputable section
def AhH:List (Nat×AM.Tree):=[(3,t_3),(4,Xf),(5,t_5),(6,t_6),(7,t_7),(8,t_8),(9,t_9),(10,Afn),(11,Afm),(12,Aih),(13,Aig),(14,Afl),(15,Aif),(16,Aie),(17,Aid),(18,Aic),(19,Aib),(20,Afk),(21,Aia),(22,AhZ),(23,AhY),(24,AhX),(25,AhW),(26,AhV),(27,AhU),(28,AhT),(29,AhS),(30,AhQ),(31,AhP),(32,AhO),(33,AhN),(34,AhM),(35,AhL),(36,AhK),(37,AhJ),(38,Afj),(39,Afi),(40,Afh),(41,Afg),(42,Aff),(43,Afe),(44,Y5),(46,Y4),(48,AcF),(49,AcE),(50,Afd),(51,Afc),(52,Afb),(53,Afa),(54,AeZ),(55,AeY),(56,AeX),(58,AeW),(59,AeV),(60,AeU),(62,AeT),(63,AeS),(65,AeR),(66,AeQ),(68,AeP),(69,AcD),(71,AeO),(72,AeN),(75,AeM),(77,AeL),(78,AeK),(79,AeJ),(80,AcC),(81,AcB),(82,AcA),(83,Ac9),(84,AeI),(85,AeH),(86,AeG),(87,I0),(88,AeF),(89,AeE),(90,AeD),(91,AeC),(92,AeB),(93,AeA),(94,Ae9),(95,Ae8),(96,Ae7),(97,Lu),(98,Ae6),(99,JV),(100,Z3),(101,Z2),(102,Z1),(103,O2),(104,Z0),(105,Zz),(106,Zy),(107,Zx),(108,Zw),(109,RP),(110,AdH),(111,VC),(112,Zv),(113,Zu),(114,Zt),(115,Zs),(116,Zr),(117,Zq),(118,Zp),(119,Zo),(120,Zn),(121,Zm),(122,Zl),(123,VB),(124,F8),(125,Zk),(126,Zj),(127,Zi),(128,Zh),(129,Zg),(130,VA),(131,Zf),(132,V9),(133,RO),(134,Ze),(135,V8),(136,RN),(137,Zd),(138,Zc),(139,Zb),(140,Za),(141,Ik),(142,YZ),(143,YY),(144,YX),(146,YW),(147,YV),(148,YU),(149,YT),(150,YS),(151,YR),(152,YQ),(153,YP),(154,YO),(155,YN),(156,AdG),(157,YM),(158,YL),(159,Ej),(160,YK),(161,YJ),(162,YI),(163,YH),(164,YG),(165,YF),(166,YE),(167,YD),(168,YC),(169,AdF),(170,E5),(171,YB),(172,YA),(173,AdE),(174,Y9),(175,Y8),(176,AdD),(177,Y7),(178,Y6),(179,AdC)]
def trees (c:Nat):AM.Tree:=Y1 c AhH
end
theorem sc {S' S:List (Nat×AM.Spec)} {c:Nat} {sp:AM.Spec} (h:ET c S=some sp) (hr:AM.Sub S' S):AM.Sub ((c,sp)::S') S:=Z5 h hr
theorem oo {T:Nat->Option Obj} (hB:NL T) {S':List (Nat×AM.Spec)} {sp:AM.Spec} {t:AM.Tree} (h:sp.ok S' (runs sp.f) t=true) (hs:AM.Sub S' SS:=by repeat (first|exact AcG|refine sc rfl ?_)):AM.Ace Tryz.prog T SS sp t:=⟨_,_,hs,AcN hB _,h⟩
theorem Aht {T:Nat->Option Obj} (hB:NL T):AM.Acy Tryz.prog T SS trees:=AbQ
 ⟨oo hB AnJ,
 ⟨oo hB AnI,
 ⟨oo hB AnH,
 ⟨oo hB AnG,
 ⟨oo hB AnF,
 ⟨oo hB AnE,
 ⟨oo hB AnD,
 ⟨oo hB AjU,
 ⟨oo hB AjT,
 ⟨oo hB AjS,
 ⟨oo hB AjR,
 ⟨oo hB AjQ,
 ⟨oo hB AjP,
 ⟨oo hB AjO,
 ⟨oo hB AjN,
 ⟨oo hB AjM,
 ⟨oo hB AjL,
 ⟨oo hB AjK,
 ⟨oo hB AjJ,
 ⟨oo hB AjI,
 ⟨oo hB AjH,
 ⟨oo hB AjG,
 ⟨oo hB AjF,
 ⟨oo hB AjE,
 ⟨oo hB AjD,
 ⟨oo hB AjC,
 ⟨oo hB AjB,
 ⟨oo hB AjA,
 ⟨oo hB Aj9,
 ⟨oo hB Aj8,
 ⟨oo hB Aj7,
 ⟨oo hB Aj6,
 ⟨oo hB Aj5,
 ⟨oo hB Aj4,
 ⟨oo hB Aj3,
 ⟨oo hB Aj2,
 ⟨oo hB Aj1,
 ⟨oo hB Aj0,
 ⟨oo hB Ajz,
 ⟨oo hB Ajy,
 ⟨oo hB Ajx,
 ⟨oo hB Ajw,
 ⟨oo hB Ajv,
 ⟨oo hB Aju,
 ⟨oo hB Ajt,
 ⟨oo hB Ajs,
 ⟨oo hB Ajr,
 ⟨oo hB Ajq,
 ⟨oo hB Ajp,
 ⟨oo hB Ajo,
 ⟨oo hB Ajn,
 ⟨oo hB Ajm,
 ⟨oo hB Ajl,
 ⟨oo hB Ajk,
 ⟨oo hB Ajj,
 ⟨oo hB Aji,
 ⟨oo hB Ajh,
 ⟨oo hB Ajg,
 ⟨oo hB Ajf,
 ⟨oo hB Aje,
 ⟨oo hB Ajd,
 ⟨oo hB Ajc,
 ⟨oo hB Ajb,
 ⟨oo hB Aja,
 ⟨oo hB AiZ,
 ⟨oo hB AiY,
 ⟨oo hB AiX,
 ⟨oo hB AiW,
 ⟨oo hB AiV,
 ⟨oo hB AiU,
 ⟨oo hB AiT,
 ⟨oo hB AiS,
 ⟨oo hB AiR,
 ⟨oo hB AiQ,
 ⟨oo hB AiP,
 ⟨oo hB AiO,
 ⟨oo hB AiN,
 ⟨oo hB AiM,
 ⟨oo hB AiL,
 ⟨oo hB AiK,
 ⟨oo hB AiJ,
 ⟨oo hB AiI,
 ⟨oo hB AiH,
 ⟨oo hB AiG,
 ⟨oo hB AiF,
 ⟨oo hB AiE,
 ⟨oo hB AiD,
 ⟨oo hB AgE,
 ⟨oo hB AgD,
 ⟨oo hB AgC,
 ⟨oo hB AgB,
 ⟨oo hB AgA,
 ⟨oo hB Ag9,
 ⟨oo hB Ag8,
 ⟨oo hB Ag7,
 ⟨oo hB Ag6,
 ⟨oo hB Ag5,
 ⟨oo hB Ag4,
 ⟨oo hB Ag3,
 ⟨oo hB Ag2,
 ⟨oo hB Ag1,
 ⟨oo hB Ag0,
 ⟨oo hB Agz,
 ⟨oo hB Agy,
 ⟨oo hB Agx,
 ⟨oo hB Agw,
 ⟨oo hB Agv,
 ⟨oo hB Agu,
 ⟨oo hB Agt,
 ⟨oo hB Ags,
 ⟨oo hB Agr,
 ⟨oo hB Agq,
 ⟨oo hB Agp,
 ⟨oo hB Ago,
 ⟨oo hB Agn,
 ⟨oo hB Agm,
 ⟨oo hB Agl,
 ⟨oo hB Agk,
 ⟨oo hB Agj,
 ⟨oo hB Agi,
 ⟨oo hB Agh,
 ⟨oo hB Agg,
 ⟨oo hB Agf,
 ⟨oo hB Age,
 ⟨oo hB Agd,
 ⟨oo hB Agc,
 ⟨oo hB Agb,
 ⟨oo hB Aga,
 ⟨oo hB AfZ,
 ⟨oo hB AfY,
 ⟨oo hB AfX,
 ⟨oo hB AfW,
 ⟨oo hB AfV,
 ⟨oo hB AfU,
 ⟨oo hB AfT,
 ⟨oo hB AfS,
 ⟨oo hB AfR,
 ⟨oo hB AfQ,
 ⟨oo hB AfP,
 ⟨oo hB AfO,
 ⟨oo hB AfN,
 ⟨oo hB AfM,
 ⟨oo hB AfL,
 ⟨oo hB AfK,
 ⟨oo hB AfJ,
 ⟨oo hB AfI,
 ⟨oo hB AfH,
 ⟨oo hB AfG,
 ⟨oo hB AfF,
 ⟨oo hB AfE,
 ⟨oo hB AfD,
 ⟨oo hB AfC,
 ⟨oo hB AfB,
 ⟨oo hB AfA,
 ⟨oo hB Af9,
 ⟨oo hB Af8,
 ⟨oo hB Af7,
 ⟨oo hB Af6,
 ⟨oo hB Af5,
 ⟨oo hB Af4,
 ⟨oo hB Af3,
 ⟨oo hB Af2,
 ⟨oo hB Af1,
 ⟨oo hB Af0,
 ⟨oo hB Afz,
 ⟨oo hB Afy,trivial⟩⟩⟩⟩⟩⟩⟩⟩⟩⟩⟩⟩⟩⟩⟩⟩⟩⟩⟩⟩⟩⟩⟩⟩⟩⟩⟩⟩⟩⟩⟩⟩⟩⟩⟩⟩⟩⟩⟩⟩⟩⟩⟩⟩⟩⟩⟩⟩⟩⟩⟩⟩⟩⟩⟩⟩⟩⟩⟩⟩⟩⟩⟩⟩⟩⟩⟩⟩⟩⟩⟩⟩⟩⟩⟩⟩⟩⟩⟩⟩⟩⟩⟩⟩⟩⟩⟩⟩⟩⟩⟩⟩⟩⟩⟩⟩⟩⟩⟩⟩⟩⟩⟩⟩⟩⟩⟩⟩⟩⟩⟩⟩⟩⟩⟩⟩⟩⟩⟩⟩⟩⟩⟩⟩⟩⟩⟩⟩⟩⟩⟩⟩⟩⟩⟩⟩⟩⟩⟩⟩⟩⟩⟩⟩⟩⟩⟩⟩⟩⟩⟩⟩⟩⟩⟩⟩⟩⟩⟩⟩⟩⟩⟩⟩⟩⟩
theorem good {T:Nat->Option Obj} (hB:NL T) (n:Nat):AM.Good Tryz.prog T SS (mir trees n):=SC (Aht hB) n
end
end Go.Proofs.YtbmofjdmgjpfoaaGreatDoor.Am
namespace Go.AM
section
def Dl (B:List (List PV)):Prop:=∀(i:Nat) (x:List PV),B[i]?=some x->∃n:Int,0<=n/\n<=255/\x=[.int .u8 n]
theorem AbI {B:List (List PV)} (h:Dl B) (i:Int) (x:0<=i) (z:i<B.length):∃n:Int,0<=n/\n<=255/\B[i.toNat]?=some [.int .u8 n]:=by
 have j:i.toNat<B.length:=by omega
 obtain ⟨n,k1,v,q⟩:=h i.toNat _ (List.getElem?_eq_getElem j)
 exact ⟨n,k1,v,by rw [List.getElem?_eq_getElem j,q]⟩
theorem AhE (e:Int) (h:(-2147483648:Int)<=e/\e<=(2147483647:Int):=by omega):IntKind.wrap .i32 e=e:=P3 .i32 e h
theorem AhD (e:Int) (h:(-9223372036854775808:Int)<=e/\e<=(9223372036854775807:Int):=by omega):IntKind.wrap .i64 e=e:=P3 .i64 e h
theorem Anh (e:Int) (h:(0:Int)<=e/\e<=(255:Int):=by omega):IntKind.wrap .u8 e=e:=P3 .u8 e h
end
section
theorem Yq {e:Int} (h:(-9223372036854775808:Int)<=e/\e<=9223372036854775807):IntKind.wrap .i64 e=e:=AhD e h
theorem Ac6 {e:Int} (h:(-2147483648:Int)<=e/\e<=2147483647):IntKind.wrap .i32 e=e:=AhE e h
theorem Ang {e:Int} (h:(0:Int)<=e/\e<=255):IntKind.wrap .u8 e=e:=Anh e h
theorem Ac7 {a b:Int} (h:0<=a):Int.tmod a b=a%b:=Int.tmod_eq_emod_of_nonneg h
theorem Ac8 {a b:Int} (h:0<=a):Int.tdiv a b=a/b:=Int.tdiv_eq_ediv_of_nonneg h
theorem kn {p:Prop} (h:p:=by first|omega|assumption|rfl|(simp only [lA,lC,lN,lT',List.length_drop,true_and,and_true];omega) |(simp only [lA,lC,lN,lT',List.length_drop,true_and,and_true]at*;omega) |(subst_vars;first|assumption|omega)):p:=h
theorem dead {p:Prop} (h:False:=by first|omega|contradiction|(simp only [lA,lC,lN,lT',List.length_drop,true_and,and_true]at*;omega)):p:=h.elim
section
variable {ρ:Env} {t a b:ST} {x y:Int}
theorem d8 (h:t.den ρ=x) (r:0<=x/\x<=255):(ST.conv .u8 t).den ρ=x:=by show IntKind.wrap .u8 (t.den ρ)=x;rw [h];exact Ang r
theorem d32 (h:t.den ρ=x) (r:(-2147483648:Int)<=x/\x<=2147483647):(ST.conv .i32 t).den ρ=x:=by show IntKind.wrap .i32 (t.den ρ)=x;rw [h];exact Ac6 r
theorem d64 (h:t.den ρ=x) (r:(-9223372036854775808:Int)<=x/\x<=9223372036854775807):(ST.conv .i64 t).den ρ=x:=by show IntKind.wrap .i64 (t.den ρ)=x;rw [h];exact Yq r
theorem da (h:a.den ρ=x) (g:b.den ρ=y) (r:(-9223372036854775808:Int)<=x+y/\x+y<=9223372036854775807):(ST.bin .add .i64 a b).den ρ=x+y:=by show IntKind.wrap .i64 (a.den ρ+b.den ρ)=_;rw [h,g];exact Yq r
theorem ds (h:a.den ρ=x) (g:b.den ρ=y) (r:(-9223372036854775808:Int)<=x-y/\x-y<=9223372036854775807):(ST.bin .sub .i64 a b).den ρ=x-y:=by show IntKind.wrap .i64 (a.den ρ-b.den ρ)=_;rw [h,g];exact Yq r
theorem dm (h:a.den ρ=x) (g:b.den ρ=y) (r:(-9223372036854775808:Int)<=x*y/\x*y<=9223372036854775807):(ST.bin .mul .i64 a b).den ρ=x*y:=by show IntKind.wrap .i64 (a.den ρ*b.den ρ)=_;rw [h,g];exact Yq r
theorem da2 (h:a.den ρ=x) (g:b.den ρ=y) (r:(-2147483648:Int)<=x+y/\x+y<=2147483647):(ST.bin .add .i32 a b).den ρ=x+y:=by show IntKind.wrap .i32 (a.den ρ+b.den ρ)=_;rw [h,g];exact Ac6 r
theorem ds2 (h:a.den ρ=x) (g:b.den ρ=y) (r:(-2147483648:Int)<=x-y/\x-y<=2147483647):(ST.bin .sub .i32 a b).den ρ=x-y:=by show IntKind.wrap .i32 (a.den ρ-b.den ρ)=_;rw [h,g];exact Ac6 r
theorem dm2 (h:a.den ρ=x) (g:b.den ρ=y) (r:(-2147483648:Int)<=x*y/\x*y<=2147483647):(ST.bin .mul .i32 a b).den ρ=x*y:=by show IntKind.wrap .i32 (a.den ρ*b.den ρ)=_;rw [h,g];exact Ac6 r
theorem dr {k:IntKind} (h:a.den ρ=x) (g:b.den ρ=y) (r:0<=x):(ST.bin .rem k a b).den ρ=x%y:=by show Int.tmod (a.den ρ) (b.den ρ)=_;rw [h,g];exact Ac7 r
theorem dq (h:a.den ρ=x) (g:b.den ρ=y) (r:0<=x/\-9223372036854775808<=x/y/\x/y<=9223372036854775807):(ST.bin .quo .i64 a b).den ρ=x/y:=by show IntKind.wrap .i64 (Int.tdiv (a.den ρ) (b.den ρ))=_;rw [h,g,Ac8 r.1];exact Yq r.2
theorem AnM {i:Nat} (h:ρ.val i=x):(ST.var i).den ρ=x:=h
theorem Aks {n:Nat} (h:(n:Int)=x):(ST.lit (.ofNat n)).den ρ=x:=h
theorem dn (h:t.den ρ=x:=by repeat (first|with_reducible refine AnM ?_|with_reducible refine Aks ?_|with_reducible refine d64 ?_ ?_|with_reducible refine da ?_ ?_ ?_|with_reducible refine ds ?_ ?_ ?_|with_reducible refine dr ?_ ?_ ?_|with_reducible refine dq ?_ ?_ ?_|with_reducible refine dm ?_ ?_ ?_|with_reducible refine d32 ?_ ?_|with_reducible refine da2 ?_ ?_ ?_|with_reducible refine ds2 ?_ ?_ ?_|with_reducible refine dm2 ?_ ?_ ?_|with_reducible refine d8 ?_ ?_|exact rfl|omega|(simp only [];omega))):t.den ρ=x:=h
theorem Akt {ts:List ST} {j:List Int} (h:t.den ρ=x) (g:ts.map (fun t=>t.den ρ)=j):(t::ts).map (fun t=>t.den ρ)=x::j:=by rw [List.map_cons,h,g]
theorem AnN:([]:List ST).map (fun t=>t.den ρ)=[]:=rfl
theorem vmk {τ:CD} {n:List Int} {s:List (List Nat)} {l:List (List (List PV))} {m:List (List (List Nat×List PV))} (h:τ.n.map (fun t=>t.den ρ)=n) (hs:τ.s.map (Bl ρ)=s) (hl:τ.l.map ρ.lst=l) (j:τ.m.map ρ.map=m):τ.vals ρ=⟨n,s,l,m⟩:=by
 subst h;subst hs;subst hl;subst j;rfl
theorem vn {τ:CD} {v:Aj} (h:τ.vals ρ=v:=by refine vmk ?_ rfl rfl rfl;repeat (first|with_reducible refine Akt ?_ ?_|with_reducible exact AnN|exact dn)):τ.vals ρ=v:=h
theorem Adv {k:IntKind} (h:t.den ρ=x):GH ρ (.int k) (.int k t)=some (.int k x):=by
 have:U8 k k=true:=by cases k<;>rfl
 simp [GH,this,h]
theorem WK {c:CK} {sh:List CK} {a:Ab} {j:List Ab} {p:PV} {ps:List PV} (h:GH ρ c a=some p) (g:Cu ρ sh j=some ps):Cu ρ (c::sh) (a::j)=some (p::ps):=by simp only [Cu,h,g]
theorem AaA {sh:List CK} {a:List Ab} {j:List (List Ab)} {p:List PV} {ps:List (List PV)} (h:Cu ρ sh a=some p) (g:GF ρ sh j=some ps):GF ρ sh (a::j)=some (p::ps):=by simp only [GF,h,g]
theorem Afx {sh:List CK} {j:List (List Ab)} {l:List (List PV)} (h:GF ρ sh j=some l):Dn ρ sh (.els j)=some l:=h
variable {sh:List CK} {p q r:AE} {l l2 l3:List (List PV)}
theorem CE (h:Dn ρ sh p=some l):Cy ρ sh [p]=some l:=by simp [Cy,h]
theorem Bq (h:Dn ρ sh p=some l) (g:Dn ρ sh q=some l2):Cy ρ sh [p,q]=some (l++l2):=by simp [Cy,h,g]
theorem AaH (h:Dn ρ sh p=some l) (g:Dn ρ sh q=some l2) (f:Dn ρ sh r=some l3):Cy ρ sh [p,q,r]=some (l++l2++l3):=by simp [Cy,h,g,f]
theorem Xt {i:Nat} {n:ST} {n':Int} (h:n.den ρ=n') (j:0<=n'/\n'<=((ρ.lst i).length:Int)):Dn ρ sh (.take i n)=some ((ρ.lst i).take n'.toNat):=by
 simp only [Dn,h];rw [if_pos j]
theorem pe {j:List (List Ab)} (h:Dn ρ sh (.els j)=some l:=by first|rfl|(refine Afx ?_;repeat (first|refine AaA ?_ ?_|refine WK ?_ ?_|exact Adv dn|rfl))):Dn ρ sh (.els j)=some l:=h
theorem pw {i:Nat} {n:ST} (x:Int) (L:List (List PV)) (h:n.den ρ=x:=by exact dn) (hl:ρ.lst i=L:=by rfl) (j:x=(L.length:Int):=by exact kn):Dn ρ sh (.take i n)=some L:=by
 subst hl;subst j
 simp only [Dn,h]
 rw [if_pos ⟨by omega,by omega⟩,Int.toNat_natCast,List.take_length]
theorem pt {i:Nat} {n:ST} (x:Int) (L:List (List PV)) (h:n.den ρ=x:=by exact dn) (hl:ρ.lst i=L:=by rfl) (j:0<=x/\x<=(L.length:Int):=by exact kn):Dn ρ sh (.take i n)=some (L.take x.toNat):=by
 subst hl;exact Xt h j
end
def W (trees:Nat->Tree) (Q:Out->Prop) (t:Tree) (v:Aj):Prop:=t.wp (Ef trees) Q v
def Ok (trees:Nat->Tree) (c:Nat) (v:Aj) (R:Out->Prop):Prop:=∃o,R o/\∀Q:Out->Prop,Q o->Ef trees c v Q
theorem Ok.of {trees:Nat->Tree} {c:Nat} {v:Aj} {R:Out->Prop} {t:Tree} (j:trees c=t) (h:W trees R t v):Ok trees c v R:=by
 subst j;exact Ef.elim (SF h)
theorem Es {c j:Prop} {inst:Decidable c} {A B:Prop} (hc:c↔j) (x:j->A) (v:¬j->B):@ite Prop c inst A B:=by
 split
 ·rename_i h;exact x (hc.1 h)
 ·rename_i h;exact v fun q=>h (hc.2 q)
theorem Dg {c:Prop} {inst:Decidable c} {A B:Prop} (hc:c) (j:A):@ite Prop c inst A B:=by rw [if_pos hc];exact j
theorem MO {c:Prop} {inst:Decidable c} {A B:Prop} (hc:¬c) (j:B):@ite Prop c inst A B:=by rw [if_neg hc];exact j
section
variable {trees:Nat->Tree} {Q:Out->Prop} {t e k:Tree} {v:Aj}
section
variable {a b:ST} (x y:Int)
theorem lt (q:x<y->W trees Q t v) (A:¬(x<y)->W trees Q e v) (z:a.den v.e=x:=by exact dn) (j:b.den v.e=y:=by exact dn):W trees Q (.test .lss a b t e) v:=by subst z;subst j;exact Es Iff.rfl q A
theorem B8 (q:W trees Q t v) (hc:x<y:=by exact kn) (z:a.den v.e=x:=by exact dn) (j:b.den v.e=y:=by exact dn):W trees Q (.test .lss a b t e) v:=by subst z;subst j;exact Dg hc q
theorem Hl (z:W trees Q e v) (hc:¬(x<y):=by exact kn) (q:a.den v.e=x:=by exact dn) (j:b.den v.e=y:=by exact dn):W trees Q (.test .lss a b t e) v:=by subst q;subst j;exact MO hc z
theorem le (q:x<=y->W trees Q t v) (A:¬(x<=y)->W trees Q e v) (z:a.den v.e=x:=by exact dn) (j:b.den v.e=y:=by exact dn):W trees Q (.test .leq a b t e) v:=by subst z;subst j;exact Es Iff.rfl q A
theorem Er (q:W trees Q t v) (hc:x<=y:=by exact kn) (z:a.den v.e=x:=by exact dn) (j:b.den v.e=y:=by exact dn):W trees Q (.test .leq a b t e) v:=by subst z;subst j;exact Dg hc q
theorem gt (q:x>y->W trees Q t v) (A:¬(x>y)->W trees Q e v) (z:a.den v.e=x:=by exact dn) (j:b.den v.e=y:=by exact dn):W trees Q (.test .gtr a b t e) v:=by subst z;subst j;exact Es Iff.rfl q A
theorem gtY (q:W trees Q t v) (hc:x>y:=by exact kn) (z:a.den v.e=x:=by exact dn) (j:b.den v.e=y:=by exact dn):W trees Q (.test .gtr a b t e) v:=by subst z;subst j;exact Dg hc q
theorem gtN (z:W trees Q e v) (hc:¬(x>y):=by exact kn) (q:a.den v.e=x:=by exact dn) (j:b.den v.e=y:=by exact dn):W trees Q (.test .gtr a b t e) v:=by subst q;subst j;exact MO hc z
theorem ge (q:x>=y->W trees Q t v) (A:¬(x>=y)->W trees Q e v) (z:a.den v.e=x:=by exact dn) (j:b.den v.e=y:=by exact dn):W trees Q (.test .geq a b t e) v:=by subst z;subst j;exact Es Iff.rfl q A
theorem CO (q:W trees Q t v) (hc:x>=y:=by exact kn) (z:a.den v.e=x:=by exact dn) (j:b.den v.e=y:=by exact dn):W trees Q (.test .geq a b t e) v:=by subst z;subst j;exact Dg hc q
theorem IG (z:W trees Q e v) (hc:¬(x>=y):=by exact kn) (q:a.den v.e=x:=by exact dn) (j:b.den v.e=y:=by exact dn):W trees Q (.test .geq a b t e) v:=by subst q;subst j;exact MO hc z
theorem eq (q:x=y->W trees Q t v) (A:¬(x=y)->W trees Q e v) (z:a.den v.e=x:=by exact dn) (j:b.den v.e=y:=by exact dn):W trees Q (.test .eql a b t e) v:=by subst z;subst j;exact Es Iff.rfl q A
theorem AH (q:W trees Q t v) (hc:x=y:=by exact kn) (z:a.den v.e=x:=by exact dn) (j:b.den v.e=y:=by exact dn):W trees Q (.test .eql a b t e) v:=by subst z;subst j;exact Dg hc q
theorem Az (z:W trees Q e v) (hc:¬(x=y):=by exact kn) (q:a.den v.e=x:=by exact dn) (j:b.den v.e=y:=by exact dn):W trees Q (.test .eql a b t e) v:=by subst q;subst j;exact MO hc z
theorem ne (q:x≠y->W trees Q t v) (A:¬(x≠y)->W trees Q e v) (z:a.den v.e=x:=by exact dn) (j:b.den v.e=y:=by exact dn):W trees Q (.test .neq a b t e) v:=by subst z;subst j;exact Es Iff.rfl q A
theorem NM (q:W trees Q t v) (hc:x≠y:=by exact kn) (z:a.den v.e=x:=by exact dn) (j:b.den v.e=y:=by exact dn):W trees Q (.test .neq a b t e) v:=by subst z;subst j;exact Dg hc q
theorem BB (z:W trees Q e v) (hc:¬(x≠y):=by exact kn) (q:a.den v.e=x:=by exact dn) (j:b.den v.e=y:=by exact dn):W trees Q (.test .neq a b t e) v:=by subst q;subst j;exact MO hc z
end
section
variable {i:Nat} {n':Int} {s:List Nat}
theorem sn (x n:Int) (q:x=n->W trees Q t v) (A:¬x=n->W trees Q e v) (z:v.n.getD i 0=x:=by rfl) (j:n'=n:=by rfl):W trees Q (.BI i n' t e) v:=by subst z;subst j;exact Es Iff.rfl q A
theorem AL (x n:Int) (q:W trees Q t v) (hc:x=n:=by exact kn) (z:v.n.getD i 0=x:=by rfl) (j:n'=n:=by rfl):W trees Q (.BI i n' t e) v:=by subst z;subst j;exact Dg hc q
theorem ss (x:List Nat) (j:x=s->W trees Q t v) (z:¬x=s->W trees Q e v) (q:v.s.getD i []=x:=by rfl):W trees Q (.sets i s t e) v:=by subst q;exact Es Iff.rfl j z
theorem KR (x:List Nat) (j:W trees Q t v) (hc:x=s:=by first|rfl|assumption) (q:v.s.getD i []=x:=by rfl):W trees Q (.sets i s t e) v:=by subst q;exact Dg hc j
variable {p q:Ab}
theorem seY (x y:List Nat) (z:W trees Q t v) (hc:x=y:=by first|rfl|assumption) (A:Bl v.e p=x:=by rfl) (j:Bl v.e q=y:=by rfl):W trees Q (.FC p q t e) v:=by subst A;subst j;exact Dg hc z
end
theorem el {l:Nat} {j:ST} {sh:List CK} {ps:List PV} {w:Aj} {j':Int} (hg:(v.l.getD l [])[j'.toNat]?=some ps) (q:W trees Q k (v.app (w.fit (HB sh)))) (x:j.den v.e=j':=by exact dn) (z:0<=j':=by exact kn) (A:CJ sh ps=some w:=by rfl):W trees Q (.elem l j sh k) v:=by
 show Tree.wp _ _ _ _
 show WD _ _ _ _
 unfold WD
 rw [x,hg]
 simp only [A]
 exact ⟨z,q⟩
theorem ll {l:Nat} {t:ST} (x:Int) (L:List (List PV)) (j:W trees Q k v) (q:t.den v.e=x:=by exact dn) (hl:v.l.getD l []=L:=by rfl) (h:x=(L.length:Int):=by first|rfl|exact kn):W trees Q (.Br l t k) v:=by subst q;subst hl;exact Dg h j
theorem sl {s lo j:Nat} (S:List Nat) (q:W trees Q k (v.app {n:=[(S.length:Int)]})) (hs:v.s.getD s []=S:=by rfl) (hl:lo=0:=by rfl) (x:j=64:=by rfl) (h:S.length<=64:=by first|omega|(simp;done)):W trees Q (.BQ s lo j k) v:=by subst hs;subst hl;subst x;exact Dg ⟨Nat.zero_le _,h⟩ q
theorem ca {x y:Ab} (X Y:List Nat) (j:W trees Q k (v.app {s:=[X++Y]})) (z:Bl v.e x=X:=by rfl) (q:Bl v.e y=Y:=by rfl) (h:X.length+Y.length<=1048576:=by first|omega|(simp only [lA,lC,lN];omega) |(simp;done)):W trees Q (.cat x y k) v:=by subst z;subst q;exact Dg h j
theorem bu {t:ST} {n:Nat} (x m:Int) (j:W trees Q k (v.app {n:=[x+m]})) (z:t.den v.e=x:=by exact dn) (q:(n:Int)=m:=by rfl) (h:x+m<=1048576:=by omega):W trees Q (.bump t n k) v:=by subst z;subst q;exact Dg h j
theorem de {ps:List AE} {sh:List CK} (l:List (List PV)) (j:W trees Q k (v.app {n:=[(l.length:Int)],l:=[l]})) (h:Cy v.e sh ps=some l:=by first|rfl|repeat (first|refine CE ?_|refine Bq ?_ ?_|refine AaH ?_ ?_ ?_|refine Afx ?_|refine AaA ?_ ?_|refine WK ?_ ?_|exact Adv dn|rfl)):W trees Q (.JH ps sh k) v:=by
 show Jj _ _
 rw [h];exact j
theorem dL {ps:List AE} {sh:List CK} (l0:List (List PV)) (j:∀l,l=l0->W trees Q k (v.app {n:=[(l.length:Int)],l:=[l]})) (h:Cy v.e sh ps=some l0:=by first|rfl|repeat (first|refine CE ?_|refine Bq ?_ ?_|refine AaH ?_ ?_ ?_|refine Afx ?_|refine AaA ?_ ?_|refine WK ?_ ?_|exact Adv dn|rfl)):W trees Q (.JH ps sh k) v:=de l0 (j l0 rfl) h
theorem fr {z:Nat×Nat×Nat×Nat×Nat} (j:W trees Q k v):W trees Q (.Oh z k) v:=j
theorem md {j:List (Ab×List Ab)} {sh:List CK} (l:List (List Nat×List PV)) (q:W trees Q k (v.app {m:=[l]})) (h:C6 v.e sh j=some l:=by rfl):W trees Q (.Kr j sh k) v:=by
 show Jj _ _
 rw [h];exact q
theorem up {m:Nat} {key:Ab} {cs:List Ab} {sh:List CK} (ps:List PV) (j:W trees Q k (v.app {m:=[Bw (v.m.getD m []) (Bl v.e key) ps]})) (h:Cu v.e sh cs=some ps:=by first|rfl|repeat (first|refine WK ?_ ?_|exact Adv dn|rfl)):W trees Q (.up m key cs sh k) v:=by
 show Jj _ _
 rw [h];exact j
theorem lh {m:Nat} {key:Ab} {sh:List CK} {ps:List PV} {w:Aj} (hg:AR (v.m.getD m []) (Bl v.e key)=some ps) (q:W trees Q t (v.app (w.fit (HB sh)))) (j:CJ sh ps=some w:=by rfl):W trees Q (.look m key sh t e) v:=by
 show Tree.wp _ _ _ _
 show OO _ _ _ _ _
 unfold OO
 rw [hg]
 simp only [j]
 exact q
theorem lm {m:Nat} {key:Ab} {sh:List CK} (hg:AR (v.m.getD m []) (Bl v.e key)=none) (j:W trees Q e v):W trees Q (.look m key sh t e) v:=by
 show Tree.wp _ _ _ _
 show OO _ _ _ _ _
 unfold OO
 rw [hg]
 exact j
section
variable {c alt alt':Nat} {τ:CD} {u:CH} {v' w:Aj}
theorem ch (j:∀Q:Out->Prop,Q (alt,w)->Ef trees c v' Q) (x:W trees Q k (v.app (w.fit u))) (q:τ.vals v.e=v':=by exact vn):W trees Q (.call c alt τ u k e) v:=by
 show Ef trees c (τ.vals v.e) _
 rw [q]
 exact j _ (by simp only [if_true];exact x)
theorem cm (x:∀Q:Out->Prop,Q (alt',w)->Ef trees c v' Q) (z:W trees Q e v) (j:alt'≠alt:=by decide) (q:τ.vals v.e=v':=by exact vn):W trees Q (.call c alt τ u k e) v:=by
 show Ef trees c (τ.vals v.e) _
 rw [q]
 exact x _ (by rw [if_neg j];exact z)
theorem Ag {j:List Nat} (w:Aj) (h:Q (alt,w)) (q:τ.vals v.e=w:=by exact vn):W trees Q (.leaf alt j τ) v:=by
 show Q _
 rw [q];exact h
end
end
def E7 (j:List Int):Tree->Option (Nat×List Int)
 |.leaf a _ ⟨ts,[],[],[]⟩=>some (a,ts.map fun t=>t.den (Aj.e ⟨j,[],[],[]⟩))
 |.BI i n t e=>if j.getD i 0=n then E7 j t else E7 j e
 |.test .lss a b t e=>if a.den (Aj.e ⟨j,[],[],[]⟩)<b.den (Aj.e ⟨j,[],[],[]⟩)then E7 j t else E7 j e
 |.test .eql a b t e=>if a.den (Aj.e ⟨j,[],[],[]⟩)=b.den (Aj.e ⟨j,[],[],[]⟩)then E7 j t else E7 j e
 |.test .neq a b t e=>if a.den (Aj.e ⟨j,[],[],[]⟩)≠b.den (Aj.e ⟨j,[],[],[]⟩)then E7 j t else E7 j e
 |_=>none
theorem DP {trees:Nat->Tree} {Q:Out->Prop} {j:List Int} {a:Nat} {ms:List Int}:∀(t:Tree),E7 j t=some (a,ms)->Q (a,⟨ms,[],[],[]⟩)->W trees Q t ⟨j,[],[],[]⟩
 |.leaf b nw ⟨ts,[],[],[]⟩,h,hq=>by
  simp only [E7,oI,Prod.mk.injEq]at h
  obtain ⟨q,v⟩:=h
  subst q;subst v;exact hq
 |.BI i n t e,h,hq=>by
  simp only [E7]at h
  refine sn (j.getD i 0) n (fun k=>?_) fun k=>?_
  ·rw [if_pos k]at h;exact DP t h hq
  ·rw [if_neg k]at h;exact DP e h hq
 |.test .lss a b t e,h,hq=>by
  simp only [E7]at h
  refine lt (a.den (Aj.e ⟨j,[],[],[]⟩)) (b.den (Aj.e ⟨j,[],[],[]⟩)) (fun k=>?_) (fun k=>?_) rfl rfl
  ·rw [if_pos k]at h;exact DP t h hq
  ·rw [if_neg k]at h;exact DP e h hq
 |.test .eql a b t e,h,hq=>by
  simp only [E7]at h
  refine eq (a.den (Aj.e ⟨j,[],[],[]⟩)) (b.den (Aj.e ⟨j,[],[],[]⟩)) (fun k=>?_) (fun k=>?_) rfl rfl
  ·rw [if_pos k]at h;exact DP t h hq
  ·rw [if_neg k]at h;exact DP e h hq
 |.test .neq a b t e,h,hq=>by
  simp only [E7]at h
  refine ne (a.den (Aj.e ⟨j,[],[],[]⟩)) (b.den (Aj.e ⟨j,[],[],[]⟩)) (fun k=>?_) (fun k=>?_) rfl rfl
  ·rw [if_pos k]at h;exact DP t h hq
  ·rw [if_neg k]at h;exact DP e h hq
theorem Ok.num {trees:Nat->Tree} {c:Nat} {j:List Int} {R:Out->Prop} {t:Tree} {a:Nat} {ms:List Int} (v:trees c=t) (h:E7 j t=some (a,ms)) (q:R (a,⟨ms,[],[],[]⟩)):Ok trees c ⟨j,[],[],[]⟩ R:=.of v (DP t h q)
attribute [irreducible] W
end
end Go.AM
namespace Go.AM.K
section
abbrev Rs:=List (List PV)
abbrev Mp:=List (List Nat×List PV)
theorem asm {p:Prop} (h:p:=by assumption):p:=h
abbrev v0:Aj:=⟨[],[],[],[]⟩
theorem om {p:Prop} (h:p:=by omega):p:=h
abbrev Row:=List PV
inductive E where
 |node (k o t v:Int) (s:List Nat) (a:List E)
mutual
def E.enc:E->Row
 |.node k o t v s a=>[.int .i64 k,.int .i64 o,.int .i64 t,.str s,.int .i32 v,.list 6 (E.Aa a)]
def E.Aa:List E->List Row
 |[]=>[]
 |e::l=>e.enc::E.Aa l
end
mutual
def E.nodes:E->Nat
 |.node k _ _ _ _ a=>(if k=0 then 0 else 1)+E.Ad a
def E.Ad:List E->Nat
 |[]=>0
 |e::l=>e.nodes+E.Ad l
end
mutual
def E.high:E->Nat
 |.node _ _ _ _ _ a=>1+E.BL a
def E.BL:List E->Nat
 |[]=>0
 |e::l=>max e.high (E.BL l)
end
def E0:E:=.node 0 0 0 0 [] []
theorem E.A0:∀l,(E.Aa l).length=l.length
 |[]=>rfl
 |_::l=>by simp only [E.Aa,lC,E.A0 l]
theorem E.FQ:∀(l:List E) (i:Nat),(E.Aa l)[i]?=(l[i]?).map E.enc
 |[],i=>by simp [E.Aa]
 |e::l,0=>by simp [E.Aa]
 |e::l,i+1=>by simp only [E.Aa,List.getElem?_cons_succ];exact E.FQ l i
theorem E.get (a:List E) (j:Int) (x:0<=j) (q:j<((E.Aa a).length:Int)):∃(k o t v:Int) (s:List Nat) (b:List E),(E.Aa a)[j.toNat]?=some [.int .i64 k,.int .i64 o,.int .i64 t,.str s,.int .i32 v,.list 6 (E.Aa b)]/\a[j.toNat]?=some (.node k o t v s b):=by
 rw [E.A0]at q
 have h:j.toNat<a.length:=by omega
 rcases he:a[j.toNat]with ⟨k,o,t,v,s,b⟩
 exact ⟨k,o,t,v,s,b,by rw [E.FQ,List.getElem?_eq_getElem h,he];rfl,by rw [List.getElem?_eq_getElem h,he]⟩
theorem E.Kq:∀{l:List E} {i:Nat} {e:E},l[i]?=some e->e.nodes+E.Ad (l.drop (i+1))=E.Ad (l.drop i)
 |[],i,e,h=>by simp at h
 |x::l,0,e,h=>by simp at h;subst h;simp [E.Ad]
 |x::l,i+1,e,h=>by
  simp only [List.getElem?_cons_succ]at h
  simpa using E.Kq h
theorem E.MP:∀{l:List E} {i:Nat} {e:E},l[i]?=some e->e.high<=E.BL l
 |[],i,e,h=>by simp at h
 |x::l,0,e,h=>by simp at h;subst h;simp only [E.BL];omega
 |x::l,i+1,e,h=>by
  simp only [List.getElem?_cons_succ]at h
  have:=E.MP h
  simp only [E.BL];omega
abbrev Ctx:=List Nat->Option (Int×Int×Int)
def Ctx.E9 (Γ:Ctx) (s:List Nat) (x:Int×Int×Int):Ctx:=fun n=>if n=s then some x else Γ n
theorem BP {Γ:Ctx} {s x}:Γ.E9 s x s=some x:=if_pos rfl
theorem Bc {Γ:Ctx} {s x n} (h:n≠s):Γ.E9 s x n=Γ n:=if_neg h
def vn (i:Nat):List Nat:=if i<10 then [118,48+i]else [118,49+(i-10)/10,48+i%10]
def names:List (List Nat):=[[107],[97],[102],[115],[112],[98],[110],[116],[99],[104],[120],[121],[113,113,57],[113,113,56]]++(List.range 24).map vn
def Nm (s:List Nat):Prop:=s∈names
instance {s:List Nat}:Decidable (Nm s):=by unfold Nm;infer_instance
theorem Nm.len {s:List Nat} (h:Nm s):s.length<=3:=by
 have:∀s∈names,s.length<=3:=by decide
 exact this s h
theorem Nm.vn {i:Nat} (h:i<24):Nm (vn i):=by
 have:∀i,i<24->K.vn i∈names:=by decide
 exact this i h
theorem Aey {i j:Nat} (q:i<24) (v:j<24) (h:vn i=vn j):i=j:=by
 have:∀i,i<24->∀j,j<24->vn i=vn j->i=j:=by decide
 exact this i q j v h
def Ym (o t u:Int):Prop:=((o=1∨o=3)/\(t=1∨t=2)/\u=t)∨(o=2/\(t=1∨t=3)/\u=t)∨(o=4/\t=1/\u=2)∨(o=5/\t=2/\u=1)
def KL (o t u:Int):Prop:=((o=10∨o=11∨o=22∨o=23)/\(t=1∨t=2)/\u=t)∨((o=12∨o=13∨o=14∨o=20∨o=21)/\t=1/\u=1)∨((o=15∨o=16)/\t=2/\u=2)
 ∨((o=17∨o=18∨o=19)/\(t=1∨t=3)/\u=t)∨((o=24∨o=25)/\1<=t/\t<=3/\u=3)∨((o=26∨o=27∨o=28∨o=29)/\(t=1∨t=2)/\u=3)
instance {o t u}:Decidable (Ym o t u):=by unfold Ym;infer_instance
instance {o t u}:Decidable (KL o t u):=by unfold KL;infer_instance
def Fx (v:Int):Prop:=∃x:Nat,x<256/\v=x*16384-100000
theorem Fx.mk {x v:Int} (j:0<=x) (q:x<=255) (h:v=x*16384-100000):Fx v:=⟨x.toNat,by omega,by omega⟩
inductive TR (Δ:List Nat->Int×Int×Int->Prop):Int->E->Prop
 |num {t v:Int}:1<=t->t<=3->(t=3->v=0∨v=1)->(t=2->Fx v)->-200000<=v/\v<=5000000->TR Δ t (.node 1 0 t v [] [])
 |id {o:Int}:1<=o->o<=7->TR Δ 1 (.node 3 o 0 0 [] [])
 |var {s:List Nat} {k t i:Int}:Nm s->(k=2∨k=3)->1<=t->t<=3->Δ s (k,t,i)->TR Δ t (.node 2 0 0 0 s [])
 |un {o t u:Int} {a:E}:Ym o t u->TR Δ t a->TR Δ u (.node 4 o 0 0 [] [a])
 |bin {o t u:Int} {a b:E}:KL o t u->TR Δ t a->TR Δ t b->TR Δ u (.node 5 o 0 0 [] [a,b])
 |cond {t:Int} {a b c:E}:TR Δ 3 a->TR Δ t b->TR Δ t c->TR Δ t (.node 6 0 0 0 [] [a,b,c])
 |load {s:List Nat} {t i:Int} {a:E}:Nm s->1<=t->t<=3->Δ s (0,t,i)->TR Δ 1 a->TR Δ t (.node 7 0 0 0 s [a])
 |call {i:Int} {a b:E}:Δ [104] (1,1,i)->TR Δ 1 a->TR Δ 1 b->TR Δ 1 (.node 8 0 0 0 [104] [a,b])
 |ca0 {t:Int} {s:List Nat}:(∀s z,Δ s z)->Nm s->1<=t/\t<=3->TR Δ t (.node 8 0 0 0 s [])
 |ca1 {t:Int} {s:List Nat} {a:E}:(∀s z,Δ s z)->Nm s->1<=t/\t<=3->TR Δ 1 a->TR Δ t (.node 8 0 0 0 s [a])
abbrev T (Γ:Ctx):Int->E->Prop:=TR fun s z=>Γ s=some z
theorem Ctx.FE {Γ:Ctx} (h:∀s z,Γ s=some z):False:=by
 have j:=h [] (0,0,0)
 rw [h [] (1,0,0)]at j
 simp at j
def F (d:Int):Nat:=if d<=1 then 1 else if d=2 then 4 else 13
theorem Aet (d:Int):1<=F d:=by
 unfold F
 repeat' split
 all_goals omega
theorem NJ {d:Int} (q:¬d<=1) (j:d<=3):1+3*F (d-1)<=F d:=by
 have:d=2∨d=3:=by omega
 rcases this with h|h<;>subst h<;>decide
def CN (Γ:Ctx) (t d k o ty v:Int) (s:List Nat) (A:List Row):Prop:=
 ∃a:List E,A=E.Aa a/\T Γ t (.node k o ty v s a)/\(E.node k o ty v s a).nodes<=F d/\((E.node k o ty v s a).high:Int)<=2*max d 1-1
section
variable {Γ:Ctx}
theorem CN.leaf {t d k o ty v:Int} {s:List Nat} (h:T Γ t (.node k o ty v s [])):CN Γ t d k o ty v s []:=by
 refine ⟨[],rfl,h,?_,?_⟩
 ·have:=Aet d
  simp only [E.nodes,E.Ad];split<;>omega
 ·simp only [E.high,E.BL];omega
theorem CN.num {t d v:Int} (x:1<=t) (q:t<=3) (j:t=3->v=0∨v=1) (hf:t=2->Fx v) (hb: -200000<=v/\v<=5000000):CN Γ t d 1 0 t v [] []:=.leaf (.num x q j hf hb)
theorem CN.id {d o:Int} (q:1<=o) (j:o<=7):CN Γ 1 d 3 o 0 0 [] []:=.leaf (.id q j)
theorem CN.var {t d k i:Int} {s:List Nat} (x:Nm s) (j:k=2∨k=3) (v:1<=t) (q:t<=3) (h:Γ s=some (k,t,i)):CN Γ t d 2 0 0 0 s []:=.leaf (.var x j v q h)
theorem CN.mono {t d j k o ty v:Int} {s:List Nat} {A:List Row} (h:CN Γ t d k o ty v s A) (hd:d<=max j 1):CN Γ t j k o ty v s A:=by
 obtain ⟨a,q,x,B,z⟩:=h
 refine ⟨a,q,x,?_,by omega⟩
 have:F d<=F j:=by
  unfold F
  repeat' split
  all_goals omega
 omega
def GJ (k o ty v:Int) (s:List Nat) (A:List Row):Row:=[.int .i64 k,.int .i64 o,.int .i64 ty,.str s,.int .i32 v,.list 6 A]
theorem Eh {k o ty v:Int} {s:List Nat} {A:List Row} {a:List E} (h:A=E.Aa a):GJ k o ty v s A=(E.node k o ty v s a).enc:=by subst h;rfl
theorem CN.un {d t u o k1 q t1 v:Int} {j:List Nat} {x:List Row} (h:CN Γ t (d-1) k1 q t1 v j x) (A:Ym o t u) (I:¬d<=1) (H:d<=3):CN Γ u d 4 o 0 0 [] [GJ k1 q t1 v j x]:=by
 obtain ⟨a,z,B,L,J⟩:=h
 refine ⟨[.node k1 q t1 v j a],by simp only [E.Aa,Eh z],.un A B,?_,?_⟩
 ·have:=NJ I H
  have C:¬(4:Int)=0:=by decide
  rw [E.nodes,if_neg C]
  simp only [E.Ad]at*;omega
 ·rw [E.high];simp only [E.BL]at*;omega
theorem CN.bin {d t u o k1 z t1 B v A q C:Int} {x j:List Nat} {H I:List Row} (h:CN Γ t (d-1) k1 z t1 B x H) (g:CN Γ t (d-1) v A q C j I) (L:KL o t u) (R:¬d<=1) (Q:d<=3):
  CN Γ u d 5 o 0 0 [] [GJ k1 z t1 B x H,GJ v A q C j I]:=by
 obtain ⟨a,J,M,Y,V⟩:=h
 obtain ⟨b,O,P,U,X⟩:=g
 refine ⟨[.node k1 z t1 B x a,.node v A q C j b],by simp only [E.Aa,Eh J,Eh O],.bin L M P,?_,?_⟩
 ·have:=NJ R Q
  have N:¬(5:Int)=0:=by decide
  rw [E.nodes,if_neg N]
  simp only [E.Ad]at*;omega
 ·rw [E.high];simp only [E.BL]at*;omega
theorem CN.call {d i k1 z t1 B v A q C:Int} {x j:List Nat} {H I:List Row} (R:¬d<=1) (Q:d<=3) (L:Γ [104]=some (1,1,i)) (h:CN Γ 1 (d-1) k1 z t1 B x H) (g:CN Γ 1 (d-1) v A q C j I):
  CN Γ 1 d 8 0 0 0 [104] [GJ k1 z t1 B x H,GJ v A q C j I]:=by
 obtain ⟨a,J,M,Y,V⟩:=h
 obtain ⟨b,O,P,U,X⟩:=g
 refine ⟨[.node k1 z t1 B x a,.node v A q C j b],by simp only [E.Aa,Eh J,Eh O],.call L M P,?_,?_⟩
 ·have:=NJ R Q
  have N:¬(8:Int)=0:=by decide
  rw [E.nodes,if_neg N]
  simp only [E.Ad]at*;omega
 ·rw [E.high];simp only [E.BL]at*;omega
theorem CN.cond {d t k1 J t1 M v L q B j z A H:Int} {I C x:List Nat} {N P O:List Row} (Y:¬d<=1) (X:d<=3) (h:CN Γ 3 (d-1) k1 J t1 M I N) (g:CN Γ t (d-1) v L q B C P) (f:CN Γ t (d-1) j z A H x O):
  CN Γ t d 6 0 0 0 [] [GJ k1 J t1 M I N,GJ v L q B C P,GJ j z A H x O]:=by
 obtain ⟨a,Q,R,hn,hh⟩:=h
 obtain ⟨b,V,gT,gn,gh⟩:=g
 obtain ⟨c,fA,U,fn,fh⟩:=f
 refine ⟨[.node k1 J t1 M I a,.node v L q B C b,.node j z A H x c],by simp only [E.Aa,Eh Q,Eh V,Eh fA],.cond R gT U,?_,?_⟩
 ·have:=NJ Y X
  have Z:¬(6:Int)=0:=by decide
  rw [E.nodes,if_neg Z]
  simp only [E.Ad]at*;omega
 ·rw [E.high];simp only [E.BL]at*;omega
def Idx (Γ:Ctx) (d:Int) (A:List Row):Prop:=
 ∃a:List E,A=E.Aa a/\T Γ 1 (.node 5 17 0 0 [] a)/\(E.node 5 17 0 0 [] a).nodes<=2+F (d-1)/\((E.node 5 17 0 0 [] a).high:Int)<=2*max (d-1) 1
theorem Idx.mk {d n k1 j t1 v:Int} {q:List Nat} {x:List Row} (h:CN Γ 1 (d-1) k1 j t1 v q x) (hb: -200000<=n/\n<=5000000):Idx Γ d [GJ k1 j t1 v q x,GJ 1 0 1 n [] []]:=by
 obtain ⟨a,z,A,H,C⟩:=h
 refine ⟨[.node k1 j t1 v q a,.node 1 0 1 n [] []],by simp only [E.Aa,Eh z];rfl,.bin (by decide) A (.num (by decide) (by decide) (fun h=>absurd h (by decide)) (fun h=>absurd h (by decide)) hb),?_,?_⟩
 ·have B:¬(5:Int)=0:=by decide
  rw [E.nodes,if_neg B]
  have:(E.node 1 0 1 n [] []).nodes=1:=rfl
  simp only [E.Ad,this]at*;omega
 ·have:(E.node 1 0 1 n [] []).high=1:=rfl
  rw [E.high];simp only [E.BL,this]at*;omega
theorem CN.load {d t i:Int} {s:List Nat} {j:List Row} (B:¬d<=1) (A:d<=3) (hs:Nm s) (q:1<=t) (v:t<=3) (hg:Γ s=some (0,t,i)) (h:Idx Γ d j):CN Γ t d 7 0 0 0 s [GJ 5 17 0 0 [] j]:=by
 obtain ⟨a,x,z,I,H⟩:=h
 refine ⟨[.node 5 17 0 0 [] a],by simp only [E.Aa,Eh x],.load hs q v hg z,?_,?_⟩
 ·have:=NJ B A
  have:=Aet (d-1)
  have C:¬(7:Int)=0:=by decide
  rw [E.nodes,if_neg C]
  simp only [E.Ad]at*;omega
 ·rw [E.high];simp only [E.BL]at*;omega
end
def Px (Γ:Ctx) (t:Int) (s:List Nat):Prop:=∃k:Int,Γ s=some (k,t,0)/\(k=2∨k=3)/\Nm s
def AoB (Γ:Ctx) (f q:Int) (V:List Row):Prop:=∀j:Int,0<=j->j<q->∃(nm:List Nat) (t:Int),V[j.toNat]?=some [.str nm,.int .i64 t]/\Px Γ t nm/\(f<=j->Γ nm=some (3,t,0))/\1<=t/\t<=3
def HL (Γ:Ctx) (t:Int) (L:List Row):Prop:=∀j:Int,0<=j->j<(L.length:Int)->∃nm:List Nat,L[j.toNat]?=some [.str nm]/\Px Γ t nm
theorem HL.one {Γ:Ctx} {t:Int} {s:List Nat} (h:Px Γ t s):HL Γ t [[.str s]]:=fun j v q=>by
 simp only [lC,lN]at q
 have:j=0:=by omega
 subst this;exact ⟨s,rfl,h⟩
theorem HL.snoc {Γ:Ctx} {t:Int} {L:List Row} {s:List Nat} (g:HL Γ t L) (h:Px Γ t s):HL Γ t (L++[[.str s]]):=fun j q v=>by
 simp only [lA,lC,lN]at v
 by_cases hj:j<(L.length:Int)
 ·obtain ⟨nm,g1,g2⟩:=g j q hj
  exact ⟨nm,by rw [List.getElem?_append_left om];exact g1,g2⟩
 ·have:j.toNat=L.length:=by omega
  exact ⟨s,by rw [this];simp,h⟩
structure IZ (Γ:Ctx) (call:Int):Prop where
 a:Γ [97]=some (0,1,0)
 f:Γ [102]=some (0,2,1)
 s:Γ [115]=some (0,1,2)
 p:Γ [112]=some (0,1,3)
 b:Γ [98]=some (0,3,4)
 h:call=1->∃i,Γ [104]=some (1,1,i)
def G (d:Int):Int:=if d<=1 then 3 else if d=2 then 12 else 40
theorem GI (d:Int):3<=G d/\G d<=40:=by
 unfold G
 repeat' split
 all_goals omega
theorem KI (d:Int) (j:d<=3):d<=1∨1+3*G (d-1)<=G d:=by
 have:d<=1∨d=2∨d=3:=by omega
 rcases this with h|h|h
 ·exact .inl h
 ·subst h;exact .inr (by decide)
 ·subst h;exact .inr (by decide)
def Tv (Γ:Ctx) (d:Int) (A:List Row):Prop:=∃I,A=[GJ 5 17 0 0 [] I]/\Idx Γ d I
section
variable {Γ:Ctx}
theorem CN.cast {t t' d k o ty v:Int} {s:List Nat} {A:List Row} (h:CN Γ t d k o ty v s A) (e:t'=t):CN Γ t' d k o ty v s A:=by subst e;exact h
theorem CN.var' {t d:Int} {s:List Nat} (h:Px Γ t s) (q:1<=t) (j:t<=3):CN Γ t d 2 0 0 0 s []:=by
 obtain ⟨k,g1,g2,g3⟩:=h
 exact .var g3 g2 q j g1
theorem Tv.mk {d:Int} {I:List Row} (h:Idx Γ d I):Tv Γ d [GJ 5 17 0 0 [] I]:=⟨I,rfl,h⟩
theorem CN.AjW {d t i:Int} {s:List Nat} {A:List Row} (hg:Γ s=some (0,t,i)) (h:Tv Γ d A) (hs:Nm s) (v:¬d<=1) (q:d<=3) (j:1<=t/\t<=3):CN Γ t d 7 0 0 0 s A:=by
 obtain ⟨I,rfl,h⟩:=h
 exact .load v q hs j.1 j.2 hg h
theorem CN.call' {d k1 C t1 I x H v z:Int} {B A:List Nat} {q J:List Row} (M:¬d<=1) (L:d<=3) (j:∃i,Γ [104]=some (1,1,i)) (h:CN Γ 1 (d-1) k1 C t1 I B q) (g:CN Γ 1 (d-1) x H v z A J):
  CN Γ 1 d 8 0 0 0 [104] [GJ k1 C t1 I B q,GJ x H v z A J]:=by
 obtain ⟨i,j⟩:=j
 exact .call M L j h g
end
theorem Pt {B:List (List PV)} (h:Dl B) (i:Int) (q:0<=i) (v:i<B.length):∃n:Int,B[i.toNat]?=some [.int .u8 n]/\0<=n/\n<=255:=by
 obtain ⟨n,k1,x,j⟩:=AbI h i q v
 exact ⟨n,j,k1,x⟩
structure NP (Γ:Ctx) (f bl vl count left call loads:Int) (B V:List Row):Prop where
 hB:Dl B
 hl:bl=B.length
 hvl:vl<=V.length
 GN:0<=vl/\vl<=30
 hV:AoB Γ f vl V
 hb:IZ Γ call
 hc:call=0∨call=1
 hd:loads=0∨loads=1
theorem Akp {p:Prop} (h:p:=by
  first
  |assumption
  |(apply CN.mono;assumption;omega)
  |(apply CN.cast;assumption;omega)
  |(refine CN.num ?_ ?_ ?_ ?_ ?_<;>first|omega|(intro h;exfalso;omega) |(intro _;refine Fx.mk (x:=_) ?_ ?_ rfl<;>omega))
  |(refine CN.id ?_ ?_<;>omega)
  |(refine CN.var' ?_ ?_ ?_<;>first|assumption|omega)
  |(apply CN.un;assumption;all_goals first|omega|decide|(unfold Ym;omega))
  |(apply CN.bin;assumption;assumption;all_goals first|omega|decide|(unfold KL;omega))
  |(refine CN.cond ?_ ?_ ?_ ?_ ?_<;>first|assumption|omega)
  |(refine CN.call' ?_ ?_ ?_ ?_ ?_<;>first|assumption|omega|(refine IZ.h (by assumption) ?_;omega))
  |(apply CN.AjW;(first|exact IZ.a (by assumption) |exact IZ.f (by assumption) |exact IZ.s (by assumption) |exact IZ.p (by assumption) |exact IZ.b (by assumption));assumption;decide;all_goals first|omega|decide)
  |(refine Idx.mk ?_ ?_;assumption;omega)
  |(refine Tv.mk ?_;assumption)
  |(refine HL.one ?_;first|assumption|(subst_vars;assumption))
  |(refine HL.snoc ?_ ?_<;>first|assumption|(subst_vars;assumption))
  |rfl
  |exact kn):p:=h
theorem fin {p:Prop} (h:p:=by first|exact Akp|(subst_vars;exact Akp)):p:=h
end
section
inductive S where
 |node (k o t b:Int) (nm:List Nat) (x y:E) (body els:List S)
mutual
def S.enc:S->Row
 |.node k o t b nm x y bo el=>.int .i64 k::.int .i64 o::.int .i64 t::.int .i64 b::.str nm::(x.enc++(y.enc++[.list 19 (S.Aa bo),.list 19 (S.Aa el)]))
def S.Aa:List S->List Row
 |[]=>[]
 |e::l=>e.enc::S.Aa l
end
mutual
def S.nodes:S->Nat
 |.node _ _ _ _ _ x y bo el=>1+x.nodes+y.nodes+S.Ad bo+S.Ad el
def S.Ad:List S->Nat
 |[]=>0
 |e::l=>e.nodes+S.Ad l
end
mutual
def S.deep:S->Nat
 |.node _ _ _ _ _ _ _ bo el=>1+max (S.Ay bo) (S.Ay el)
def S.Ay:List S->Nat
 |[]=>0
 |e::l=>max e.deep (S.Ay l)
end
theorem S.A0:∀l,(S.Aa l).length=l.length
 |[]=>rfl
 |_::l=>by simp only [S.Aa,lC,S.A0 l]
theorem S.FQ:∀(l:List S) (i:Nat),(S.Aa l)[i]?=(l[i]?).map S.enc
 |[],i=>by simp [S.Aa]
 |e::l,0=>by simp [S.Aa]
 |e::l,i+1=>by simp only [S.Aa,List.getElem?_cons_succ];exact S.FQ l i
theorem S.SZ:∀(l m:List S),S.Aa (l++m)=S.Aa l++S.Aa m
 |[],m=>rfl
 |e::l,m=>by simp only [List.cons_append,S.Aa,S.SZ l m]
theorem S.MA:∀(l m:List S),S.Ad (l++m)=S.Ad l+S.Ad m
 |[],m=>by simp [S.Ad]
 |e::l,m=>by simp only [List.cons_append,S.Ad,S.MA l m];omega
theorem S.Pq:∀(l m:List S),S.Ay (l++m)=max (S.Ay l) (S.Ay m)
 |[],m=>by simp [S.Ay]
 |e::l,m=>by simp only [List.cons_append,S.Ay,S.Pq l m];omega
def Vn (n:List Nat):Prop:=∃i:Nat,i<24/\n=vn i
theorem Vn.nm {n:List Nat} (h:Vn n):Nm n:=by obtain ⟨i,j,rfl⟩:=h;exact Nm.vn j
mutual
inductive NN (q:Bool):Int->Int->Ctx->S->Ctx->Prop
 |var {lo pu Γ n t x}:Nm n->(q=true->Vn n)->Γ n=none->1<=t->t<=3->T Γ t x->x.high<=5->NN q lo pu Γ (.node 1 0 t 0 n x E0 [] []) (Γ.E9 n (3,t,0))
 |set {lo pu Γ n t x i}:Nm n->Γ n=some (3,t,i)->T Γ t x->x.high<=5->NN q lo pu Γ (.node 2 0 0 0 n x E0 [] []) Γ
 |store {lo Γ n t x y i}:Nm n->0<=i->i<=4->Γ n=some (0,t,i)->T Γ 1 x->T Γ t y->x.high<=5->y.high<=5->NN q lo 0 Γ (.node 3 0 0 0 n x y [] []) Γ
 |atom {lo Γ n o x y i}:Nm n->i=0∨i=2->Γ n=some (0,1,i)->(o=10∨o=17∨o=18∨o=19∨o=22∨o=23)->T Γ 1 x->T Γ 1 y->x.high<=5->y.high<=5->NN q lo 0 Γ (.node 4 o 0 0 n x y [] []) Γ
 |Yk {lo pu Γ x bo el Γ1 Γ2}:T Γ 3 x->x.high<=5->Lz q lo pu Γ bo Γ1->Lz q lo pu Γ el Γ2->NN q lo pu Γ (.node 5 0 0 0 [] x E0 bo el) Γ
 |Yr {lo pu Γ x b bo Γ1}:T Γ 3 x->x.high<=5->1<=b->b<=4->Lz q 1 pu Γ bo Γ1->NN q lo pu Γ (.node 6 0 0 b [] x E0 bo []) Γ
 |esc {lo pu Γ k}:k=7∨k=8->lo≠0->NN q lo pu Γ (.node k 0 0 0 [] E0 E0 [] []) Γ
 |WQ {lo Γ k}:k=9∨k=10->NN q lo 0 Γ (.node k 0 0 0 [] E0 E0 [] []) Γ
 |Hx {lo Γ o}:o=1∨o=2->NN q lo 0 Γ (.node 11 o 0 0 [] E0 E0 [] []) Γ
 |LS {lo Γ n o t u x i}:Nm n->Γ n=some (3,t,i)->1<=t->t<=3->((o=1/\t=1/\u=3)∨((o=2∨o=3)/\t=3/\u=3)∨((o=5∨o=6)/\t≠3/\u=t))->T Γ u x->x.high<=5->NN q lo 0 Γ (.node 12 o 0 0 n x E0 [] []) Γ
 |LR {lo Γ n t x y i}:Nm n->Γ n=some (3,t,i)->1<=t->t<=3->T Γ t x->T Γ 1 y->x.high<=5->y.high<=5->NN q lo 0 Γ (.node 12 4 0 0 n x y [] []) Γ
inductive Lz (q:Bool):Int->Int->Ctx->List S->Ctx->Prop
 |nil {lo pu Γ}:Lz q lo pu Γ [] Γ
 |cons {lo pu Γ s Γ1 l Γ2}:NN q lo pu Γ s Γ1->Lz q lo pu Γ1 l Γ2->Lz q lo pu Γ (s::l) Γ2
end
abbrev SOm:=NN true
abbrev WY:=Lz true
abbrev Fb:=NN false
abbrev Ew:=Lz false
mutual
theorem NN.loose {q:Bool} {lo pu:Int} {Γ Γ':Ctx} {s:S}:NN q lo pu Γ s Γ'->Fb lo pu Γ s Γ'
 |.var h1 _ h2 h3 h4 h5 h6=>.var h1 (fun h=>by cases h) h2 h3 h4 h5 h6
 |.set h1 h2 h3 h4=>.set h1 h2 h3 h4
 |.store h1 h2 h3 h4 h5 h6 h7 h8=>.store h1 h2 h3 h4 h5 h6 h7 h8
 |.atom h1 h2 h3 h4 h5 h6 h7 h8=>.atom h1 h2 h3 h4 h5 h6 h7 h8
 |.Yk h1 h2 h3 h4=>.Yk h1 h2 (Lz.loose h3) (Lz.loose h4)
 |.Yr h1 h2 h3 h4 h5=>.Yr h1 h2 h3 h4 (Lz.loose h5)
 |.esc h1 h2=>.esc h1 h2
 |.WQ h1=>.WQ h1
 |.Hx h1=>.Hx h1
 |.LS h1 h2 h3 h4 h5 h6 h7=>.LS h1 h2 h3 h4 h5 h6 h7
 |.LR h1 h2 h3 h4 h5 h6 h7 h8=>.LR h1 h2 h3 h4 h5 h6 h7 h8
theorem Lz.loose {q:Bool} {lo pu:Int} {Γ Γ':Ctx} {l:List S}:Lz q lo pu Γ l Γ'->Ew lo pu Γ l Γ'
 |.nil=>.nil
 |.cons h g=>.cons (NN.loose h) (Lz.loose g)
end
theorem Lz.snoc {q:Bool} {lo pu:Int} {Γ v j:Ctx} {l:List S} {s:S} (h:Lz q lo pu Γ l v) (g:NN q lo pu v s j):Lz q lo pu Γ (l++[s]) j:=by
 induction l generalizing Γ with
 |nil=>cases h;exact .cons g .nil
 |cons x l ih=>cases h with|cons a b=>exact .cons a (ih b)
abbrev AT (k o t b:Int) (nm:List Nat) (I q C:Int) (A:List Nat) (z:Int) (X:List Row) (yk x H:Int) (j:List Nat) (v:Int) (Y:List Row) (B L:List Row):Row:=
 [.int .i64 k,.int .i64 o,.int .i64 t,.int .i64 b,.str nm,.int .i64 I,.int .i64 q,.int .i64 C,.str A,.int .i32 z,.list 6 X,.int .i64 yk,.int .i64 x,.int .i64 H,.str j,.int .i32 v,.list 6 Y,.list 19 B,.list 19 L]
def DU (lo pu D:Int) (Γ Γ':Ctx) (left left':Int) (j:Row):Prop:=∃s:S,j=s.enc/\SOm lo pu Γ s Γ'/\(s.nodes:Int)+40*left'<=40*left/\(s.deep:Int)<=D
def AK (lo pu D:Int) (Γ Γ':Ctx) (left left':Int) (R:List Row):Prop:=∃l:List S,R=S.Aa l/\WY lo pu Γ l Γ'/\(S.Ad l:Int)+40*left'<=40*left/\(S.Ay l:Int)<=D
def Iw (lo pu D:Int) (Γ:Ctx) (left left':Int) (R:List Row):Prop:=∃Γ',AK lo pu D Γ Γ' left left' R
section
variable {lo pu D left left':Int} {Γ Γ':Ctx}
theorem AK.nil (h:0<=D/\left'<=left):AK lo pu D Γ Γ left left' []:=⟨[],rfl,.nil,by simp only [S.Ad];omega,by simp only [S.Ay];omega⟩
theorem AK.snoc {q:Ctx} {j:Int} {R:List Row} {r:Row} (h:AK lo pu D Γ q left j R) (g:DU lo pu D q Γ' j left' r):AK lo pu D Γ Γ' left left' (R++[r]):=by
 obtain ⟨l,rfl,v,z,x⟩:=h
 obtain ⟨s,rfl,g1,g2,g3⟩:=g
 refine ⟨l++[s],by rw [S.SZ];rfl,v.snoc g1,?_,?_⟩
 ·rw [S.MA];simp only [S.Ad];omega
 ·rw [S.Pq];simp only [S.Ay];omega
theorem AK.one {r:Row} (g:DU lo pu D Γ Γ' left left' r) (h:0<=D):AK lo pu D Γ Γ' left left' [r]:=(AK.nil (left':=left) ⟨h,Int.le_refl _⟩).snoc g
theorem AK.mono {j q v:Int} {R:List Row} (h:AK lo pu D Γ Γ' left left' R) (hd:D<=j/\left-left'<=q-v):AK lo pu j Γ Γ' q v R:=by
 obtain ⟨l,x,z,B,A⟩:=h
 exact ⟨l,x,z,by omega,by omega⟩
theorem Iw.mk {R:List Row} (h:AK lo pu D Γ Γ' left left' R):Iw lo pu D Γ left left' R:=⟨_,h⟩
theorem Iw.nil (h:0<=D/\left'<=left):Iw lo pu D Γ left left' []:=⟨_,AK.nil h⟩
theorem JB {Γ:Ctx} {t d k o ty v:Int} {s:List Nat} {A:List Row} (h:CN Γ t d k o ty v s A) (hd:d<=3):∃x:E,GJ k o ty v s A=x.enc/\T Γ t x/\x.nodes<=13/\x.high<=5:=by
 obtain ⟨a,rfl,j,z,q⟩:=h
 refine ⟨_,rfl,j,?_,by omega⟩
 have:F d<=13:=by
  unfold F
  repeat' split
  all_goals omega
 omega
theorem AdR {Γ:Ctx} {A:List Row} (h:Idx Γ 3 A):∃x:E,GJ 5 17 0 0 [] A=x.enc/\T Γ 1 x/\x.nodes<=6/\x.high<=4:=by
 obtain ⟨a,rfl,j,v,q⟩:=h
 refine ⟨_,rfl,j,?_,by omega⟩
 have:F (3-1)=4:=by decide
 omega
theorem Ey:E0.nodes=0:=rfl
section
variable {k o t v k2 o2 t2 v2:Int} {s s2 n:List Nat} {A A2:List Row} {u d d2:Int}
theorem DU.var (h:CN Γ u d k o t v s A) (q:Vn n) (hg:Γ n=none) (j:d<=3/\1<=u/\u<=3/\1<=D/\left'+1<=left):DU lo pu D Γ (Γ.E9 n (3,u,0)) left left' (AT 1 0 u 0 n k o t s v A 0 0 0 [] 0 [] [] []):=by
 obtain ⟨x,e,z,C,B⟩:=JB h j.1
 refine ⟨.node 1 0 u 0 n x E0 [] [],?_,.var q.nm (fun _=>q) hg j.2.1 j.2.2.1 z B,?_,?_⟩
 ·rw [S.enc,<-e];rfl
 ·simp only [S.nodes,S.Ad,Ey];omega
 ·simp only [S.deep,S.Ay];omega
theorem DU.set {i:Int} (h:CN Γ u d k o t v s A) (B:Nm n) (hg:Γ n=some (3,u,i)) (q:d<=3/\1<=D/\left'+1<=left):DU lo pu D Γ Γ left left' (AT 2 0 0 0 n k o t s v A 0 0 0 [] 0 [] [] []):=by
 obtain ⟨x,e,j,C,z⟩:=JB h q.1
 refine ⟨.node 2 0 0 0 n x E0 [] [],?_,.set B hg j z,?_,?_⟩
 ·rw [S.enc,<-e];rfl
 ·simp only [S.nodes,S.Ad,Ey];omega
 ·simp only [S.deep,S.Ay];omega
theorem DU.store {i:Int} (h:Idx Γ 3 A) (g:CN Γ u d k2 o2 t2 v2 s2 A2) (C:Nm n) (hg:Γ n=some (0,u,i)) (H:pu=0) (j:0<=i/\i<=4) (z:d<=3/\1<=D/\left'+1<=left):DU lo pu D Γ Γ left left' (AT 3 0 0 0 n 5 17 0 [] 0 A k2 o2 t2 s2 v2 A2 [] []):=by
 obtain ⟨x,e,q,M,L⟩:=AdR h
 obtain ⟨y,I,v,J,B⟩:=JB g z.1
 subst H
 refine ⟨.node 3 0 0 0 n x y [] [],?_,.store C j.1 j.2 hg q v om B,?_,?_⟩
 ·rw [S.enc,<-e,<-I];rfl
 ·simp only [S.nodes,S.Ad];omega
 ·simp only [S.deep,S.Ay];omega
theorem DU.atom {i:Int} (h:Idx Γ 3 A) (g:CN Γ 1 d k2 o2 t2 v2 s2 A2) (C:Nm n) (hg:Γ n=some (0,1,i)) (I:i=0∨i=2) (j:o=10∨o=17∨o=18∨o=19∨o=22∨o=23) (H:pu=0) (v:d<=3/\1<=D/\left'+1<=left):DU lo pu D Γ Γ left left' (AT 4 o 0 0 n 5 17 0 [] 0 A k2 o2 t2 s2 v2 A2 [] []):=by
 obtain ⟨x,e,q,M,L⟩:=AdR h
 obtain ⟨y,J,B,N,z⟩:=JB g v.1
 subst H
 refine ⟨.node 4 o 0 0 n x y [] [],?_,.atom C I hg j q B om z,?_,?_⟩
 ·rw [S.enc,<-e,<-J];rfl
 ·simp only [S.nodes,S.Ad];omega
 ·simp only [S.deep,S.Ay];omega
theorem DU.Yk {D1 D2 q j a2 b2:Int} {B L:List Row} (h:CN Γ 3 d k o t v s A) (hb:Iw lo pu D1 Γ q j B) (M:Iw lo pu D2 Γ a2 b2 L) (H:d<=3/\D1+1<=D/\D2+1<=D/\1+left'+(q-j)+(a2-b2)<=left):DU lo pu D Γ Γ left left' (AT 5 0 0 0 [] k o t s v A 0 0 0 [] 0 [] B L):=by
 obtain ⟨x,e,C,Q,I⟩:=JB h H.1
 obtain ⟨P,z,rfl,N,U,R⟩:=hb
 obtain ⟨O,J,rfl,g1,g2,g3⟩:=M
 refine ⟨.node 5 0 0 0 [] x E0 z J,?_,.Yk C I N g1,?_,?_⟩
 ·rw [S.enc,<-e];rfl
 ·simp only [S.nodes,Ey];omega
 ·simp only [S.deep];omega
theorem DU.Yr {D1 z q b:Int} {B:List Row} (h:CN Γ 3 d k o t v s A) (hb:Iw 1 pu D1 Γ z q B) (j:d<=3/\D1+1<=D/\1<=D/\1+left'+(z-q)<=left/\1<=b/\b<=4):DU lo pu D Γ Γ left left' (AT 6 0 0 b [] k o t s v A 0 0 0 [] 0 [] B []):=by
 obtain ⟨x,e,H,M,I⟩:=JB h j.1
 obtain ⟨L,C,rfl,J,O,N⟩:=hb
 refine ⟨.node 6 0 0 b [] x E0 C [],?_,.Yr H I j.2.2.2.2.1 j.2.2.2.2.2 J,?_,?_⟩
 ·rw [S.enc,<-e];rfl
 ·simp only [S.nodes,S.Ad,Ey];omega
 ·simp only [S.deep,S.Ay];omega
theorem DU.esc (j:k=7∨k=8) (hl:lo≠0) (q:1<=D/\left'+1<=left):DU lo pu D Γ Γ left left' (AT k 0 0 0 [] 0 0 0 [] 0 [] 0 0 0 [] 0 [] [] []):=
 ⟨.node k 0 0 0 [] E0 E0 [] [],rfl,.esc j hl,by simp only [S.nodes,S.Ad,Ey];omega,by simp only [S.deep,S.Ay];omega⟩
theorem DU.WQ (q:k=9∨k=10) (j:pu=0) (v:1<=D/\left'+1<=left):DU lo pu D Γ Γ left left' (AT k 0 0 0 [] 0 0 0 [] 0 [] 0 0 0 [] 0 [] [] []):=by
 subst j
 exact ⟨.node k 0 0 0 [] E0 E0 [] [],rfl,.WQ q,by simp only [S.nodes,S.Ad,Ey];omega,by simp only [S.deep,S.Ay];omega⟩
theorem DU.Hx (q:o=1∨o=2) (j:pu=0) (v:1<=D/\left'+1<=left):DU lo pu D Γ Γ left left' (AT 11 o 0 0 [] 0 0 0 [] 0 [] 0 0 0 [] 0 [] [] []):=by
 subst j
 exact ⟨.node 11 o 0 0 [] E0 E0 [] [],rfl,.Hx q,by simp only [S.nodes,S.Ad,Ey];omega,by simp only [S.deep,S.Ay];omega⟩
theorem DU.LS {w i op:Int} (h:CN Γ w d k o t v s A) (B:Nm n) (hg:Γ n=some (3,u,i)) (H:(op=1/\u=1/\w=3)∨((op=2∨op=3)/\u=3/\w=3)∨((op=5∨op=6)/\u≠3/\w=u)) (C:pu=0) (j:d<=3/\1<=D/\left'+1<=left/\1<=u/\u<=3):DU lo pu D Γ Γ left left' (AT 12 op 0 0 n k o t s v A 0 0 0 [] 0 [] [] []):=by
 obtain ⟨x,e,q,I,z⟩:=JB h j.1
 subst C
 refine ⟨.node 12 op 0 0 n x E0 [] [],?_,.LS B hg j.2.2.2.1 j.2.2.2.2 H q z,?_,?_⟩
 ·rw [S.enc,<-e];rfl
 ·simp only [S.nodes,S.Ad,Ey];omega
 ·simp only [S.deep,S.Ay];omega
theorem DU.LR {i:Int} (h:CN Γ u d k o t v s A) (g:CN Γ 1 d2 k2 o2 t2 v2 s2 A2) (H:Nm n) (hg:Γ n=some (3,u,i)) (I:pu=0) (j:d<=3/\d2<=3/\1<=D/\left'+1<=left/\1<=u/\u<=3):DU lo pu D Γ Γ left left' (AT 12 4 0 0 n k o t s v A k2 o2 t2 s2 v2 A2 [] []):=by
 obtain ⟨x,e,q,M,B⟩:=JB h j.1
 obtain ⟨y,J,z,L,C⟩:=JB g j.2.1
 subst I
 refine ⟨.node 12 4 0 0 n x y [] [],?_,.LR H hg j.2.2.2.2.1 j.2.2.2.2.2 q z B C,?_,?_⟩
 ·rw [S.enc,<-e,<-J];rfl
 ·simp only [S.nodes,S.Ad];omega
 ·simp only [S.deep,S.Ay];omega
end
theorem DU.mono {j q v:Int} {r:Row} (h:DU lo pu D Γ Γ' left left' r) (hd:D<=j/\left-left'<=q-v):DU lo pu j Γ Γ' q v r:=by
 obtain ⟨s,x,z,B,A⟩:=h
 exact ⟨s,x,z,by omega,by omega⟩
end
structure MS (E:Bool) (Γ:Ctx) (f K M bl pos vl count left call loads:Int) (B V:List Row):Prop where
 m:NP Γ f bl vl count left call loads B V
 fr:∀i:Nat,count<=i->i<24->Γ (vn i)=none
 c0:0<=count
 cl:count+left<=K
 l0:0<=left
 vc:vl<=count+3
 p0:0<=pos
 p1:pos+300*left<=M
 f0:0<=f
 kk:K<=16/\M<=20000
 ex:E=true->vl=V.length
theorem NP.at_ {Γ:Ctx} {f bl vl count left call loads:Int} {B V:List Row} (h:NP Γ f bl vl count left call loads B V) (c l:Int):NP Γ f bl vl c l call loads B V:=⟨h.hB,h.hl,h.hvl,h.GN,h.hV,h.hb,h.hc,h.hd⟩
section
variable {E:Bool} {Γ:Ctx} {f K M bl pos vl count left call loads:Int} {B V:List Row}
theorem MS.mv {j left':Int} (h:MS E Γ f K M bl pos vl count left call loads B V) (k:0<=j/\0<=left'/\left'<=left/\j+300*left'<=M:=by exact kn):MS E Γ f K M bl j vl count left' call loads B V:=
 ⟨h.m.at_ _ _,h.fr,h.c0,by have:=h.cl;omega,k.2.1,h.vc,k.1,k.2.2.2,h.f0,h.kk,h.ex⟩
theorem MS.Fc (h:MS E Γ f K M bl pos vl count left call loads B V) (c l:Int):NP Γ f bl vl c l call loads B V:=h.m.at_ _ _
theorem DF {Γ:Ctx} {n s:List Nat} {x z:Int×Int×Int} (h:Γ n=some z) (g:Γ s=none):Γ.E9 s x n=some z:=by
 rw [Bc];exact h
 intro e;subst e;rw [g]at h;cases h
def Ext (vl:Int) (V q:List Row):Prop:=∀j:Int,0<=j->j<vl->q[j.toNat]?=V[j.toNat]?
theorem Ext.refl:Ext vl V V:=fun _ _ _=>rfl
theorem Ext.trans {q:Int} {z x:List Row} (h:Ext vl V z) (g:Ext q z x) (B:vl<=q):Ext vl V x:=fun j v A=>(g j v om).trans (h j v A)
theorem Ext.more {W:List Row} (h:0<=vl/\vl<=V.length):Ext vl V (V.take vl.toNat++W):=fun j q v=>by
 rw [List.getElem?_append_left (by rw [lT'];omega),List.getElem?_take,if_pos om]
theorem MS.more {v t:Int} {n:List Nat} (h:MS E Γ f K M bl pos vl count left call loads B V) (L:n=vn count.toNat) (I:1<=t/\t<=3) (aa:count+left+1<=K)
  (k:0<=left/\0<=v/\v+300*left<=M):MS false (Γ.E9 n (3,t,0)) f K M bl v ((V.take vl.toNat++[[PV.str n,PV.int .i64 t]]).length:Nat) (count+1) left call loads B (V.take vl.toNat++[[PV.str n,PV.int .i64 t]]):=by
 subst L
 have Y:=h.c0;have ab:=h.vc;have H:=h.m.GN;have hvl:=h.m.hvl;have Z:=h.l0;have A:=h.kk
 have q:Γ (vn count.toNat)=none:=h.fr _ om om
 have z:((V.take vl.toNat++[[PV.str (vn count.toNat),PV.int .i64 t]]).length:Int)=vl+1:=by
  simp only [lA,lC,lN,lT'];omega
 rw [z]
 refine ⟨⟨h.m.hB,h.m.hl,by omega,by omega,?_,?_,h.m.hc,h.m.hd⟩,?_,by omega,by omega,by omega,by omega,k.2.1,k.2.2,h.f0,A,fun e=>by cases e⟩
 ·intro j C hj
  by_cases hjv:j<vl
  ·obtain ⟨nm,u,g1,⟨kk,g2,g3,X⟩,Q,O,N⟩:=h.m.hV j C hjv
   exact ⟨nm,u,(Ext.more ⟨H.1,hvl⟩ j C hjv).trans g1,⟨kk,DF g2 q,g3,X⟩,fun hf=>DF (Q hf) q,O,N⟩
  ·have:j=vl:=by omega
   subst this
   refine ⟨vn count.toNat,t,?_,⟨3,BP,.inr rfl,Nm.vn om⟩,fun _=>BP,I.1,I.2⟩
   rw [List.getElem?_append_right (by rw [lT'];omega),lT',show j.toNat-min j.toNat V.length=0 by omega];rfl
 ·obtain ⟨P,bf,bs,bp,U,R⟩:=h.m.hb
  exact ⟨DF P q,DF bf q,DF bs q,DF bp q,DF U q,fun hc=>let ⟨i,J⟩:=R hc;⟨i,DF J q⟩⟩
 ·intro i J x
  rw [Bc]
  ·exact h.fr i om x
  ·intro e
   have:=Aey x om e
   omega
theorem MS.AaU {j t:Int} {n:List Nat} (h:MS true Γ f K M bl pos vl count left call loads B V) (v:n=vn count.toNat) (x:1<=t/\t<=3) (q:count+left+1<=K)
  (k:0<=left/\0<=j/\j+300*left<=M):MS false (Γ.E9 n (3,t,0)) f K M bl j ((V++[[PV.str n,PV.int .i64 t]]).length:Nat) (count+1) left call loads B (V++[[PV.str n,PV.int .i64 t]]):=by
 have e:V.take vl.toNat=V:=List.take_of_length_le (by have:=h.ex rfl;omega)
 have:=h.more v x q k
 rw [e]at this;exact this
theorem Ext.AaU {W:List Row} (h:vl=V.length):Ext vl V (V++W):=fun j q v=>by rw [List.getElem?_append_left om]
theorem MS.back {I:Bool} {J:Ctx} {x z q v:Int} {A:List Row} (h:MS E Γ f K M bl pos vl count left call loads B V) (g:MS I J f K M bl x z q v call loads B A) (L:Ext vl V A) (hc:count<=q/\vl<=z):MS false Γ f K M bl x vl q v call loads B A:=
 ⟨⟨h.m.hB,h.m.hl,by have:=g.m.hvl;omega,h.m.GN,fun j C H=>by
   obtain ⟨nm,u,g1,g2⟩:=h.m.hV j C H
   exact ⟨nm,u,(L j C H).trans g1,g2⟩,h.m.hb,h.m.hc,h.m.hd⟩,fun i O N=>h.fr i om N,g.c0,g.cl,g.l0,by have:=h.vc;omega,g.p0,g.p1,h.f0,h.kk,fun e=>by cases e⟩
theorem DU.decl {lo pu D l left' k o t v d u:Int} {s n:List Nat} {A:List Row} (j:MS E Γ f K M bl pos vl count left call loads B V) (h:CN Γ u d k o t v s A) (q:n=vn count.toNat) (x:d<=3/\1<=u/\u<=3/\1<=D/\left'+1<=l):DU lo pu D Γ (Γ.E9 n (3,u,0)) l left' (AT 1 0 u 0 n k o t s v A 0 0 0 [] 0 [] [] []):=by
 have z:=j.c0;have H:=j.cl;have I:=j.l0;have C:=j.kk
 subst q
 exact .var h ⟨count.toNat,by omega,rfl⟩ (j.fr _ om om) x
end
theorem Ako {p:Prop} (h:p:=by
  first
  |assumption
  |(apply DU.mono;assumption;omega)
  |(apply AK.mono;assumption;omega)
  |(apply DU.set (d:=3);assumption;assumption;assumption;omega)
  |(apply DU.store (d:=3);assumption;assumption;decide;(first|exact IZ.a (by assumption) |exact IZ.f (by assumption) |exact IZ.s (by assumption) |exact IZ.p (by assumption) |exact IZ.b (by assumption));all_goals omega)
  |(apply DU.atom (d:=3);assumption;assumption;decide;(first|exact IZ.a (by assumption) |exact IZ.s (by assumption));all_goals omega)
  |(refine DU.esc ?_ ?_ ?_<;>omega)
  |(refine DU.WQ ?_ ?_ ?_<;>omega)
  |(refine DU.Hx ?_ ?_ ?_<;>omega)
  |(apply DU.LS (d:=3);assumption;assumption;assumption;all_goals omega)
  |(apply DU.LR (d:=2) (d2:=2);assumption;assumption;assumption;assumption;all_goals omega)
  |(apply DU.Yk (d:=3);assumption;assumption;(first|assumption|(apply Iw.nil (D:=0) (left:=0) (left':=0);exact ⟨Int.le_refl 0,Int.le_refl 0⟩));omega)
  |(apply DU.Yr (d:=3);assumption;assumption;omega)
  |exact Ext.refl
  |(apply Ext.trans;assumption;assumption;omega)
  |(apply Ext.trans;assumption;apply Ext.trans;assumption;assumption;all_goals omega)
  |exact kn):p:=h
theorem A5 {p:Prop} (h:p:=by first|exact Ako|(subst_vars;exact Ako)):p:=h
end
section
def aΓ:Ctx:=fun s=>if s=[97]then some (0,1,0)else if s=[102]then some (0,2,1)else if s=[115]then some (0,1,2)else if s=[112]then some (0,1,3)else if s=[98]then some (0,3,4)else none
def fΓ:Ctx:=(aΓ.E9 [120] (2,1,0)).E9 [121] (2,1,0)
def pΓ:Ctx:=((aΓ.E9 [110] (2,1,0)).E9 [116] (2,2,0)).E9 [99] (2,3,0)
def bΓ (call:Int):Ctx:=if call=1 then pΓ.E9 [104] (1,1,0)else pΓ
def A7:List Row:=[[.str [97],.int .i64 1,.int .i64 1,.int .i64 8],[.str [102],.int .i64 1,.int .i64 2,.int .i64 4],[.str [115],.int .i64 2,.int .i64 1,.int .i64 8],[.str [112],.int .i64 3,.int .i64 1,.int .i64 4],[.str [98],.int .i64 2,.int .i64 3,.int .i64 4]]
def Ax:List Row:=[[.str [110],.int .i64 1],[.str [116],.int .i64 2],[.str [99],.int .i64 3]]
def DO:List Row:=[[.str [120],.int .i64 1],[.str [121],.int .i64 1]]
theorem Akj {i:Nat} (h:i<24):fΓ (vn i)=none:=by
 have:∀i,i<24->fΓ (vn i)=none:=by decide
 exact this i h
theorem Al0 {c:Int} {i:Nat} (h:i<24):bΓ c (vn i)=none:=by
 have j:∀i,i<24->pΓ (vn i)=none:=by decide
 have q:∀i,i<24->(pΓ.E9 [104] (1,1,0)) (vn i)=none:=by decide
 unfold bΓ
 split
 ·exact q i h
 ·exact j i h
section
variable {B:List Row} {bl pos count call:Int}
theorem MS.AgX (hB:Dl B) (hl:bl=B.length) (h:0<=pos/\pos<=100):MS true fΓ 2 4 1400 bl pos 2 0 4 0 0 B [[PV.str [120],PV.int .i64 1],[PV.str [121],PV.int .i64 1]]:=by
 refine ⟨⟨hB,hl,by decide,by decide,?_,⟨rfl,rfl,rfl,rfl,rfl,fun h=>by cases h⟩,.inl rfl,.inl rfl⟩,fun i _ q=>Akj q,by decide,by decide,by decide,by decide,h.1,by omega,by decide,by decide,fun _=>rfl⟩
 intro j v x
 have:j=0∨j=1:=by omega
 rcases this with rfl|rfl
 ·exact ⟨[120],1,rfl,⟨2,rfl,.inl rfl,by decide⟩,fun h=>absurd h (by decide),by decide,by decide⟩
 ·exact ⟨[121],1,rfl,⟨2,rfl,.inl rfl,by decide⟩,fun h=>absurd h (by decide),by decide,by decide⟩
theorem MS.Tj (hB:Dl B) (hl:bl=B.length) (h:0<=pos/\pos<=2000) (hc:0<=count/\count<=4) (q:call=0∨call=1):MS false (bΓ call) 3 16 19000 bl pos 3 count 12 call 1 B [[PV.str [110],PV.int .i64 1],[PV.str [116],PV.int .i64 2],[PV.str [99],PV.int .i64 3]]:=by
 have hb:IZ (bΓ call) call:=by
  rcases q with rfl|rfl
  ·exact ⟨rfl,rfl,rfl,rfl,rfl,fun h=>by cases h⟩
  ·exact ⟨rfl,rfl,rfl,rfl,rfl,fun _=>⟨0,rfl⟩⟩
 have v:bΓ call [110]=some (2,1,0)/\bΓ call [116]=some (2,2,0)/\bΓ call [99]=some (2,3,0):=by
  rcases q with rfl|rfl
  ·exact ⟨rfl,rfl,rfl⟩
  ·exact ⟨rfl,rfl,rfl⟩
 refine ⟨⟨hB,hl,by decide,by decide,?_,hb,q,.inr rfl⟩,fun i _ x=>Al0 x,hc.1,by omega,by decide,by omega,h.1,by omega,by decide,by decide,fun e=>by cases e⟩
 intro j z A
 have:j=0∨j=1∨j=2:=by omega
 rcases this with rfl|rfl|rfl
 ·exact ⟨[110],1,rfl,⟨2,v.1,.inl rfl,by decide⟩,fun h=>absurd h (by decide),by decide,by decide⟩
 ·exact ⟨[116],2,rfl,⟨2,v.2.1,.inl rfl,by decide⟩,fun h=>absurd h (by decide),by decide,by decide⟩
 ·exact ⟨[99],3,rfl,⟨2,v.2.2,.inl rfl,by decide⟩,fun h=>absurd h (by decide),by decide,by decide⟩
end
def JP (R:List Row) (k o y w:Int) (s:List Nat) (A:List Row):Prop:=∃(j:Ctx) (l:Int),AK 0 1 2 fΓ j 4 l R/\0<=l/\CN j 1 3 k o y w s A
theorem JP.mk {j:Ctx} {l k o y w:Int} {R A:List Row} {s:List Nat} (h:AK 0 1 2 fΓ j 4 l R) (hl:0<=l) (g:CN j 1 3 k o y w s A):JP R k o y w s A:=⟨_,_,h,hl,g⟩
theorem JP.nil {k o y w:Int} {A:List Row} {s:List Nat} (g:CN fΓ 1 3 k o y w s A):JP [] k o y w s A:=⟨_,4,AK.nil ⟨by decide,by decide⟩,by decide,g⟩
def C2 (Γ:Ctx) (R:List Row):Prop:=∃(j:Ctx) (l:Int),AK 0 0 4 Γ j 17 l R/\0<=l
theorem C2.of {Γ j:Ctx} {l:Int} {R:List Row} (h:AK 0 0 3 Γ j 12 l R) (hl:0<=l):C2 Γ R:=⟨_,l+5,h.mono ⟨by decide,by omega⟩,by omega⟩
theorem C2.nil {Γ:Ctx}:C2 Γ []:=⟨_,0,AK.nil ⟨by decide,by decide⟩,by decide⟩
theorem C2.plus {Γ j:Ctx} {l v k o y w:Int} {s:List Nat} {A R:List Row} {q:Row} (h:AK 0 0 3 Γ j 12 l R) (hl:0<=l) (H:CN j 3 3 k o y w s A) (x:DU 0 0 3 j j (v+1) v q):
  C2 Γ (R++[AT 5 0 0 0 [] k o y s w A 0 0 0 [] 0 [] [AT 9 0 0 0 [] 0 0 0 [] 0 [] 0 0 0 [] 0 [] [] []] [],q]):=by
 have B:AK 0 0 4 Γ j 17 (l+5) R:=h.mono ⟨by decide,by omega⟩
 have hb:Iw 0 0 1 j 2 1 [AT 9 0 0 0 [] 0 0 0 [] 0 [] 0 0 0 [] 0 [] [] []]:=.mk (AK.one (DU.WQ (.inl rfl) rfl ⟨by decide,by decide⟩) (by decide))
 have C:DU 0 0 4 j j (l+5) (l+3) (AT 5 0 0 0 [] k o y s w A 0 0 0 [] 0 [] [AT 9 0 0 0 [] 0 0 0 [] 0 [] 0 0 0 [] 0 [] [] []] []):=
  DU.Yk (d:=3) (D1:=1) (D2:=0) (a2:=0) (b2:=0) H hb (Iw.nil ⟨by decide,by decide⟩) ⟨by decide,by decide,by decide,by omega⟩
 have z:DU 0 0 4 j j (l+3) l q:=x.mono ⟨by decide,by omega⟩
 have:=(B.snoc C).snoc z
 rw [List.append_assoc]at this
 exact ⟨_,l,this,hl⟩
theorem C2.AiB {Γ:Ctx} {j k o y w:Int} {s:List Nat} {A:List Row} {q:Row} (v:CN Γ 3 3 k o y w s A) (x:DU 0 0 3 Γ Γ (j+1) j q):
  C2 Γ [AT 5 0 0 0 [] k o y s w A 0 0 0 [] 0 [] [AT 9 0 0 0 [] 0 0 0 [] 0 [] 0 0 0 [] 0 [] [] []] [],q]:=
 C2.plus (R:=[]) (l:=12) (AK.nil ⟨by decide,by decide⟩) (by decide) v x
def BJ (g sub:Int):Prop:=(sub=1∨sub=2∨sub=4∨sub=8)/\g%sub=0
def hrow (P R:List Row) (k o y:Int) (s:List Nat) (w:Int) (A:List Row):Row:=[.str [104],.list 2 P,.int .i64 1,.list 19 R,.int .i64 k,.int .i64 o,.int .i64 y,.str s,.int .i32 w,.list 6 A]
def Bz (g sub:Int) (q P j R:List Row):Prop:=q=A7/\P=Ax/\0<R.length/\(g=4∨g=1∨g=2∨g=8∨g=6)/\BJ g sub/\
 ((j=[]/\C2 (bΓ 0) R)∨(∃(F:List Row) (k o y w:Int) (s:List Nat) (A:List Row),j=[hrow DO F k o y s w A]/\JP F k o y w s A/\C2 (bΓ 1) R))
theorem Bz.a {g sub:Int} {R:List Row} (hg:g=4∨g=1∨g=2∨g=8∨g=6) (hs:BJ g sub) (h:C2 (bΓ 0) R) (j:0<R.length):Bz g sub A7 Ax [] R:=⟨rfl,rfl,j,hg,hs,.inl ⟨rfl,h⟩⟩
theorem Bz.b {g sub k o y w:Int} {s:List Nat} {P F A R:List Row} (hg:g=4∨g=1∨g=2∨g=8∨g=6) (hs:BJ g sub) (q:P=DO) (hf:JP F k o y w s A) (h:C2 (bΓ 1) R) (j:0<R.length):Bz g sub A7 Ax [hrow P F k o y s w A] R:=by
 subst q
 exact ⟨rfl,rfl,j,hg,hs,.inr ⟨F,k,o,y,w,s,A,rfl,hf,h⟩⟩
theorem nv {trees:Nat->Tree} {Q:Out->Prop} {t:Tree} {v:Aj} (j:Aj) (h:W trees Q t j) (e:v=j:=by rfl):W trees Q t v:=by subst e;exact h
theorem MS.wide {E:Bool} {Γ:Ctx} {f K M M' bl pos vl count left call loads:Int} {B V:List Row} (h:MS E Γ f K M bl pos vl count left call loads B V) (k:M<=M'/\M'<=20000):MS E Γ f K M' bl pos vl count left call loads B V:=
 ⟨h.m,h.fr,h.c0,h.cl,h.l0,h.vc,h.p0,by have:=h.p1;omega,h.f0,⟨h.kk.1,k.2⟩,h.ex⟩
end
section
abbrev Rl:=List Nat->Int×Int×Int->Prop
def TL (Δ:Rl) (a:List E):Prop:=∀e∈a,∃t,TR Δ t e
section
variable {Δ:Rl} {t k o ty v:Int} {s:List Nat} {a:List E}
theorem TR.args (h:TR Δ t (.node k o ty v s a)):TL Δ a:=by
 cases h with
 |num=>intro e j;cases j
 |id=>intro e j;cases j
 |var=>intro e j;cases j
 |un _ h1=>intro e j;simp only [List.mem_cons,List.not_mem_nil,or_false]at j;subst j;exact ⟨_,h1⟩
 |bin _ h1 h2=>intro e j;simp only [List.mem_cons,List.not_mem_nil,or_false]at j;rcases j with rfl|rfl<;>first|exact ⟨_,h1⟩|exact ⟨_,h2⟩
 |cond h1 h2 h3=>intro e j;simp only [List.mem_cons,List.not_mem_nil,or_false]at j;rcases j with rfl|rfl|rfl<;>first|exact ⟨_,h1⟩|exact ⟨_,h2⟩|exact ⟨_,h3⟩
 |load _ _ _ _ h1=>intro e j;simp only [List.mem_cons,List.not_mem_nil,or_false]at j;subst j;exact ⟨_,h1⟩
 |call _ h1 h2=>intro e j;simp only [List.mem_cons,List.not_mem_nil,or_false]at j;rcases j with rfl|rfl<;>first|exact ⟨_,h1⟩|exact ⟨_,h2⟩
 |ca0=>intro e j;cases j
 |ca1 _ _ _ h1=>intro e j;simp only [List.mem_cons,List.not_mem_nil,or_false]at j;subst j;exact ⟨_,h1⟩
theorem TR.kind (h:TR Δ t (.node k o ty v s a)):1<=k/\k<=8/\a.length<=3:=by
 cases h<;>simp
theorem TR.nodes (h:TR Δ t (.node k o ty v s a)):(E.node k o ty v s a).nodes=1+E.Ad a:=by
 have:=h.kind
 rw [E.nodes,if_neg om]
theorem J3:(E.node k o ty v s a).high=1+E.BL a:=by rw [E.high]
theorem TL.get (h:TL Δ a) (j:Int) (x:0<=j) (z:j<((E.Aa a).length:Int)):∃(k o t v:Int) (s:List Nat) (b:List E) (u:Int),
  (E.Aa a)[j.toNat]?=some [.int .i64 k,.int .i64 o,.int .i64 t,.str s,.int .i32 v,.list 6 (E.Aa b)]/\TR Δ u (.node k o t v s b)/\(E.node k o t v s b).high<=E.BL a/\1<=(E.node k o t v s b).nodes/\(E.node k o t v s b).nodes+E.Ad (a.drop (j+1).toNat)=E.Ad (a.drop j.toNat):=by
 obtain ⟨k,o,t,v,s,b,g1,g2⟩:=E.get a j x z
 obtain ⟨u,q⟩:=h _ (List.mem_of_getElem? g2)
 refine ⟨k,o,t,v,s,b,u,g1,q,E.MP g2,by have:=q.nodes;omega,?_⟩
 rw [show (j+1).toNat=j.toNat+1 by omega]
 exact E.Kq g2
theorem HA {j:Int} (h:((E.Aa a).length:Int)<=j):E.Ad (a.drop j.toNat)=0:=by
 rw [E.A0]at h
 rw [List.drop_eq_nil_of_le om];rfl
theorem TR.len {Δ:Rl} (h:TL Δ a):(a.length:Int)<=E.Ad a:=by
 induction a with
 |nil=>simp [E.Ad]
 |cons e l ih=>
  have z:=ih fun x q=>h x (List.mem_cons_of_mem _ q)
  obtain ⟨u,j⟩:=h e List.mem_cons_self
  obtain ⟨k,o,t,v,s,b⟩:=e
  have:=j.nodes
  simp only [lC,E.Ad];omega
end
abbrev Bb (t:Int):Row:=[.int .i64 t]
inductive Ts (Γ:Ctx):List Int->List E->Prop
 |nil:Ts Γ [] []
 |cons {t:Int} {e:E} {ts:List Int} {a:List E}:T Γ t e->Ts Γ ts a->Ts Γ (t::ts) (e::a)
theorem Ts.len {Γ:Ctx}:∀{ts:List Int} {a:List E},Ts Γ ts a->ts.length=a.length
 |_,_,.nil=>rfl
 |_,_,.cons _ h=>by simp [h.len]
theorem Ts.at {Γ:Ctx}:∀{ts:List Int} {a:List E} (_:Ts Γ ts a) {i:Nat} {e:E},a[i]?=some e->∃t,ts[i]?=some t/\T Γ t e
 |_,_,.nil,i,e,h=>by simp at h
 |_,_,.cons h g,0,e,k=>by simp at k;subst k;exact ⟨_,rfl,h⟩
 |_,_,.cons h g,i+1,e,k=>by simpa using g.at (by simpa using k)
theorem Ts.get {Γ:Ctx} {ts:List Int} {a:List E} (h:Ts Γ ts a) (j:Int) (x:0<=j) (A:j<((E.Aa a).length:Int)):∃(k o t v:Int) (s:List Nat) (b:List E) (u:Int),
  (E.Aa a)[j.toNat]?=some [.int .i64 k,.int .i64 o,.int .i64 t,.str s,.int .i32 v,.list 6 (E.Aa b)]/\T Γ u (.node k o t v s b)/\(E.node k o t v s b).high<=E.BL a/\ts[j.toNat]?=some u:=by
 obtain ⟨k,o,t,v,s,b,g1,g2⟩:=E.get a j x A
 obtain ⟨u,q,z⟩:=h.at g2
 exact ⟨k,o,t,v,s,b,u,g1,z,E.MP g2,q⟩
theorem HN {ts:List Int} {j u:Int} (h:ts[j.toNat]?=some u) (q:0<=j):(ts.take j.toNat).map Bb++[[PV.int .i64 u]]=(ts.take (j+1).toNat).map Bb:=by
 rw [show (j+1).toNat=j.toNat+1 by omega,List.take_add_one,h];simp [Bb]
theorem Y2 {ts:List Int} {j:Int} (h:(ts.length:Int)<=j):(ts.take j.toNat).map Bb=ts.map Bb:=by
 rw [List.take_of_length_le om]
theorem Ym.Ty {o t u:Int} (h:Ym o t u):1<=o/\o<=5/\1<=t/\t<=3/\1<=u/\u<=3:=by unfold Ym at h;omega
theorem KL.Ty {o t u:Int} (h:KL o t u):10<=o/\o<=29/\1<=t/\t<=3/\1<=u/\u<=3:=by unfold KL at h;omega
section
variable {Γ:Ctx} {t k o ty v:Int} {s:List Nat} {a:List E}
theorem TR.inv {Δ:Rl} (h:TR Δ t (.node k o ty v s a)):
  (k=1/\o=0/\ty=t/\s=[]/\a=[]/\1<=t/\t<=3/\(t=3->v=0∨v=1)/\(t=2->Fx v)/\-200000<=v/\v<=5000000)∨
  (k=3/\ty=0/\v=0/\s=[]/\a=[]/\t=1/\1<=o/\o<=7)∨
  (k=2/\o=0/\ty=0/\v=0/\a=[]/\Nm s/\∃kk i,(kk=2∨kk=3)/\1<=t/\t<=3/\Δ s (kk,t,i))∨
  (k=4/\ty=0/\v=0/\s=[]/\∃k1 x t1 A q j w,a=[.node k1 x t1 A q j]/\Ym o w t/\TR Δ w (.node k1 x t1 A q j))∨
  (k=5/\ty=0/\v=0/\s=[]/\∃k1 x t1 A q j C J B H I b2 w,a=[.node k1 x t1 A q j,.node C J B H I b2]/\KL o w t/\TR Δ w (.node k1 x t1 A q j)/\TR Δ w (.node C J B H I b2))∨
  (k=6/\o=0/\ty=0/\v=0/\s=[]/\∃k1 x t1 A q j C J B H I b2 L N O Q M P,a=[.node k1 x t1 A q j,.node C J B H I b2,.node L N O Q M P]/\TR Δ 3 (.node k1 x t1 A q j)/\TR Δ t (.node C J B H I b2)/\TR Δ t (.node L N O Q M P))∨
  (k=7/\o=0/\ty=0/\v=0/\Nm s/\∃k1 x t1 A q j i,a=[.node k1 x t1 A q j]/\1<=t/\t<=3/\Δ s (0,t,i)/\TR Δ 1 (.node k1 x t1 A q j))∨
  (k=8/\o=0/\ty=0/\v=0/\s=[104]/\∃k1 x t1 A q j C J B H I b2 i,a=[.node k1 x t1 A q j,.node C J B H I b2]/\t=1/\Δ [104] (1,1,i)/\TR Δ 1 (.node k1 x t1 A q j)/\TR Δ 1 (.node C J B H I b2))∨
  (k=8/\o=0/\ty=0/\v=0/\a=[]/\Nm s/\(1<=t/\t<=3)/\∀s z,Δ s z)∨
  (k=8/\o=0/\ty=0/\v=0/\Nm s/\∃k1 x t1 A q j,a=[.node k1 x t1 A q j]/\(1<=t/\t<=3)/\(∀s z,Δ s z)/\TR Δ 1 (.node k1 x t1 A q j)):=by
 cases h with
 |num h1 h2 h3 h4 h5=>exact .inl ⟨rfl,rfl,rfl,rfl,rfl,h1,h2,h3,h4,h5⟩
 |id h1 h2=>exact .inr (.inl ⟨rfl,rfl,rfl,rfl,rfl,rfl,h1,h2⟩)
 |var h1 h2 h3 h4 h5=>exact .inr (.inr (.inl ⟨rfl,rfl,rfl,rfl,rfl,h1,_,_,h2,h3,h4,h5⟩))
 |@un _ _ _ a h1 h2=>
  obtain ⟨_,_,_,_,_,_⟩:=a
  exact .inr (.inr (.inr (.inl ⟨rfl,rfl,rfl,rfl,_,_,_,_,_,_,_,rfl,h1,h2⟩)))
 |@bin _ _ _ a b h1 h2 h3=>
  obtain ⟨_,_,_,_,_,_⟩:=a
  obtain ⟨_,_,_,_,_,_⟩:=b
  exact .inr (.inr (.inr (.inr (.inl ⟨rfl,rfl,rfl,rfl,_,_,_,_,_,_,_,_,_,_,_,_,_,rfl,h1,h2,h3⟩))))
 |@cond _ a b c h1 h2 h3=>
  obtain ⟨_,_,_,_,_,_⟩:=a
  obtain ⟨_,_,_,_,_,_⟩:=b
  obtain ⟨_,_,_,_,_,_⟩:=c
  exact .inr (.inr (.inr (.inr (.inr (.inl ⟨rfl,rfl,rfl,rfl,rfl,_,_,_,_,_,_,_,_,_,_,_,_,_,_,_,_,_,_,rfl,h1,h2,h3⟩)))))
 |@load _ _ _ a h1 h2 h3 h4 h5=>
  obtain ⟨_,_,_,_,_,_⟩:=a
  exact .inr (.inr (.inr (.inr (.inr (.inr (.inl ⟨rfl,rfl,rfl,rfl,h1,_,_,_,_,_,_,_,rfl,h2,h3,h4,h5⟩))))))
 |@call _ a b h1 h2 h3=>
  obtain ⟨_,_,_,_,_,_⟩:=a
  obtain ⟨_,_,_,_,_,_⟩:=b
  exact .inr (.inr (.inr (.inr (.inr (.inr (.inr (.inl ⟨rfl,rfl,rfl,rfl,rfl,_,_,_,_,_,_,_,_,_,_,_,_,_,rfl,rfl,h1,h2,h3⟩)))))))
 |ca0 h1 h2 h3=>exact .inr (.inr (.inr (.inr (.inr (.inr (.inr (.inr (.inl ⟨rfl,rfl,rfl,rfl,rfl,h2,h3,h1⟩))))))))
 |@ca1 _ _ a h1 h2 h4 h3=>
  obtain ⟨_,_,_,_,_,_⟩:=a
  exact .inr (.inr (.inr (.inr (.inr (.inr (.inr (.inr (.inr ⟨rfl,rfl,rfl,rfl,h2,_,_,_,_,_,_,rfl,h4,h1,h3⟩))))))))
theorem T.inv (h:T Γ t (.node k o ty v s a)):
  (k=1/\o=0/\ty=t/\s=[]/\a=[]/\1<=t/\t<=3/\(t=3->v=0∨v=1)/\(t=2->Fx v)/\-200000<=v/\v<=5000000)∨
  (k=3/\ty=0/\v=0/\s=[]/\a=[]/\t=1/\1<=o/\o<=7)∨
  (k=2/\o=0/\ty=0/\v=0/\a=[]/\Nm s/\∃kk i,(kk=2∨kk=3)/\1<=t/\t<=3/\Γ s=some (kk,t,i))∨
  (k=4/\ty=0/\v=0/\s=[]/\∃k1 x t1 z q j w,a=[.node k1 x t1 z q j]/\Ym o w t/\T Γ w (.node k1 x t1 z q j))∨
  (k=5/\ty=0/\v=0/\s=[]/\∃k1 x t1 z q j B I A C H b2 w,a=[.node k1 x t1 z q j,.node B I A C H b2]/\KL o w t/\T Γ w (.node k1 x t1 z q j)/\T Γ w (.node B I A C H b2))∨
  (k=6/\o=0/\ty=0/\v=0/\s=[]/\∃k1 x t1 z q j B I A C H b2 J M N P L O,a=[.node k1 x t1 z q j,.node B I A C H b2,.node J M N P L O]/\T Γ 3 (.node k1 x t1 z q j)/\T Γ t (.node B I A C H b2)/\T Γ t (.node J M N P L O))∨
  (k=7/\o=0/\ty=0/\v=0/\Nm s/\∃k1 x t1 z q j i,a=[.node k1 x t1 z q j]/\1<=t/\t<=3/\Γ s=some (0,t,i)/\T Γ 1 (.node k1 x t1 z q j))∨
  (k=8/\o=0/\ty=0/\v=0/\s=[104]/\∃k1 x t1 z q j B I A C H b2 i,a=[.node k1 x t1 z q j,.node B I A C H b2]/\t=1/\Γ [104]=some (1,1,i)/\T Γ 1 (.node k1 x t1 z q j)/\T Γ 1 (.node B I A C H b2)):=by
 rcases TR.inv h with h|h|h|h|h|h|h|h|⟨_,_,_,_,_,_,_,h⟩|⟨_,_,_,_,_,_,_,_,_,_,_,_,_,h,_⟩
 ·exact .inl h
 ·exact .inr (.inl h)
 ·exact .inr (.inr (.inl h))
 ·exact .inr (.inr (.inr (.inl h)))
 ·exact .inr (.inr (.inr (.inr (.inl h))))
 ·exact .inr (.inr (.inr (.inr (.inr (.inl h)))))
 ·exact .inr (.inr (.inr (.inr (.inr (.inr (.inl h))))))
 ·exact .inr (.inr (.inr (.inr (.inr (.inr (.inr h))))))
 ·exact (Ctx.FE h).elim
 ·exact (Ctx.FE h).elim
theorem n1 {x:E}:E.Ad [x]=x.nodes:=by simp only [E.Ad];omega
theorem n2 {x y:E}:E.Ad [x,y]=x.nodes+y.nodes:=by simp only [E.Ad];omega
theorem n3 {x y z:E}:E.Ad [x,y,z]=x.nodes+y.nodes+z.nodes:=by simp only [E.Ad];omega
theorem g1 {x:E}:E.BL [x]=x.high:=by simp only [E.BL];omega
theorem g2 {x y:E}:E.BL [x,y]=max x.high y.high:=by simp only [E.BL];omega
theorem g3 {x y z:E}:E.BL [x,y,z]=max x.high (max y.high z.high):=by simp only [E.BL];omega
end
def Nj (s:List Nat):Tree->Option Nat
 |.leaf a _ ⟨[],[],[],[]⟩=>some a
 |.sets 0 l t e=>if s=l then Nj s t else Nj s e
 |_=>none
theorem Ni {trees:Nat->Tree} {Q:Out->Prop} {s:List Nat} {a:Nat}:∀(t:Tree),Nj s t=some a->Q (a,⟨[],[],[],[]⟩)->W trees Q t ⟨[],[s],[],[]⟩
 |.leaf b nw ⟨[],[],[],[]⟩,h,hq=>by
  simp only [Nj,oI]at h
  subst h;exact Ag ⟨[],[],[],[]⟩ hq rfl
 |.sets 0 l t e,h,hq=>by
  simp only [Nj]at h
  refine ss s (fun k=>?_) fun k=>?_
  ·rw [if_pos k]at h;exact Ni t h hq
  ·rw [if_neg k]at h;exact Ni e h hq
theorem Ok.str {trees:Nat->Tree} {c:Nat} {s:List Nat} {R:Out->Prop} {t:Tree} {a:Nat} (q:trees c=t) (h:Nj s t=some a) (j:R (a,⟨[],[],[],[]⟩)):Ok trees c ⟨[],[s],[],[]⟩ R:=.of q (Ni t h j)
structure Ck (Γ:Ctx) (al fl:Int) (Ar Fs:List Row) (m:List (List Nat×List PV)):Prop where
 see:∀s,AR m s=(Γ s).map fun z=>[PV.int .i64 z.1,PV.int .i64 z.2.1,PV.int .i64 z.2.2]
 ha:al=Ar.length
 hf:fl=Fs.length
 ar:∀s t i,Γ s=some (0,t,i)->0<=i/\i<al/\∃(nm:List Nat) (sp ln:Int),Ar[i.toNat]?=some [.str nm,.int .i64 sp,.int .i64 t,.int .i64 ln]/\(i=0∨i=2->sp≠3)
 fn:∀i,Γ [104]=some (1,1,i)->0<=i/\i<fl/\∃(F:List Row) (k o y w:Int) (s:List Nat) (A:List Row),Fs[i.toNat]?=some [.str [104],.list 2 DO,.int .i64 1,.list 19 F,.int .i64 k,.int .i64 o,.int .i64 y,.str s,.int .i32 w,.list 6 A]
theorem Ck.look {Γ:Ctx} {v fl:Int} {q j:List Row} {m:List (List Nat×List PV)} (h:Ck Γ v fl q j m) {s:List Nat} {k t i:Int} (g:Γ s=some (k,t,i)):AR m s=some [PV.int .i64 k,PV.int .i64 t,PV.int .i64 i]:=by
 rw [h.see,g];rfl
theorem Ck.AjV {Γ:Ctx} {v fl:Int} {q j:List Row} {m:List (List Nat×List PV)} (h:Ck Γ v fl q j m) {s:List Nat} (g:Γ s=none):AR m s=none:=by
 rw [h.see,g];rfl
theorem Pc (j:Int) (q:0<=j) (v:j<2):∃nm:List Nat,DO[j.toNat]?=some [.str nm,.int .i64 1]:=by
 have:j=0∨j=1:=by omega
 rcases this with rfl|rfl
 ·exact ⟨[120],rfl⟩
 ·exact ⟨[121],rfl⟩
theorem Sx (j:Int) (q:0<=j) (v:j<2):([1,1].map Bb)[j.toNat]?=some [PV.int .i64 1]:=by
 have:j=0∨j=1:=by omega
 rcases this with rfl|rfl<;>rfl
theorem Ts.none {Γ:Ctx} {ts:List Int} {a:List E} (h:Ts Γ ts a) (j:((E.Aa a).length:Int)<=0):ts=[]:=by
 rw [E.A0]at j
 have:=h.len
 exact List.eq_nil_of_length_eq_zero om
theorem Ts.end {Γ:Ctx} {ts:List Int} {a:List E} (h:Ts Γ ts a) {j:Int} (q:((E.Aa a).length:Int)<=j):(ts.take j.toNat).map Bb=ts.map Bb:=by
 rw [E.A0]at q
 exact Y2 (by rw [h.len];omega)
theorem Ts.CL {ts:List Int}:((ts.map Bb).length:Int)=ts.length:=by simp
theorem S.len:∀l:List S,l.length<=S.Ad l
 |[]=>by simp
 |s::l=>by
  have:=S.len l
  obtain ⟨_,_,_,_,_,_,_,_,_⟩:=s
  simp only [lC,S.Ad,S.nodes];omega
end
section
def EOR (Δ:Rl) (e:E):Prop:=e=E0∨((∃t,TR Δ t e)/\e.high<=5)
abbrev EOk (Γ:Ctx) (e:E):Prop:=EOR (fun s z=>Γ s=some z) e
def No (k o t v:Int) (s:List Nat) (a:List E):Prop:=k=0/\o=0/\t=0/\v=0/\s=[]/\a=[]
theorem No.of {k o t v:Int} {s:List Nat} {a:List E} (h:E.node k o t v s a=E0):No k o t v s a:=by
 unfold E0 at h
 simp only [E.node.injEq]at h
 exact h
theorem No.eq {k o t v:Int} {s:List Nat} {a:List E} (h:No k o t v s a):E.node k o t v s a=E0:=by
 obtain ⟨rfl,rfl,rfl,rfl,rfl,rfl⟩:=h;rfl
section
variable {lo pu:Int} {Γ Γ':Ctx} {k o t b xk xo xt xv yk yo yt yv:Int} {nm xn yn:List Nat} {xa ya:List E} {bo el:List S}
theorem Fb.inv (h:Fb lo pu Γ (.node k o t b nm (.node xk xo xt xv xn xa) (.node yk yo yt yv yn ya) bo el) Γ'):
  (k=1/\o=0/\b=0/\No yk yo yt yv yn ya/\bo=[]/\el=[]/\Nm nm/\Γ nm=none/\1<=t/\t<=3/\T Γ t (.node xk xo xt xv xn xa)/\(E.node xk xo xt xv xn xa).high<=5/\Γ'=Γ.E9 nm (3,t,0))∨
  (k=2/\o=0/\t=0/\b=0/\No yk yo yt yv yn ya/\bo=[]/\el=[]/\Nm nm/\Γ'=Γ/\∃u i,Γ nm=some (3,u,i)/\T Γ u (.node xk xo xt xv xn xa)/\(E.node xk xo xt xv xn xa).high<=5)∨
  (k=3/\o=0/\t=0/\b=0/\bo=[]/\el=[]/\pu=0/\Nm nm/\Γ'=Γ/\∃u i,0<=i/\i<=4/\Γ nm=some (0,u,i)/\T Γ 1 (.node xk xo xt xv xn xa)/\T Γ u (.node yk yo yt yv yn ya)/\(E.node xk xo xt xv xn xa).high<=5/\(E.node yk yo yt yv yn ya).high<=5)∨
  (k=4/\t=0/\b=0/\bo=[]/\el=[]/\pu=0/\Nm nm/\Γ'=Γ/\∃i,(i=0∨i=2)/\Γ nm=some (0,1,i)/\(o=10∨o=17∨o=18∨o=19∨o=22∨o=23)/\T Γ 1 (.node xk xo xt xv xn xa)/\T Γ 1 (.node yk yo yt yv yn ya)/\(E.node xk xo xt xv xn xa).high<=5/\(E.node yk yo yt yv yn ya).high<=5)∨
  (k=5/\o=0/\t=0/\b=0/\nm=[]/\No yk yo yt yv yn ya/\T Γ 3 (.node xk xo xt xv xn xa)/\(E.node xk xo xt xv xn xa).high<=5/\Γ'=Γ/\∃j q,Ew lo pu Γ bo j/\Ew lo pu Γ el q)∨
  (k=6/\o=0/\t=0/\nm=[]/\No yk yo yt yv yn ya/\el=[]/\T Γ 3 (.node xk xo xt xv xn xa)/\(E.node xk xo xt xv xn xa).high<=5/\1<=b/\b<=4/\Γ'=Γ/\∃j,Ew 1 pu Γ bo j)∨
  ((k=7∨k=8)/\o=0/\t=0/\b=0/\nm=[]/\No xk xo xt xv xn xa/\No yk yo yt yv yn ya/\bo=[]/\el=[]/\lo≠0/\Γ'=Γ)∨
  ((k=9∨k=10)/\o=0/\t=0/\b=0/\nm=[]/\No xk xo xt xv xn xa/\No yk yo yt yv yn ya/\bo=[]/\el=[]/\pu=0/\Γ'=Γ)∨
  (k=11/\(o=1∨o=2)/\t=0/\b=0/\nm=[]/\No xk xo xt xv xn xa/\No yk yo yt yv yn ya/\bo=[]/\el=[]/\pu=0/\Γ'=Γ)∨
  (k=12/\t=0/\b=0/\No yk yo yt yv yn ya/\bo=[]/\el=[]/\pu=0/\Nm nm/\Γ'=Γ/\∃u w i,Γ nm=some (3,u,i)/\1<=u/\u<=3/\((o=1/\u=1/\w=3)∨((o=2∨o=3)/\u=3/\w=3)∨((o=5∨o=6)/\u≠3/\w=u))/\T Γ w (.node xk xo xt xv xn xa)/\(E.node xk xo xt xv xn xa).high<=5)∨
  (k=12/\o=4/\t=0/\b=0/\bo=[]/\el=[]/\pu=0/\Nm nm/\Γ'=Γ/\∃u i,Γ nm=some (3,u,i)/\1<=u/\u<=3/\T Γ u (.node xk xo xt xv xn xa)/\T Γ 1 (.node yk yo yt yv yn ya)/\(E.node xk xo xt xv xn xa).high<=5/\(E.node yk yo yt yv yn ya).high<=5):=by
 generalize hx:E.node xk xo xt xv xn xa=x at h⊢
 generalize hy:E.node yk yo yt yv yn ya=y at h⊢
 cases h with
 |var h1 _ h2 h3 h4 h5 h6=>exact .inl ⟨rfl,rfl,rfl,.of hy,rfl,rfl,h1,h2,h3,h4,h5,h6,rfl⟩
 |set h1 h2 h3 h4=>exact .inr (.inl ⟨rfl,rfl,rfl,rfl,.of hy,rfl,rfl,h1,rfl,_,_,h2,h3,h4⟩)
 |store h1 h2 h3 h4 h5 h6 h7 h8=>exact .inr (.inr (.inl ⟨rfl,rfl,rfl,rfl,rfl,rfl,rfl,h1,rfl,_,_,h2,h3,h4,h5,h6,h7,h8⟩))
 |atom h1 h2 h3 h4 h5 h6 h7 h8=>exact .inr (.inr (.inr (.inl ⟨rfl,rfl,rfl,rfl,rfl,rfl,h1,rfl,_,h2,h3,h4,h5,h6,h7,h8⟩)))
 |Yk h1 h2 h3 h4=>exact .inr (.inr (.inr (.inr (.inl ⟨rfl,rfl,rfl,rfl,rfl,.of hy,h1,h2,rfl,_,_,h3,h4⟩))))
 |Yr h1 h2 h3 h4 h5=>exact .inr (.inr (.inr (.inr (.inr (.inl ⟨rfl,rfl,rfl,rfl,.of hy,rfl,h1,h2,h3,h4,rfl,_,h5⟩)))))
 |esc h1 h2=>exact .inr (.inr (.inr (.inr (.inr (.inr (.inl ⟨h1,rfl,rfl,rfl,rfl,.of hx,.of hy,rfl,rfl,h2,rfl⟩))))))
 |WQ h1=>exact .inr (.inr (.inr (.inr (.inr (.inr (.inr (.inl ⟨h1,rfl,rfl,rfl,rfl,.of hx,.of hy,rfl,rfl,rfl,rfl⟩)))))))
 |Hx h1=>exact .inr (.inr (.inr (.inr (.inr (.inr (.inr (.inr (.inl ⟨rfl,h1,rfl,rfl,rfl,.of hx,.of hy,rfl,rfl,rfl,rfl⟩))))))))
 |LS h1 h2 h3 h4 h5 h6 h7=>exact .inr (.inr (.inr (.inr (.inr (.inr (.inr (.inr (.inr (.inl ⟨rfl,rfl,rfl,.of hy,rfl,rfl,rfl,h1,rfl,_,_,_,h2,h3,h4,h5,h6,h7⟩)))))))))
 |LR h1 h2 h3 h4 h5 h6 h7 h8=>exact .inr (.inr (.inr (.inr (.inr (.inr (.inr (.inr (.inr (.inr ⟨rfl,rfl,rfl,rfl,rfl,rfl,rfl,h1,rfl,_,_,h2,h3,h4,h5,h6,h7,h8⟩)))))))))
theorem Fb.exprs {s:S} (h:Fb lo pu Γ s Γ'):∃k o t b nm x y bo el,s=.node k o t b nm x y bo el/\EOk Γ x/\EOk Γ y/\∃j z v q,Ew j pu Γ bo v/\Ew z pu Γ el q:=by
 cases h with
 |var h1 _ h2 h3 h4 h5 h6=>exact ⟨_,_,_,_,_,_,_,_,_,rfl,.inr ⟨⟨_,h5⟩,h6⟩,.inl rfl,0,0,_,_,.nil,.nil⟩
 |set h1 h2 h3 h4=>exact ⟨_,_,_,_,_,_,_,_,_,rfl,.inr ⟨⟨_,h3⟩,h4⟩,.inl rfl,0,0,_,_,.nil,.nil⟩
 |store h1 h2 h3 h4 h5 h6 h7 h8=>exact ⟨_,_,_,_,_,_,_,_,_,rfl,.inr ⟨⟨_,h5⟩,h7⟩,.inr ⟨⟨_,h6⟩,h8⟩,0,0,_,_,.nil,.nil⟩
 |atom h1 h2 h3 h4 h5 h6 h7 h8=>exact ⟨_,_,_,_,_,_,_,_,_,rfl,.inr ⟨⟨_,h5⟩,h7⟩,.inr ⟨⟨_,h6⟩,h8⟩,0,0,_,_,.nil,.nil⟩
 |Yk h1 h2 h3 h4=>exact ⟨_,_,_,_,_,_,_,_,_,rfl,.inr ⟨⟨_,h1⟩,h2⟩,.inl rfl,_,_,_,_,h3,h4⟩
 |Yr h1 h2 h3 h4 h5=>exact ⟨_,_,_,_,_,_,_,_,_,rfl,.inr ⟨⟨_,h1⟩,h2⟩,.inl rfl,_,0,_,_,h5,.nil⟩
 |esc h1 h2=>exact ⟨_,_,_,_,_,_,_,_,_,rfl,.inl rfl,.inl rfl,0,0,_,_,.nil,.nil⟩
 |WQ h1=>exact ⟨_,_,_,_,_,_,_,_,_,rfl,.inl rfl,.inl rfl,0,0,_,_,.nil,.nil⟩
 |Hx h1=>exact ⟨_,_,_,_,_,_,_,_,_,rfl,.inl rfl,.inl rfl,0,0,_,_,.nil,.nil⟩
 |LS h1 h2 h3 h4 h5 h6 h7=>exact ⟨_,_,_,_,_,_,_,_,_,rfl,.inr ⟨⟨_,h6⟩,h7⟩,.inl rfl,0,0,_,_,.nil,.nil⟩
 |LR h1 h2 h3 h4 h5 h6 h7 h8=>exact ⟨_,_,_,_,_,_,_,_,_,rfl,.inr ⟨⟨_,h5⟩,h7⟩,.inr ⟨⟨_,h6⟩,h8⟩,0,0,_,_,.nil,.nil⟩
theorem Ew.get {l:List S} (j:Int) (h:Ew lo pu Γ (l.drop j.toNat) Γ') (z:0<=j) (q:j<((S.Aa l).length:Int)):∃(k o t b:Int) (nm:List Nat) (xk xo xt xv:Int) (xn:List Nat) (xa:List E) (yk yo yt yv:Int) (yn:List Nat) (ya:List E) (bo el:List S) (v:Ctx),
  (S.Aa l)[j.toNat]?=some [.int .i64 k,.int .i64 o,.int .i64 t,.int .i64 b,.str nm,.int .i64 xk,.int .i64 xo,.int .i64 xt,.str xn,.int .i32 xv,.list 6 (E.Aa xa),.int .i64 yk,.int .i64 yo,.int .i64 yt,.str yn,.int .i32 yv,.list 6 (E.Aa ya),.list 19 (S.Aa bo),.list 19 (S.Aa el)]/\
  Fb lo pu Γ (.node k o t b nm (.node xk xo xt xv xn xa) (.node yk yo yt yv yn ya) bo el) v/\Ew lo pu v (l.drop (j+1).toNat) Γ'/\
  S.Ad (l.drop j.toNat)=1+(E.node xk xo xt xv xn xa).nodes+(E.node yk yo yt yv yn ya).nodes+S.Ad bo+S.Ad el+S.Ad (l.drop (j+1).toNat)/\
  S.Ay (l.drop j.toNat)=max (1+max (S.Ay bo) (S.Ay el)) (S.Ay (l.drop (j+1).toNat)):=by
 rw [S.A0]at q
 have x:j.toNat<l.length:=by omega
 have hd:l.drop j.toNat=l[j.toNat]::l.drop (j+1).toNat:=by
  rw [show (j+1).toNat=j.toNat+1 by omega];exact List.drop_eq_getElem_cons x
 rw [hd]at h⊢
 generalize he:l[j.toNat]=s at h⊢
 obtain ⟨k,o,t,b,nm,⟨xk,xo,xt,xv,xn,xa⟩,⟨yk,yo,yt,yv,yn,ya⟩,bo,el⟩:=s
 cases h with
 |cons q h2=>
  exact ⟨k,o,t,b,nm,xk,xo,xt,xv,xn,xa,yk,yo,yt,yv,yn,ya,bo,el,_,by rw [S.FQ,List.getElem?_eq_getElem x,he];rfl,q,h2,rfl,rfl⟩
theorem Fb.parts (h:Fb lo pu Γ (.node k o t b nm (.node xk xo xt xv xn xa) (.node yk yo yt yv yn ya) bo el) Γ'):(∀e∈[E.node xk xo xt xv xn xa,.node yk yo yt yv yn ya],EOk Γ e)/\∃v q C z,Ew v pu Γ bo C/\Ew q pu Γ el z:=by
 obtain ⟨_,_,_,_,_,x,y,_,_,e,B,H,A⟩:=h.exprs
 simp only [S.node.injEq]at e
 obtain ⟨_,_,_,_,_,rfl,rfl,rfl,rfl⟩:=e
 refine ⟨fun e j=>?_,A⟩
 simp only [List.mem_cons,List.not_mem_nil,or_false]at j
 rcases j with rfl|rfl
 ·exact B
 ·exact H
theorem Bd {l:List S} {j:Int} (h:((S.Aa l).length:Int)<=j):S.Ad (l.drop j.toNat)=0/\S.Ay (l.drop j.toNat)=0/\l.drop j.toNat=[]:=by
 rw [S.A0]at h
 rw [List.drop_eq_nil_of_le om];exact ⟨rfl,rfl,rfl⟩
theorem EL.get {a:List E} {Δ:Rl} (h:∀e∈a,EOR Δ e) (j:Int) (x:0<=j) (z:j<((E.Aa a).length:Int)):∃(k o t v:Int) (s:List Nat) (b:List E) (u:Int),
  (E.Aa a)[j.toNat]?=some [.int .i64 k,.int .i64 o,.int .i64 t,.str s,.int .i32 v,.list 6 (E.Aa b)]/\(k≠0->TR Δ u (.node k o t v s b))/\(k≠0->(E.node k o t v s b).high<=5)/\(k=0->(E.node k o t v s b).nodes=0)/\(E.node k o t v s b).nodes+E.Ad (a.drop (j+1).toNat)=E.Ad (a.drop j.toNat):=by
 obtain ⟨k,o,t,v,s,b,g1,g2⟩:=E.get a j x z
 have q:=E.Kq g2
 rw [show j.toNat+1=(j+1).toNat by omega]at q
 rcases h _ (List.mem_of_getElem? g2)with e|⟨⟨u,hu⟩,hh⟩
 ·obtain ⟨rfl,rfl,rfl,rfl,rfl,rfl⟩:=No.of e
  exact ⟨0,0,0,0,[],[],0,g1,fun h=>absurd rfl h,fun h=>absurd rfl h,fun _=>rfl,q⟩
 ·refine ⟨k,o,t,v,s,b,u,g1,fun _=>hu,fun _=>hh,fun h=>?_,q⟩
  have:=hu.kind;omega
theorem Fb.AjY (h:Fb lo pu Γ (.node k o t b nm (.node xk xo xt xv xn xa) (.node yk yo yt yv yn ya) bo el) Γ') (j:k=1):o=0/\b=0/\No yk yo yt yv yn ya/\bo=[]/\el=[]/\Nm nm/\Γ nm=none/\1<=t/\t<=3/\T Γ t (.node xk xo xt xv xn xa)/\(E.node xk xo xt xv xn xa).high<=5/\Γ'=Γ.E9 nm (3,t,0):=by
 rcases h.inv with hv|hv|hv|hv|hv|hv|hv|hv|hv|hv|hv
 ·exact hv.2
 ·exfalso;have:=hv.1;omega
 ·exfalso;have:=hv.1;omega
 ·exfalso;have:=hv.1;omega
 ·exfalso;have:=hv.1;omega
 ·exfalso;have:=hv.1;omega
 ·exfalso;have:=hv.1;omega
 ·exfalso;have:=hv.1;omega
 ·exfalso;have:=hv.1;omega
 ·exfalso;have:=hv.1;omega
 ·exfalso;have:=hv.1;omega
theorem Fb.AjZ (h:Fb lo pu Γ (.node k o t b nm (.node xk xo xt xv xn xa) (.node yk yo yt yv yn ya) bo el) Γ') (j:k=2):o=0/\t=0/\b=0/\No yk yo yt yv yn ya/\bo=[]/\el=[]/\Nm nm/\Γ'=Γ/\∃u i,Γ nm=some (3,u,i)/\T Γ u (.node xk xo xt xv xn xa)/\(E.node xk xo xt xv xn xa).high<=5:=by
 rcases h.inv with hv|hv|hv|hv|hv|hv|hv|hv|hv|hv|hv
 ·exfalso;have:=hv.1;omega
 ·exact hv.2
 ·exfalso;have:=hv.1;omega
 ·exfalso;have:=hv.1;omega
 ·exfalso;have:=hv.1;omega
 ·exfalso;have:=hv.1;omega
 ·exfalso;have:=hv.1;omega
 ·exfalso;have:=hv.1;omega
 ·exfalso;have:=hv.1;omega
 ·exfalso;have:=hv.1;omega
 ·exfalso;have:=hv.1;omega
theorem Fb.AgN (h:Fb lo pu Γ (.node k o t b nm (.node xk xo xt xv xn xa) (.node yk yo yt yv yn ya) bo el) Γ') (j:k=3):o=0/\t=0/\b=0/\bo=[]/\el=[]/\pu=0/\Nm nm/\Γ'=Γ/\∃u i,0<=i/\i<=4/\Γ nm=some (0,u,i)/\T Γ 1 (.node xk xo xt xv xn xa)/\T Γ u (.node yk yo yt yv yn ya)/\(E.node xk xo xt xv xn xa).high<=5/\(E.node yk yo yt yv yn ya).high<=5:=by
 rcases h.inv with hv|hv|hv|hv|hv|hv|hv|hv|hv|hv|hv
 ·exfalso;have:=hv.1;omega
 ·exfalso;have:=hv.1;omega
 ·exact hv.2
 ·exfalso;have:=hv.1;omega
 ·exfalso;have:=hv.1;omega
 ·exfalso;have:=hv.1;omega
 ·exfalso;have:=hv.1;omega
 ·exfalso;have:=hv.1;omega
 ·exfalso;have:=hv.1;omega
 ·exfalso;have:=hv.1;omega
 ·exfalso;have:=hv.1;omega
theorem Fb.Akb (h:Fb lo pu Γ (.node k o t b nm (.node xk xo xt xv xn xa) (.node yk yo yt yv yn ya) bo el) Γ') (j:k=4):t=0/\b=0/\bo=[]/\el=[]/\pu=0/\Nm nm/\Γ'=Γ/\∃i,(i=0∨i=2)/\Γ nm=some (0,1,i)/\(o=10∨o=17∨o=18∨o=19∨o=22∨o=23)/\T Γ 1 (.node xk xo xt xv xn xa)/\T Γ 1 (.node yk yo yt yv yn ya)/\(E.node xk xo xt xv xn xa).high<=5/\(E.node yk yo yt yv yn ya).high<=5:=by
 rcases h.inv with hv|hv|hv|hv|hv|hv|hv|hv|hv|hv|hv
 ·exfalso;have:=hv.1;omega
 ·exfalso;have:=hv.1;omega
 ·exfalso;have:=hv.1;omega
 ·exact hv.2
 ·exfalso;have:=hv.1;omega
 ·exfalso;have:=hv.1;omega
 ·exfalso;have:=hv.1;omega
 ·exfalso;have:=hv.1;omega
 ·exfalso;have:=hv.1;omega
 ·exfalso;have:=hv.1;omega
 ·exfalso;have:=hv.1;omega
theorem Fb.kif (h:Fb lo pu Γ (.node k o t b nm (.node xk xo xt xv xn xa) (.node yk yo yt yv yn ya) bo el) Γ') (v:k=5):o=0/\t=0/\b=0/\nm=[]/\No yk yo yt yv yn ya/\T Γ 3 (.node xk xo xt xv xn xa)/\(E.node xk xo xt xv xn xa).high<=5/\Γ'=Γ/\∃j q,Ew lo pu Γ bo j/\Ew lo pu Γ el q:=by
 rcases h.inv with hv|hv|hv|hv|hv|hv|hv|hv|hv|hv|hv
 ·exfalso;have:=hv.1;omega
 ·exfalso;have:=hv.1;omega
 ·exfalso;have:=hv.1;omega
 ·exfalso;have:=hv.1;omega
 ·exact hv.2
 ·exfalso;have:=hv.1;omega
 ·exfalso;have:=hv.1;omega
 ·exfalso;have:=hv.1;omega
 ·exfalso;have:=hv.1;omega
 ·exfalso;have:=hv.1;omega
 ·exfalso;have:=hv.1;omega
theorem Fb.AjX (h:Fb lo pu Γ (.node k o t b nm (.node xk xo xt xv xn xa) (.node yk yo yt yv yn ya) bo el) Γ') (q:k=6):o=0/\t=0/\nm=[]/\No yk yo yt yv yn ya/\el=[]/\T Γ 3 (.node xk xo xt xv xn xa)/\(E.node xk xo xt xv xn xa).high<=5/\1<=b/\b<=4/\Γ'=Γ/\∃j,Ew 1 pu Γ bo j:=by
 rcases h.inv with hv|hv|hv|hv|hv|hv|hv|hv|hv|hv|hv
 ·exfalso;have:=hv.1;omega
 ·exfalso;have:=hv.1;omega
 ·exfalso;have:=hv.1;omega
 ·exfalso;have:=hv.1;omega
 ·exfalso;have:=hv.1;omega
 ·exact hv.2
 ·exfalso;have:=hv.1;omega
 ·exfalso;have:=hv.1;omega
 ·exfalso;have:=hv.1;omega
 ·exfalso;have:=hv.1;omega
 ·exfalso;have:=hv.1;omega
theorem Fb.AnK (h:Fb lo pu Γ (.node k o t b nm (.node xk xo xt xv xn xa) (.node yk yo yt yv yn ya) bo el) Γ') (j:k=12):(t=0/\b=0/\No yk yo yt yv yn ya/\bo=[]/\el=[]/\pu=0/\Nm nm/\Γ'=Γ/\∃u w i,Γ nm=some (3,u,i)/\1<=u/\u<=3/\((o=1/\u=1/\w=3)∨((o=2∨o=3)/\u=3/\w=3)∨((o=5∨o=6)/\u≠3/\w=u))/\T Γ w (.node xk xo xt xv xn xa)/\(E.node xk xo xt xv xn xa).high<=5)∨(o=4/\t=0/\b=0/\bo=[]/\el=[]/\pu=0/\Nm nm/\Γ'=Γ/\∃u i,Γ nm=some (3,u,i)/\1<=u/\u<=3/\T Γ u (.node xk xo xt xv xn xa)/\T Γ 1 (.node yk yo yt yv yn ya)/\(E.node xk xo xt xv xn xa).high<=5/\(E.node yk yo yt yv yn ya).high<=5):=by
 rcases h.inv with hv|hv|hv|hv|hv|hv|hv|hv|hv|hv|hv
 ·exfalso;have:=hv.1;omega
 ·exfalso;have:=hv.1;omega
 ·exfalso;have:=hv.1;omega
 ·exfalso;have:=hv.1;omega
 ·exfalso;have:=hv.1;omega
 ·exfalso;have:=hv.1;omega
 ·exfalso;have:=hv.1;omega
 ·exfalso;have:=hv.1;omega
 ·exfalso;have:=hv.1;omega
 ·exact .inl hv.2
 ·exact .inr hv.2
theorem Fb.same (h:Fb lo pu Γ (.node k o t b nm (.node xk xo xt xv xn xa) (.node yk yo yt yv yn ya) bo el) Γ') (j:k≠1):Γ'=Γ:=by
 rcases h.inv with hv|hv|hv|hv|hv|hv|hv|hv|hv|hv|hv
 ·exfalso;have:=hv.1;omega
 ·exact hv.2.2.2.2.2.2.2.2.1
 ·exact hv.2.2.2.2.2.2.2.2.1
 ·exact hv.2.2.2.2.2.2.2.1
 ·exact hv.2.2.2.2.2.2.2.2.1
 ·exact hv.2.2.2.2.2.2.2.2.2.2.1
 ·exact hv.2.2.2.2.2.2.2.2.2.2
 ·exact hv.2.2.2.2.2.2.2.2.2.2
 ·exact hv.2.2.2.2.2.2.2.2.2.2
 ·exact hv.2.2.2.2.2.2.2.2.1
 ·exact hv.2.2.2.2.2.2.2.2.1
theorem Fb.kinds (h:Fb lo pu Γ (.node k o t b nm (.node xk xo xt xv xn xa) (.node yk yo yt yv yn ya) bo el) Γ'):1<=k/\k<=12:=by
 rcases h.inv with hv|hv|hv|hv|hv|hv|hv|hv|hv|hv|hv<;>(have:=hv.1;omega)
theorem Fb.AdM (h:Fb lo pu Γ (.node k o t b nm (.node xk xo xt xv xn xa) (.node yk yo yt yv yn ya) bo el) Γ'):k=7∨k=8->lo≠0:=by
 intro j
 rcases h.inv with hv|hv|hv|hv|hv|hv|hv|hv|hv|hv|hv
 ·exfalso;have:=hv.1;omega
 ·exfalso;have:=hv.1;omega
 ·exfalso;have:=hv.1;omega
 ·exfalso;have:=hv.1;omega
 ·exfalso;have:=hv.1;omega
 ·exfalso;have:=hv.1;omega
 ·exact hv.2.2.2.2.2.2.2.2.2.1
 ·exfalso;have:=hv.1;omega
 ·exfalso;have:=hv.1;omega
 ·exfalso;have:=hv.1;omega
 ·exfalso;have:=hv.1;omega
theorem Fb.pure (h:Fb lo pu Γ (.node k o t b nm (.node xk xo xt xv xn xa) (.node yk yo yt yv yn ya) bo el) Γ'):3<=k->k<=4∨9<=k->pu=0:=by
 intro _ j
 rcases h.inv with hv|hv|hv|hv|hv|hv|hv|hv|hv|hv|hv
 ·exfalso;have:=hv.1;omega
 ·exfalso;have:=hv.1;omega
 ·exact hv.2.2.2.2.2.2.1
 ·exact hv.2.2.2.2.2.1
 ·exfalso;have:=hv.1;omega
 ·exfalso;have:=hv.1;omega
 ·exfalso;have:=hv.1;omega
 ·exact hv.2.2.2.2.2.2.2.2.2.1
 ·exact hv.2.2.2.2.2.2.2.2.2.1
 ·exact hv.2.2.2.2.2.2.1
 ·exact hv.2.2.2.2.2.2.1
end
theorem Uy (m:List (List Nat×List PV)) (k j:List Nat) (v:List PV):AR (Bw m k v) j=if j=k then some v else AR m j:=by
 induction m with
 |nil=>
  simp only [Bw,AR]
  by_cases h:j=k
  ·subst h;simp
  ·rw [if_neg h,if_neg (fun e=>h e.symm)]
 |cons e r ih=>
  simp only [Bw]
  by_cases h:e.1=k
  ·rw [if_pos h]
   simp only [AR]
   by_cases h':j=k
   ·subst h';simp
   ·rw [if_neg (fun e=>h' e.symm),if_neg h',if_neg (fun x=>h' (x.symm.trans h))]
  ·rw [if_neg h]
   simp only [AR,ih]
   by_cases h':e.1=j
   ·rw [if_pos h',if_pos h',if_neg (fun x=>h (h'.trans x))]
   ·rw [if_neg h',if_neg h']
section
variable {Γ:Ctx} {al fl:Int} {Ar Fs:List Row} {mp:List (List Nat×List PV)}
theorem Ck.E9 (h:Ck Γ al fl Ar Fs mp) {s:List Nat} {t:Int} (g:Γ s=none):Ck (Γ.E9 s (3,t,0)) al fl Ar Fs (Bw mp s [PV.int .i64 3,PV.int .i64 t,PV.int .i64 0]):=by
 refine ⟨fun k=>?_,h.ha,h.hf,fun k t' i j=>?_,fun i q=>?_⟩
 ·rw [Uy]
  by_cases e:k=s
  ·subst e;rw [if_pos rfl,BP];rfl
  ·rw [if_neg e,Bc e];exact h.see k
 ·by_cases e:k=s
  ·subst e;rw [BP]at j;cases j
  ·rw [Bc e]at j;exact h.ar k t' i j
 ·by_cases e:[104]=s
  ·rw [<-e,BP]at q;cases q
  ·rw [Bc e]at q;exact h.fn i q
theorem Ck.keep {lo pu:Int} {Γ':Ctx} {k o t b xk xo xt xv yk yo yt yv:Int} {nm xn yn:List Nat} {xa ya:List E} {bo el:List S} (h:Ck Γ al fl Ar Fs mp) (hs:Fb lo pu Γ (.node k o t b nm (.node xk xo xt xv xn xa) (.node yk yo yt yv yn ya) bo el) Γ') (j:k≠1):Ck Γ' al fl Ar Fs mp:=by
 have:=hs.same j
 subst this;exact h
end
theorem TR.V7 {Δ:Rl} {t:Int} {x:E} (h:TR Δ t x):TL Δ [x]:=fun e j=>by
 simp only [List.mem_cons,List.not_mem_nil,or_false]at j;subst j;exact ⟨t,h⟩
theorem TR.tl2 {Δ:Rl} {t u:Int} {x y:E} (h:TR Δ t x) (g:TR Δ u y):TL Δ [x,y]:=fun e j=>by
 simp only [List.mem_cons,List.not_mem_nil,or_false]at j
 rcases j with rfl|rfl
 ·exact ⟨t,h⟩
 ·exact ⟨u,g⟩
end
section
def PSh (k o t b:Int) (nm:List Nat) (xk xo xt xv:Int) (xn:List Nat) (xa:List E) (yk yo yt yv:Int) (yn:List Nat) (ya:List E) (bo el:List S):Prop:=∃Δ:Rl,
 (k=1/\o=0/\b=0/\No yk yo yt yv yn ya/\bo=[]/\el=[]/\Nm nm/\1<=t/\t<=3/\TR Δ t (.node xk xo xt xv xn xa)/\(E.node xk xo xt xv xn xa).high<=5)∨
 (k=2/\o=0/\t=0/\b=0/\No yk yo yt yv yn ya/\bo=[]/\el=[]/\Nm nm/\∃u,TR Δ u (.node xk xo xt xv xn xa)/\(E.node xk xo xt xv xn xa).high<=5)∨
 (k=3/\o=0/\t=0/\b=0/\bo=[]/\el=[]/\Nm nm/\∃u,TR Δ 1 (.node xk xo xt xv xn xa)/\TR Δ u (.node yk yo yt yv yn ya)/\(E.node xk xo xt xv xn xa).high<=5/\(E.node yk yo yt yv yn ya).high<=5)∨
 (k=4/\t=0/\b=0/\bo=[]/\el=[]/\Nm nm/\(o=10∨o=17∨o=18∨o=19∨o=22∨o=23)/\TR Δ 1 (.node xk xo xt xv xn xa)/\TR Δ 1 (.node yk yo yt yv yn ya)/\(E.node xk xo xt xv xn xa).high<=5/\(E.node yk yo yt yv yn ya).high<=5)∨
 (k=5/\o=0/\t=0/\b=0/\nm=[]/\No yk yo yt yv yn ya/\TR Δ 3 (.node xk xo xt xv xn xa)/\(E.node xk xo xt xv xn xa).high<=5)∨
 (k=6/\o=0/\t=0/\nm=[]/\No yk yo yt yv yn ya/\el=[]/\TR Δ 3 (.node xk xo xt xv xn xa)/\(E.node xk xo xt xv xn xa).high<=5/\1<=b/\b<=4)∨
 ((k=7∨k=8)/\o=0/\t=0/\b=0/\nm=[]/\No xk xo xt xv xn xa/\No yk yo yt yv yn ya/\bo=[]/\el=[])∨
 ((k=9∨k=10)/\o=0/\t=0/\b=0/\nm=[]/\No xk xo xt xv xn xa/\No yk yo yt yv yn ya/\bo=[]/\el=[])∨
 (k=11/\(o=1∨o=2)/\t=0/\b=0/\nm=[]/\No xk xo xt xv xn xa/\No yk yo yt yv yn ya/\bo=[]/\el=[])∨
 (k=12/\t=0/\b=0/\No yk yo yt yv yn ya/\bo=[]/\el=[]/\Nm nm/\∃u w,((o=1/\u=1/\w=3)∨((o=2∨o=3)/\u=3/\w=3)∨((o=5∨o=6)/\u≠(3:Int)/\w=u))/\TR Δ w (.node xk xo xt xv xn xa)/\(E.node xk xo xt xv xn xa).high<=5)∨
 (k=12/\o=4/\t=0/\b=0/\bo=[]/\el=[]/\Nm nm/\∃u,TR Δ u (.node xk xo xt xv xn xa)/\TR Δ 1 (.node yk yo yt yv yn ya)/\(E.node xk xo xt xv xn xa).high<=5/\(E.node yk yo yt yv yn ya).high<=5)
mutual
inductive PS:S->Prop
 |mk {k o t b:Int} {nm:List Nat} {xk xo xt xv:Int} {xn:List Nat} {xa:List E} {yk yo yt yv:Int} {yn:List Nat} {ya:List E} {bo el:List S}:PSh k o t b nm xk xo xt xv xn xa yk yo yt yv yn ya bo el->PL bo->PL el->PS (.node k o t b nm (.node xk xo xt xv xn xa) (.node yk yo yt yv yn ya) bo el)
inductive PL:List S->Prop
 |nil:PL []
 |cons {s l}:PS s->PL l->PL (s::l)
end
section
variable {k o t b xk xo xt xv yk yo yt yv:Int} {nm xn yn:List Nat} {xa ya:List E} {bo el:List S}
theorem PS.inv (h:PS (.node k o t b nm (.node xk xo xt xv xn xa) (.node yk yo yt yv yn ya) bo el)):PSh k o t b nm xk xo xt xv xn xa yk yo yt yv yn ya bo el/\PL bo/\PL el:=by
 cases h with|mk h1 h2 h3=>exact ⟨h1,h2,h3⟩
theorem PSh.of {lo pu:Int} {Γ N:Ctx} (h:Fb lo pu Γ (.node k o t b nm (.node xk xo xt xv xn xa) (.node yk yo yt yv yn ya) bo el) N):PSh k o t b nm xk xo xt xv xn xa yk yo yt yv yn ya bo el:=by
 refine ⟨fun s z=>Γ s=some z,?_⟩
 rcases h.inv with hv|hv|hv|hv|hv|hv|hv|hv|hv|hv|hv
 ·obtain ⟨x,A,v,j,q,C,J,_,H,B,L,M,_⟩:=hv;exact .inl ⟨x,A,v,j,q,C,J,H,B,L,M⟩
 ·obtain ⟨x,A,v,j,q,C,J,I,_,u,_,_,H,B⟩:=hv;exact .inr (.inl ⟨x,A,v,j,q,C,J,I,u,H,B⟩)
 ·obtain ⟨x,A,v,j,q,C,_,I,_,u,_,_,_,_,H,B,L,M⟩:=hv;exact .inr (.inr (.inl ⟨x,A,v,j,q,C,I,u,H,B,L,M⟩))
 ·obtain ⟨x,A,v,j,q,_,J,_,_,_,_,I,H,B,L,M⟩:=hv;exact .inr (.inr (.inr (.inl ⟨x,A,v,j,q,J,I,H,B,L,M⟩)))
 ·obtain ⟨x,A,v,j,q,C,J,I,_⟩:=hv;exact .inr (.inr (.inr (.inr (.inl ⟨x,A,v,j,q,C,J,I⟩))))
 ·obtain ⟨x,A,v,j,q,C,J,I,H,B,_⟩:=hv;exact .inr (.inr (.inr (.inr (.inr (.inl ⟨x,A,v,j,q,C,J,I,H,B⟩)))))
 ·obtain ⟨x,A,v,j,q,C,J,I,H,_⟩:=hv;exact .inr (.inr (.inr (.inr (.inr (.inr (.inl ⟨x,A,v,j,q,C,J,I,H⟩))))))
 ·obtain ⟨x,A,v,j,q,C,J,I,H,_⟩:=hv;exact .inr (.inr (.inr (.inr (.inr (.inr (.inr (.inl ⟨x,A,v,j,q,C,J,I,H⟩)))))))
 ·obtain ⟨x,A,v,j,q,C,J,I,H,_⟩:=hv;exact .inr (.inr (.inr (.inr (.inr (.inr (.inr (.inr (.inl ⟨x,A,v,j,q,C,J,I,H⟩))))))))
 ·obtain ⟨x,A,v,j,q,C,_,I,_,u,w,_,_,_,_,H,B,L⟩:=hv;exact .inr (.inr (.inr (.inr (.inr (.inr (.inr (.inr (.inr (.inl ⟨x,A,v,j,q,C,I,u,w,H,B,L⟩)))))))))
 ·obtain ⟨x,A,v,j,q,C,_,I,_,u,_,_,_,_,H,B,L,M⟩:=hv;exact .inr (.inr (.inr (.inr (.inr (.inr (.inr (.inr (.inr (.inr ⟨x,A,v,j,q,C,I,u,H,B,L,M⟩)))))))))
end
mutual
theorem Fb.ps {lo pu:Int} {Γ q:Ctx}:∀(s:S),Fb lo pu Γ s q->PS s
 |.node k o t b nm (.node xk xo xt xv xn xa) (.node yk yo yt yv yn ya) bo el,h=>by
  obtain ⟨_,z,x,B,A,v,j⟩:=h.parts
  exact .mk (PSh.of h) (Ew.pl' bo v) (Ew.pl' el j)
theorem Ew.pl' {lo pu:Int} {Γ j:Ctx}:∀(l:List S),Ew lo pu Γ l j->PL l
 |[],_=>.nil
 |s::l,h=>by cases h with|cons a b=>exact .cons (Fb.ps s a) (Ew.pl' l b)
end
theorem Ew.pl {lo pu:Int} {Γ j:Ctx} {l:List S} (h:Ew lo pu Γ l j):PL l:=Ew.pl' l h
theorem PL.get {l:List S} (j:Int) (h:PL (l.drop j.toNat)) (x:0<=j) (q:j<((S.Aa l).length:Int)):∃(k o t b:Int) (nm:List Nat) (xk xo xt xv:Int) (xn:List Nat) (xa:List E) (yk yo yt yv:Int) (yn:List Nat) (ya:List E) (bo el:List S),
  (S.Aa l)[j.toNat]?=some [.int .i64 k,.int .i64 o,.int .i64 t,.int .i64 b,.str nm,.int .i64 xk,.int .i64 xo,.int .i64 xt,.str xn,.int .i32 xv,.list 6 (E.Aa xa),.int .i64 yk,.int .i64 yo,.int .i64 yt,.str yn,.int .i32 yv,.list 6 (E.Aa ya),.list 19 (S.Aa bo),.list 19 (S.Aa el)]/\
  PS (.node k o t b nm (.node xk xo xt xv xn xa) (.node yk yo yt yv yn ya) bo el)/\PL (l.drop (j+1).toNat)/\
  S.Ad (l.drop j.toNat)=1+(E.node xk xo xt xv xn xa).nodes+(E.node yk yo yt yv yn ya).nodes+S.Ad bo+S.Ad el+S.Ad (l.drop (j+1).toNat)/\
  S.Ay (l.drop j.toNat)=max (1+max (S.Ay bo) (S.Ay el)) (S.Ay (l.drop (j+1).toNat)):=by
 rw [S.A0]at q
 have v:j.toNat<l.length:=by omega
 have hd:l.drop j.toNat=l[j.toNat]::l.drop (j+1).toNat:=by
  rw [show (j+1).toNat=j.toNat+1 by omega];exact List.drop_eq_getElem_cons v
 rw [hd]at h⊢
 generalize he:l[j.toNat]=s at h⊢
 obtain ⟨k,o,t,b,nm,⟨xk,xo,xt,xv,xn,xa⟩,⟨yk,yo,yt,yv,yn,ya⟩,bo,el⟩:=s
 cases h with
 |cons q h2=>
  exact ⟨k,o,t,b,nm,xk,xo,xt,xv,xn,xa,yk,yo,yt,yv,yn,ya,bo,el,by rw [S.FQ,List.getElem?_eq_getElem v,he];rfl,q,h2,rfl,rfl⟩
theorem PS.parts {k o t b xk xo xt xv yk yo yt yv:Int} {nm xn yn:List Nat} {xa ya:List E} {bo el:List S} (h:PS (.node k o t b nm (.node xk xo xt xv xn xa) (.node yk yo yt yv yn ya) bo el)):∃Δ:Rl,(∀e∈[E.node xk xo xt xv xn xa,.node yk yo yt yv yn ya],EOR Δ e)/\PL bo/\PL el:=by
 obtain ⟨⟨Δ,j⟩,J,H⟩:=h.inv
 refine ⟨Δ,?_,J,H⟩
 have key:∀{x y:E},EOR Δ x->EOR Δ y->∀e∈[x,y],EOR Δ e:=fun L I e C=>by
  simp only [List.mem_cons,List.not_mem_nil,or_false]at C
  rcases C with rfl|rfl
  ·exact L
  ·exact I
 rcases j with j|j|j|j|j|j|j|j|j|j|j
 ·obtain ⟨_,_,_,z,_,_,_,_,_,q,v⟩:=j;exact key (.inr ⟨⟨_,q⟩,v⟩) (.inl z.eq)
 ·obtain ⟨_,_,_,_,z,_,_,_,u,q,v⟩:=j;exact key (.inr ⟨⟨_,q⟩,v⟩) (.inl z.eq)
 ·obtain ⟨_,_,_,_,_,_,_,u,q,v,B,A⟩:=j;exact key (.inr ⟨⟨_,q⟩,B⟩) (.inr ⟨⟨_,v⟩,A⟩)
 ·obtain ⟨_,_,_,_,_,_,_,q,v,B,A⟩:=j;exact key (.inr ⟨⟨_,q⟩,B⟩) (.inr ⟨⟨_,v⟩,A⟩)
 ·obtain ⟨_,_,_,_,_,z,q,v⟩:=j;exact key (.inr ⟨⟨_,q⟩,v⟩) (.inl z.eq)
 ·obtain ⟨_,_,_,_,z,_,q,v,_⟩:=j;exact key (.inr ⟨⟨_,q⟩,v⟩) (.inl z.eq)
 ·obtain ⟨_,_,_,_,_,z,q,_⟩:=j;exact key (.inl z.eq) (.inl q.eq)
 ·obtain ⟨_,_,_,_,_,z,q,_⟩:=j;exact key (.inl z.eq) (.inl q.eq)
 ·obtain ⟨_,_,_,_,_,z,q,_⟩:=j;exact key (.inl z.eq) (.inl q.eq)
 ·obtain ⟨_,_,_,z,_,_,_,u,w,_,q,v⟩:=j;exact key (.inr ⟨⟨_,q⟩,v⟩) (.inl z.eq)
 ·obtain ⟨_,_,_,_,_,_,_,u,q,v,B,A⟩:=j;exact key (.inr ⟨⟨_,q⟩,B⟩) (.inr ⟨⟨_,v⟩,A⟩)
end
section
def Al4 (j:Int):List (List Nat×List PV):=
 ([([97],[PV.int .i64 0,PV.int .i64 1,PV.int .i64 0]),([102],[PV.int .i64 0,PV.int .i64 2,PV.int .i64 1]),([115],[PV.int .i64 0,PV.int .i64 1,PV.int .i64 2]),([112],[PV.int .i64 0,PV.int .i64 1,PV.int .i64 3]),([98],[PV.int .i64 0,PV.int .i64 3,PV.int .i64 4])]:List (List Nat×List PV)).take j.toNat
def AiC (j:Int):List (List Nat×List PV):=
 Al4 5++([([110],[PV.int .i64 2,PV.int .i64 1,PV.int .i64 0]),([116],[PV.int .i64 2,PV.int .i64 2,PV.int .i64 0]),([99],[PV.int .i64 2,PV.int .i64 3,PV.int .i64 0])]:List (List Nat×List PV)).take j.toNat
def AnL:List (List Nat×List PV):=AiC 3++[([104],[PV.int .i64 1,PV.int .i64 1,PV.int .i64 0])]
def Akm (j:Int):List (List Nat×List PV):=
 Al4 5++([([120],[PV.int .i64 2,PV.int .i64 1,PV.int .i64 0]),([121],[PV.int .i64 2,PV.int .i64 1,PV.int .i64 0])]:List (List Nat×List PV)).take j.toNat
theorem S4 {m:List (List Nat×List PV)} {s:List Nat} (h:∀e∈m,e.1≠s):AR m s=none:=by
 induction m with
 |nil=>rfl
 |cons e r ih=>
  simp only [AR]
  rw [if_neg (h e List.mem_cons_self)]
  exact ih fun x j=>h x (List.mem_cons_of_mem _ j)
theorem AcM {Γ:Ctx} {m:List (List Nat×List PV)} (L:List (List Nat)) (x:∀s∈L,AR m s=(Γ s).map fun z=>[PV.int .i64 z.1,PV.int .i64 z.2.1,PV.int .i64 z.2.2]) (A:∀s,s∉L->Γ s=none) (v:∀e∈m,e.1∈L) (s:List Nat):
  AR m s=(Γ s).map fun z=>[PV.int .i64 z.1,PV.int .i64 z.2.1,PV.int .i64 z.2.2]:=by
 by_cases h:s∈L
 ·exact x s h
 ·rw [A s h,S4 fun e q j=>h (by rw [<-j];exact v e q)];rfl
theorem L7 {s:List Nat} (h:s∉([[97],[102],[115],[112],[98]]:List (List Nat))):aΓ s=none:=by
 simp only [List.mem_cons,List.not_mem_nil,or_false,not_or]at h
 unfold aΓ
 rw [if_neg h.1,if_neg h.2.1,if_neg h.2.2.1,if_neg h.2.2.2.1,if_neg h.2.2.2.2]
theorem L8 {Γ:Ctx} {s:List Nat} {t i:Int} (hΓ:∀s t i,Γ s=some (0,t,i)->aΓ s=some (0,t,i)) (h:Γ s=some (0,t,i)):0<=i/\i<5/\∃(nm:List Nat) (sp ln:Int),A7[i.toNat]?=some [.str nm,.int .i64 sp,.int .i64 t,.int .i64 ln]/\(i=0∨i=2->sp≠3):=by
 have h:=hΓ s t i h
 unfold aΓ at h
 repeat' split at h
 all_goals first|(cases h;done) |skip
 all_goals
  simp only [oI,Prod.mk.injEq,true_and]at h
  obtain ⟨rfl,rfl⟩:=h
 ·exact ⟨by decide,by decide,[97],1,8,rfl,fun _=>by decide⟩
 ·exact ⟨by decide,by decide,[102],1,4,rfl,fun h=>by omega⟩
 ·exact ⟨by decide,by decide,[115],2,8,rfl,fun _=>by decide⟩
 ·exact ⟨by decide,by decide,[112],3,4,rfl,fun h=>by omega⟩
 ·exact ⟨by decide,by decide,[98],2,4,rfl,fun h=>by omega⟩
theorem Cs {Γ:Ctx} {s n:List Nat} {z:Int×Int×Int} (h:s≠n) (g:Γ s=none):Γ.E9 n z s=none:=by rw [Bc h];exact g
theorem CZ {Γ:Ctx} {n s:List Nat} {z:Int×Int×Int} {t i:Int} (j:z.1≠0) (h:Γ.E9 n z s=some (0,t,i)):Γ s=some (0,t,i):=by
 by_cases e:s=n
 ·subst e;rw [BP]at h;simp only [oI]at h;subst h;exact absurd rfl j
 ·rwa [Bc e]at h
theorem Ck.AgX {j:List Row} {fl:Int} (hf:fl=j.length):Ck fΓ 5 fl A7 j (Akm 2):=by
 refine ⟨AcM [[97],[102],[115],[112],[98],[120],[121]] (fun s hs=>by simp only [List.mem_cons,List.not_mem_nil,or_false]at hs;rcases hs with rfl|rfl|rfl|rfl|rfl|rfl|rfl<;>rfl) (fun s hs=>?_) (by decide),rfl,hf,fun s t i h=>?_,fun i h=>?_⟩
 ·simp only [List.mem_cons,List.not_mem_nil,or_false,not_or]at hs
  refine Cs hs.2.2.2.2.2.2 (Cs hs.2.2.2.2.2.1 (L7 ?_))
  simp only [List.mem_cons,List.not_mem_nil,or_false,not_or]
  exact ⟨hs.1,hs.2.1,hs.2.2.1,hs.2.2.2.1,hs.2.2.2.2.1⟩
 ·exact L8 (Γ:=fΓ) (fun s t i h=>CZ (by decide) (CZ (by decide) h)) h
 ·have e:fΓ [104]=none:=rfl
  rw [e]at h;cases h
theorem L4 {s:List Nat} (hs:s∉([[97],[102],[115],[112],[98],[110],[116],[99]]:List (List Nat))):pΓ s=none:=by
 simp only [List.mem_cons,List.not_mem_nil,or_false,not_or]at hs
 refine Cs hs.2.2.2.2.2.2.2 (Cs hs.2.2.2.2.2.2.1 (Cs hs.2.2.2.2.2.1 (L7 ?_)))
 simp only [List.mem_cons,List.not_mem_nil,or_false,not_or]
 exact ⟨hs.1,hs.2.1,hs.2.2.1,hs.2.2.2.1,hs.2.2.2.2.1⟩
theorem Qt {s:List Nat} {t i:Int} (h:pΓ s=some (0,t,i)):aΓ s=some (0,t,i):=CZ (by decide) (CZ (by decide) (CZ (by decide) h))
theorem Ck.Tj {j:List Row} {fl:Int} (hf:fl=j.length):Ck (bΓ 0) 5 fl A7 j (AiC 3):=by
 have e:bΓ 0=pΓ:=rfl
 rw [e]
 refine ⟨AcM [[97],[102],[115],[112],[98],[110],[116],[99]] (fun s hs=>by simp only [List.mem_cons,List.not_mem_nil,or_false]at hs;rcases hs with rfl|rfl|rfl|rfl|rfl|rfl|rfl|rfl<;>rfl) (fun s hs=>L4 hs) (by decide),rfl,hf,fun s t i h=>L8 (Γ:=pΓ) (fun s t i h=>Qt h) h,fun i h=>?_⟩
 have e:pΓ [104]=none:=rfl
 rw [e]at h;cases h
theorem Ck.Al1 {k o y w:Int} {s:List Nat} {F A:List Row}:Ck (bΓ 1) 5 1 A7 [hrow DO F k o y s w A] AnL:=by
 have e:bΓ 1=pΓ.E9 [104] (1,1,0):=rfl
 rw [e]
 refine ⟨AcM [[97],[102],[115],[112],[98],[110],[116],[99],[104]] (fun s hs=>by simp only [List.mem_cons,List.not_mem_nil,or_false]at hs;rcases hs with rfl|rfl|rfl|rfl|rfl|rfl|rfl|rfl|rfl<;>rfl) (fun s hs=>?_) (by decide),rfl,rfl,fun s t i h=>L8 (Γ:=pΓ.E9 [104] (1,1,0)) (fun s t i h=>Qt (CZ (by decide) h)) h,fun i h=>?_⟩
 ·simp only [List.mem_cons,List.not_mem_nil,or_false,not_or]at hs
  refine Cs hs.2.2.2.2.2.2.2.2 (L4 ?_)
  simp only [List.mem_cons,List.not_mem_nil,or_false,not_or]
  exact ⟨hs.1,hs.2.1,hs.2.2.1,hs.2.2.2.1,hs.2.2.2.2.1,hs.2.2.2.2.2.1,hs.2.2.2.2.2.2.1,hs.2.2.2.2.2.2.2.1⟩
 ·rw [BP]at h
  simp only [oI,Prod.mk.injEq,true_and]at h
  subst h
  exact ⟨by decide,by decide,F,k,o,y,w,s,A,rfl⟩
theorem Adr {ρ:Env} {a b:ST} {x y z:Int} (h:a.den ρ=x) (g:b.den ρ=y) (r:bits .and .i64 x y=z):(ST.bin .and .i64 a b).den ρ=z:=by
 show bits .and .i64 (a.den ρ) (b.den ρ)=z
 rw [h,g];exact r
end
section
abbrev LD:=List (List Nat×List PV)
structure Ae where
 nm:List Nat
 sp:Int
 ty:Int
 ln:Int
def Ann (a:Ae):Row:=[.str a.nm,.int .i64 a.sp,.int .i64 a.ty,.int .i64 a.ln]
def Aq (l:List Ae):List Row:=l.map Ann
structure Pe where
 nm:List Nat
 ty:Int
def Anm (a:Pe):Row:=[.str a.nm,.int .i64 a.ty]
def Ai (l:List Pe):List Row:=l.map Anm
structure Fe where
 nm:List Nat
 ps:List Pe
 ty:Int
 fb:List S
 k:Int
 o:Int
 y:Int
 s:List Nat
 w:Int
 a:List E
def Si (f:Fe):Row:=[.str f.nm,.list 2 (Ai f.ps),.int .i64 f.ty,.list 19 (S.Aa f.fb),.int .i64 f.k,.int .i64 f.o,.int .i64 f.y,.str f.s,.int .i32 f.w,.list 6 (E.Aa f.a)]
def Ak (l:List Fe):List Row:=l.map Si
def H7 (k:Int) (j:Bool):Int->List (List Nat×Int)->LD
 |_,[]=>[]
 |i,x::r=>(x.1,[PV.int .i64 k,PV.int .i64 x.2,PV.int .i64 (bif j then i else 0)])::H7 k j (i+1) r
def am (l:List Ae):LD:=H7 0 true 0 (l.map fun a=>(a.nm,a.ty))
def pm (l:List Pe):LD:=H7 2 false 0 (l.map fun a=>(a.nm,a.ty))
def fm (l:List Fe):LD:=H7 1 true 0 (l.map fun a=>(a.nm,a.ty))
theorem SY {k:Int} {j:Bool}:∀(l m:List (List Nat×Int)) (i:Int),H7 k j i (l++m)=H7 k j i l++H7 k j (i+l.length) m
 |[],m,i=>by simp [H7]
 |x::l,m,i=>by
  simp only [List.cons_append,H7,SY l m (i+1),lC]
  congr 3;omega
theorem Gh:∀{m:LD} {s:List Nat} {v:List PV},AR m s=none->Bw m s v=m++[(s,v)]
 |[],_,_,_=>rfl
 |e::m,s,v,h=>by
  simp only [AR]at h
  split at h
  ·cases h
  ·rename_i j
   simp only [Bw,if_neg j,List.cons_append,Gh h]
theorem K8 {k:Int} {q:Bool} {l:List (List Nat×Int)} {j:Int} {x:List Nat×Int} (z:0<=j) (h:l[j.toNat]?=some x):H7 k q 0 (l.take (j+1).toNat)=H7 k q 0 (l.take j.toNat)++[(x.1,[PV.int .i64 k,PV.int .i64 x.2,PV.int .i64 (bif q then j else 0)])]:=by
 have e:(j+1).toNat=j.toNat+1:=by omega
 have hl:=(List.getElem?_eq_some_iff.1 h).1
 have v:(0:Int)+((l.take j.toNat).length:Int)=j:=by rw [lT'];omega
 rw [e,List.take_add_one,h,SY,v]
 rfl
def Acq (M:LD) (k:Int) (q:Bool) (l:List (List Nat×Int)):Prop:=∀(j:Nat) (x:List Nat×Int),l[j]?=some x->AR (M++H7 k q 0 (l.take j)) x.1=none
abbrev Yh (M:LD) (l:List Ae):Prop:=Acq M 0 true (l.map fun a=>(a.nm,a.ty))
abbrev FrP (M:LD) (l:List Pe):Prop:=Acq M 2 false (l.map fun a=>(a.nm,a.ty))
abbrev Xb (M:LD) (l:List Fe):Prop:=Acq M 1 true (l.map fun a=>(a.nm,a.ty))
section
variable {M:LD} {j:Int}
theorem R9 {l:List Ae} {a:Ae} (h:Yh M l) (g:l[j.toNat]?=some a):AR (M++am (l.take j.toNat)) a.nm=none:=by
 have:=h j.toNat (a.nm,a.ty) (by rw [List.getElem?_map,g];rfl)
 simpa only [am,List.map_take]using this
theorem AbP {l:List Ae} {a:Ae} (h:Yh M l) (g:l[j.toNat]?=some a) (q:0<=j):Bw (M++am (l.take j.toNat)) a.nm [PV.int .i64 0,PV.int .i64 a.ty,PV.int .i64 j]=M++am (l.take (j+1).toNat):=by
 rw [Gh (R9 h g),List.append_assoc]
 simp only [am,List.map_take]
 rw [K8 q (show (l.map fun a=>(a.nm,a.ty))[j.toNat]?=some (a.nm,a.ty) by rw [List.getElem?_map,g];rfl)]
 rfl
theorem Qw {l:List Pe} {a:Pe} (h:FrP M l) (g:l[j.toNat]?=some a):AR (M++pm (l.take j.toNat)) a.nm=none:=by
 have:=h j.toNat (a.nm,a.ty) (by rw [List.getElem?_map,g];rfl)
 simpa only [pm,List.map_take]using this
theorem AaF {l:List Pe} {a:Pe} (h:FrP M l) (g:l[j.toNat]?=some a) (q:0<=j):Bw (M++pm (l.take j.toNat)) a.nm [PV.int .i64 2,PV.int .i64 a.ty,PV.int .i64 0]=M++pm (l.take (j+1).toNat):=by
 rw [Gh (Qw h g),List.append_assoc]
 simp only [pm,List.map_take]
 rw [K8 q (show (l.map fun a=>(a.nm,a.ty))[j.toNat]?=some (a.nm,a.ty) by rw [List.getElem?_map,g];rfl)]
 rfl
theorem Rc {l:List Fe} {a:Fe} (h:Xb M l) (g:l[j.toNat]?=some a):AR (M++fm (l.take j.toNat)) a.nm=none:=by
 have:=h j.toNat (a.nm,a.ty) (by rw [List.getElem?_map,g];rfl)
 simpa only [fm,List.map_take]using this
theorem Abw {l:List Fe} {a:Fe} (h:Xb M l) (g:l[j.toNat]?=some a) (q:0<=j):Bw (M++fm (l.take j.toNat)) a.nm [PV.int .i64 1,PV.int .i64 a.ty,PV.int .i64 j]=M++fm (l.take (j+1).toNat):=by
 rw [Gh (Rc h g),List.append_assoc]
 simp only [fm,List.map_take]
 rw [K8 q (show (l.map fun a=>(a.nm,a.ty))[j.toNat]?=some (a.nm,a.ty) by rw [List.getElem?_map,g];rfl)]
 rfl
theorem RB {l:List Ae} (h:((Aq l).length:Int)<=j):M++am (l.take j.toNat)=M++am l:=by
 rw [List.take_of_length_le (by simp only [Aq,List.length_map]at h;omega)]
theorem Qx {l:List Pe} (h:((Ai l).length:Int)<=j):M++pm (l.take j.toNat)=M++pm l:=by
 rw [List.take_of_length_le (by simp only [Ai,List.length_map]at h;omega)]
theorem Rd {l:List Fe} (h:((Ak l).length:Int)<=j):M++fm (l.take j.toNat)=M++fm l:=by
 rw [List.take_of_length_le (by simp only [Ak,List.length_map]at h;omega)]
theorem Qv (M:LD) (l:List Pe):M=M++pm (l.take (0:Int).toNat):=by simp [pm,H7]
theorem Rb (M:LD) (l:List Fe):M=M++fm (l.take (0:Int).toNat):=by simp [fm,H7]
theorem HU {l:List Ae} (j:Int) (v:0<=j) (q:j<((Aq l).length:Int)):∃(nm:List Nat) (sp ty ln:Int),(Aq l)[j.toNat]?=some [.str nm,.int .i64 sp,.int .i64 ty,.int .i64 ln]/\l[j.toNat]?=some ⟨nm,sp,ty,ln⟩:=by
 simp only [Aq,List.length_map]at q
 have h:j.toNat<l.length:=by omega
 exact ⟨_,_,_,_,by rw [Aq,List.getElem?_map,List.getElem?_eq_getElem h];rfl,List.getElem?_eq_getElem h⟩
theorem FG {l:List Pe} (j:Int) (v:0<=j) (q:j<((Ai l).length:Int)):∃(nm:List Nat) (ty:Int),(Ai l)[j.toNat]?=some [.str nm,.int .i64 ty]/\l[j.toNat]?=some ⟨nm,ty⟩:=by
 simp only [Ai,List.length_map]at q
 have h:j.toNat<l.length:=by omega
 exact ⟨_,_,by rw [Ai,List.getElem?_map,List.getElem?_eq_getElem h];rfl,List.getElem?_eq_getElem h⟩
theorem FH {l:List Fe} (j:Int) (v:0<=j) (q:j<((Ak l).length:Int)):∃(nm:List Nat) (ps:List Pe) (ty:Int) (fb:List S) (k o y:Int) (s:List Nat) (w:Int) (a:List E),
  (Ak l)[j.toNat]?=some [.str nm,.list 2 (Ai ps),.int .i64 ty,.list 19 (S.Aa fb),.int .i64 k,.int .i64 o,.int .i64 y,.str s,.int .i32 w,.list 6 (E.Aa a)]/\l[j.toNat]?=some ⟨nm,ps,ty,fb,k,o,y,s,w,a⟩:=by
 simp only [Ak,List.length_map]at q
 have h:j.toNat<l.length:=by omega
 exact ⟨_,_,_,_,_,_,_,_,_,_,by rw [Ak,List.getElem?_map,List.getElem?_eq_getElem h];rfl,List.getElem?_eq_getElem h⟩
theorem Uh {l:List Fe} {n:Nat}:(Ak l).take n=Ak (l.take n):=by simp only [Ak,List.map_take]
theorem Aaz {l:List Fe} {n:Nat} {f:Fe} (h:l[n]?=some f):(Ak l)[n]?=some (Si f):=by rw [Ak,List.getElem?_map,h];rfl
theorem BW {l:List Fe}:(Ak l).length=l.length:=by simp only [Ak,List.length_map]
end
def Yn (av:List Ae):Prop:=∀(j:Int) (a:Ae),av[j.toNat]?=some a->Nm a.nm/\1<=a.sp/\a.sp<=3/\1<=a.ty/\a.ty<=3/\1<=a.ln/\a.ln<=16
def Yb (ps:List Pe):Prop:=∀(j:Int) (a:Pe),ps[j.toNat]?=some a->Nm a.nm/\1<=a.ty/\a.ty<=3
structure FnP (f:Fe):Prop where
 nm:Nm f.nm
 ty:1<=f.ty/\f.ty<=3
 ps:Yb f.ps
 pl:f.ps.length<=2
 fb:PL f.fb
 a:∃Δ t,TR Δ t (.node f.k f.o f.y f.w f.s f.a)
 dp:S.Ay f.fb<=2
 nd:S.Ad f.fb<=160
 rn:(E.node f.k f.o f.y f.w f.s f.a).nodes<=13
 rh:(E.node f.k f.o f.y f.w f.s f.a).high<=5
def NQ (fs:List Fe):Prop:=∀(j:Int) (f:Fe),fs[j.toNat]?=some f->FnP f
def FsU (fs:List Fe):Prop:=∀(j:Int) (f:Fe),fs[j.toNat]?=some f->∃(v:Int) (Γ q:Ctx),Ew v 1 Γ f.fb q
structure FnG (av:List Ae) (fs:List Fe) (n:Nat) (f:Fe) (Γ Γe:Ctx):Prop where
 fr:Xb (am av) (fs.take n)
 fp:FrP (am av++fm (fs.take n)) f.ps
 ck:Ck Γ ((Aq av).length:Int) ((Ak fs).length:Int) (Aq av) (Ak fs) (am av++fm (fs.take n)++pm f.ps)
 ok:Ew 0 1 Γ f.fb Γe
 ty:T Γe f.ty (.node f.k f.o f.y f.w f.s f.a)
def FsG (av:List Ae) (fs:List Fe):Prop:=∀(j:Int) (f:Fe),0<=j->fs[j.toNat]?=some f->∃Γ q,FnG av fs j.toNat f Γ q
theorem FsG.at {av:List Ae} {fs:List Fe} (h:FsG av fs) (j:Int) (v:0<=j) (x:j<((Ak fs).length:Int)):∃f Γ q,fs[j.toNat]?=some f/\FnG av fs j.toNat f Γ q:=by
 rw [BW]at x
 have hl:j.toNat<fs.length:=by omega
 obtain ⟨Γ,q,hg⟩:=h j _ v (List.getElem?_eq_getElem hl)
 exact ⟨_,Γ,q,List.getElem?_eq_getElem hl,hg⟩
end
section
theorem T.weak {Γ j:Ctx} {t:Int} {e:E} (h:T Γ t e) (hs:∀s z,Γ s=some z->j s=some z):T j t e:=by
 induction h with
 |num h1 h2 h3 h4 h5=>exact .num h1 h2 h3 h4 h5
 |id h1 h2=>exact .id h1 h2
 |var h1 h2 h3 h4 h5=>exact .var h1 h2 h3 h4 (hs _ _ h5)
 |un h1 _ ih=>exact .un h1 ih
 |bin h1 _ _ ih1 ih2=>exact .bin h1 ih1 ih2
 |cond _ _ _ ih1 ih2 ih3=>exact .cond ih1 ih2 ih3
 |load h1 h2 h3 h4 _ ih=>exact .load h1 h2 h3 (hs _ _ h4) ih
 |call h1 _ _ ih1 ih2=>exact .call (hs _ _ h1) ih1 ih2
 |ca0 h=>exact (Ctx.FE h).elim
 |ca1 h=>exact (Ctx.FE h).elim
theorem Yw {Γ:Ctx} {m n:List Nat} {y z:Int×Int×Int} (h:m≠n):(Γ.E9 m y).E9 n z=(Γ.E9 n z).E9 m y:=by
 funext s
 by_cases h1:s=m
 ·subst h1;rw [Bc h,BP,BP]
 ·by_cases h2:s=n
  ·subst h2;rw [BP,Bc h1,BP]
  ·rw [Bc h2,Bc h1,Bc h1,Bc h2]
theorem Cg {Γ:Ctx} {n:List Nat} {z:Int×Int×Int} (j:Γ n=none):∀s y,Γ s=some y->Γ.E9 n z s=some y:=fun _ _ h=>DF h j
mutual
theorem SOm.weak {lo pu:Int} {Γ A:Ctx} {s:S} {n:List Nat} {z:Int×Int×Int} (x:¬Vn n) (j:Γ n=none):SOm lo pu Γ s A->SOm lo pu (Γ.E9 n z) s (A.E9 n z)/\A n=none
 |.var h0 hV h2 h3 h4 h5 h6=>by
  have q:=hV rfl
  have v:∀{m:List Nat},Vn m->m≠n:=fun B e=>x (e▸B)
  refine ⟨?_,by rw [Bc (fun e=>v q e.symm)];exact j⟩
  rw [Yw (v q)]
  exact .var h0 hV (by rw [Bc (v q)];exact h2) h3 h4 (h5.weak (Cg j)) h6
 |.set q h2 h3 h4=>⟨.set q (Cg j _ _ h2) (h3.weak (Cg j)) h4,j⟩
 |.store q h2 h3 h4 h5 h6 h7 h8=>⟨.store q h2 h3 (Cg j _ _ h4) (h5.weak (Cg j)) (h6.weak (Cg j)) h7 h8,j⟩
 |.atom q h2 h3 h4 h5 h6 h7 h8=>⟨.atom q h2 (Cg j _ _ h3) h4 (h5.weak (Cg j)) (h6.weak (Cg j)) h7 h8,j⟩
 |.Yk q h2 h3 h4=>⟨.Yk (q.weak (Cg j)) h2 (WY.weak x j h3).1 (WY.weak x j h4).1,j⟩
 |.Yr q h2 h3 h4 h5=>⟨.Yr (q.weak (Cg j)) h2 h3 h4 (WY.weak x j h5).1,j⟩
 |.esc q h2=>⟨.esc q h2,j⟩
 |.WQ q=>⟨.WQ q,j⟩
 |.Hx q=>⟨.Hx q,j⟩
 |.LS q h2 h3 h4 h5 h6 h7=>⟨.LS q (Cg j _ _ h2) h3 h4 h5 (h6.weak (Cg j)) h7,j⟩
 |.LR q h2 h3 h4 h5 h6 h7 h8=>⟨.LR q (Cg j _ _ h2) h3 h4 (h5.weak (Cg j)) (h6.weak (Cg j)) h7 h8,j⟩
theorem WY.weak {lo pu:Int} {Γ j:Ctx} {l:List S} {n:List Nat} {z:Int×Int×Int} (q:¬Vn n) (v:Γ n=none):WY lo pu Γ l j->WY lo pu (Γ.E9 n z) l (j.E9 n z)/\j n=none
 |.nil=>⟨.nil,v⟩
 |.cons h g=>
  have a:=SOm.weak q v h
  have b:=WY.weak q a.2 g
  ⟨.cons a.1 b.1,b.2⟩
end
theorem Ki:¬Vn [113,113,57]:=by
 rintro ⟨i,hi,h⟩
 have:∀i,i<24->[113,113,57]≠vn i:=by decide
 exact this i hi h
theorem Ahp {c:Int}:bΓ c [113,113,57]=none:=by
 unfold bΓ
 split<;>rfl
end
section
def BG:List Ae:=[⟨[97],1,1,8⟩,⟨[102],1,2,4⟩,⟨[115],2,1,8⟩,⟨[112],3,1,4⟩,⟨[98],2,3,4⟩]
def Dv:List Pe:=[⟨[110],1⟩,⟨[116],2⟩,⟨[99],3⟩]
def Pd (fb:List S) (k o y:Int) (s:List Nat) (w:Int) (a:List E):Fe:=⟨[104],[⟨[120],1⟩,⟨[121],1⟩],1,fb,k,o,y,s,w,a⟩
def B4 (b:List S):Fe:=⟨[113,113,57],[⟨[113,113,56],1⟩],1,b,2,0,0,[113,113,56],0,[]⟩
def QZ (k:Int) (j:Bool):Int->LD->List (List Nat×Int)->Bool
 |_,_,[]=>true
 |i,M,x::r=>(AR M x.1).isNone&&QZ k j (i+1) (M++[(x.1,[PV.int .i64 k,PV.int .i64 x.2,PV.int .i64 (bif j then i else 0)])]) r
theorem BZ {k:Int} {q:Bool}:∀{l:List (List Nat×Int)} {i:Int} {M:LD},QZ k q i M l=true->∀(j:Nat) (x:List Nat×Int),l[j]?=some x->AR (M++H7 k q i (l.take j)) x.1=none
 |[],_,_,_,j,x,h=>by simp at h
 |y::r,i,M,h,0,x,g=>by
  simp only [QZ,aT,Option.isNone_iff_eq_none]at h
  simp only [List.getElem?_cons_zero,oI]at g
  subst g
  simpa [H7]using h.1
 |y::r,i,M,h,j+1,x,g=>by
  simp only [QZ,aT]at h
  have:=BZ h.2 j x (by simpa using g)
  simpa [H7,List.append_assoc]using this
theorem Yn.of {l:List Ae} (h:∀a∈l,Nm a.nm/\1<=a.sp/\a.sp<=3/\1<=a.ty/\a.ty<=3/\1<=a.ln/\a.ln<=16):Yn l:=fun _ a g=>h a (List.mem_of_getElem? g)
theorem Yb.of {l:List Pe} (h:∀a∈l,Nm a.nm/\1<=a.ty/\a.ty<=3):Yb l:=fun _ a g=>h a (List.mem_of_getElem? g)
theorem KH:Yn BG:=.of (by decide)
theorem Kj:Yb Dv:=.of (by decide)
theorem R3:Yh [] BG:=BZ (by rfl)
theorem Ul:FrP (am BG) Dv:=BZ (by rfl)
def rx (i:Int) (Γ:Ctx):Ctx:=fun s=>(Γ s).map fun z=>if z.1=1 then (z.1,z.2.1,i)else z
theorem Jm {i:Int} {Γ:Ctx} {s:List Nat} {z:Int×Int×Int} (h:Γ s=some z) (j:z.1≠1):rx i Γ s=some z:=by
 unfold rx;rw [h];simp only [Option.map_some,if_neg j]
theorem Wf {i:Int} {Γ:Ctx} {s:List Nat} (h:Γ s=none):rx i Γ s=none:=by unfold rx;rw [h];rfl
theorem Afw {i:Int} {Γ:Ctx} {n:List Nat} {z:Int×Int×Int} (j:z.1≠1):rx i (Γ.E9 n z)=(rx i Γ).E9 n z:=by
 funext s
 by_cases h:s=n
 ·subst h;rw [Jm BP j,BP]
 ·rw [Bc h];unfold rx;rw [Bc h]
theorem T.rx {i:Int} {Γ:Ctx} {t:Int} {e:E} (h:T Γ t e):T (rx i Γ) t e:=by
 induction h with
 |num h1 h2 h3 h4 h5=>exact .num h1 h2 h3 h4 h5
 |id h1 h2=>exact .id h1 h2
 |var h1 h2 h3 h4 h5=>exact .var h1 h2 h3 h4 (Jm h5 (by rcases h2 with h|h<;>simp [h]))
 |un h1 _ ih=>exact .un h1 ih
 |bin h1 _ _ ih1 ih2=>exact .bin h1 ih1 ih2
 |cond _ _ _ ih1 ih2 ih3=>exact .cond ih1 ih2 ih3
 |load h1 h2 h3 h4 _ ih=>exact .load h1 h2 h3 (Jm h4 (by simp)) ih
 |call h1 _ _ ih1 ih2=>exact .call (i:=i) (by unfold K.rx;rw [h1];simp) ih1 ih2
 |ca0 h=>exact (Ctx.FE h).elim
 |ca1 h=>exact (Ctx.FE h).elim
mutual
theorem NN.rx {q:Bool} {i lo pu:Int} {Γ j:Ctx} {s:S}:NN q lo pu Γ s j->NN q lo pu (rx i Γ) s (rx i j)
 |.var h1 hV h2 h3 h4 h5 h6=>by rw [Afw (by simp)];exact .var h1 hV (Wf h2) h3 h4 h5.rx h6
 |.set h1 h2 h3 h4=>.set h1 (Jm h2 (by simp)) h3.rx h4
 |.store h1 h2 h3 h4 h5 h6 h7 h8=>.store h1 h2 h3 (Jm h4 (by simp)) h5.rx h6.rx h7 h8
 |.atom h1 h2 h3 h4 h5 h6 h7 h8=>.atom h1 h2 (Jm h3 (by simp)) h4 h5.rx h6.rx h7 h8
 |.Yk h1 h2 h3 h4=>.Yk h1.rx h2 (Lz.rx h3) (Lz.rx h4)
 |.Yr h1 h2 h3 h4 h5=>.Yr h1.rx h2 h3 h4 (Lz.rx h5)
 |.esc h1 h2=>.esc h1 h2
 |.WQ h1=>.WQ h1
 |.Hx h1=>.Hx h1
 |.LS h1 h2 h3 h4 h5 h6 h7=>.LS h1 (Jm h2 (by simp)) h3 h4 h5 h6.rx h7
 |.LR h1 h2 h3 h4 h5 h6 h7 h8=>.LR h1 (Jm h2 (by simp)) h3 h4 h5.rx h6.rx h7 h8
theorem Lz.rx {q:Bool} {i lo pu:Int} {Γ j:Ctx} {l:List S}:Lz q lo pu Γ l j->Lz q lo pu (rx i Γ) l (rx i j)
 |.nil=>.nil
 |.cons h g=>.cons (NN.rx h) (Lz.rx g)
end
theorem Ad1 {s:List Nat} {z:Int×Int×Int} (h:aΓ s=some z):z.1=0:=by
 unfold aΓ at h
 repeat' split at h
 all_goals first|(cases h;done) |(simp only [oI]at h;subst h;rfl)
theorem LI {Γ:Ctx} {P:Int->Prop} (hΓ:∀s z,Γ s=some z->P z.1) {n:List Nat} {y:Int×Int×Int} (j:P y.1):∀s z,Γ.E9 n y s=some z->P z.1:=fun s z h=>by
 by_cases e:s=n
 ·subst e;rw [BP]at h;simp only [oI]at h;subst h;exact j
 ·rw [Bc e]at h;exact hΓ s z h
theorem Aik {i:Int}:rx i pΓ=pΓ:=by
 funext s
 cases h:pΓ s with
 |none=>exact Wf h
 |some z=>
  refine Jm h ?_
  exact LI (P:=fun k=>k≠1) (LI (P:=fun k=>k≠1) (LI (P:=fun k=>k≠1) (fun s z h=>by rw [Ad1 h];decide) (by decide)) (by decide)) (by decide) s z h
theorem Ail:rx 1 (bΓ 1)=pΓ.E9 [104] (1,1,1):=by
 have e:bΓ 1=pΓ.E9 [104] (1,1,0):=rfl
 rw [e]
 funext s
 by_cases h:s=[104]
 ·subst h;rw [BP];unfold rx;rw [BP];rfl
 ·rw [Bc h,<-congrFun (Aik (i:=1)) s];unfold rx;rw [Bc h]
abbrev qn:List Nat:=[113,113,57]
def qΓ (c:Int):Ctx:=(if c=1 then pΓ.E9 [104] (1,1,1)else pΓ).E9 qn (1,1,0)
theorem Vr {c:Int} (hc:c=0∨c=1) {b:List S} {v:Ctx} (h:WY 0 0 (bΓ c) b v):∃q,Ew 0 0 (qΓ c) b q:=by
 rcases hc with rfl|rfl
 ·exact ⟨_,(WY.weak (z:=(1,1,0)) Ki (Ahp (c:=0)) h).1.loose⟩
 ·have j:=Lz.rx (i:=1) h
  rw [Ail]at j
  exact ⟨_,(WY.weak (z:=(1,1,0)) Ki (by rfl) j).1.loose⟩
theorem Ck.mk0 {Γ:Ctx} {fs:List Fe} {m:LD} (L:List (List Nat)) (v:∀s∈L,AR m s=(Γ s).map fun z=>[PV.int .i64 z.1,PV.int .i64 z.2.1,PV.int .i64 z.2.2]) (x:∀s,s∉L->Γ s=none) (q:∀e∈m,e.1∈L)
  (j:∀s t i,Γ s=some (0,t,i)->aΓ s=some (0,t,i)) (B:∀i,Γ [104]=some (1,1,i)->0<=i/\i<((Ak fs).length:Int)/\∃(F:List Row) (k o y w:Int) (s:List Nat) (A:List Row),(Ak fs)[i.toNat]?=some (hrow DO F k o y s w A)):
  Ck Γ ((Aq BG).length:Int) ((Ak fs).length:Int) (Aq BG) (Ak fs) m:=
 ⟨AcM L v x q,rfl,rfl,fun _ _ _ h=>L8 j h,B⟩
theorem Us {Γ:Ctx} {p:Int->Prop} (h:Γ [104]=none):∀i,Γ [104]=some (1,1,i)->p i:=fun i g=>by rw [h]at g;cases g
def gΓ:Ctx:=aΓ.E9 [113,113,56] (2,1,0)
theorem AnQ {b:List S} {r:List Fe}:Ck gΓ ((Aq BG).length:Int) ((Ak (B4 b::r)).length:Int) (Aq BG) (Ak (B4 b::r)) (am BG++fm ((B4 b::r).take 0)++pm (B4 b).ps):=by
 refine .mk0 [[97],[102],[115],[112],[98],[113,113,56]] (fun s hs=>by simp only [List.mem_cons,List.not_mem_nil,or_false]at hs;rcases hs with rfl|rfl|rfl|rfl|rfl|rfl<;>rfl) (fun s hs=>?_) (by intro e j;have:(am BG++fm ((B4 b::r).take 0)++pm (B4 b).ps).map (·.1)=[[97],[102],[115],[112],[98],[113,113,56]]:=rfl;rw [<-this];exact List.mem_map_of_mem j) (fun s t i h=>CZ (by decide) h) (Us rfl)
 simp only [List.mem_cons,List.not_mem_nil,or_false,not_or]at hs
 refine Cs hs.2.2.2.2.2 (L7 ?_)
 simp only [List.mem_cons,List.not_mem_nil,or_false,not_or]
 exact ⟨hs.1,hs.2.1,hs.2.2.1,hs.2.2.2.1,hs.2.2.2.2.1⟩
theorem Abv {r:List Fe}:FnG BG (B4 []::r) 0 (B4 []) gΓ gΓ:=
 ⟨fun j x h=>by simp at h,BZ (by rfl),AnQ,.nil,.var (by decide) (.inl rfl) (by decide) (by decide) rfl⟩
section
variable {fb:List S} {k o y w:Int} {s:List Nat} {a:List E}
abbrev hΓ:Ctx:=fΓ.E9 qn (1,1,0)
theorem Akx {b:List S}:Ck hΓ ((Aq BG).length:Int) ((Ak [B4 b,Pd fb k o y s w a]).length:Int) (Aq BG) (Ak [B4 b,Pd fb k o y s w a]) (am BG++fm ([B4 b,Pd fb k o y s w a].take 1)++pm (Pd fb k o y s w a).ps):=by
 refine .mk0 [[97],[102],[115],[112],[98],qn,[120],[121]] (fun s hs=>by simp only [List.mem_cons,List.not_mem_nil,or_false]at hs;rcases hs with rfl|rfl|rfl|rfl|rfl|rfl|rfl|rfl<;>rfl) (fun s hs=>?_) (by intro e j;have:(am BG++fm ([B4 b,Pd fb k o y s w a].take 1)++pm (Pd fb k o y s w a).ps).map (·.1)=[[97],[102],[115],[112],[98],qn,[120],[121]]:=rfl;rw [<-this];exact List.mem_map_of_mem j) (fun s t i h=>CZ (by decide) (CZ (by decide) (CZ (by decide) h))) (Us rfl)
 simp only [List.mem_cons,List.not_mem_nil,or_false,not_or]at hs
 refine Cs hs.2.2.2.2.2.1 (Cs hs.2.2.2.2.2.2.2 (Cs hs.2.2.2.2.2.2.1 (L7 ?_)))
 simp only [List.mem_cons,List.not_mem_nil,or_false,not_or]
 exact ⟨hs.1,hs.2.1,hs.2.2.1,hs.2.2.2.1,hs.2.2.2.2.1⟩
theorem Aky:Ck fΓ ((Aq BG).length:Int) ((Ak [Pd fb k o y s w a]).length:Int) (Aq BG) (Ak [Pd fb k o y s w a]) (am BG++fm ([Pd fb k o y s w a].take 0)++pm (Pd fb k o y s w a).ps):=Ck.AgX rfl
theorem Ahf:Ck (bΓ 0) ((Aq BG).length:Int) ((Ak []).length:Int) (Aq BG) (Ak []) (am BG++pm Dv++fm []):=Ck.Tj rfl
theorem Ahe:Ck (bΓ 1) ((Aq BG).length:Int) ((Ak [Pd fb k o y s w a]).length:Int) (Aq BG) (Ak [Pd fb k o y s w a]) (am BG++pm Dv++fm [Pd fb k o y s w a]):=Ck.Al1
theorem Ahd {b:List S}:Ck (qΓ 0) ((Aq BG).length:Int) ((Ak [B4 b]).length:Int) (Aq BG) (Ak [B4 b]) (am BG++pm Dv++fm [B4 b]):=by
 have e:qΓ 0=pΓ.E9 qn (1,1,0):=rfl
 rw [e]
 refine .mk0 [[97],[102],[115],[112],[98],[110],[116],[99],qn] (fun s hs=>by simp only [List.mem_cons,List.not_mem_nil,or_false]at hs;rcases hs with rfl|rfl|rfl|rfl|rfl|rfl|rfl|rfl|rfl<;>rfl) (fun s hs=>?_) (by intro e j;have:(am BG++pm Dv++fm [B4 b]).map (·.1)=[[97],[102],[115],[112],[98],[110],[116],[99],qn]:=rfl;rw [<-this];exact List.mem_map_of_mem j) (fun s t i h=>Qt (CZ (by decide) h)) (Us rfl)
 simp only [List.mem_cons,List.not_mem_nil,or_false,not_or]at hs
 refine Cs hs.2.2.2.2.2.2.2.2 (L4 ?_)
 simp only [List.mem_cons,List.not_mem_nil,or_false,not_or]
 exact ⟨hs.1,hs.2.1,hs.2.2.1,hs.2.2.2.1,hs.2.2.2.2.1,hs.2.2.2.2.2.1,hs.2.2.2.2.2.2.1,hs.2.2.2.2.2.2.2.1⟩
theorem Ahc {b:List S}:Ck (qΓ 1) ((Aq BG).length:Int) ((Ak [B4 b,Pd fb k o y s w a]).length:Int) (Aq BG) (Ak [B4 b,Pd fb k o y s w a]) (am BG++pm Dv++fm [B4 b,Pd fb k o y s w a]):=by
 have e:qΓ 1=(pΓ.E9 [104] (1,1,1)).E9 qn (1,1,0):=rfl
 rw [e]
 refine .mk0 [[97],[102],[115],[112],[98],[110],[116],[99],qn,[104]] (fun s hs=>by simp only [List.mem_cons,List.not_mem_nil,or_false]at hs;rcases hs with rfl|rfl|rfl|rfl|rfl|rfl|rfl|rfl|rfl|rfl<;>rfl) (fun s hs=>?_) (by intro e j;have:(am BG++pm Dv++fm [B4 b,Pd fb k o y s w a]).map (·.1)=[[97],[102],[115],[112],[98],[110],[116],[99],qn,[104]]:=rfl;rw [<-this];exact List.mem_map_of_mem j) (fun s t i h=>Qt (CZ (by decide) (CZ (by decide) h))) (fun i h=>?_)
 ·simp only [List.mem_cons,List.not_mem_nil,or_false,not_or]at hs
  refine Cs hs.2.2.2.2.2.2.2.2.1 (Cs hs.2.2.2.2.2.2.2.2.2 (L4 ?_))
  simp only [List.mem_cons,List.not_mem_nil,or_false,not_or]
  exact ⟨hs.1,hs.2.1,hs.2.2.1,hs.2.2.2.1,hs.2.2.2.2.1,hs.2.2.2.2.2.1,hs.2.2.2.2.2.2.1,hs.2.2.2.2.2.2.2.1⟩
 ·have h:some ((1:Int),(1:Int),(1:Int))=some (1,1,i):=h
  simp only [oI,Prod.mk.injEq,true_and]at h
  subst h
  exact ⟨by decide,by rw [BW];simp,S.Aa fb,k,o,y,w,s,E.Aa a,rfl⟩
end
structure Xa (fs:List Fe) (Γb:Ctx):Prop where
 p:NQ fs
 u:FsU fs
 g:FsG BG fs
 fr:Xb (am BG++pm Dv) fs
 ck:Ck Γb ((Aq BG).length:Int) ((Ak fs).length:Int) (Aq BG) (Ak fs) (am BG++pm Dv++fm fs)
structure HOk (f:Fe) (Γe:Ctx):Prop where
 ex:∃fb k o y s w a,f=Pd fb k o y s w a
 m:WY 0 1 fΓ f.fb Γe
 t:T Γe 1 (.node f.k f.o f.y f.w f.s f.a)
 dp:S.Ay f.fb<=2
 nd:S.Ad f.fb<=160
 rn:(E.node f.k f.o f.y f.w f.s f.a).nodes<=13
 rh:(E.node f.k f.o f.y f.w f.s f.a).high<=5
theorem HOk.p {f:Fe} {x:Ctx} (h:HOk f x):FnP f:=by
 obtain ⟨⟨fb,k,o,y,s,w,a,rfl⟩,A,B,z,q,v,j⟩:=h
 exact ⟨(by decide:Nm [104]),⟨Int.le_refl 1,(by decide:(1:Int)<=3)⟩,.of (by decide:∀a∈([⟨[120],1⟩,⟨[121],1⟩]:List Pe),Nm a.nm/\1<=a.ty/\a.ty<=3),(Nat.le_refl 2),A.loose.pl,⟨_,_,B⟩,z,q,v,j⟩
theorem W1 {b:List S} (hb:PL b) (j:S.Ay b<=2) (q:S.Ad b<=160):FnP (B4 b):=
 ⟨(by decide:Nm qn),⟨Int.le_refl 1,(by decide:(1:Int)<=3)⟩,.of (by decide:∀a∈([⟨[113,113,56],1⟩]:List Pe),Nm a.nm/\1<=a.ty/\a.ty<=3),(by decide:1<=2),hb,⟨fun _ _=>True,1,.var (i:=0) (k:=2) (by decide:Nm [113,113,56]) (.inl rfl) (by decide) (by decide) trivial⟩,j,q,(by decide:(E.node 2 0 0 0 [113,113,56] []).nodes<=13),(by decide:(E.node 2 0 0 0 [113,113,56] []).high<=5)⟩
theorem qT:TR (fun _ _=>True) 1 (.node 2 0 0 0 [113,113,56] []):=.var (i:=0) (k:=2) (by decide) (.inl rfl) (by decide) (by decide) trivial
theorem AaD {b:List S} (h:FnP (B4 b)):S.Ay b<=2/\S.Ad b<=160/\(E.node 2 0 0 0 [113,113,56] []).nodes=1/\(E.node 2 0 0 0 [113,113,56] []).high=1:=⟨h.dp,h.nd,rfl,rfl⟩
abbrev A9 (k:Int):S:=.node k 0 0 0 [] E0 E0 [] []
theorem XV {P:Fe->Prop} {f:Fe} (h:P f):∀(j:Int) (x:Fe),[f][j.toNat]?=some x->P x:=fun j x g=>by
 have:=List.mem_of_getElem? g
 simp only [List.mem_cons,List.not_mem_nil,or_false]at this
 subst this;exact h
theorem Ad5 {P:Fe->Prop} {f q:Fe} (h:P f) (v:P q):∀(j:Int) (x:Fe),[f,q][j.toNat]?=some x->P x:=fun j x g=>by
 have:=List.mem_of_getElem? g
 simp only [List.mem_cons,List.not_mem_nil,or_false]at this
 rcases this with e|e<;>subst e<;>assumption
theorem Xa.a:Xa [] (bΓ 0):=⟨fun _ _ h=>by simp at h,fun _ _ h=>by simp at h,fun _ _ _ h=>by simp at h,fun _ _ h=>by simp at h,Ahf⟩
theorem Xa.b {f:Fe} {q:Ctx} (h:HOk f q):Xa [f] (bΓ 1):=by
 have A:=h.p
 obtain ⟨⟨fb,k,o,y,s,w,a,rfl⟩,v,B,L,I,J,C⟩:=h
 refine ⟨XV A,XV ⟨_,_,_,v.loose⟩,fun j x H g=>?_,BZ (by rfl),Ahe⟩
 have z:j.toNat=0:=by have:=(List.getElem?_eq_some_iff.1 g).1;simp at this;omega
 rw [z]at g⊢
 simp only [List.getElem?_cons_zero,oI]at g
 subst g
 exact ⟨fΓ,q,fun j x h=>by simp at h,BZ (by rfl),Aky,v.loose,B⟩
theorem Xa.c:Xa [B4 []] (qΓ 0):=by
 refine ⟨XV (W1 .nil (by decide) (by decide)),XV ⟨0,gΓ,gΓ,.nil⟩,fun j x v g=>?_,BZ (by rfl),Ahd⟩
 have q:j.toNat=0:=by have:=(List.getElem?_eq_some_iff.1 g).1;simp at this;omega
 rw [q]at g⊢
 simp only [List.getElem?_cons_zero,oI]at g
 subst g
 exact ⟨gΓ,gΓ,Abv⟩
theorem Xa.d {f:Fe} {A:Ctx} (h:HOk f A):Xa [B4 [],f] (qΓ 1):=by
 have C:=h.p
 obtain ⟨⟨fb,k,o,y,s,w,a,rfl⟩,B,H,N,L,M,I⟩:=h
 refine ⟨Ad5 (W1 .nil (by decide) (by decide)) C,Ad5 ⟨0,gΓ,gΓ,.nil⟩ ⟨_,_,_,B.loose⟩,fun j x J g=>?_,BZ (by rfl),Ahc⟩
 have q:j.toNat=0∨j.toNat=1:=by have:=(List.getElem?_eq_some_iff.1 g).1;simp at this;omega
 rcases q with q|q
 ·rw [q]at g⊢
  simp only [List.getElem?_cons_zero,oI]at g
  subst g
  exact ⟨gΓ,gΓ,Abv⟩
 ·rw [q]at g⊢
  simp only [List.getElem?_cons_succ,List.getElem?_cons_zero,oI]at g
  subst g
  have v:=WY.weak (z:=(1,1,0)) Ki (show fΓ qn=none from rfl) B
  exact ⟨hΓ,A.E9 qn (1,1,0),BZ (by rfl),BZ (by rfl),Akx,v.1.loose,H.weak (Cg v.2)⟩
end
section
theorem BJ.Ty {g sub:Int} (h:BJ g sub):0<=sub/\sub<=32:=by have:=h.1;omega
structure Kf (g sub:Int) (fs:List Fe) (b:List S) (c:Int):Prop where
 hg:g=4∨g=1∨g=2∨g=8∨g=6
 hs:BJ g sub
 hc:c=0∨c=1
 k0:Xa fs (bΓ c)
 k1:Xa (B4 []::fs) (qΓ c)
 bp:∀k:Int,k=7∨k=9∨k=10->NQ (B4 [A9 k]::fs)
 bu:FsU (B4 [A9 7]::fs)
 bf:Xb (am BG++pm Dv) (B4 [A9 7]::fs)
 fl:fs.length<=1
 ok:∃Γ',WY 0 0 (bΓ c) b Γ'
 nd:S.Ad b<=680
 dp:S.Ay b<=4
 nq:AR (am BG++pm Dv++fm fs) qn=none
theorem Ab0 {k:Int} (h:k=7∨k=9∨k=10):PL [A9 k]/\S.Ay [A9 k]<=2/\S.Ad [A9 k]<=160:=by
 rcases h with rfl|rfl|rfl
 ·exact ⟨Ew.pl (lo:=1) (pu:=0) (Γ:=gΓ) (.cons (.esc (.inl rfl) (by decide)) .nil),by decide,by decide⟩
 ·exact ⟨Ew.pl (lo:=1) (Γ:=gΓ) (.cons (.WQ (.inl rfl)) .nil),by decide,by decide⟩
 ·exact ⟨Ew.pl (lo:=1) (Γ:=gΓ) (.cons (.WQ (.inr rfl)) .nil),by decide,by decide⟩
theorem Kf.of {g sub:Int} {C P B R:List Row} (h:Bz g sub C P B R):C=Aq BG/\P=Ai Dv/\∃fs b c,B=Ak fs/\R=S.Aa b/\Kf g sub fs b c:=by
 obtain ⟨rfl,rfl,M,hg,hs,h⟩:=h
 refine ⟨rfl,rfl,?_⟩
 have H:∀{Γ:Ctx},Ew 1 1 Γ [A9 7] Γ:=.cons (.esc (.inl rfl) (by decide)) .nil
 rcases h with ⟨rfl,Γ',l,⟨b,rfl,h1,h2,h3⟩,hl⟩|⟨F,k,o,y,w,s,A,rfl,hf,Γ',l,⟨b,rfl,h1,h2,h3⟩,hl⟩
 ·refine ⟨[],b,0,rfl,rfl,hg,hs,.inl rfl,.a,.c,fun k v=>?_,XV ⟨1,gΓ,gΓ,H⟩,BZ (by rfl),by simp,⟨_,h1⟩,by omega,by omega,rfl⟩
  obtain ⟨p1,z,x⟩:=Ab0 v
  exact XV (W1 p1 z x)
 ·obtain ⟨J,O,⟨fb,rfl,g1,g2,g3⟩,L,j,rfl,I,Q,N⟩:=hf
  have U:F 3=13:=rfl
  have q:HOk (Pd fb k o y s w j) J:=⟨⟨_,_,_,_,_,_,_,rfl⟩,g1,I,by show S.Ay fb<=2;omega,by show S.Ad fb<=160;omega,by show (E.node k o y w s j).nodes<=13;omega,by show (E.node k o y w s j).high<=5;omega⟩
  refine ⟨[Pd fb k o y s w j],b,1,rfl,rfl,hg,hs,.inr rfl,.b q,.d q,fun kk v=>?_,Ad5 ⟨1,gΓ,gΓ,H⟩ ⟨_,_,_,g1.loose⟩,BZ (by rfl),by simp,⟨_,h1⟩,by omega,by omega,rfl⟩
  obtain ⟨p1,z,x⟩:=Ab0 v
  exact Ad5 (W1 p1 z x) q.p
def ifS (a:List E):S:=.node 5 0 0 0 [] (.node 8 0 0 0 qn a) E0 [] []
def Lw:E:=.node 1 0 1 3 [] []
theorem AgR:PL [ifS []]:=.cons (.mk ⟨fun _ _=>True,.inr (.inr (.inr (.inr (.inl ⟨rfl,rfl,rfl,rfl,rfl,⟨rfl,rfl,rfl,rfl,rfl,rfl⟩,.ca0 (fun _ _=>trivial) (by decide) (by decide),by decide⟩))))⟩ .nil .nil) .nil
theorem AgQ:PL [ifS [Lw]]:=.cons (.mk ⟨fun _ _=>True,.inr (.inr (.inr (.inr (.inl ⟨rfl,rfl,rfl,rfl,rfl,⟨rfl,rfl,rfl,rfl,rfl,rfl⟩,.ca1 (fun _ _=>trivial) (by decide) (by decide) (.num (by decide) (by decide) (fun h=>absurd h (by decide)) (fun h=>absurd h (by decide)) (by decide)),by decide⟩))))⟩ .nil .nil) .nil
theorem Abl {a:List E} (h:a=[]∨a=[Lw]):PL [ifS a]/\S.Ad [ifS a]<=1600/\S.Ay [ifS a]<=10:=by
 rcases h with rfl|rfl
 ·exact ⟨AgR,by decide,by decide⟩
 ·exact ⟨AgQ,by decide,by decide⟩
end
end Go.AM.K
