/- Part 17 of MeaningExpressions. -/
import Derived.Test.YtaolbokoijfhnaaGreatDoorH4
import Derived.Test.YtaolbokoijfhnaaGreatDoorH5
import Derived.Test.YtaolbokoijfhnaaGreatDoorH6
import Derived.Test.YtaolbokoijfhnaaGreatDoorH7
import Derived.Test.YtaolbokoijfhnaaGreatDoorH8
import Derived.Test.YtaolbokoijfhnaaGreatDoorH9
import Derived.Test.YtaolbokoijfhnaaGreatDoorH10
import Derived.Test.YtaolbokoijfhnaaGreatDoorH11
import Derived.Test.YtaolbokoijfhnaaGreatDoorH12
import Derived.Test.YtaolbokoijfhnaaGreatDoorH13
import Derived.Test.YtaolbokoijfhnaaGreatDoorH14
import Derived.Test.YtaolbokoijfhnaaGreatDoorH15
import Derived.Test.YtaolbokoijfhnaaGreatDoorH16
import Derived.KernelRfl
set_option linter.all false
namespace Go.Proofs.YtaolbokoijfhnaaGreatDoor.Am
section
open Go.AM
set_option maxHeartbeats 40000000
set_option maxRecDepth 100000
noncomputable section
def AiQ:List (Nat×AM.Tree):=[(4,XA),(5,t_5),(6,t_6),(7,t_7),(8,t_8),(9,t_9),(10,Agz),(11,Agy),(12,Ajp),(13,Ajo),(14,Agx),(15,Ajn),(16,Ajm),(17,Ajl),(18,Ajk),(19,Ajj),(20,Agw),(21,Aji),(22,Ajh),(23,Ajg),(24,Ajf),(25,Aje),(26,Ajd),(27,Ajc),(28,Ajb),(29,Aja),(30,AiZ),(31,AiY),(32,AiX),(33,AiW),(34,AiV),(35,AiU),(36,AiT),(37,AiS),(38,Agv),(39,Agu),(40,Agt),(41,Ags),(42,Agr),(43,Agq),(44,Agp),(46,Ago),(48,Agn),(49,Agm),(50,Agl),(51,Agk),(52,Agj),(53,Agi),(54,Agh),(55,Agg),(56,Agf),(58,Age),(59,Agd),(60,Agc),(62,Agb),(63,Aga),(65,AfZ),(66,AfY),(68,AfX),(69,AdL),(71,AfW),(72,AfV),(75,AfU),(77,AfT),(78,AfS),(79,AfR),(80,AfQ),(81,AfP),(82,AfO),(83,AfN),(84,AfM),(85,AfL),(86,AfK),(87,IK),(88,AfJ),(89,AfI),(90,AfH),(91,AfG),(92,AfF),(93,AfE),(94,AfD),(95,AfC),(96,AfB),(97,L9),(98,AfA),(99,Km),(100,Aas),(101,Aar),(102,Aaq),(103,OC),(104,Aap),(105,Aao),(106,Aan),(107,Aam),(108,Aal),(109,Aak),(110,AeL),(111,Aaj),(112,Aai),(113,Aah),(114,Aag),(115,Aaf),(116,Aae),(117,Aad),(118,Aac),(119,Aab),(120,Aaa),(121,ZZ),(122,ZY),(123,Wh),(124,I2),(125,ZX),(126,ZW),(127,ZV),(128,ZU),(129,ZT),(130,ZS),(131,ZR),(132,CV),(133,ZQ),(134,ZP),(135,ZO),(136,ZN),(137,ZM),(138,ZL),(139,ZK),(140,ZJ),(141,I1),(142,ZI),(143,ZH),(144,ZG),(146,ZF),(147,ZE),(148,ZD),(149,ZC),(180,C0),(181,ZB),(182,ZA),(183,Z9),(184,Z8),(185,Z7),(186,Z6),(187,Z5),(188,Z4),(189,Z3),(190,Z2),(191,Z1),(192,Z0),(193,Zz),(194,Mc),(195,Mb),(196,Dn),(197,Ma),(198,Fq),(199,Zy),(200,Zx),(201,Zw),(202,OB),(203,Zv)]
def trees (c:Nat):AM.Tree:=Zs c AiQ
end
theorem sc {S' S:List (Nat×AM.Spec)} {c:Nat} {sp:AM.Spec} (h:Fa c S=some sp) (hr:AM.Sub S' S):AM.Sub ((c,sp)::S') S:=Aau h hr
theorem oo {T:Nat->Option Obj} (hB:NU T) {S':List (Nat×AM.Spec)} {sp:AM.Spec} {t:AM.Tree} (h:sp.ok S' (runs sp.f) t=true) (hs:AM.Sub S' SS:=by repeat (first|exact AdM|refine sc rfl ?_)):AM.Adp Tryz.prog T SS sp t:=⟨_,_,hs,AdT hB _,h⟩
theorem Ai0 {T:Nat->Option Obj} (hB:NU T):AM.Ad7 Tryz.prog T SS trees:=Adb
 ⟨oo hB Apn,
 ⟨oo hB Apm,
 ⟨oo hB Apl,
 ⟨oo hB Apk,
 ⟨oo hB Apj,
 ⟨oo hB Api,
 ⟨oo hB Alh,
 ⟨oo hB Alg,
 ⟨oo hB Alf,
 ⟨oo hB Ale,
 ⟨oo hB Ald,
 ⟨oo hB Alc,
 ⟨oo hB Alb,
 ⟨oo hB Ala,
 ⟨oo hB AkZ,
 ⟨oo hB AkY,
 ⟨oo hB AkX,
 ⟨oo hB AkW,
 ⟨oo hB AkV,
 ⟨oo hB AkU,
 ⟨oo hB AkT,
 ⟨oo hB AkS,
 ⟨oo hB AkR,
 ⟨oo hB AkQ,
 ⟨oo hB AkP,
 ⟨oo hB AkO,
 ⟨oo hB AkN,
 ⟨oo hB AkM,
 ⟨oo hB AkL,
 ⟨oo hB AkK,
 ⟨oo hB AkJ,
 ⟨oo hB AkI,
 ⟨oo hB AkH,
 ⟨oo hB AkG,
 ⟨oo hB AkF,
 ⟨oo hB AkE,
 ⟨oo hB AkD,
 ⟨oo hB AkC,
 ⟨oo hB AkB,
 ⟨oo hB AkA,
 ⟨oo hB Ak9,
 ⟨oo hB Ak8,
 ⟨oo hB Ak7,
 ⟨oo hB Ak6,
 ⟨oo hB Ak5,
 ⟨oo hB Ak4,
 ⟨oo hB Ak3,
 ⟨oo hB Ak2,
 ⟨oo hB Ak1,
 ⟨oo hB Ak0,
 ⟨oo hB Akz,
 ⟨oo hB Aky,
 ⟨oo hB Akx,
 ⟨oo hB Akw,
 ⟨oo hB Akv,
 ⟨oo hB Aku,
 ⟨oo hB Akt,
 ⟨oo hB Aks,
 ⟨oo hB Akr,
 ⟨oo hB Akq,
 ⟨oo hB Akp,
 ⟨oo hB Ako,
 ⟨oo hB Akn,
 ⟨oo hB Akm,
 ⟨oo hB Akl,
 ⟨oo hB Akk,
 ⟨oo hB Akj,
 ⟨oo hB Aki,
 ⟨oo hB Akh,
 ⟨oo hB Akg,
 ⟨oo hB Akf,
 ⟨oo hB Ake,
 ⟨oo hB Akd,
 ⟨oo hB Akc,
 ⟨oo hB Akb,
 ⟨oo hB Aka,
 ⟨oo hB AjZ,
 ⟨oo hB AjY,
 ⟨oo hB AjX,
 ⟨oo hB AjW,
 ⟨oo hB AjV,
 ⟨oo hB AjU,
 ⟨oo hB AjT,
 ⟨oo hB AjS,
 ⟨oo hB AjR,
 ⟨oo hB AjQ,
 ⟨oo hB AhP,
 ⟨oo hB AhO,
 ⟨oo hB AhN,
 ⟨oo hB AhM,
 ⟨oo hB AhL,
 ⟨oo hB AhK,
 ⟨oo hB AhJ,
 ⟨oo hB AhI,
 ⟨oo hB AhH,
 ⟨oo hB AhG,
 ⟨oo hB AhF,
 ⟨oo hB AhE,
 ⟨oo hB AhD,
 ⟨oo hB AhC,
 ⟨oo hB AhB,
 ⟨oo hB AhA,
 ⟨oo hB Ah9,
 ⟨oo hB Ah8,
 ⟨oo hB Ah7,
 ⟨oo hB Ah6,
 ⟨oo hB Ah5,
 ⟨oo hB Ah4,
 ⟨oo hB Ah3,
 ⟨oo hB Ah2,
 ⟨oo hB Ah1,
 ⟨oo hB Ah0,
 ⟨oo hB Ahz,
 ⟨oo hB Ahy,
 ⟨oo hB Ahx,
 ⟨oo hB Ahw,
 ⟨oo hB Ahv,
 ⟨oo hB Ahu,
 ⟨oo hB Aht,
 ⟨oo hB Ahs,
 ⟨oo hB Ahr,
 ⟨oo hB Ahq,
 ⟨oo hB Ahp,
 ⟨oo hB Aho,
 ⟨oo hB Ahn,
 ⟨oo hB Ahm,
 ⟨oo hB Ahl,
 ⟨oo hB Ahk,
 ⟨oo hB Ahj,
 ⟨oo hB Ahi,
 ⟨oo hB Ahh,
 ⟨oo hB Ahg,
 ⟨oo hB Ahf,
 ⟨oo hB Ahe,
 ⟨oo hB Ahd,
 ⟨oo hB Ahc,
 ⟨oo hB Ahb,
 ⟨oo hB Aha,
 ⟨oo hB AgZ,
 ⟨oo hB AgY,
 ⟨oo hB AgX,
 ⟨oo hB AgW,
 ⟨oo hB AgV,
 ⟨oo hB AgU,
 ⟨oo hB AgT,
 ⟨oo hB AgS,
 ⟨oo hB AgR,
 ⟨oo hB AgQ,
 ⟨oo hB AgP,
 ⟨oo hB AgO,
 ⟨oo hB AgN,
 ⟨oo hB AgM,
 ⟨oo hB AgL,
 ⟨oo hB AgK,
 ⟨oo hB AgJ,
 ⟨oo hB AgI,
 ⟨oo hB AgH,
 ⟨oo hB AgG,
 ⟨oo hB AgF,trivial⟩⟩⟩⟩⟩⟩⟩⟩⟩⟩⟩⟩⟩⟩⟩⟩⟩⟩⟩⟩⟩⟩⟩⟩⟩⟩⟩⟩⟩⟩⟩⟩⟩⟩⟩⟩⟩⟩⟩⟩⟩⟩⟩⟩⟩⟩⟩⟩⟩⟩⟩⟩⟩⟩⟩⟩⟩⟩⟩⟩⟩⟩⟩⟩⟩⟩⟩⟩⟩⟩⟩⟩⟩⟩⟩⟩⟩⟩⟩⟩⟩⟩⟩⟩⟩⟩⟩⟩⟩⟩⟩⟩⟩⟩⟩⟩⟩⟩⟩⟩⟩⟩⟩⟩⟩⟩⟩⟩⟩⟩⟩⟩⟩⟩⟩⟩⟩⟩⟩⟩⟩⟩⟩⟩⟩⟩⟩⟩⟩⟩⟩⟩⟩⟩⟩⟩⟩⟩⟩⟩⟩⟩⟩⟩⟩⟩⟩⟩⟩⟩⟩⟩⟩⟩⟩⟩⟩⟩⟩
theorem good {T:Nat->Option Obj} (hB:NU T) (n:Nat):AM.Good Tryz.prog T SS (mir trees n):=Tn (Ai0 hB) n
end
end Go.Proofs.YtaolbokoijfhnaaGreatDoor.Am
namespace Go.AM
section
def BB (B:List (List PV)):Prop:=∀(i:Nat) (x:List PV),B[i]?=some x->∃n:Int,0<=n/\n<=255/\x=[.int .u8 n]
theorem AcT {B:List (List PV)} (h:BB B) (i:Int) (A:0<=i) (z:i<B.length):∃n:Int,0<=n/\n<=255/\B[i.toNat]?=some [.int .u8 n]:=by
 have j:i.toNat<B.length:=by omega
 obtain ⟨n,q,v,x⟩:=h i.toNat _ (List.getElem?_eq_getElem j)
 exact ⟨n,q,v,by rw [List.getElem?_eq_getElem j,x]⟩
theorem AiN (e:Int) (h:(-2147483648:Int)<=e/\e<=(2147483647:Int):=by omega):IntKind.wrap .i32 e=e:=PM .i32 e h
theorem AiM (e:Int) (h:(-9223372036854775808:Int)<=e/\e<=(9223372036854775807:Int):=by omega):IntKind.wrap .i64 e=e:=PM .i64 e h
theorem Ao1 (e:Int) (h:(0:Int)<=e/\e<=(255:Int):=by omega):IntKind.wrap .u8 e=e:=PM .u8 e h
end
section
theorem Gd {e:Int} (h:(-9223372036854775808:Int)<=e/\e<=9223372036854775807):IntKind.wrap .i64 e=e:=AiM e h
theorem Zk {e:Int} (h:(-2147483648:Int)<=e/\e<=2147483647):IntKind.wrap .i32 e=e:=AiN e h
theorem Ao0 {e:Int} (h:(0:Int)<=e/\e<=255):IntKind.wrap .u8 e=e:=Ao1 e h
theorem AdI {a b:Int} (h:0<=a):Int.tmod a b=a%b:=Int.tmod_eq_emod_of_nonneg h
theorem AdJ {a b:Int} (h:0<=a):Int.tdiv a b=a/b:=Int.tdiv_eq_ediv_of_nonneg h
theorem kn {p:Prop} (h:p:=by first|omega|assumption|rfl|(simp only [lA,lC,lN,lT',List.length_drop,true_and,and_true];omega) |(simp only [lA,lC,lN,lT',List.length_drop,true_and,and_true]at*;omega) |(subst_vars;first|assumption|omega)):p:=h
theorem dead {p:Prop} (h:False:=by first|omega|contradiction|(simp only [lA,lC,lN,lT',List.length_drop,true_and,and_true]at*;omega)):p:=h.elim
section
variable {ρ:Env} {t a b:ST} {x y:Int}
theorem d8 (h:t.den ρ=x) (r:0<=x/\x<=255):(ST.conv .u8 t).den ρ=x:=by show IntKind.wrap .u8 (t.den ρ)=x;rw [h];exact Ao0 r
theorem d32 (h:t.den ρ=x) (r:(-2147483648:Int)<=x/\x<=2147483647):(ST.conv .i32 t).den ρ=x:=by show IntKind.wrap .i32 (t.den ρ)=x;rw [h];exact Zk r
theorem d64 (h:t.den ρ=x) (r:(-9223372036854775808:Int)<=x/\x<=9223372036854775807):(ST.conv .i64 t).den ρ=x:=by show IntKind.wrap .i64 (t.den ρ)=x;rw [h];exact Gd r
theorem da (h:a.den ρ=x) (g:b.den ρ=y) (r:(-9223372036854775808:Int)<=x+y/\x+y<=9223372036854775807):(ST.bin .add .i64 a b).den ρ=x+y:=by show IntKind.wrap .i64 (a.den ρ+b.den ρ)=_;rw [h,g];exact Gd r
theorem ds (h:a.den ρ=x) (g:b.den ρ=y) (r:(-9223372036854775808:Int)<=x-y/\x-y<=9223372036854775807):(ST.bin .sub .i64 a b).den ρ=x-y:=by show IntKind.wrap .i64 (a.den ρ-b.den ρ)=_;rw [h,g];exact Gd r
theorem dm (h:a.den ρ=x) (g:b.den ρ=y) (r:(-9223372036854775808:Int)<=x*y/\x*y<=9223372036854775807):(ST.bin .mul .i64 a b).den ρ=x*y:=by show IntKind.wrap .i64 (a.den ρ*b.den ρ)=_;rw [h,g];exact Gd r
theorem da2 (h:a.den ρ=x) (g:b.den ρ=y) (r:(-2147483648:Int)<=x+y/\x+y<=2147483647):(ST.bin .add .i32 a b).den ρ=x+y:=by show IntKind.wrap .i32 (a.den ρ+b.den ρ)=_;rw [h,g];exact Zk r
theorem ds2 (h:a.den ρ=x) (g:b.den ρ=y) (r:(-2147483648:Int)<=x-y/\x-y<=2147483647):(ST.bin .sub .i32 a b).den ρ=x-y:=by show IntKind.wrap .i32 (a.den ρ-b.den ρ)=_;rw [h,g];exact Zk r
theorem dm2 (h:a.den ρ=x) (g:b.den ρ=y) (r:(-2147483648:Int)<=x*y/\x*y<=2147483647):(ST.bin .mul .i32 a b).den ρ=x*y:=by show IntKind.wrap .i32 (a.den ρ*b.den ρ)=_;rw [h,g];exact Zk r
theorem dr {k:IntKind} (h:a.den ρ=x) (g:b.den ρ=y) (r:0<=x):(ST.bin .rem k a b).den ρ=x%y:=by show Int.tmod (a.den ρ) (b.den ρ)=_;rw [h,g];exact AdI r
theorem dq (h:a.den ρ=x) (g:b.den ρ=y) (r:0<=x/\-9223372036854775808<=x/y/\x/y<=9223372036854775807):(ST.bin .quo .i64 a b).den ρ=x/y:=by show IntKind.wrap .i64 (Int.tdiv (a.den ρ) (b.den ρ))=_;rw [h,g,AdJ r.1];exact Gd r.2
theorem Al8 {i:Nat} (h:ρ.val i=x):(ST.var i).den ρ=x:=h
theorem AlA {n:Nat} (h:(n:Int)=x):(ST.lit (.ofNat n)).den ρ=x:=h
theorem dn (h:t.den ρ=x:=by repeat (first|with_reducible refine Al8 ?_|with_reducible refine AlA ?_|with_reducible refine d64 ?_ ?_|with_reducible refine da ?_ ?_ ?_|with_reducible refine ds ?_ ?_ ?_|with_reducible refine dr ?_ ?_ ?_|with_reducible refine dq ?_ ?_ ?_|with_reducible refine dm ?_ ?_ ?_|with_reducible refine d32 ?_ ?_|with_reducible refine da2 ?_ ?_ ?_|with_reducible refine ds2 ?_ ?_ ?_|with_reducible refine dm2 ?_ ?_ ?_|with_reducible refine d8 ?_ ?_|exact rfl|omega|(simp only [];omega))):t.den ρ=x:=h
theorem B8 {ts:List ST} {j:List Int} (h:t.den ρ=x) (g:ts.map (fun t=>t.den ρ)=j):(t::ts).map (fun t=>t.den ρ)=x::j:=by rw [List.map_cons,h,g]
theorem RR:([]:List ST).map (fun t=>t.den ρ)=[]:=rfl
theorem vmk {τ:CI} {n:List Int} {s:List (List Nat)} {l:List (List (List PV))} {m:List (List (List Nat×List PV))} (h:τ.n.map (fun t=>t.den ρ)=n) (hs:τ.s.map (Bq ρ)=s) (hl:τ.l.map ρ.lst=l) (j:τ.m.map ρ.map=m):τ.vals ρ=⟨n,s,l,m⟩:=by
 subst h;subst hs;subst hl;subst j;rfl
theorem vn {τ:CI} {v:Aj} (h:τ.vals ρ=v:=by refine vmk ?_ rfl rfl rfl;repeat (first|with_reducible refine B8 ?_ ?_|with_reducible exact RR|exact dn)):τ.vals ρ=v:=h
theorem Ae2 {k:IntKind} (h:t.den ρ=x):GS ρ (.int k) (.int k t)=some (.int k x):=by
 have:Vh k k=true:=by cases k<;>rfl
 simp [GS,this,h]
theorem Xr {c:CK} {sh:List CK} {a:Aa} {j:List Aa} {p:PV} {ps:List PV} (h:GS ρ c a=some p) (g:Cw ρ sh j=some ps):Cw ρ (c::sh) (a::j)=some (p::ps):=by simp only [Cw,h,g]
theorem Ab4 {sh:List CK} {a:List Aa} {j:List (List Aa)} {p:List PV} {ps:List (List PV)} (h:Cw ρ sh a=some p) (g:GP ρ sh j=some ps):GP ρ sh (a::j)=some (p::ps):=by simp only [GP,h,g]
theorem AgD {sh:List CK} {j:List (List Aa)} {l:List (List PV)} (h:GP ρ sh j=some l):Dq ρ sh (.els j)=some l:=h
variable {sh:List CK} {p q r:AK} {l l2 l3:List (List PV)}
theorem Gl (h:Dq ρ sh p=some l):C3 ρ sh [p]=some l:=by simp [C3,h]
theorem Bi (h:Dq ρ sh p=some l) (g:Dq ρ sh q=some l2):C3 ρ sh [p,q]=some (l++l2):=by simp [C3,h,g]
theorem AbC (h:Dq ρ sh p=some l) (g:Dq ρ sh q=some l2) (f:Dq ρ sh r=some l3):C3 ρ sh [p,q,r]=some (l++l2++l3):=by simp [C3,h,g,f]
theorem XR {i:Nat} {n:ST} {n':Int} (h:n.den ρ=n') (j:0<=n'/\n'<=((ρ.lst i).length:Int)):Dq ρ sh (.take i n)=some ((ρ.lst i).take n'.toNat):=by
 simp only [Dq,h];rw [if_pos j]
theorem pe {j:List (List Aa)} (h:Dq ρ sh (.els j)=some l:=by first|rfl|(refine AgD ?_;repeat (first|refine Ab4 ?_ ?_|refine Xr ?_ ?_|exact Ae2 dn|rfl))):Dq ρ sh (.els j)=some l:=h
theorem pw {i:Nat} {n:ST} (x:Int) (L:List (List PV)) (h:n.den ρ=x:=by exact dn) (hl:ρ.lst i=L:=by rfl) (j:x=(L.length:Int):=by exact kn):Dq ρ sh (.take i n)=some L:=by
 subst hl;subst j
 simp only [Dq,h]
 rw [if_pos ⟨by omega,by omega⟩,Int.toNat_natCast,List.take_length]
theorem pt {i:Nat} {n:ST} (x:Int) (L:List (List PV)) (h:n.den ρ=x:=by exact dn) (hl:ρ.lst i=L:=by rfl) (j:0<=x/\x<=(L.length:Int):=by exact kn):Dq ρ sh (.take i n)=some (L.take x.toNat):=by
 subst hl;exact XR h j
end
def W (trees:Nat->Tree) (Q:Out->Prop) (t:Tree) (v:Aj):Prop:=t.wp (Ej trees) Q v
def Ok (trees:Nat->Tree) (c:Nat) (v:Aj) (R:Out->Prop):Prop:=∃o,R o/\∀Q:Out->Prop,Q o->Ej trees c v Q
theorem Ok.of {trees:Nat->Tree} {c:Nat} {v:Aj} {R:Out->Prop} {t:Tree} (j:trees c=t) (h:W trees R t v):Ok trees c v R:=by
 subst j;exact Ej.elim (Tq h)
theorem Ex {c j:Prop} {inst:Decidable c} {A B:Prop} (hc:c↔j) (q:j->A) (x:¬j->B):@ite Prop c inst A B:=by
 split
 ·rename_i h;exact q (hc.1 h)
 ·rename_i h;exact x fun v=>h (hc.2 v)
theorem Dw {c:Prop} {inst:Decidable c} {A B:Prop} (hc:c) (j:A):@ite Prop c inst A B:=by rw [if_pos hc];exact j
theorem KA {c:Prop} {inst:Decidable c} {A B:Prop} (hc:¬c) (j:B):@ite Prop c inst A B:=by rw [if_neg hc];exact j
section
variable {trees:Nat->Tree} {Q:Out->Prop} {t e k:Tree} {v:Aj}
section
variable {a b:ST} (x y:Int)
theorem lt (z:x<y->W trees Q t v) (j:¬(x<y)->W trees Q e v) (A:a.den v.e=x:=by exact dn) (q:b.den v.e=y:=by exact dn):W trees Q (.test .lss a b t e) v:=by subst A;subst q;exact Ex Iff.rfl z j
theorem CJ (q:W trees Q t v) (hc:x<y:=by exact kn) (z:a.den v.e=x:=by exact dn) (j:b.den v.e=y:=by exact dn):W trees Q (.test .lss a b t e) v:=by subst z;subst j;exact Dw hc q
theorem Ki (j:W trees Q e v) (hc:¬(x<y):=by exact kn) (z:a.den v.e=x:=by exact dn) (q:b.den v.e=y:=by exact dn):W trees Q (.test .lss a b t e) v:=by subst z;subst q;exact KA hc j
theorem le (z:x<=y->W trees Q t v) (j:¬(x<=y)->W trees Q e v) (A:a.den v.e=x:=by exact dn) (q:b.den v.e=y:=by exact dn):W trees Q (.test .leq a b t e) v:=by subst A;subst q;exact Ex Iff.rfl z j
theorem Ew (q:W trees Q t v) (hc:x<=y:=by exact kn) (z:a.den v.e=x:=by exact dn) (j:b.den v.e=y:=by exact dn):W trees Q (.test .leq a b t e) v:=by subst z;subst j;exact Dw hc q
theorem gt (z:x>y->W trees Q t v) (j:¬(x>y)->W trees Q e v) (A:a.den v.e=x:=by exact dn) (q:b.den v.e=y:=by exact dn):W trees Q (.test .gtr a b t e) v:=by subst A;subst q;exact Ex Iff.rfl z j
theorem gtN (j:W trees Q e v) (hc:¬(x>y):=by exact kn) (z:a.den v.e=x:=by exact dn) (q:b.den v.e=y:=by exact dn):W trees Q (.test .gtr a b t e) v:=by subst z;subst q;exact KA hc j
theorem ge (z:x>=y->W trees Q t v) (j:¬(x>=y)->W trees Q e v) (A:a.den v.e=x:=by exact dn) (q:b.den v.e=y:=by exact dn):W trees Q (.test .geq a b t e) v:=by subst A;subst q;exact Ex Iff.rfl z j
theorem Dy (q:W trees Q t v) (hc:x>=y:=by exact kn) (z:a.den v.e=x:=by exact dn) (j:b.den v.e=y:=by exact dn):W trees Q (.test .geq a b t e) v:=by subst z;subst j;exact Dw hc q
theorem LN (j:W trees Q e v) (hc:¬(x>=y):=by exact kn) (z:a.den v.e=x:=by exact dn) (q:b.den v.e=y:=by exact dn):W trees Q (.test .geq a b t e) v:=by subst z;subst q;exact KA hc j
theorem eq (z:x=y->W trees Q t v) (j:¬(x=y)->W trees Q e v) (A:a.den v.e=x:=by exact dn) (q:b.den v.e=y:=by exact dn):W trees Q (.test .eql a b t e) v:=by subst A;subst q;exact Ex Iff.rfl z j
theorem B4 (q:W trees Q t v) (hc:x=y:=by exact kn) (z:a.den v.e=x:=by exact dn) (j:b.den v.e=y:=by exact dn):W trees Q (.test .eql a b t e) v:=by subst z;subst j;exact Dw hc q
theorem AE (j:W trees Q e v) (hc:¬(x=y):=by exact kn) (z:a.den v.e=x:=by exact dn) (q:b.den v.e=y:=by exact dn):W trees Q (.test .eql a b t e) v:=by subst z;subst q;exact KA hc j
theorem ne (z:x≠y->W trees Q t v) (j:¬(x≠y)->W trees Q e v) (A:a.den v.e=x:=by exact dn) (q:b.den v.e=y:=by exact dn):W trees Q (.test .neq a b t e) v:=by subst A;subst q;exact Ex Iff.rfl z j
theorem neY (q:W trees Q t v) (hc:x≠y:=by exact kn) (z:a.den v.e=x:=by exact dn) (j:b.den v.e=y:=by exact dn):W trees Q (.test .neq a b t e) v:=by subst z;subst j;exact Dw hc q
theorem BM (j:W trees Q e v) (hc:¬(x≠y):=by exact kn) (z:a.den v.e=x:=by exact dn) (q:b.den v.e=y:=by exact dn):W trees Q (.test .neq a b t e) v:=by subst z;subst q;exact KA hc j
end
section
variable {i:Nat} {n':Int} {s:List Nat}
theorem sn (x n:Int) (j:x=n->W trees Q t v) (q:¬x=n->W trees Q e v) (z:v.n.getD i 0=x:=by rfl) (A:n'=n:=by rfl):W trees Q (.B9 i n' t e) v:=by subst z;subst A;exact Ex Iff.rfl j q
theorem AL (x n:Int) (j:W trees Q t v) (hc:x=n:=by exact kn) (q:v.n.getD i 0=x:=by rfl) (z:n'=n:=by rfl):W trees Q (.B9 i n' t e) v:=by subst q;subst z;exact Dw hc j
theorem NZ (x n:Int) (j:W trees Q e v) (hc:¬x=n:=by exact kn) (q:v.n.getD i 0=x:=by rfl) (z:n'=n:=by rfl):W trees Q (.B9 i n' t e) v:=by subst q;subst z;exact KA hc j
theorem ss (x:List Nat) (q:x=s->W trees Q t v) (j:¬x=s->W trees Q e v) (z:v.s.getD i []=x:=by rfl):W trees Q (.sets i s t e) v:=by subst z;exact Ex Iff.rfl q j
theorem Mh (x:List Nat) (j:W trees Q t v) (hc:x=s:=by first|rfl|assumption) (q:v.s.getD i []=x:=by rfl):W trees Q (.sets i s t e) v:=by subst q;exact Dw hc j
variable {p q:Aa}
theorem seY (x y:List Nat) (j:W trees Q t v) (hc:x=y:=by first|rfl|assumption) (A:Bq v.e p=x:=by rfl) (z:Bq v.e q=y:=by rfl):W trees Q (.FN p q t e) v:=by subst A;subst z;exact Dw hc j
end
theorem el {l:Nat} {j:ST} {sh:List CK} {ps:List PV} {w:Aj} {j':Int} (B:(v.l.getD l [])[j'.toNat]?=some ps) (q:W trees Q k (v.app (w.fit (HQ sh)))) (x:j.den v.e=j':=by exact dn) (A:0<=j':=by exact kn) (z:CP sh ps=some w:=by rfl):W trees Q (.elem l j sh k) v:=by
 show Tree.wp _ _ _ _
 show Xl _ _ _ _
 unfold Xl
 rw [x,B]
 simp only [z]
 exact ⟨A,q⟩
theorem ll {l:Nat} {t:ST} (x:Int) (L:List (List PV)) (j:W trees Q k v) (q:t.den v.e=x:=by exact dn) (hl:v.l.getD l []=L:=by rfl) (h:x=(L.length:Int):=by first|rfl|exact kn):W trees Q (.Bs l t k) v:=by subst q;subst hl;exact Dw h j
theorem sl {s lo j:Nat} (S:List Nat) (q:W trees Q k (v.app {n:=[(S.length:Int)]})) (hs:v.s.getD s []=S:=by rfl) (hl:lo=0:=by rfl) (x:j=64:=by rfl) (h:S.length<=64:=by first|omega|(simp;done)):W trees Q (.BT s lo j k) v:=by subst hs;subst hl;subst x;exact Dw ⟨Nat.zero_le _,h⟩ q
theorem ca {x y:Aa} (X Y:List Nat) (j:W trees Q k (v.app {s:=[X++Y]})) (z:Bq v.e x=X:=by rfl) (q:Bq v.e y=Y:=by rfl) (h:X.length+Y.length<=1048576:=by first|omega|(simp only [lA,lC,lN];omega) |(simp;done)):W trees Q (.cat x y k) v:=by subst z;subst q;exact Dw h j
theorem bu {t:ST} {n:Nat} (x m:Int) (q:W trees Q k (v.app {n:=[x+m]})) (z:t.den v.e=x:=by exact dn) (j:(n:Int)=m:=by rfl) (h:x+m<=1048576:=by omega):W trees Q (.bump t n k) v:=by subst z;subst j;exact Dw h q
theorem de {ps:List AK} {sh:List CK} (l:List (List PV)) (j:W trees Q k (v.app {n:=[(l.length:Int)],l:=[l]})) (h:C3 v.e sh ps=some l:=by first|rfl|repeat (first|refine Gl ?_|refine Bi ?_ ?_|refine AbC ?_ ?_ ?_|refine AgD ?_|refine Ab4 ?_ ?_|refine Xr ?_ ?_|exact Ae2 dn|rfl)):W trees Q (.JY ps sh k) v:=by
 show Jz _ _
 rw [h];exact j
theorem dL {ps:List AK} {sh:List CK} (l0:List (List PV)) (j:∀l,l=l0->W trees Q k (v.app {n:=[(l.length:Int)],l:=[l]})) (h:C3 v.e sh ps=some l0:=by first|rfl|repeat (first|refine Gl ?_|refine Bi ?_ ?_|refine AbC ?_ ?_ ?_|refine AgD ?_|refine Ab4 ?_ ?_|refine Xr ?_ ?_|exact Ae2 dn|rfl)):W trees Q (.JY ps sh k) v:=de l0 (j l0 rfl) h
theorem fr {z:Nat×Nat×Nat×Nat×Nat} (j:W trees Q k v):W trees Q (.Ou z k) v:=j
theorem md {j:List (Aa×List Aa)} {sh:List CK} (l:List (List Nat×List PV)) (q:W trees Q k (v.app {m:=[l]})) (h:CB v.e sh j=some l:=by rfl):W trees Q (.K4 j sh k) v:=by
 show Jz _ _
 rw [h];exact q
theorem up {m:Nat} {key:Aa} {cs:List Aa} {sh:List CK} (ps:List PV) (j:W trees Q k (v.app {m:=[By (v.m.getD m []) (Bq v.e key) ps]})) (h:Cw v.e sh cs=some ps:=by first|rfl|repeat (first|refine Xr ?_ ?_|exact Ae2 dn|rfl)):W trees Q (.up m key cs sh k) v:=by
 show Jz _ _
 rw [h];exact j
theorem lh {m:Nat} {key:Aa} {sh:List CK} {ps:List PV} {w:Aj} (q:Bj (v.m.getD m []) (Bq v.e key)=some ps) (j:W trees Q t (v.app (w.fit (HQ sh)))) (x:CP sh ps=some w:=by rfl):W trees Q (.look m key sh t e) v:=by
 show Tree.wp _ _ _ _
 show OZ _ _ _ _ _
 unfold OZ
 rw [q]
 simp only [x]
 exact j
theorem lm {m:Nat} {key:Aa} {sh:List CK} (q:Bj (v.m.getD m []) (Bq v.e key)=none) (j:W trees Q e v):W trees Q (.look m key sh t e) v:=by
 show Tree.wp _ _ _ _
 show OZ _ _ _ _ _
 unfold OZ
 rw [q]
 exact j
section
variable {c alt alt':Nat} {τ:CI} {u:CN} {v' w:Aj}
theorem ch (x:∀Q:Out->Prop,Q (alt,w)->Ej trees c v' Q) (q:W trees Q k (v.app (w.fit u))) (j:τ.vals v.e=v':=by exact vn):W trees Q (.call c alt τ u k e) v:=by
 show Ej trees c (τ.vals v.e) _
 rw [j]
 exact x _ (by simp only [if_true];exact q)
theorem cm (z:∀Q:Out->Prop,Q (alt',w)->Ej trees c v' Q) (q:W trees Q e v) (j:alt'≠alt:=by decide) (x:τ.vals v.e=v':=by exact vn):W trees Q (.call c alt τ u k e) v:=by
 show Ej trees c (τ.vals v.e) _
 rw [x]
 exact z _ (by rw [if_neg j];exact q)
theorem Ai {j:List Nat} (w:Aj) (h:Q (alt,w)) (q:τ.vals v.e=w:=by exact vn):W trees Q (.leaf alt j τ) v:=by
 show Q _
 rw [q];exact h
end
end
def EC (j:List Int):Tree->Option (Nat×List Int)
 |.leaf a _ ⟨ts,[],[],[]⟩=>some (a,ts.map fun t=>t.den (Aj.e ⟨j,[],[],[]⟩))
 |.B9 i n t e=>if j.getD i 0=n then EC j t else EC j e
 |.test .lss a b t e=>if a.den (Aj.e ⟨j,[],[],[]⟩)<b.den (Aj.e ⟨j,[],[],[]⟩)then EC j t else EC j e
 |.test .eql a b t e=>if a.den (Aj.e ⟨j,[],[],[]⟩)=b.den (Aj.e ⟨j,[],[],[]⟩)then EC j t else EC j e
 |.test .neq a b t e=>if a.den (Aj.e ⟨j,[],[],[]⟩)≠b.den (Aj.e ⟨j,[],[],[]⟩)then EC j t else EC j e
 |_=>none
theorem DQ {trees:Nat->Tree} {Q:Out->Prop} {j:List Int} {a:Nat} {ms:List Int}:∀(t:Tree),EC j t=some (a,ms)->Q (a,⟨ms,[],[],[]⟩)->W trees Q t ⟨j,[],[],[]⟩
 |.leaf b nw ⟨ts,[],[],[]⟩,h,hq=>by
  simp only [EC,oI,Prod.mk.injEq]at h
  obtain ⟨v,q⟩:=h
  subst v;subst q;exact hq
 |.B9 i n t e,h,hq=>by
  simp only [EC]at h
  refine sn (j.getD i 0) n (fun k=>?_) fun k=>?_
  ·rw [if_pos k]at h;exact DQ t h hq
  ·rw [if_neg k]at h;exact DQ e h hq
 |.test .lss a b t e,h,hq=>by
  simp only [EC]at h
  refine lt (a.den (Aj.e ⟨j,[],[],[]⟩)) (b.den (Aj.e ⟨j,[],[],[]⟩)) (fun k=>?_) (fun k=>?_) rfl rfl
  ·rw [if_pos k]at h;exact DQ t h hq
  ·rw [if_neg k]at h;exact DQ e h hq
 |.test .eql a b t e,h,hq=>by
  simp only [EC]at h
  refine eq (a.den (Aj.e ⟨j,[],[],[]⟩)) (b.den (Aj.e ⟨j,[],[],[]⟩)) (fun k=>?_) (fun k=>?_) rfl rfl
  ·rw [if_pos k]at h;exact DQ t h hq
  ·rw [if_neg k]at h;exact DQ e h hq
 |.test .neq a b t e,h,hq=>by
  simp only [EC]at h
  refine ne (a.den (Aj.e ⟨j,[],[],[]⟩)) (b.den (Aj.e ⟨j,[],[],[]⟩)) (fun k=>?_) (fun k=>?_) rfl rfl
  ·rw [if_pos k]at h;exact DQ t h hq
  ·rw [if_neg k]at h;exact DQ e h hq
theorem Ok.num {trees:Nat->Tree} {c:Nat} {j:List Int} {R:Out->Prop} {t:Tree} {a:Nat} {ms:List Int} (v:trees c=t) (h:EC j t=some (a,ms)) (q:R (a,⟨ms,[],[],[]⟩)):Ok trees c ⟨j,[],[],[]⟩ R:=.of v (DQ t h q)
attribute [irreducible] W
end
end Go.AM
namespace Go.AM.K
section
abbrev Rs:=List (List PV)
abbrev Mp:=List (List Nat×List PV)
theorem asm {p:Prop} (h:p:=by assumption):p:=h
abbrev v0:Aj:=⟨[],[],[],[]⟩
theorem om {p:Prop} (h:p:=by omega):p:=h
abbrev Row:=List PV
inductive E where
 |node (k o t v:Int) (s:List Nat) (a:List E)
mutual
def E.enc:E->Row
 |.node k o t v s a=>[.int .i64 k,.int .i64 o,.int .i64 t,.str s,.int .i32 v,.list 6 (E.Ab a)]
def E.Ab:List E->List Row
 |[]=>[]
 |e::l=>e.enc::E.Ab l
end
mutual
def E.nodes:E->Nat
 |.node k _ _ _ _ a=>(if k=0 then 0 else 1)+E.Ad a
def E.Ad:List E->Nat
 |[]=>0
 |e::l=>e.nodes+E.Ad l
end
mutual
def E.high:E->Nat
 |.node _ _ _ _ _ a=>1+E.Bu a
def E.Bu:List E->Nat
 |[]=>0
 |e::l=>max e.high (E.Bu l)
end
def E0:E:=.node 0 0 0 0 [] []
theorem E.AA:∀l,(E.Ab l).length=l.length
 |[]=>rfl
 |_::l=>by simp only [E.Ab,lC,E.AA l]
theorem E.Fc:∀(l:List E) (i:Nat),(E.Ab l)[i]?=(l[i]?).map E.enc
 |[],i=>by simp [E.Ab]
 |e::l,0=>by simp [E.Ab]
 |e::l,i+1=>by simp only [E.Ab,List.getElem?_cons_succ];exact E.Fc l i
theorem E.get (a:List E) (j:Int) (x:0<=j) (q:j<((E.Ab a).length:Int)):∃(k o t v:Int) (s:List Nat) (b:List E),(E.Ab a)[j.toNat]?=some [.int .i64 k,.int .i64 o,.int .i64 t,.str s,.int .i32 v,.list 6 (E.Ab b)]/\a[j.toNat]?=some (.node k o t v s b):=by
 rw [E.AA]at q
 have h:j.toNat<a.length:=by omega
 rcases he:a[j.toNat]with ⟨k,o,t,v,s,b⟩
 exact ⟨k,o,t,v,s,b,by rw [E.Fc,List.getElem?_eq_getElem h,he];rfl,by rw [List.getElem?_eq_getElem h,he]⟩
theorem E.K3:∀{l:List E} {i:Nat} {e:E},l[i]?=some e->e.nodes+E.Ad (l.drop (i+1))=E.Ad (l.drop i)
 |[],i,e,h=>by simp at h
 |x::l,0,e,h=>by simp at h;subst h;simp [E.Ad]
 |x::l,i+1,e,h=>by
  simp only [List.getElem?_cons_succ]at h
  simpa using E.K3 h
theorem E.JJ:∀{l:List E} {i:Nat} {e:E},l[i]?=some e->e.high<=E.Bu l
 |[],i,e,h=>by simp at h
 |x::l,0,e,h=>by simp at h;subst h;simp only [E.Bu];omega
 |x::l,i+1,e,h=>by
  simp only [List.getElem?_cons_succ]at h
  have:=E.JJ h
  simp only [E.Bu];omega
abbrev Ctx:=List Nat->Option (Int×Int×Int)
def Ctx.Ld (Γ:Ctx) (s:List Nat) (x:Int×Int×Int):Ctx:=fun n=>if n=s then some x else Γ n
theorem Hj {Γ:Ctx} {s x}:Γ.Ld s x s=some x:=if_pos rfl
theorem DY {Γ:Ctx} {s x n} (h:n≠s):Γ.Ld s x n=Γ n:=if_neg h
def vn (i:Nat):List Nat:=if i<10 then [118,48+i]else [118,49+(i-10)/10,48+i%10]
def names:List (List Nat):=[[107],[97],[102],[115],[112],[98],[110],[116],[99],[104],[120],[121],[113,113,57],[113,113,56]]++(List.range 24).map vn
def Nm (s:List Nat):Prop:=s∈names
instance {s:List Nat}:Decidable (Nm s):=by unfold Nm;infer_instance
theorem Nm.len {s:List Nat} (h:Nm s):s.length<=3:=by
 have:∀s∈names,s.length<=3:=by decide
 exact this s h
theorem Nm.vn {i:Nat} (h:i<24):Nm (vn i):=by
 have:∀i,i<24->K.vn i∈names:=by decide
 exact this i h
theorem Af2 {i j:Nat} (v:i<24) (q:j<24) (h:vn i=vn j):i=j:=by
 have:∀i,i<24->∀j,j<24->vn i=vn j->i=j:=by decide
 exact this i v j q h
def Sk (o t u:Int):Prop:=((o=1∨o=3)/\(t=1∨t=2)/\u=t)∨(o=2/\(t=1∨t=3)/\u=t)∨(o=4/\t=1/\u=2)∨(o=5/\t=2/\u=1)
def HZ (o t u:Int):Prop:=((o=10∨o=11∨o=22∨o=23)/\(t=1∨t=2)/\u=t)∨((o=12∨o=13∨o=14∨o=20∨o=21)/\t=1/\u=1)∨((o=15∨o=16)/\t=2/\u=2)
 ∨((o=17∨o=18∨o=19)/\(t=1∨t=3)/\u=t)∨((o=24∨o=25)/\1<=t/\t<=3/\u=3)∨((o=26∨o=27∨o=28∨o=29)/\(t=1∨t=2)/\u=3)
instance {o t u}:Decidable (Sk o t u):=by unfold Sk;infer_instance
instance {o t u}:Decidable (HZ o t u):=by unfold HZ;infer_instance
def Fx (v:Int):Prop:=∃x:Nat,x<256/\v=x*16384-100000
theorem Fx.mk {x v:Int} (q:0<=x) (j:x<=255) (h:v=x*16384-100000):Fx v:=⟨x.toNat,by omega,by omega⟩
inductive TR (Δ:List Nat->Int×Int×Int->Prop):Int->E->Prop
 |num {t v:Int}:1<=t->t<=3->(t=3->v=0∨v=1)->(t=2->Fx v)->-200000<=v/\v<=5000000->TR Δ t (.node 1 0 t v [] [])
 |id {o:Int}:1<=o->o<=7->TR Δ 1 (.node 3 o 0 0 [] [])
 |var {s:List Nat} {k t i:Int}:Nm s->(k=2∨k=3)->1<=t->t<=3->Δ s (k,t,i)->TR Δ t (.node 2 0 0 0 s [])
 |un {o t u:Int} {a:E}:Sk o t u->TR Δ t a->TR Δ u (.node 4 o 0 0 [] [a])
 |bin {o t u:Int} {a b:E}:HZ o t u->TR Δ t a->TR Δ t b->TR Δ u (.node 5 o 0 0 [] [a,b])
 |cond {t:Int} {a b c:E}:TR Δ 3 a->TR Δ t b->TR Δ t c->TR Δ t (.node 6 0 0 0 [] [a,b,c])
 |load {s:List Nat} {t i:Int} {a:E}:Nm s->1<=t->t<=3->Δ s (0,t,i)->TR Δ 1 a->TR Δ t (.node 7 0 0 0 s [a])
 |call {i:Int} {a b:E}:Δ [104] (1,1,i)->TR Δ 1 a->TR Δ 1 b->TR Δ 1 (.node 8 0 0 0 [104] [a,b])
 |ca0 {t:Int} {s:List Nat}:(∀s z,Δ s z)->Nm s->1<=t/\t<=3->TR Δ t (.node 8 0 0 0 s [])
 |ca1 {t:Int} {s:List Nat} {a:E}:(∀s z,Δ s z)->Nm s->1<=t/\t<=3->TR Δ 1 a->TR Δ t (.node 8 0 0 0 s [a])
abbrev T (Γ:Ctx):Int->E->Prop:=TR fun s z=>Γ s=some z
theorem Ctx.SE {Γ:Ctx} (h:∀s z,Γ s=some z):False:=by
 have j:=h [] (0,0,0)
 rw [h [] (1,0,0)]at j
 simp at j
def F (d:Int):Nat:=if d<=1 then 1 else if d=2 then 4 else 13
theorem Afv (d:Int):1<=F d:=by
 unfold F
 repeat' split
 all_goals omega
theorem NS {d:Int} (q:¬d<=1) (j:d<=3):1+3*F (d-1)<=F d:=by
 have:d=2∨d=3:=by omega
 rcases this with h|h<;>subst h<;>decide
def CU (Γ:Ctx) (t d k o ty v:Int) (s:List Nat) (A:List Row):Prop:=
 ∃a:List E,A=E.Ab a/\T Γ t (.node k o ty v s a)/\(E.node k o ty v s a).nodes<=F d/\((E.node k o ty v s a).high:Int)<=2*max d 1-1
section
variable {Γ:Ctx}
theorem CU.leaf {t d k o ty v:Int} {s:List Nat} (h:T Γ t (.node k o ty v s [])):CU Γ t d k o ty v s []:=by
 refine ⟨[],rfl,h,?_,?_⟩
 ·have:=Afv d
  simp only [E.nodes,E.Ad];split<;>omega
 ·simp only [E.high,E.Bu];omega
theorem CU.num {t d v:Int} (j:1<=t) (q:t<=3) (x:t=3->v=0∨v=1) (hf:t=2->Fx v) (hb: -200000<=v/\v<=5000000):CU Γ t d 1 0 t v [] []:=.leaf (.num j q x hf hb)
theorem CU.id {d o:Int} (j:1<=o) (q:o<=7):CU Γ 1 d 3 o 0 0 [] []:=.leaf (.id j q)
theorem CU.var {t d k i:Int} {s:List Nat} (x:Nm s) (j:k=2∨k=3) (q:1<=t) (v:t<=3) (h:Γ s=some (k,t,i)):CU Γ t d 2 0 0 0 s []:=.leaf (.var x j q v h)
theorem CU.mono {t d j k o ty v:Int} {s:List Nat} {A:List Row} (h:CU Γ t d k o ty v s A) (hd:d<=max j 1):CU Γ t j k o ty v s A:=by
 obtain ⟨a,x,q,B,z⟩:=h
 refine ⟨a,x,q,?_,by omega⟩
 have:F d<=F j:=by
  unfold F
  repeat' split
  all_goals omega
 omega
def Be (k o ty v:Int) (s:List Nat) (A:List Row):Row:=[.int .i64 k,.int .i64 o,.int .i64 ty,.str s,.int .i32 v,.list 6 A]
theorem Em {k o ty v:Int} {s:List Nat} {A:List Row} {a:List E} (h:A=E.Ab a):Be k o ty v s A=(E.node k o ty v s a).enc:=by subst h;rfl
theorem CU.un {d t u o j x q v1:Int} {v:List Nat} {z:List Row} (h:CU Γ t (d-1) j x q v1 v z) (A:Sk o t u) (I:¬d<=1) (B:d<=3):CU Γ u d 4 o 0 0 [] [Be j x q v1 v z]:=by
 obtain ⟨a,J,C,M,L⟩:=h
 refine ⟨[.node j x q v1 v a],by simp only [E.Ab,Em J],.un A C,?_,?_⟩
 ·have:=NS I B
  have H:¬(4:Int)=0:=by decide
  rw [E.nodes,if_neg H]
  simp only [E.Ad]at*;omega
 ·rw [E.high];simp only [E.Bu]at*;omega
theorem CU.bin {d t u o j H v v1 A C q x:Int} {z B:List Nat} {I J:List Row} (h:CU Γ t (d-1) j H v v1 z I) (g:CU Γ t (d-1) A C q x B J) (L:HZ o t u) (R:¬d<=1) (N:d<=3):
  CU Γ u d 5 o 0 0 [] [Be j H v v1 z I,Be A C q x B J]:=by
 obtain ⟨a,U,P,X,V⟩:=h
 obtain ⟨b,O,M,Y,Z⟩:=g
 refine ⟨[.node j H v v1 z a,.node A C q x B b],by simp only [E.Ab,Em U,Em O],.bin L P M,?_,?_⟩
 ·have:=NS R N
  have Q:¬(5:Int)=0:=by decide
  rw [E.nodes,if_neg Q]
  simp only [E.Ad]at*;omega
 ·rw [E.high];simp only [E.Bu]at*;omega
theorem CU.call {d i j H v v1 A C q x:Int} {z B:List Nat} {I J:List Row} (R:¬d<=1) (N:d<=3) (L:Γ [104]=some (1,1,i)) (h:CU Γ 1 (d-1) j H v v1 z I) (g:CU Γ 1 (d-1) A C q x B J):
  CU Γ 1 d 8 0 0 0 [104] [Be j H v v1 z I,Be A C q x B J]:=by
 obtain ⟨a,U,P,X,V⟩:=h
 obtain ⟨b,O,M,Y,Z⟩:=g
 refine ⟨[.node j H v v1 z a,.node A C q x B b],by simp only [E.Ab,Em U,Em O],.call L P M,?_,?_⟩
 ·have:=NS R N
  have Q:¬(8:Int)=0:=by decide
  rw [E.nodes,if_neg Q]
  simp only [E.Ad]at*;omega
 ·rw [E.high];simp only [E.Bu]at*;omega
theorem CU.cond {d t j C H v1 M B q J z I v x:Int} {L A N:List Nat} {O Q P:List Row} (V:¬d<=1) (h3:d<=3) (h:CU Γ 3 (d-1) j C H v1 L O) (g:CU Γ t (d-1) M B q J A Q) (f:CU Γ t (d-1) z I v x N P):
  CU Γ t d 6 0 0 0 [] [Be j C H v1 L O,Be M B q J A Q,Be z I v x N P]:=by
 obtain ⟨a,X,U,hn,hh⟩:=h
 obtain ⟨b,gA,Y,gn,gh⟩:=g
 obtain ⟨c,R,Z,fn,fh⟩:=f
 refine ⟨[.node j C H v1 L a,.node M B q J A b,.node z I v x N c],by simp only [E.Ab,Em X,Em gA,Em R],.cond U Y Z,?_,?_⟩
 ·have:=NS V h3
  have e4:¬(6:Int)=0:=by decide
  rw [E.nodes,if_neg e4]
  simp only [E.Ad]at*;omega
 ·rw [E.high];simp only [E.Bu]at*;omega
def Idx (Γ:Ctx) (d:Int) (A:List Row):Prop:=
 ∃a:List E,A=E.Ab a/\T Γ 1 (.node 5 17 0 0 [] a)/\(E.node 5 17 0 0 [] a).nodes<=2+F (d-1)/\((E.node 5 17 0 0 [] a).high:Int)<=2*max (d-1) 1
theorem Idx.mk {d n j x q v1:Int} {v:List Nat} {z:List Row} (h:CU Γ 1 (d-1) j x q v1 v z) (hb: -200000<=n/\n<=5000000):Idx Γ d [Be j x q v1 v z,Be 1 0 1 n [] []]:=by
 obtain ⟨a,C,A,I,H⟩:=h
 refine ⟨[.node j x q v1 v a,.node 1 0 1 n [] []],by simp only [E.Ab,Em C];rfl,.bin (by decide) A (.num (by decide) (by decide) (fun h=>absurd h (by decide)) (fun h=>absurd h (by decide)) hb),?_,?_⟩
 ·have B:¬(5:Int)=0:=by decide
  rw [E.nodes,if_neg B]
  have:(E.node 1 0 1 n [] []).nodes=1:=rfl
  simp only [E.Ad,this]at*;omega
 ·have:(E.node 1 0 1 n [] []).high=1:=rfl
  rw [E.high];simp only [E.Bu,this]at*;omega
theorem CU.load {d t i:Int} {s:List Nat} {j:List Row} (x:¬d<=1) (B:d<=3) (hs:Nm s) (q:1<=t) (v:t<=3) (C:Γ s=some (0,t,i)) (h:Idx Γ d j):CU Γ t d 7 0 0 0 s [Be 5 17 0 0 [] j]:=by
 obtain ⟨a,H,z,J,I⟩:=h
 refine ⟨[.node 5 17 0 0 [] a],by simp only [E.Ab,Em H],.load hs q v C z,?_,?_⟩
 ·have:=NS x B
  have:=Afv (d-1)
  have A:¬(7:Int)=0:=by decide
  rw [E.nodes,if_neg A]
  simp only [E.Ad]at*;omega
 ·rw [E.high];simp only [E.Bu]at*;omega
end
def PG (Γ:Ctx) (t:Int) (s:List Nat):Prop:=∃k:Int,Γ s=some (k,t,0)/\(k=2∨k=3)/\Nm s
def Aqj (Γ:Ctx) (f q:Int) (V:List Row):Prop:=∀j:Int,0<=j->j<q->∃(nm:List Nat) (t:Int),V[j.toNat]?=some [.str nm,.int .i64 t]/\PG Γ t nm/\(f<=j->Γ nm=some (3,t,0))/\1<=t/\t<=3
def HY (Γ:Ctx) (t:Int) (L:List Row):Prop:=∀j:Int,0<=j->j<(L.length:Int)->∃nm:List Nat,L[j.toNat]?=some [.str nm]/\PG Γ t nm
theorem HY.one {Γ:Ctx} {t:Int} {s:List Nat} (h:PG Γ t s):HY Γ t [[.str s]]:=fun j v q=>by
 simp only [lC,lN]at q
 have:j=0:=by omega
 subst this;exact ⟨s,rfl,h⟩
theorem HY.snoc {Γ:Ctx} {t:Int} {L:List Row} {s:List Nat} (g:HY Γ t L) (h:PG Γ t s):HY Γ t (L++[[.str s]]):=fun j q v=>by
 simp only [lA,lC,lN]at v
 by_cases hj:j<(L.length:Int)
 ·obtain ⟨nm,g1,g2⟩:=g j q hj
  exact ⟨nm,by rw [List.getElem?_append_left om];exact g1,g2⟩
 ·have:j.toNat=L.length:=by omega
  exact ⟨s,by rw [this];simp,h⟩
structure Jp (Γ:Ctx) (call:Int):Prop where
 a:Γ [97]=some (0,1,0)
 f:Γ [102]=some (0,2,1)
 s:Γ [115]=some (0,1,2)
 p:Γ [112]=some (0,1,3)
 b:Γ [98]=some (0,3,4)
 h:call=1->∃i,Γ [104]=some (1,1,i)
def G (d:Int):Int:=if d<=1 then 3 else if d=2 then 12 else 40
theorem GV (d:Int):3<=G d/\G d<=40:=by
 unfold G
 repeat' split
 all_goals omega
theorem KX (d:Int) (j:d<=3):d<=1∨1+3*G (d-1)<=G d:=by
 have:d<=1∨d=2∨d=3:=by omega
 rcases this with h|h|h
 ·exact .inl h
 ·subst h;exact .inr (by decide)
 ·subst h;exact .inr (by decide)
def TZ (Γ:Ctx) (d:Int) (A:List Row):Prop:=∃I,A=[Be 5 17 0 0 [] I]/\Idx Γ d I
section
variable {Γ:Ctx}
theorem CU.cast {t t' d k o ty v:Int} {s:List Nat} {A:List Row} (h:CU Γ t d k o ty v s A) (e:t'=t):CU Γ t' d k o ty v s A:=by subst e;exact h
theorem CU.var' {t d:Int} {s:List Nat} (h:PG Γ t s) (j:1<=t) (q:t<=3):CU Γ t d 2 0 0 0 s []:=by
 obtain ⟨k,g1,g2,g3⟩:=h
 exact .var g3 g2 j q g1
theorem TZ.mk {d:Int} {I:List Row} (h:Idx Γ d I):TZ Γ d [Be 5 17 0 0 [] I]:=⟨I,rfl,h⟩
theorem CU.Alj {d t i:Int} {s:List Nat} {A:List Row} (x:Γ s=some (0,t,i)) (h:TZ Γ d A) (hs:Nm s) (q:¬d<=1) (v:d<=3) (j:1<=t/\t<=3):CU Γ t d 7 0 0 0 s A:=by
 obtain ⟨I,rfl,h⟩:=h
 exact .load q v hs j.1 j.2 x h
theorem CU.call' {d q B C v1 J A v H:Int} {I z:List Nat} {x L:List Row} (M:¬d<=1) (N:d<=3) (j:∃i,Γ [104]=some (1,1,i)) (h:CU Γ 1 (d-1) q B C v1 I x) (g:CU Γ 1 (d-1) J A v H z L):
  CU Γ 1 d 8 0 0 0 [104] [Be q B C v1 I x,Be J A v H z L]:=by
 obtain ⟨i,j⟩:=j
 exact .call M N j h g
end
theorem PD {B:List (List PV)} (h:BB B) (i:Int) (z:0<=i) (x:i<B.length):∃n:Int,B[i.toNat]?=some [.int .u8 n]/\0<=n/\n<=255:=by
 obtain ⟨n,j,q,v⟩:=AcT h i z x
 exact ⟨n,v,j,q⟩
structure NX (Γ:Ctx) (f bl vl count left call loads:Int) (B V:List Row):Prop where
 hB:BB B
 hl:bl=B.length
 hvl:vl<=V.length
 He:0<=vl/\vl<=30
 hV:Aqj Γ f vl V
 hb:Jp Γ call
 hc:call=0∨call=1
 hd:loads=0∨loads=1
theorem Al4 {p:Prop} (h:p:=by
  first
  |assumption
  |(apply CU.mono;assumption;omega)
  |(apply CU.cast;assumption;omega)
  |(refine CU.num ?_ ?_ ?_ ?_ ?_<;>first|omega|(intro h;exfalso;omega) |(intro _;refine Fx.mk (x:=_) ?_ ?_ rfl<;>omega))
  |(refine CU.id ?_ ?_<;>omega)
  |(refine CU.var' ?_ ?_ ?_<;>first|assumption|omega)
  |(apply CU.un;assumption;all_goals first|omega|decide|(unfold Sk;omega))
  |(apply CU.bin;assumption;assumption;all_goals first|omega|decide|(unfold HZ;omega))
  |(refine CU.cond ?_ ?_ ?_ ?_ ?_<;>first|assumption|omega)
  |(refine CU.call' ?_ ?_ ?_ ?_ ?_<;>first|assumption|omega|(refine Jp.h (by assumption) ?_;omega))
  |(apply CU.Alj;(first|exact Jp.a (by assumption) |exact Jp.f (by assumption) |exact Jp.s (by assumption) |exact Jp.p (by assumption) |exact Jp.b (by assumption));assumption;decide;all_goals first|omega|decide)
  |(refine Idx.mk ?_ ?_;assumption;omega)
  |(refine TZ.mk ?_;assumption)
  |(refine HY.one ?_;first|assumption|(subst_vars;assumption))
  |(refine HY.snoc ?_ ?_<;>first|assumption|(subst_vars;assumption))
  |rfl
  |exact kn):p:=h
theorem fin {p:Prop} (h:p:=by first|exact Al4|(subst_vars;exact Al4)):p:=h
end
section
inductive S where
 |node (k o t b:Int) (nm:List Nat) (x y:E) (body els:List S)
mutual
def S.enc:S->Row
 |.node k o t b nm x y bo el=>.int .i64 k::.int .i64 o::.int .i64 t::.int .i64 b::.str nm::(x.enc++(y.enc++[.list 19 (S.Ab bo),.list 19 (S.Ab el)]))
def S.Ab:List S->List Row
 |[]=>[]
 |e::l=>e.enc::S.Ab l
end
mutual
def S.nodes:S->Nat
 |.node _ _ _ _ _ x y bo el=>1+x.nodes+y.nodes+S.Ad bo+S.Ad el
def S.Ad:List S->Nat
 |[]=>0
 |e::l=>e.nodes+S.Ad l
end
mutual
def S.deep:S->Nat
 |.node _ _ _ _ _ _ _ bo el=>1+max (S.Az bo) (S.Az el)
def S.Az:List S->Nat
 |[]=>0
 |e::l=>max e.deep (S.Az l)
end
theorem S.AA:∀l,(S.Ab l).length=l.length
 |[]=>rfl
 |_::l=>by simp only [S.Ab,lC,S.AA l]
theorem S.Fc:∀(l:List S) (i:Nat),(S.Ab l)[i]?=(l[i]?).map S.enc
 |[],i=>by simp [S.Ab]
 |e::l,0=>by simp [S.Ab]
 |e::l,i+1=>by simp only [S.Ab,List.getElem?_cons_succ];exact S.Fc l i
theorem S.TF:∀(l m:List S),S.Ab (l++m)=S.Ab l++S.Ab m
 |[],m=>rfl
 |e::l,m=>by simp only [List.cons_append,S.Ab,S.TF l m]
theorem S.MC:∀(l m:List S),S.Ad (l++m)=S.Ad l+S.Ad m
 |[],m=>by simp [S.Ad]
 |e::l,m=>by simp only [List.cons_append,S.Ad,S.MC l m];omega
theorem S.PA:∀(l m:List S),S.Az (l++m)=max (S.Az l) (S.Az m)
 |[],m=>by simp [S.Az]
 |e::l,m=>by simp only [List.cons_append,S.Az,S.PA l m];omega
def Vn (n:List Nat):Prop:=∃i:Nat,i<24/\n=vn i
theorem Vn.nm {n:List Nat} (h:Vn n):Nm n:=by obtain ⟨i,j,rfl⟩:=h;exact Nm.vn j
def Sm (q:Bool) (x:E):Prop:=x.high<=(bif q then 5 else 9)/\(q=true->x.nodes<=13)
theorem Sm.mk {x:E} (h:x.high<=5) (g:x.nodes<=13):Sm true x:=⟨h,fun _=>g⟩
theorem Sm.lo {q:Bool} {x:E} (h:Sm q x):Sm false x:=⟨by cases q<;>(have:=h.1;simp at this⊢;omega),fun h=>by cases h⟩
mutual
inductive Sn (q:Bool):Int->Int->Ctx->S->Ctx->Prop
 |var {lo pu Γ n t x}:Nm n->(q=true->Vn n)->Γ n=none->1<=t->t<=3->T Γ t x->Sm q x->Sn q lo pu Γ (.node 1 0 t 0 n x E0 [] []) (Γ.Ld n (3,t,0))
 |set {lo pu Γ n t x i}:Nm n->Γ n=some (3,t,i)->T Γ t x->Sm q x->Sn q lo pu Γ (.node 2 0 0 0 n x E0 [] []) Γ
 |store {lo Γ n t x y i}:Nm n->0<=i->i<=4->Γ n=some (0,t,i)->T Γ 1 x->T Γ t y->Sm q x->Sm q y->Sn q lo 0 Γ (.node 3 0 0 0 n x y [] []) Γ
 |atom {lo Γ n o x y i}:Nm n->i=0∨i=2->Γ n=some (0,1,i)->(o=10∨o=17∨o=18∨o=19∨o=22∨o=23)->T Γ 1 x->T Γ 1 y->Sm q x->Sm q y->Sn q lo 0 Γ (.node 4 o 0 0 n x y [] []) Γ
 |ife {lo pu Γ x bo el Γ1 Γ2}:T Γ 3 x->Sm q x->Ua q lo pu Γ bo Γ1->Ua q lo pu Γ el Γ2->Sn q lo pu Γ (.node 5 0 0 0 [] x E0 bo el) Γ
 |whl {lo pu Γ x b bo Γ1}:T Γ 3 x->Sm q x->1<=b->b<=4->Ua q 1 pu Γ bo Γ1->Sn q lo pu Γ (.node 6 0 0 b [] x E0 bo []) Γ
 |esc {lo pu Γ k}:k=7∨k=8->lo≠0->Sn q lo pu Γ (.node k 0 0 0 [] E0 E0 [] []) Γ
 |bar {lo Γ k}:k=9∨k=10->Sn q lo 0 Γ (.node k 0 0 0 [] E0 E0 [] []) Γ
 |Nd {lo Γ o}:o=1∨o=2->Sn q lo 0 Γ (.node 11 o 0 0 [] E0 E0 [] []) Γ
 |Uj {lo Γ n o t u x i}:Nm n->Γ n=some (3,t,i)->1<=t->t<=3->((o=1/\t=1/\u=3)∨((o=2∨o=3)/\t=3/\u=3)∨((o=5∨o=6)/\t≠3/\u=t))->T Γ u x->Sm q x->Sn q lo 0 Γ (.node 12 o 0 0 n x E0 [] []) Γ
 |Ui {lo Γ n t x y i}:Nm n->Γ n=some (3,t,i)->1<=t->t<=3->T Γ t x->T Γ 1 y->Sm q x->Sm q y->Sn q lo 0 Γ (.node 12 4 0 0 n x y [] []) Γ
inductive Ua (q:Bool):Int->Int->Ctx->List S->Ctx->Prop
 |nil {lo pu Γ}:Ua q lo pu Γ [] Γ
 |cons {lo pu Γ s Γ1 l Γ2}:Sn q lo pu Γ s Γ1->Ua q lo pu Γ1 l Γ2->Ua q lo pu Γ (s::l) Γ2
end
abbrev SOm:=Sn true
abbrev LOm:=Ua true
abbrev Fk:=Sn false
abbrev Fm:=Ua false
mutual
theorem Sn.loose {q:Bool} {lo pu:Int} {Γ Γ':Ctx} {s:S}:Sn q lo pu Γ s Γ'->Fk lo pu Γ s Γ'
 |.var h1 _ h2 h3 h4 h5 h6=>.var h1 (fun h=>by cases h) h2 h3 h4 h5 h6.lo
 |.set h1 h2 h3 h4=>.set h1 h2 h3 h4.lo
 |.store h1 h2 h3 h4 h5 h6 h7 h8=>.store h1 h2 h3 h4 h5 h6 h7.lo h8.lo
 |.atom h1 h2 h3 h4 h5 h6 h7 h8=>.atom h1 h2 h3 h4 h5 h6 h7.lo h8.lo
 |.ife h1 h2 h3 h4=>.ife h1 h2.lo (Ua.loose h3) (Ua.loose h4)
 |.whl h1 h2 h3 h4 h5=>.whl h1 h2.lo h3 h4 (Ua.loose h5)
 |.esc h1 h2=>.esc h1 h2
 |.bar h1=>.bar h1
 |.Nd h1=>.Nd h1
 |.Uj h1 h2 h3 h4 h5 h6 h7=>.Uj h1 h2 h3 h4 h5 h6 h7.lo
 |.Ui h1 h2 h3 h4 h5 h6 h7 h8=>.Ui h1 h2 h3 h4 h5 h6 h7.lo h8.lo
theorem Ua.loose {q:Bool} {lo pu:Int} {Γ Γ':Ctx} {l:List S}:Ua q lo pu Γ l Γ'->Fm lo pu Γ l Γ'
 |.nil=>.nil
 |.cons h g=>.cons (Sn.loose h) (Ua.loose g)
end
theorem Ua.snoc {q:Bool} {lo pu:Int} {Γ v j:Ctx} {l:List S} {s:S} (h:Ua q lo pu Γ l v) (g:Sn q lo pu v s j):Ua q lo pu Γ (l++[s]) j:=by
 induction l generalizing Γ with
 |nil=>cases h;exact .cons g .nil
 |cons x l ih=>cases h with|cons a b=>exact .cons a (ih b)
abbrev AS (k o t b:Int) (nm:List Nat) (A H v:Int) (j:List Nat) (z:Int) (X:List Row) (yk x I:Int) (q:List Nat) (C:Int) (Y:List Row) (B L:List Row):Row:=
 [.int .i64 k,.int .i64 o,.int .i64 t,.int .i64 b,.str nm,.int .i64 A,.int .i64 H,.int .i64 v,.str j,.int .i32 z,.list 6 X,.int .i64 yk,.int .i64 x,.int .i64 I,.str q,.int .i32 C,.list 6 Y,.list 19 B,.list 19 L]
def DW (lo pu D:Int) (Γ Γ':Ctx) (left left':Int) (j:Row):Prop:=∃s:S,j=s.enc/\SOm lo pu Γ s Γ'/\(s.nodes:Int)+40*left'<=40*left/\(s.deep:Int)<=D
def AR (lo pu D:Int) (Γ Γ':Ctx) (left left':Int) (R:List Row):Prop:=∃l:List S,R=S.Ab l/\LOm lo pu Γ l Γ'/\(S.Ad l:Int)+40*left'<=40*left/\(S.Az l:Int)<=D
def IE (lo pu D:Int) (Γ:Ctx) (left left':Int) (R:List Row):Prop:=∃Γ',AR lo pu D Γ Γ' left left' R
section
variable {lo pu D left left':Int} {Γ Γ':Ctx}
theorem AR.nil (h:0<=D/\left'<=left):AR lo pu D Γ Γ left left' []:=⟨[],rfl,.nil,by simp only [S.Ad];omega,by simp only [S.Az];omega⟩
theorem AR.snoc {q:Ctx} {j:Int} {R:List Row} {r:Row} (h:AR lo pu D Γ q left j R) (g:DW lo pu D q Γ' j left' r):AR lo pu D Γ Γ' left left' (R++[r]):=by
 obtain ⟨l,rfl,v,x,z⟩:=h
 obtain ⟨s,rfl,g1,g2,g3⟩:=g
 refine ⟨l++[s],by rw [S.TF];rfl,v.snoc g1,?_,?_⟩
 ·rw [S.MC];simp only [S.Ad];omega
 ·rw [S.PA];simp only [S.Az];omega
theorem AR.one {r:Row} (g:DW lo pu D Γ Γ' left left' r) (h:0<=D):AR lo pu D Γ Γ' left left' [r]:=(AR.nil (left':=left) ⟨h,Int.le_refl _⟩).snoc g
theorem AR.mono {q j v:Int} {R:List Row} (h:AR lo pu D Γ Γ' left left' R) (hd:D<=q/\left-left'<=j-v):AR lo pu q Γ Γ' j v R:=by
 obtain ⟨l,z,x,A,B⟩:=h
 exact ⟨l,z,x,by omega,by omega⟩
theorem IE.mk {R:List Row} (h:AR lo pu D Γ Γ' left left' R):IE lo pu D Γ left left' R:=⟨_,h⟩
theorem IE.nil (h:0<=D/\left'<=left):IE lo pu D Γ left left' []:=⟨_,AR.nil h⟩
theorem JR {Γ:Ctx} {t d k o ty v:Int} {s:List Nat} {A:List Row} (h:CU Γ t d k o ty v s A) (hd:d<=3):∃x:E,Be k o ty v s A=x.enc/\T Γ t x/\x.nodes<=13/\x.high<=5:=by
 obtain ⟨a,rfl,j,z,q⟩:=h
 refine ⟨_,rfl,j,?_,by omega⟩
 have:F d<=13:=by
  unfold F
  repeat' split
  all_goals omega
 omega
theorem AeW {Γ:Ctx} {A:List Row} (h:Idx Γ 3 A):∃x:E,Be 5 17 0 0 [] A=x.enc/\T Γ 1 x/\x.nodes<=6/\x.high<=4:=by
 obtain ⟨a,rfl,j,v,q⟩:=h
 refine ⟨_,rfl,j,?_,by omega⟩
 have:F (3-1)=4:=by decide
 omega
theorem E5:E0.nodes=0:=rfl
section
variable {k o t v k2 o2 t2 v2:Int} {s s2 n:List Nat} {A A2:List Row} {u d d2:Int}
theorem DW.var (h:CU Γ u d k o t v s A) (q:Vn n) (C:Γ n=none) (j:d<=3/\1<=u/\u<=3/\1<=D/\left'+1<=left):DW lo pu D Γ (Γ.Ld n (3,u,0)) left left' (AS 1 0 u 0 n k o t s v A 0 0 0 [] 0 [] [] []):=by
 obtain ⟨x,e,B,H,z⟩:=JR h j.1
 refine ⟨.node 1 0 u 0 n x E0 [] [],?_,.var q.nm (fun _=>q) C j.2.1 j.2.2.1 B (.mk z H),?_,?_⟩
 ·rw [S.enc,<-e];rfl
 ·simp only [S.nodes,S.Ad,E5];omega
 ·simp only [S.deep,S.Az];omega
theorem DW.set {i:Int} (h:CU Γ u d k o t v s A) (H:Nm n) (B:Γ n=some (3,u,i)) (z:d<=3/\1<=D/\left'+1<=left):DW lo pu D Γ Γ left left' (AS 2 0 0 0 n k o t s v A 0 0 0 [] 0 [] [] []):=by
 obtain ⟨x,e,q,C,j⟩:=JR h z.1
 refine ⟨.node 2 0 0 0 n x E0 [] [],?_,.set H B q (.mk j C),?_,?_⟩
 ·rw [S.enc,<-e];rfl
 ·simp only [S.nodes,S.Ad,E5];omega
 ·simp only [S.deep,S.Az];omega
theorem DW.store {i:Int} (h:Idx Γ 3 A) (g:CU Γ u d k2 o2 t2 v2 s2 A2) (J:Nm n) (I:Γ n=some (0,u,i)) (v:pu=0) (j:0<=i/\i<=4) (H:d<=3/\1<=D/\left'+1<=left):DW lo pu D Γ Γ left left' (AS 3 0 0 0 n 5 17 0 [] 0 A k2 o2 t2 s2 v2 A2 [] []):=by
 obtain ⟨x,e,B,N,M⟩:=AeW h
 obtain ⟨y,C,z,q,L⟩:=JR g H.1
 subst v
 refine ⟨.node 3 0 0 0 n x y [] [],?_,.store J j.1 j.2 I B z (.mk om om) (.mk L q),?_,?_⟩
 ·rw [S.enc,<-e,<-C];rfl
 ·simp only [S.nodes,S.Ad];omega
 ·simp only [S.deep,S.Az];omega
theorem DW.atom {i:Int} (h:Idx Γ 3 A) (g:CU Γ 1 d k2 o2 t2 v2 s2 A2) (I:Nm n) (B:Γ n=some (0,1,i)) (H:i=0∨i=2) (q:o=10∨o=17∨o=18∨o=19∨o=22∨o=23) (j:pu=0) (z:d<=3/\1<=D/\left'+1<=left):DW lo pu D Γ Γ left left' (AS 4 o 0 0 n 5 17 0 [] 0 A k2 o2 t2 s2 v2 A2 [] []):=by
 obtain ⟨x,e,J,O,N⟩:=AeW h
 obtain ⟨y,L,v,C,M⟩:=JR g z.1
 subst j
 refine ⟨.node 4 o 0 0 n x y [] [],?_,.atom I H B q J v (.mk om om) (.mk M C),?_,?_⟩
 ·rw [S.enc,<-e,<-L];rfl
 ·simp only [S.nodes,S.Ad];omega
 ·simp only [S.deep,S.Az];omega
theorem DW.ife {D1 D2 q j a2 b2:Int} {B L:List Row} (h:CU Γ 3 d k o t v s A) (hb:IE lo pu D1 Γ q j B) (I:IE lo pu D2 Γ a2 b2 L) (C:d<=3/\D1+1<=D/\D2+1<=D/\1+left'+(q-j)+(a2-b2)<=left):DW lo pu D Γ Γ left left' (AS 5 0 0 0 [] k o t s v A 0 0 0 [] 0 [] B L):=by
 obtain ⟨x,e,J,H,z⟩:=JR h C.1
 obtain ⟨U,M,rfl,O,P,Q⟩:=hb
 obtain ⟨R,N,rfl,g1,g2,g3⟩:=I
 refine ⟨.node 5 0 0 0 [] x E0 M N,?_,.ife J (.mk z H) O g1,?_,?_⟩
 ·rw [S.enc,<-e];rfl
 ·simp only [S.nodes,E5];omega
 ·simp only [S.deep];omega
theorem DW.whl {D1 z q b:Int} {B:List Row} (h:CU Γ 3 d k o t v s A) (hb:IE 1 pu D1 Γ z q B) (j:d<=3/\D1+1<=D/\1<=D/\1+left'+(z-q)<=left/\1<=b/\b<=4):DW lo pu D Γ Γ left left' (AS 6 0 0 b [] k o t s v A 0 0 0 [] 0 [] B []):=by
 obtain ⟨x,e,J,H,C⟩:=JR h j.1
 obtain ⟨O,I,rfl,L,M,N⟩:=hb
 refine ⟨.node 6 0 0 b [] x E0 I [],?_,.whl J (.mk C H) j.2.2.2.2.1 j.2.2.2.2.2 L,?_,?_⟩
 ·rw [S.enc,<-e];rfl
 ·simp only [S.nodes,S.Ad,E5];omega
 ·simp only [S.deep,S.Az];omega
theorem DW.esc (j:k=7∨k=8) (hl:lo≠0) (q:1<=D/\left'+1<=left):DW lo pu D Γ Γ left left' (AS k 0 0 0 [] 0 0 0 [] 0 [] 0 0 0 [] 0 [] [] []):=
 ⟨.node k 0 0 0 [] E0 E0 [] [],rfl,.esc j hl,by simp only [S.nodes,S.Ad,E5];omega,by simp only [S.deep,S.Az];omega⟩
theorem DW.bar (q:k=9∨k=10) (j:pu=0) (v:1<=D/\left'+1<=left):DW lo pu D Γ Γ left left' (AS k 0 0 0 [] 0 0 0 [] 0 [] 0 0 0 [] 0 [] [] []):=by
 subst j
 exact ⟨.node k 0 0 0 [] E0 E0 [] [],rfl,.bar q,by simp only [S.nodes,S.Ad,E5];omega,by simp only [S.deep,S.Az];omega⟩
theorem DW.Nd (q:o=1∨o=2) (j:pu=0) (v:1<=D/\left'+1<=left):DW lo pu D Γ Γ left left' (AS 11 o 0 0 [] 0 0 0 [] 0 [] 0 0 0 [] 0 [] [] []):=by
 subst j
 exact ⟨.node 11 o 0 0 [] E0 E0 [] [],rfl,.Nd q,by simp only [S.nodes,S.Ad,E5];omega,by simp only [S.deep,S.Az];omega⟩
theorem DW.Uj {w i op:Int} (h:CU Γ w d k o t v s A) (J:Nm n) (H:Γ n=some (3,u,i)) (q:(op=1/\u=1/\w=3)∨((op=2∨op=3)/\u=3/\w=3)∨((op=5∨op=6)/\u≠3/\w=u)) (z:pu=0) (j:d<=3/\1<=D/\left'+1<=left/\1<=u/\u<=3):DW lo pu D Γ Γ left left' (AS 12 op 0 0 n k o t s v A 0 0 0 [] 0 [] [] []):=by
 obtain ⟨x,e,C,I,B⟩:=JR h j.1
 subst z
 refine ⟨.node 12 op 0 0 n x E0 [] [],?_,.Uj J H j.2.2.2.1 j.2.2.2.2 q C (.mk B I),?_,?_⟩
 ·rw [S.enc,<-e];rfl
 ·simp only [S.nodes,S.Ad,E5];omega
 ·simp only [S.deep,S.Az];omega
theorem DW.Ui {i:Int} (h:CU Γ u d k o t v s A) (g:CU Γ 1 d2 k2 o2 t2 v2 s2 A2) (M:Nm n) (I:Γ n=some (3,u,i)) (z:pu=0) (j:d<=3/\d2<=3/\1<=D/\left'+1<=left/\1<=u/\u<=3):DW lo pu D Γ Γ left left' (AS 12 4 0 0 n k o t s v A k2 o2 t2 s2 v2 A2 [] []):=by
 obtain ⟨x,e,H,L,C⟩:=JR h j.1
 obtain ⟨y,J,B,q,N⟩:=JR g j.2.1
 subst z
 refine ⟨.node 12 4 0 0 n x y [] [],?_,.Ui M I j.2.2.2.2.1 j.2.2.2.2.2 H B (.mk C L) (.mk N q),?_,?_⟩
 ·rw [S.enc,<-e,<-J];rfl
 ·simp only [S.nodes,S.Ad];omega
 ·simp only [S.deep,S.Az];omega
end
theorem DW.mono {q j v:Int} {r:Row} (h:DW lo pu D Γ Γ' left left' r) (hd:D<=q/\left-left'<=j-v):DW lo pu q Γ Γ' j v r:=by
 obtain ⟨s,z,x,A,B⟩:=h
 exact ⟨s,z,x,by omega,by omega⟩
end
structure MS (E:Bool) (Γ:Ctx) (f K M bl pos vl count left call loads:Int) (B V:List Row):Prop where
 m:NX Γ f bl vl count left call loads B V
 fr:∀i:Nat,count<=i->i<24->Γ (vn i)=none
 c0:0<=count
 cl:count+left<=K
 l0:0<=left
 vc:vl<=count+3
 p0:0<=pos
 p1:pos+300*left<=M
 f0:0<=f
 kk:K<=16/\M<=20000
 ex:E=true->vl=V.length
theorem NX.at_ {Γ:Ctx} {f bl vl count left call loads:Int} {B V:List Row} (h:NX Γ f bl vl count left call loads B V) (c l:Int):NX Γ f bl vl c l call loads B V:=⟨h.hB,h.hl,h.hvl,h.He,h.hV,h.hb,h.hc,h.hd⟩
section
variable {E:Bool} {Γ:Ctx} {f K M bl pos vl count left call loads:Int} {B V:List Row}
theorem MS.mv {j left':Int} (h:MS E Γ f K M bl pos vl count left call loads B V) (k:0<=j/\0<=left'/\left'<=left/\j+300*left'<=M:=by exact kn):MS E Γ f K M bl j vl count left' call loads B V:=
 ⟨h.m.at_ _ _,h.fr,h.c0,by have:=h.cl;omega,k.2.1,h.vc,k.1,k.2.2.2,h.f0,h.kk,h.ex⟩
theorem MS.Fp (h:MS E Γ f K M bl pos vl count left call loads B V) (c l:Int):NX Γ f bl vl c l call loads B V:=h.m.at_ _ _
theorem Eo {Γ:Ctx} {n s:List Nat} {x z:Int×Int×Int} (h:Γ n=some z) (g:Γ s=none):Γ.Ld s x n=some z:=by
 rw [DY];exact h
 intro e;subst e;rw [g]at h;cases h
def Ext (vl:Int) (V q:List Row):Prop:=∀j:Int,0<=j->j<vl->q[j.toNat]?=V[j.toNat]?
theorem Ext.refl:Ext vl V V:=fun _ _ _=>rfl
theorem Ext.trans {q:Int} {x z:List Row} (h:Ext vl V x) (g:Ext q x z) (B:vl<=q):Ext vl V z:=fun j v A=>(g j v om).trans (h j v A)
theorem Ext.more {W:List Row} (h:0<=vl/\vl<=V.length):Ext vl V (V.take vl.toNat++W):=fun j v q=>by
 rw [List.getElem?_append_left (by rw [lT'];omega),List.getElem?_take,if_pos om]
theorem MS.more {v t:Int} {n:List Nat} (h:MS E Γ f K M bl pos vl count left call loads B V) (Y:n=vn count.toNat) (A:1<=t/\t<=3) (ad:count+left+1<=K)
  (k:0<=left/\0<=v/\v+300*left<=M):MS false (Γ.Ld n (3,t,0)) f K M bl v ((V.take vl.toNat++[[PV.str n,PV.int .i64 t]]).length:Nat) (count+1) left call loads B (V.take vl.toNat++[[PV.str n,PV.int .i64 t]]):=by
 subst Y
 have aa:=h.c0;have ac:=h.vc;have J:=h.m.He;have hvl:=h.m.hvl;have ab:=h.l0;have C:=h.kk
 have q:Γ (vn count.toNat)=none:=h.fr _ om om
 have z:((V.take vl.toNat++[[PV.str (vn count.toNat),PV.int .i64 t]]).length:Int)=vl+1:=by
  simp only [lA,lC,lN,lT'];omega
 rw [z]
 refine ⟨⟨h.m.hB,h.m.hl,by omega,by omega,?_,?_,h.m.hc,h.m.hd⟩,?_,by omega,by omega,by omega,by omega,k.2.1,k.2.2,h.f0,C,fun e=>by cases e⟩
 ·intro j I hj
  by_cases hjv:j<vl
  ·obtain ⟨nm,u,g1,⟨kk,g2,g3,O⟩,Z,Q,N⟩:=h.m.hV j I hjv
   exact ⟨nm,u,(Ext.more ⟨J.1,hvl⟩ j I hjv).trans g1,⟨kk,Eo g2 q,g3,O⟩,fun hf=>Eo (Z hf) q,Q,N⟩
  ·have:j=vl:=by omega
   subst this
   refine ⟨vn count.toNat,t,?_,⟨3,Hj,.inr rfl,Nm.vn om⟩,fun _=>Hj,A.1,A.2⟩
   rw [List.getElem?_append_right (by rw [lT'];omega),lT',show j.toNat-min j.toNat V.length=0 by omega];rfl
 ·obtain ⟨U,X,bs,L,R,P⟩:=h.m.hb
  exact ⟨Eo U q,Eo X q,Eo bs q,Eo L q,Eo R q,fun hc=>let ⟨i,H⟩:=P hc;⟨i,Eo H q⟩⟩
 ·intro i H x
  rw [DY]
  ·exact h.fr i om x
  ·intro e
   have:=Af2 x om e
   omega
theorem MS.Acd {j t:Int} {n:List Nat} (h:MS true Γ f K M bl pos vl count left call loads B V) (x:n=vn count.toNat) (v:1<=t/\t<=3) (q:count+left+1<=K)
  (k:0<=left/\0<=j/\j+300*left<=M):MS false (Γ.Ld n (3,t,0)) f K M bl j ((V++[[PV.str n,PV.int .i64 t]]).length:Nat) (count+1) left call loads B (V++[[PV.str n,PV.int .i64 t]]):=by
 have e:V.take vl.toNat=V:=List.take_of_length_le (by have:=h.ex rfl;omega)
 have:=h.more x v q k
 rw [e]at this;exact this
theorem Ext.Acd {W:List Row} (h:vl=V.length):Ext vl V (V++W):=fun j v q=>by rw [List.getElem?_append_left om]
theorem MS.back {L:Bool} {N:Ctx} {x z q v:Int} {A:List Row} (h:MS E Γ f K M bl pos vl count left call loads B V) (g:MS L N f K M bl x z q v call loads B A) (J:Ext vl V A) (hc:count<=q/\vl<=z):MS false Γ f K M bl x vl q v call loads B A:=
 ⟨⟨h.m.hB,h.m.hl,by have:=g.m.hvl;omega,h.m.He,fun j C H=>by
   obtain ⟨nm,u,g1,g2⟩:=h.m.hV j C H
   exact ⟨nm,u,(J j C H).trans g1,g2⟩,h.m.hb,h.m.hc,h.m.hd⟩,fun i O I=>h.fr i om I,g.c0,g.cl,g.l0,by have:=h.vc;omega,g.p0,g.p1,h.f0,h.kk,fun e=>by cases e⟩
theorem DW.decl {lo pu D l left' k o t v d u:Int} {s n:List Nat} {A:List Row} (j:MS E Γ f K M bl pos vl count left call loads B V) (h:CU Γ u d k o t v s A) (x:n=vn count.toNat) (q:d<=3/\1<=u/\u<=3/\1<=D/\left'+1<=l):DW lo pu D Γ (Γ.Ld n (3,u,0)) l left' (AS 1 0 u 0 n k o t s v A 0 0 0 [] 0 [] [] []):=by
 have z:=j.c0;have I:=j.cl;have C:=j.l0;have H:=j.kk
 subst x
 exact .var h ⟨count.toNat,by omega,rfl⟩ (j.fr _ om om) q
end
theorem Al3 {p:Prop} (h:p:=by
  first
  |assumption
  |(apply DW.mono;assumption;omega)
  |(apply AR.mono;assumption;omega)
  |(apply DW.set (d:=3);assumption;assumption;assumption;omega)
  |(apply DW.store (d:=3);assumption;assumption;decide;(first|exact Jp.a (by assumption) |exact Jp.f (by assumption) |exact Jp.s (by assumption) |exact Jp.p (by assumption) |exact Jp.b (by assumption));all_goals omega)
  |(apply DW.atom (d:=3);assumption;assumption;decide;(first|exact Jp.a (by assumption) |exact Jp.s (by assumption));all_goals omega)
  |(refine DW.esc ?_ ?_ ?_<;>omega)
  |(refine DW.bar ?_ ?_ ?_<;>omega)
  |(refine DW.Nd ?_ ?_ ?_<;>omega)
  |(apply DW.Uj (d:=3);assumption;assumption;assumption;all_goals omega)
  |(apply DW.Ui (d:=2) (d2:=2);assumption;assumption;assumption;assumption;all_goals omega)
  |(apply DW.ife (d:=3);assumption;assumption;(first|assumption|(apply IE.nil (D:=0) (left:=0) (left':=0);exact ⟨Int.le_refl 0,Int.le_refl 0⟩));omega)
  |(apply DW.whl (d:=3);assumption;assumption;omega)
  |exact Ext.refl
  |(apply Ext.trans;assumption;assumption;omega)
  |(apply Ext.trans;assumption;apply Ext.trans;assumption;assumption;all_goals omega)
  |exact kn):p:=h
theorem AB {p:Prop} (h:p:=by first|exact Al3|(subst_vars;exact Al3)):p:=h
end
section
def aΓ:Ctx:=fun s=>if s=[97]then some (0,1,0)else if s=[102]then some (0,2,1)else if s=[115]then some (0,1,2)else if s=[112]then some (0,1,3)else if s=[98]then some (0,3,4)else none
def fΓ:Ctx:=(aΓ.Ld [120] (2,1,0)).Ld [121] (2,1,0)
def pΓ:Ctx:=((aΓ.Ld [110] (2,1,0)).Ld [116] (2,2,0)).Ld [99] (2,3,0)
def bΓ (call:Int):Ctx:=if call=1 then pΓ.Ld [104] (1,1,0)else pΓ
def AG:List Row:=[[.str [97],.int .i64 1,.int .i64 1,.int .i64 8],[.str [102],.int .i64 1,.int .i64 2,.int .i64 4],[.str [115],.int .i64 2,.int .i64 1,.int .i64 8],[.str [112],.int .i64 3,.int .i64 1,.int .i64 4],[.str [98],.int .i64 2,.int .i64 3,.int .i64 4]]
def Aw:List Row:=[[.str [110],.int .i64 1],[.str [116],.int .i64 2],[.str [99],.int .i64 3]]
def Ez:List Row:=[[.str [120],.int .i64 1],[.str [121],.int .i64 1]]
theorem Alz {i:Nat} (h:i<24):fΓ (vn i)=none:=by
 have:∀i,i<24->fΓ (vn i)=none:=by decide
 exact this i h
theorem AmG {c:Int} {i:Nat} (h:i<24):bΓ c (vn i)=none:=by
 have q:∀i,i<24->pΓ (vn i)=none:=by decide
 have j:∀i,i<24->(pΓ.Ld [104] (1,1,0)) (vn i)=none:=by decide
 unfold bΓ
 split
 ·exact j i h
 ·exact q i h
section
variable {B:List Row} {bl pos count call:Int}
theorem MS.Apr (hB:BB B) (hl:bl=B.length) (h:0<=pos/\pos<=100):MS true fΓ 2 4 1400 bl pos 2 0 4 0 0 B [[PV.str [120],PV.int .i64 1],[PV.str [121],PV.int .i64 1]]:=by
 refine ⟨⟨hB,hl,by decide,by decide,?_,⟨rfl,rfl,rfl,rfl,rfl,fun h=>by cases h⟩,.inl rfl,.inl rfl⟩,fun i _ q=>Alz q,by decide,by decide,by decide,by decide,h.1,by omega,by decide,by decide,fun _=>rfl⟩
 intro j x v
 have:j=0∨j=1:=by omega
 rcases this with rfl|rfl
 ·exact ⟨[120],1,rfl,⟨2,rfl,.inl rfl,by decide⟩,fun h=>absurd h (by decide),by decide,by decide⟩
 ·exact ⟨[121],1,rfl,⟨2,rfl,.inl rfl,by decide⟩,fun h=>absurd h (by decide),by decide,by decide⟩
theorem MS.AcU (hB:BB B) (hl:bl=B.length) (h:0<=pos/\pos<=2000) (hc:0<=count/\count<=4) (q:call=0∨call=1):MS false (bΓ call) 3 16 19000 bl pos 3 count 12 call 1 B [[PV.str [110],PV.int .i64 1],[PV.str [116],PV.int .i64 2],[PV.str [99],PV.int .i64 3]]:=by
 have hb:Jp (bΓ call) call:=by
  rcases q with rfl|rfl
  ·exact ⟨rfl,rfl,rfl,rfl,rfl,fun h=>by cases h⟩
  ·exact ⟨rfl,rfl,rfl,rfl,rfl,fun _=>⟨0,rfl⟩⟩
 have v:bΓ call [110]=some (2,1,0)/\bΓ call [116]=some (2,2,0)/\bΓ call [99]=some (2,3,0):=by
  rcases q with rfl|rfl
  ·exact ⟨rfl,rfl,rfl⟩
  ·exact ⟨rfl,rfl,rfl⟩
 refine ⟨⟨hB,hl,by decide,by decide,?_,hb,q,.inr rfl⟩,fun i _ x=>AmG x,hc.1,by omega,by decide,by omega,h.1,by omega,by decide,by decide,fun e=>by cases e⟩
 intro j z A
 have:j=0∨j=1∨j=2:=by omega
 rcases this with rfl|rfl|rfl
 ·exact ⟨[110],1,rfl,⟨2,v.1,.inl rfl,by decide⟩,fun h=>absurd h (by decide),by decide,by decide⟩
 ·exact ⟨[116],2,rfl,⟨2,v.2.1,.inl rfl,by decide⟩,fun h=>absurd h (by decide),by decide,by decide⟩
 ·exact ⟨[99],3,rfl,⟨2,v.2.2,.inl rfl,by decide⟩,fun h=>absurd h (by decide),by decide,by decide⟩
end
def Kf (R:List Row) (k o y w:Int) (s:List Nat) (A:List Row):Prop:=∃(j:Ctx) (l:Int),AR 0 1 2 fΓ j 4 l R/\0<=l/\CU j 1 3 k o y w s A
theorem Kf.mk {j:Ctx} {l k o y w:Int} {R A:List Row} {s:List Nat} (h:AR 0 1 2 fΓ j 4 l R) (hl:0<=l) (g:CU j 1 3 k o y w s A):Kf R k o y w s A:=⟨_,_,h,hl,g⟩
theorem Kf.nil {k o y w:Int} {A:List Row} {s:List Nat} (g:CU fΓ 1 3 k o y w s A):Kf [] k o y w s A:=⟨_,4,AR.nil ⟨by decide,by decide⟩,by decide,g⟩
def Cr (Γ:Ctx) (R:List Row):Prop:=∃(j:Ctx) (l:Int),AR 0 0 4 Γ j 17 l R/\0<=l
theorem Cr.of {Γ j:Ctx} {l:Int} {R:List Row} (h:AR 0 0 3 Γ j 12 l R) (hl:0<=l):Cr Γ R:=⟨_,l+5,h.mono ⟨by decide,by omega⟩,by omega⟩
theorem Cr.nil {Γ:Ctx}:Cr Γ []:=⟨_,0,AR.nil ⟨by decide,by decide⟩,by decide⟩
theorem Cr.plus {Γ j:Ctx} {l v k o y w:Int} {s:List Nat} {A R:List Row} {q:Row} (h:AR 0 0 3 Γ j 12 l R) (hl:0<=l) (H:CU j 3 3 k o y w s A) (x:DW 0 0 3 j j (v+1) v q):
  Cr Γ (R++[AS 5 0 0 0 [] k o y s w A 0 0 0 [] 0 [] [AS 9 0 0 0 [] 0 0 0 [] 0 [] 0 0 0 [] 0 [] [] []] [],q]):=by
 have z:AR 0 0 4 Γ j 17 (l+5) R:=h.mono ⟨by decide,by omega⟩
 have hb:IE 0 0 1 j 2 1 [AS 9 0 0 0 [] 0 0 0 [] 0 [] 0 0 0 [] 0 [] [] []]:=.mk (AR.one (DW.bar (.inl rfl) rfl ⟨by decide,by decide⟩) (by decide))
 have C:DW 0 0 4 j j (l+5) (l+3) (AS 5 0 0 0 [] k o y s w A 0 0 0 [] 0 [] [AS 9 0 0 0 [] 0 0 0 [] 0 [] 0 0 0 [] 0 [] [] []] []):=
  DW.ife (d:=3) (D1:=1) (D2:=0) (a2:=0) (b2:=0) H hb (IE.nil ⟨by decide,by decide⟩) ⟨by decide,by decide,by decide,by omega⟩
 have B:DW 0 0 4 j j (l+3) l q:=x.mono ⟨by decide,by omega⟩
 have:=(z.snoc C).snoc B
 rw [List.append_assoc]at this
 exact ⟨_,l,this,hl⟩
theorem Cr.AjO {Γ:Ctx} {q k o y w:Int} {s:List Nat} {A:List Row} {j:Row} (x:CU Γ 3 3 k o y w s A) (v:DW 0 0 3 Γ Γ (q+1) q j):
  Cr Γ [AS 5 0 0 0 [] k o y s w A 0 0 0 [] 0 [] [AS 9 0 0 0 [] 0 0 0 [] 0 [] 0 0 0 [] 0 [] [] []] [],j]:=
 Cr.plus (R:=[]) (l:=12) (AR.nil ⟨by decide,by decide⟩) (by decide) x v
def C2 (g sub:Int):Prop:=(sub=1∨sub=2∨sub=4∨sub=8)/\g%sub=0
def hrow (P R:List Row) (k o y:Int) (s:List Nat) (w:Int) (A:List Row):Row:=[.str [104],.list 2 P,.int .i64 1,.list 19 R,.int .i64 k,.int .i64 o,.int .i64 y,.str s,.int .i32 w,.list 6 A]
def B5 (g sub:Int) (q P j R:List Row):Prop:=q=AG/\P=Aw/\0<R.length/\(g=4∨g=1∨g=2∨g=8∨g=6)/\C2 g sub/\
 ((j=[]/\Cr (bΓ 0) R)∨(∃(F:List Row) (k o y w:Int) (s:List Nat) (A:List Row),j=[hrow Ez F k o y s w A]/\Kf F k o y w s A/\Cr (bΓ 1) R))
theorem B5.a {g sub:Int} {R:List Row} (q:g=4∨g=1∨g=2∨g=8∨g=6) (hs:C2 g sub) (h:Cr (bΓ 0) R) (j:0<R.length):B5 g sub AG Aw [] R:=⟨rfl,rfl,j,q,hs,.inl ⟨rfl,h⟩⟩
theorem B5.b {g sub k o y w:Int} {s:List Nat} {P F A R:List Row} (v:g=4∨g=1∨g=2∨g=8∨g=6) (hs:C2 g sub) (j:P=Ez) (hf:Kf F k o y w s A) (h:Cr (bΓ 1) R) (q:0<R.length):B5 g sub AG Aw [hrow P F k o y s w A] R:=by
 subst j
 exact ⟨rfl,rfl,q,v,hs,.inr ⟨F,k,o,y,w,s,A,rfl,hf,h⟩⟩
theorem nv {trees:Nat->Tree} {Q:Out->Prop} {t:Tree} {v:Aj} (j:Aj) (h:W trees Q t j) (e:v=j:=by rfl):W trees Q t v:=by subst e;exact h
theorem MS.wide {E:Bool} {Γ:Ctx} {f K M M' bl pos vl count left call loads:Int} {B V:List Row} (h:MS E Γ f K M bl pos vl count left call loads B V) (k:M<=M'/\M'<=20000):MS E Γ f K M' bl pos vl count left call loads B V:=
 ⟨h.m,h.fr,h.c0,h.cl,h.l0,h.vc,h.p0,by have:=h.p1;omega,h.f0,⟨h.kk.1,k.2⟩,h.ex⟩
end
section
abbrev Rl:=List Nat->Int×Int×Int->Prop
def TL (Δ:Rl) (a:List E):Prop:=∀e∈a,∃t,TR Δ t e
section
variable {Δ:Rl} {t k o ty v:Int} {s:List Nat} {a:List E}
theorem TR.args (h:TR Δ t (.node k o ty v s a)):TL Δ a:=by
 cases h with
 |num=>intro e j;cases j
 |id=>intro e j;cases j
 |var=>intro e j;cases j
 |un _ h1=>intro e j;simp only [List.mem_cons,List.not_mem_nil,or_false]at j;subst j;exact ⟨_,h1⟩
 |bin _ h1 h2=>intro e j;simp only [List.mem_cons,List.not_mem_nil,or_false]at j;rcases j with rfl|rfl<;>first|exact ⟨_,h1⟩|exact ⟨_,h2⟩
 |cond h1 h2 h3=>intro e j;simp only [List.mem_cons,List.not_mem_nil,or_false]at j;rcases j with rfl|rfl|rfl<;>first|exact ⟨_,h1⟩|exact ⟨_,h2⟩|exact ⟨_,h3⟩
 |load _ _ _ _ h1=>intro e j;simp only [List.mem_cons,List.not_mem_nil,or_false]at j;subst j;exact ⟨_,h1⟩
 |call _ h1 h2=>intro e j;simp only [List.mem_cons,List.not_mem_nil,or_false]at j;rcases j with rfl|rfl<;>first|exact ⟨_,h1⟩|exact ⟨_,h2⟩
 |ca0=>intro e j;cases j
 |ca1 _ _ _ h1=>intro e j;simp only [List.mem_cons,List.not_mem_nil,or_false]at j;subst j;exact ⟨_,h1⟩
theorem TR.kind (h:TR Δ t (.node k o ty v s a)):1<=k/\k<=8/\a.length<=3:=by
 cases h<;>simp
theorem TR.nodes (h:TR Δ t (.node k o ty v s a)):(E.node k o ty v s a).nodes=1+E.Ad a:=by
 have:=h.kind
 rw [E.nodes,if_neg om]
theorem Dx:(E.node k o ty v s a).high=1+E.Bu a:=by rw [E.high]
theorem TL.get (h:TL Δ a) (j:Int) (x:0<=j) (z:j<((E.Ab a).length:Int)):∃(k o t v:Int) (s:List Nat) (b:List E) (u:Int),
  (E.Ab a)[j.toNat]?=some [.int .i64 k,.int .i64 o,.int .i64 t,.str s,.int .i32 v,.list 6 (E.Ab b)]/\TR Δ u (.node k o t v s b)/\(E.node k o t v s b).high<=E.Bu a/\1<=(E.node k o t v s b).nodes/\(E.node k o t v s b).nodes+E.Ad (a.drop (j+1).toNat)=E.Ad (a.drop j.toNat):=by
 obtain ⟨k,o,t,v,s,b,g1,g2⟩:=E.get a j x z
 obtain ⟨u,q⟩:=h _ (List.mem_of_getElem? g2)
 refine ⟨k,o,t,v,s,b,u,g1,q,E.JJ g2,by have:=q.nodes;omega,?_⟩
 rw [show (j+1).toNat=j.toNat+1 by omega]
 exact E.K3 g2
theorem JX {j:Int} (h:((E.Ab a).length:Int)<=j):E.Ad (a.drop j.toNat)=0:=by
 rw [E.AA]at h
 rw [List.drop_eq_nil_of_le om];rfl
theorem TR.len {Δ:Rl} (h:TL Δ a):(a.length:Int)<=E.Ad a:=by
 induction a with
 |nil=>simp [E.Ad]
 |cons e l ih=>
  have z:=ih fun x q=>h x (List.mem_cons_of_mem _ q)
  obtain ⟨u,j⟩:=h e List.mem_cons_self
  obtain ⟨k,o,t,v,s,b⟩:=e
  have:=j.nodes
  simp only [lC,E.Ad];omega
end
abbrev B3 (t:Int):Row:=[.int .i64 t]
inductive Ts (Γ:Ctx):List Int->List E->Prop
 |nil:Ts Γ [] []
 |cons {t:Int} {e:E} {ts:List Int} {a:List E}:T Γ t e->Ts Γ ts a->Ts Γ (t::ts) (e::a)
theorem Ts.len {Γ:Ctx}:∀{ts:List Int} {a:List E},Ts Γ ts a->ts.length=a.length
 |_,_,.nil=>rfl
 |_,_,.cons _ h=>by simp [h.len]
theorem Ts.at {Γ:Ctx}:∀{ts:List Int} {a:List E} (_:Ts Γ ts a) {i:Nat} {e:E},a[i]?=some e->∃t,ts[i]?=some t/\T Γ t e
 |_,_,.nil,i,e,h=>by simp at h
 |_,_,.cons h g,0,e,k=>by simp at k;subst k;exact ⟨_,rfl,h⟩
 |_,_,.cons h g,i+1,e,k=>by simpa using g.at (by simpa using k)
theorem Ts.get {Γ:Ctx} {ts:List Int} {a:List E} (h:Ts Γ ts a) (j:Int) (q:0<=j) (A:j<((E.Ab a).length:Int)):∃(k o t v:Int) (s:List Nat) (b:List E) (u:Int),
  (E.Ab a)[j.toNat]?=some [.int .i64 k,.int .i64 o,.int .i64 t,.str s,.int .i32 v,.list 6 (E.Ab b)]/\T Γ u (.node k o t v s b)/\(E.node k o t v s b).high<=E.Bu a/\ts[j.toNat]?=some u:=by
 obtain ⟨k,o,t,v,s,b,g1,g2⟩:=E.get a j q A
 obtain ⟨u,x,z⟩:=h.at g2
 exact ⟨k,o,t,v,s,b,u,g1,z,E.JJ g2,x⟩
theorem Ib {ts:List Int} {j u:Int} (h:ts[j.toNat]?=some u) (q:0<=j):(ts.take j.toNat).map B3++[[PV.int .i64 u]]=(ts.take (j+1).toNat).map B3:=by
 rw [show (j+1).toNat=j.toNat+1 by omega,List.take_add_one,h];simp [B3]
theorem Zt {ts:List Int} {j:Int} (h:(ts.length:Int)<=j):(ts.take j.toNat).map B3=ts.map B3:=by
 rw [List.take_of_length_le om]
theorem Sk.XJ {o t u:Int} (h:Sk o t u):1<=o/\o<=5/\1<=t/\t<=3/\1<=u/\u<=3:=by unfold Sk at h;omega
theorem HZ.XJ {o t u:Int} (h:HZ o t u):10<=o/\o<=29/\1<=t/\t<=3/\1<=u/\u<=3:=by unfold HZ at h;omega
section
variable {Γ:Ctx} {t k o ty v:Int} {s:List Nat} {a:List E}
theorem TR.inv {Δ:Rl} (h:TR Δ t (.node k o ty v s a)):
  (k=1/\o=0/\ty=t/\s=[]/\a=[]/\1<=t/\t<=3/\(t=3->v=0∨v=1)/\(t=2->Fx v)/\-200000<=v/\v<=5000000)∨
  (k=3/\ty=0/\v=0/\s=[]/\a=[]/\t=1/\1<=o/\o<=7)∨
  (k=2/\o=0/\ty=0/\v=0/\a=[]/\Nm s/\∃kk i,(kk=2∨kk=3)/\1<=t/\t<=3/\Δ s (kk,t,i))∨
  (k=4/\ty=0/\v=0/\s=[]/\∃j x A v1 B q w,a=[.node j x A v1 B q]/\Sk o w t/\TR Δ w (.node j x A v1 B q))∨
  (k=5/\ty=0/\v=0/\s=[]/\∃j x A v1 B q L I C J H b2 w,a=[.node j x A v1 B q,.node L I C J H b2]/\HZ o w t/\TR Δ w (.node j x A v1 B q)/\TR Δ w (.node L I C J H b2))∨
  (k=6/\o=0/\ty=0/\v=0/\s=[]/\∃j x A v1 B q L I C J H b2 P Q M N R O,a=[.node j x A v1 B q,.node L I C J H b2,.node P Q M N R O]/\TR Δ 3 (.node j x A v1 B q)/\TR Δ t (.node L I C J H b2)/\TR Δ t (.node P Q M N R O))∨
  (k=7/\o=0/\ty=0/\v=0/\Nm s/\∃j x A v1 B q i,a=[.node j x A v1 B q]/\1<=t/\t<=3/\Δ s (0,t,i)/\TR Δ 1 (.node j x A v1 B q))∨
  (k=8/\o=0/\ty=0/\v=0/\s=[104]/\∃j x A v1 B q L I C J H b2 i,a=[.node j x A v1 B q,.node L I C J H b2]/\t=1/\Δ [104] (1,1,i)/\TR Δ 1 (.node j x A v1 B q)/\TR Δ 1 (.node L I C J H b2))∨
  (k=8/\o=0/\ty=0/\v=0/\a=[]/\Nm s/\(1<=t/\t<=3)/\∀s z,Δ s z)∨
  (k=8/\o=0/\ty=0/\v=0/\Nm s/\∃j x A v1 B q,a=[.node j x A v1 B q]/\(1<=t/\t<=3)/\(∀s z,Δ s z)/\TR Δ 1 (.node j x A v1 B q)):=by
 cases h with
 |num h1 h2 h3 h4 h5=>exact .inl ⟨rfl,rfl,rfl,rfl,rfl,h1,h2,h3,h4,h5⟩
 |id h1 h2=>exact .inr (.inl ⟨rfl,rfl,rfl,rfl,rfl,rfl,h1,h2⟩)
 |var h1 h2 h3 h4 h5=>exact .inr (.inr (.inl ⟨rfl,rfl,rfl,rfl,rfl,h1,_,_,h2,h3,h4,h5⟩))
 |@un _ _ _ a h1 h2=>
  obtain ⟨_,_,_,_,_,_⟩:=a
  exact .inr (.inr (.inr (.inl ⟨rfl,rfl,rfl,rfl,_,_,_,_,_,_,_,rfl,h1,h2⟩)))
 |@bin _ _ _ a b h1 h2 h3=>
  obtain ⟨_,_,_,_,_,_⟩:=a
  obtain ⟨_,_,_,_,_,_⟩:=b
  exact .inr (.inr (.inr (.inr (.inl ⟨rfl,rfl,rfl,rfl,_,_,_,_,_,_,_,_,_,_,_,_,_,rfl,h1,h2,h3⟩))))
 |@cond _ a b c h1 h2 h3=>
  obtain ⟨_,_,_,_,_,_⟩:=a
  obtain ⟨_,_,_,_,_,_⟩:=b
  obtain ⟨_,_,_,_,_,_⟩:=c
  exact .inr (.inr (.inr (.inr (.inr (.inl ⟨rfl,rfl,rfl,rfl,rfl,_,_,_,_,_,_,_,_,_,_,_,_,_,_,_,_,_,_,rfl,h1,h2,h3⟩)))))
 |@load _ _ _ a h1 h2 h3 h4 h5=>
  obtain ⟨_,_,_,_,_,_⟩:=a
  exact .inr (.inr (.inr (.inr (.inr (.inr (.inl ⟨rfl,rfl,rfl,rfl,h1,_,_,_,_,_,_,_,rfl,h2,h3,h4,h5⟩))))))
 |@call _ a b h1 h2 h3=>
  obtain ⟨_,_,_,_,_,_⟩:=a
  obtain ⟨_,_,_,_,_,_⟩:=b
  exact .inr (.inr (.inr (.inr (.inr (.inr (.inr (.inl ⟨rfl,rfl,rfl,rfl,rfl,_,_,_,_,_,_,_,_,_,_,_,_,_,rfl,rfl,h1,h2,h3⟩)))))))
 |ca0 h1 h2 h3=>exact .inr (.inr (.inr (.inr (.inr (.inr (.inr (.inr (.inl ⟨rfl,rfl,rfl,rfl,rfl,h2,h3,h1⟩))))))))
 |@ca1 _ _ a h1 h2 h4 h3=>
  obtain ⟨_,_,_,_,_,_⟩:=a
  exact .inr (.inr (.inr (.inr (.inr (.inr (.inr (.inr (.inr ⟨rfl,rfl,rfl,rfl,h2,_,_,_,_,_,_,rfl,h4,h1,h3⟩))))))))
theorem T.inv (h:T Γ t (.node k o ty v s a)):
  (k=1/\o=0/\ty=t/\s=[]/\a=[]/\1<=t/\t<=3/\(t=3->v=0∨v=1)/\(t=2->Fx v)/\-200000<=v/\v<=5000000)∨
  (k=3/\ty=0/\v=0/\s=[]/\a=[]/\t=1/\1<=o/\o<=7)∨
  (k=2/\o=0/\ty=0/\v=0/\a=[]/\Nm s/\∃kk i,(kk=2∨kk=3)/\1<=t/\t<=3/\Γ s=some (kk,t,i))∨
  (k=4/\ty=0/\v=0/\s=[]/\∃j x z v1 A q w,a=[.node j x z v1 A q]/\Sk o w t/\T Γ w (.node j x z v1 A q))∨
  (k=5/\ty=0/\v=0/\s=[]/\∃j x z v1 A q J H B I C b2 w,a=[.node j x z v1 A q,.node J H B I C b2]/\HZ o w t/\T Γ w (.node j x z v1 A q)/\T Γ w (.node J H B I C b2))∨
  (k=6/\o=0/\ty=0/\v=0/\s=[]/\∃j x z v1 A q J H B I C b2 O P L M Q N,a=[.node j x z v1 A q,.node J H B I C b2,.node O P L M Q N]/\T Γ 3 (.node j x z v1 A q)/\T Γ t (.node J H B I C b2)/\T Γ t (.node O P L M Q N))∨
  (k=7/\o=0/\ty=0/\v=0/\Nm s/\∃j x z v1 A q i,a=[.node j x z v1 A q]/\1<=t/\t<=3/\Γ s=some (0,t,i)/\T Γ 1 (.node j x z v1 A q))∨
  (k=8/\o=0/\ty=0/\v=0/\s=[104]/\∃j x z v1 A q J H B I C b2 i,a=[.node j x z v1 A q,.node J H B I C b2]/\t=1/\Γ [104]=some (1,1,i)/\T Γ 1 (.node j x z v1 A q)/\T Γ 1 (.node J H B I C b2)):=by
 rcases TR.inv h with h|h|h|h|h|h|h|h|⟨_,_,_,_,_,_,_,h⟩|⟨_,_,_,_,_,_,_,_,_,_,_,_,_,h,_⟩
 ·exact .inl h
 ·exact .inr (.inl h)
 ·exact .inr (.inr (.inl h))
 ·exact .inr (.inr (.inr (.inl h)))
 ·exact .inr (.inr (.inr (.inr (.inl h))))
 ·exact .inr (.inr (.inr (.inr (.inr (.inl h)))))
 ·exact .inr (.inr (.inr (.inr (.inr (.inr (.inl h))))))
 ·exact .inr (.inr (.inr (.inr (.inr (.inr (.inr h))))))
 ·exact (Ctx.SE h).elim
 ·exact (Ctx.SE h).elim
theorem n1 {x:E}:E.Ad [x]=x.nodes:=by simp only [E.Ad];omega
theorem n2 {x y:E}:E.Ad [x,y]=x.nodes+y.nodes:=by simp only [E.Ad];omega
theorem n3 {x y z:E}:E.Ad [x,y,z]=x.nodes+y.nodes+z.nodes:=by simp only [E.Ad];omega
theorem g1 {x:E}:E.Bu [x]=x.high:=by simp only [E.Bu];omega
theorem g2 {x y:E}:E.Bu [x,y]=max x.high y.high:=by simp only [E.Bu];omega
theorem g3 {x y z:E}:E.Bu [x,y,z]=max x.high (max y.high z.high):=by simp only [E.Bu];omega
end
def Nl (s:List Nat):Tree->Option Nat
 |.leaf a _ ⟨[],[],[],[]⟩=>some a
 |.sets 0 l t e=>if s=l then Nl s t else Nl s e
 |_=>none
theorem Nk {trees:Nat->Tree} {Q:Out->Prop} {s:List Nat} {a:Nat}:∀(t:Tree),Nl s t=some a->Q (a,⟨[],[],[],[]⟩)->W trees Q t ⟨[],[s],[],[]⟩
 |.leaf b nw ⟨[],[],[],[]⟩,h,hq=>by
  simp only [Nl,oI]at h
  subst h;exact Ai ⟨[],[],[],[]⟩ hq rfl
 |.sets 0 l t e,h,hq=>by
  simp only [Nl]at h
  refine ss s (fun k=>?_) fun k=>?_
  ·rw [if_pos k]at h;exact Nk t h hq
  ·rw [if_neg k]at h;exact Nk e h hq
theorem Ok.str {trees:Nat->Tree} {c:Nat} {s:List Nat} {R:Out->Prop} {t:Tree} {a:Nat} (q:trees c=t) (h:Nl s t=some a) (j:R (a,⟨[],[],[],[]⟩)):Ok trees c ⟨[],[s],[],[]⟩ R:=.of q (Nk t h j)
structure Ck (Γ:Ctx) (al fl:Int) (Ar Fs:List Row) (m:List (List Nat×List PV)):Prop where
 see:∀s,Bj m s=(Γ s).map fun z=>[PV.int .i64 z.1,PV.int .i64 z.2.1,PV.int .i64 z.2.2]
 ha:al=Ar.length
 hf:fl=Fs.length
 ar:∀s t i,Γ s=some (0,t,i)->0<=i/\i<al/\∃(nm:List Nat) (sp ln:Int),Ar[i.toNat]?=some [.str nm,.int .i64 sp,.int .i64 t,.int .i64 ln]/\(i=0∨i=2->sp≠3)
 fn:∀i,Γ [104]=some (1,1,i)->0<=i/\i<fl/\∃(F:List Row) (k o y w:Int) (s:List Nat) (A:List Row),Fs[i.toNat]?=some [.str [104],.list 2 Ez,.int .i64 1,.list 19 F,.int .i64 k,.int .i64 o,.int .i64 y,.str s,.int .i32 w,.list 6 A]
theorem Ck.look {Γ:Ctx} {v fl:Int} {j q:List Row} {m:List (List Nat×List PV)} (h:Ck Γ v fl j q m) {s:List Nat} {k t i:Int} (g:Γ s=some (k,t,i)):Bj m s=some [PV.int .i64 k,PV.int .i64 t,PV.int .i64 i]:=by
 rw [h.see,g];rfl
theorem Ck.Ali {Γ:Ctx} {v fl:Int} {j q:List Row} {m:List (List Nat×List PV)} (h:Ck Γ v fl j q m) {s:List Nat} (g:Γ s=none):Bj m s=none:=by
 rw [h.see,g];rfl
theorem Pr (j:Int) (q:0<=j) (v:j<2):∃nm:List Nat,Ez[j.toNat]?=some [.str nm,.int .i64 1]:=by
 have:j=0∨j=1:=by omega
 rcases this with rfl|rfl
 ·exact ⟨[120],rfl⟩
 ·exact ⟨[121],rfl⟩
theorem SZ (j:Int) (q:0<=j) (v:j<2):([1,1].map B3)[j.toNat]?=some [PV.int .i64 1]:=by
 have:j=0∨j=1:=by omega
 rcases this with rfl|rfl<;>rfl
theorem Ts.none {Γ:Ctx} {ts:List Int} {a:List E} (h:Ts Γ ts a) (j:((E.Ab a).length:Int)<=0):ts=[]:=by
 rw [E.AA]at j
 have:=h.len
 exact List.eq_nil_of_length_eq_zero om
theorem Ts.end {Γ:Ctx} {ts:List Int} {a:List E} (h:Ts Γ ts a) {j:Int} (q:((E.Ab a).length:Int)<=j):(ts.take j.toNat).map B3=ts.map B3:=by
 rw [E.AA]at q
 exact Zt (by rw [h.len];omega)
theorem Ts.CQ {ts:List Int}:((ts.map B3).length:Int)=ts.length:=by simp
theorem S.len:∀l:List S,l.length<=S.Ad l
 |[]=>by simp
 |s::l=>by
  have:=S.len l
  obtain ⟨_,_,_,_,_,_,_,_,_⟩:=s
  simp only [lC,S.Ad,S.nodes];omega
end
section
def EOR (Δ:Rl) (e:E):Prop:=e=E0∨((∃t,TR Δ t e)/\e.high<=9)
abbrev EOk (Γ:Ctx) (e:E):Prop:=EOR (fun s z=>Γ s=some z) e
def No (k o t v:Int) (s:List Nat) (a:List E):Prop:=k=0/\o=0/\t=0/\v=0/\s=[]/\a=[]
theorem No.of {k o t v:Int} {s:List Nat} {a:List E} (h:E.node k o t v s a=E0):No k o t v s a:=by
 unfold E0 at h
 simp only [E.node.injEq]at h
 exact h
theorem No.eq {k o t v:Int} {s:List Nat} {a:List E} (h:No k o t v s a):E.node k o t v s a=E0:=by
 obtain ⟨rfl,rfl,rfl,rfl,rfl,rfl⟩:=h;rfl
section
variable {lo pu:Int} {Γ Γ':Ctx} {k o t b xk xo xt xv yk yo yt yv:Int} {nm xn yn:List Nat} {xa ya:List E} {bo el:List S}
theorem Fk.inv (h:Fk lo pu Γ (.node k o t b nm (.node xk xo xt xv xn xa) (.node yk yo yt yv yn ya) bo el) Γ'):
  (k=1/\o=0/\b=0/\No yk yo yt yv yn ya/\bo=[]/\el=[]/\Nm nm/\Γ nm=none/\1<=t/\t<=3/\T Γ t (.node xk xo xt xv xn xa)/\(E.node xk xo xt xv xn xa).high<=9/\Γ'=Γ.Ld nm (3,t,0))∨
  (k=2/\o=0/\t=0/\b=0/\No yk yo yt yv yn ya/\bo=[]/\el=[]/\Nm nm/\Γ'=Γ/\∃u i,Γ nm=some (3,u,i)/\T Γ u (.node xk xo xt xv xn xa)/\(E.node xk xo xt xv xn xa).high<=9)∨
  (k=3/\o=0/\t=0/\b=0/\bo=[]/\el=[]/\pu=0/\Nm nm/\Γ'=Γ/\∃u i,0<=i/\i<=4/\Γ nm=some (0,u,i)/\T Γ 1 (.node xk xo xt xv xn xa)/\T Γ u (.node yk yo yt yv yn ya)/\(E.node xk xo xt xv xn xa).high<=9/\(E.node yk yo yt yv yn ya).high<=9)∨
  (k=4/\t=0/\b=0/\bo=[]/\el=[]/\pu=0/\Nm nm/\Γ'=Γ/\∃i,(i=0∨i=2)/\Γ nm=some (0,1,i)/\(o=10∨o=17∨o=18∨o=19∨o=22∨o=23)/\T Γ 1 (.node xk xo xt xv xn xa)/\T Γ 1 (.node yk yo yt yv yn ya)/\(E.node xk xo xt xv xn xa).high<=9/\(E.node yk yo yt yv yn ya).high<=9)∨
  (k=5/\o=0/\t=0/\b=0/\nm=[]/\No yk yo yt yv yn ya/\T Γ 3 (.node xk xo xt xv xn xa)/\(E.node xk xo xt xv xn xa).high<=9/\Γ'=Γ/\∃j q,Fm lo pu Γ bo j/\Fm lo pu Γ el q)∨
  (k=6/\o=0/\t=0/\nm=[]/\No yk yo yt yv yn ya/\el=[]/\T Γ 3 (.node xk xo xt xv xn xa)/\(E.node xk xo xt xv xn xa).high<=9/\1<=b/\b<=4/\Γ'=Γ/\∃j,Fm 1 pu Γ bo j)∨
  ((k=7∨k=8)/\o=0/\t=0/\b=0/\nm=[]/\No xk xo xt xv xn xa/\No yk yo yt yv yn ya/\bo=[]/\el=[]/\lo≠0/\Γ'=Γ)∨
  ((k=9∨k=10)/\o=0/\t=0/\b=0/\nm=[]/\No xk xo xt xv xn xa/\No yk yo yt yv yn ya/\bo=[]/\el=[]/\pu=0/\Γ'=Γ)∨
  (k=11/\(o=1∨o=2)/\t=0/\b=0/\nm=[]/\No xk xo xt xv xn xa/\No yk yo yt yv yn ya/\bo=[]/\el=[]/\pu=0/\Γ'=Γ)∨
  (k=12/\t=0/\b=0/\No yk yo yt yv yn ya/\bo=[]/\el=[]/\pu=0/\Nm nm/\Γ'=Γ/\∃u w i,Γ nm=some (3,u,i)/\1<=u/\u<=3/\((o=1/\u=1/\w=3)∨((o=2∨o=3)/\u=3/\w=3)∨((o=5∨o=6)/\u≠3/\w=u))/\T Γ w (.node xk xo xt xv xn xa)/\(E.node xk xo xt xv xn xa).high<=9)∨
  (k=12/\o=4/\t=0/\b=0/\bo=[]/\el=[]/\pu=0/\Nm nm/\Γ'=Γ/\∃u i,Γ nm=some (3,u,i)/\1<=u/\u<=3/\T Γ u (.node xk xo xt xv xn xa)/\T Γ 1 (.node yk yo yt yv yn ya)/\(E.node xk xo xt xv xn xa).high<=9/\(E.node yk yo yt yv yn ya).high<=9):=by
 generalize hx:E.node xk xo xt xv xn xa=x at h⊢
 generalize hy:E.node yk yo yt yv yn ya=y at h⊢
 cases h with
 |var h1 _ h2 h3 h4 h5 h6=>exact .inl ⟨rfl,rfl,rfl,.of hy,rfl,rfl,h1,h2,h3,h4,h5,h6.1,rfl⟩
 |set h1 h2 h3 h4=>exact .inr (.inl ⟨rfl,rfl,rfl,rfl,.of hy,rfl,rfl,h1,rfl,_,_,h2,h3,h4.1⟩)
 |store h1 h2 h3 h4 h5 h6 h7 h8=>exact .inr (.inr (.inl ⟨rfl,rfl,rfl,rfl,rfl,rfl,rfl,h1,rfl,_,_,h2,h3,h4,h5,h6,h7.1,h8.1⟩))
 |atom h1 h2 h3 h4 h5 h6 h7 h8=>exact .inr (.inr (.inr (.inl ⟨rfl,rfl,rfl,rfl,rfl,rfl,h1,rfl,_,h2,h3,h4,h5,h6,h7.1,h8.1⟩)))
 |ife h1 h2 h3 h4=>exact .inr (.inr (.inr (.inr (.inl ⟨rfl,rfl,rfl,rfl,rfl,.of hy,h1,h2.1,rfl,_,_,h3,h4⟩))))
 |whl h1 h2 h3 h4 h5=>exact .inr (.inr (.inr (.inr (.inr (.inl ⟨rfl,rfl,rfl,rfl,.of hy,rfl,h1,h2.1,h3,h4,rfl,_,h5⟩)))))
 |esc h1 h2=>exact .inr (.inr (.inr (.inr (.inr (.inr (.inl ⟨h1,rfl,rfl,rfl,rfl,.of hx,.of hy,rfl,rfl,h2,rfl⟩))))))
 |bar h1=>exact .inr (.inr (.inr (.inr (.inr (.inr (.inr (.inl ⟨h1,rfl,rfl,rfl,rfl,.of hx,.of hy,rfl,rfl,rfl,rfl⟩)))))))
 |Nd h1=>exact .inr (.inr (.inr (.inr (.inr (.inr (.inr (.inr (.inl ⟨rfl,h1,rfl,rfl,rfl,.of hx,.of hy,rfl,rfl,rfl,rfl⟩))))))))
 |Uj h1 h2 h3 h4 h5 h6 h7=>exact .inr (.inr (.inr (.inr (.inr (.inr (.inr (.inr (.inr (.inl ⟨rfl,rfl,rfl,.of hy,rfl,rfl,rfl,h1,rfl,_,_,_,h2,h3,h4,h5,h6,h7.1⟩)))))))))
 |Ui h1 h2 h3 h4 h5 h6 h7 h8=>exact .inr (.inr (.inr (.inr (.inr (.inr (.inr (.inr (.inr (.inr ⟨rfl,rfl,rfl,rfl,rfl,rfl,rfl,h1,rfl,_,_,h2,h3,h4,h5,h6,h7.1,h8.1⟩)))))))))
theorem Fk.exprs {s:S} (h:Fk lo pu Γ s Γ'):∃k o t b nm x y bo el,s=.node k o t b nm x y bo el/\EOk Γ x/\EOk Γ y/\∃j q z v,Fm j pu Γ bo z/\Fm q pu Γ el v:=by
 cases h with
 |var h1 _ h2 h3 h4 h5 h6=>exact ⟨_,_,_,_,_,_,_,_,_,rfl,.inr ⟨⟨_,h5⟩,h6.1⟩,.inl rfl,0,0,_,_,.nil,.nil⟩
 |set h1 h2 h3 h4=>exact ⟨_,_,_,_,_,_,_,_,_,rfl,.inr ⟨⟨_,h3⟩,h4.1⟩,.inl rfl,0,0,_,_,.nil,.nil⟩
 |store h1 h2 h3 h4 h5 h6 h7 h8=>exact ⟨_,_,_,_,_,_,_,_,_,rfl,.inr ⟨⟨_,h5⟩,h7.1⟩,.inr ⟨⟨_,h6⟩,h8.1⟩,0,0,_,_,.nil,.nil⟩
 |atom h1 h2 h3 h4 h5 h6 h7 h8=>exact ⟨_,_,_,_,_,_,_,_,_,rfl,.inr ⟨⟨_,h5⟩,h7.1⟩,.inr ⟨⟨_,h6⟩,h8.1⟩,0,0,_,_,.nil,.nil⟩
 |ife h1 h2 h3 h4=>exact ⟨_,_,_,_,_,_,_,_,_,rfl,.inr ⟨⟨_,h1⟩,h2.1⟩,.inl rfl,_,_,_,_,h3,h4⟩
 |whl h1 h2 h3 h4 h5=>exact ⟨_,_,_,_,_,_,_,_,_,rfl,.inr ⟨⟨_,h1⟩,h2.1⟩,.inl rfl,_,0,_,_,h5,.nil⟩
 |esc h1 h2=>exact ⟨_,_,_,_,_,_,_,_,_,rfl,.inl rfl,.inl rfl,0,0,_,_,.nil,.nil⟩
 |bar h1=>exact ⟨_,_,_,_,_,_,_,_,_,rfl,.inl rfl,.inl rfl,0,0,_,_,.nil,.nil⟩
 |Nd h1=>exact ⟨_,_,_,_,_,_,_,_,_,rfl,.inl rfl,.inl rfl,0,0,_,_,.nil,.nil⟩
 |Uj h1 h2 h3 h4 h5 h6 h7=>exact ⟨_,_,_,_,_,_,_,_,_,rfl,.inr ⟨⟨_,h6⟩,h7.1⟩,.inl rfl,0,0,_,_,.nil,.nil⟩
 |Ui h1 h2 h3 h4 h5 h6 h7 h8=>exact ⟨_,_,_,_,_,_,_,_,_,rfl,.inr ⟨⟨_,h5⟩,h7.1⟩,.inr ⟨⟨_,h6⟩,h8.1⟩,0,0,_,_,.nil,.nil⟩
theorem Fm.get {l:List S} (j:Int) (h:Fm lo pu Γ (l.drop j.toNat) Γ') (z:0<=j) (q:j<((S.Ab l).length:Int)):∃(k o t b:Int) (nm:List Nat) (xk xo xt xv:Int) (xn:List Nat) (xa:List E) (yk yo yt yv:Int) (yn:List Nat) (ya:List E) (bo el:List S) (x:Ctx),
  (S.Ab l)[j.toNat]?=some [.int .i64 k,.int .i64 o,.int .i64 t,.int .i64 b,.str nm,.int .i64 xk,.int .i64 xo,.int .i64 xt,.str xn,.int .i32 xv,.list 6 (E.Ab xa),.int .i64 yk,.int .i64 yo,.int .i64 yt,.str yn,.int .i32 yv,.list 6 (E.Ab ya),.list 19 (S.Ab bo),.list 19 (S.Ab el)]/\
  Fk lo pu Γ (.node k o t b nm (.node xk xo xt xv xn xa) (.node yk yo yt yv yn ya) bo el) x/\Fm lo pu x (l.drop (j+1).toNat) Γ'/\
  S.Ad (l.drop j.toNat)=1+(E.node xk xo xt xv xn xa).nodes+(E.node yk yo yt yv yn ya).nodes+S.Ad bo+S.Ad el+S.Ad (l.drop (j+1).toNat)/\
  S.Az (l.drop j.toNat)=max (1+max (S.Az bo) (S.Az el)) (S.Az (l.drop (j+1).toNat)):=by
 rw [S.AA]at q
 have v:j.toNat<l.length:=by omega
 have hd:l.drop j.toNat=l[j.toNat]::l.drop (j+1).toNat:=by
  rw [show (j+1).toNat=j.toNat+1 by omega];exact List.drop_eq_getElem_cons v
 rw [hd]at h⊢
 generalize he:l[j.toNat]=s at h⊢
 obtain ⟨k,o,t,b,nm,⟨xk,xo,xt,xv,xn,xa⟩,⟨yk,yo,yt,yv,yn,ya⟩,bo,el⟩:=s
 cases h with
 |cons q h2=>
  exact ⟨k,o,t,b,nm,xk,xo,xt,xv,xn,xa,yk,yo,yt,yv,yn,ya,bo,el,_,by rw [S.Fc,List.getElem?_eq_getElem v,he];rfl,q,h2,rfl,rfl⟩
theorem Fk.parts (h:Fk lo pu Γ (.node k o t b nm (.node xk xo xt xv xn xa) (.node yk yo yt yv yn ya) bo el) Γ'):(∀e∈[E.node xk xo xt xv xn xa,.node yk yo yt yv yn ya],EOk Γ e)/\∃v H C B,Fm v pu Γ bo C/\Fm H pu Γ el B:=by
 obtain ⟨_,_,_,_,_,x,y,_,_,e,z,q,A⟩:=h.exprs
 simp only [S.node.injEq]at e
 obtain ⟨_,_,_,_,_,rfl,rfl,rfl,rfl⟩:=e
 refine ⟨fun e j=>?_,A⟩
 simp only [List.mem_cons,List.not_mem_nil,or_false]at j
 rcases j with rfl|rfl
 ·exact z
 ·exact q
theorem Bh {l:List S} {j:Int} (h:((S.Ab l).length:Int)<=j):S.Ad (l.drop j.toNat)=0/\S.Az (l.drop j.toNat)=0/\l.drop j.toNat=[]:=by
 rw [S.AA]at h
 rw [List.drop_eq_nil_of_le om];exact ⟨rfl,rfl,rfl⟩
theorem EL.get {a:List E} {Δ:Rl} (h:∀e∈a,EOR Δ e) (j:Int) (x:0<=j) (z:j<((E.Ab a).length:Int)):∃(k o t v:Int) (s:List Nat) (b:List E) (u:Int),
  (E.Ab a)[j.toNat]?=some [.int .i64 k,.int .i64 o,.int .i64 t,.str s,.int .i32 v,.list 6 (E.Ab b)]/\(k≠0->TR Δ u (.node k o t v s b))/\(k≠0->(E.node k o t v s b).high<=9)/\(k=0->(E.node k o t v s b).nodes=0)/\(E.node k o t v s b).nodes+E.Ad (a.drop (j+1).toNat)=E.Ad (a.drop j.toNat):=by
 obtain ⟨k,o,t,v,s,b,g1,g2⟩:=E.get a j x z
 have q:=E.K3 g2
 rw [show j.toNat+1=(j+1).toNat by omega]at q
 rcases h _ (List.mem_of_getElem? g2)with e|⟨⟨u,hu⟩,hh⟩
 ·obtain ⟨rfl,rfl,rfl,rfl,rfl,rfl⟩:=No.of e
  exact ⟨0,0,0,0,[],[],0,g1,fun h=>absurd rfl h,fun h=>absurd rfl h,fun _=>rfl,q⟩
 ·refine ⟨k,o,t,v,s,b,u,g1,fun _=>hu,fun _=>hh,fun h=>?_,q⟩
  have:=hu.kind;omega
theorem Fk.All (h:Fk lo pu Γ (.node k o t b nm (.node xk xo xt xv xn xa) (.node yk yo yt yv yn ya) bo el) Γ') (j:k=1):o=0/\b=0/\No yk yo yt yv yn ya/\bo=[]/\el=[]/\Nm nm/\Γ nm=none/\1<=t/\t<=3/\T Γ t (.node xk xo xt xv xn xa)/\(E.node xk xo xt xv xn xa).high<=9/\Γ'=Γ.Ld nm (3,t,0):=by
 rcases h.inv with hv|hv|hv|hv|hv|hv|hv|hv|hv|hv|hv
 ·exact hv.2
 ·exfalso;have:=hv.1;omega
 ·exfalso;have:=hv.1;omega
 ·exfalso;have:=hv.1;omega
 ·exfalso;have:=hv.1;omega
 ·exfalso;have:=hv.1;omega
 ·exfalso;have:=hv.1;omega
 ·exfalso;have:=hv.1;omega
 ·exfalso;have:=hv.1;omega
 ·exfalso;have:=hv.1;omega
 ·exfalso;have:=hv.1;omega
theorem Fk.Alm (h:Fk lo pu Γ (.node k o t b nm (.node xk xo xt xv xn xa) (.node yk yo yt yv yn ya) bo el) Γ') (j:k=2):o=0/\t=0/\b=0/\No yk yo yt yv yn ya/\bo=[]/\el=[]/\Nm nm/\Γ'=Γ/\∃u i,Γ nm=some (3,u,i)/\T Γ u (.node xk xo xt xv xn xa)/\(E.node xk xo xt xv xn xa).high<=9:=by
 rcases h.inv with hv|hv|hv|hv|hv|hv|hv|hv|hv|hv|hv
 ·exfalso;have:=hv.1;omega
 ·exact hv.2
 ·exfalso;have:=hv.1;omega
 ·exfalso;have:=hv.1;omega
 ·exfalso;have:=hv.1;omega
 ·exfalso;have:=hv.1;omega
 ·exfalso;have:=hv.1;omega
 ·exfalso;have:=hv.1;omega
 ·exfalso;have:=hv.1;omega
 ·exfalso;have:=hv.1;omega
 ·exfalso;have:=hv.1;omega
theorem Fk.Aib (h:Fk lo pu Γ (.node k o t b nm (.node xk xo xt xv xn xa) (.node yk yo yt yv yn ya) bo el) Γ') (j:k=3):o=0/\t=0/\b=0/\bo=[]/\el=[]/\pu=0/\Nm nm/\Γ'=Γ/\∃u i,0<=i/\i<=4/\Γ nm=some (0,u,i)/\T Γ 1 (.node xk xo xt xv xn xa)/\T Γ u (.node yk yo yt yv yn ya)/\(E.node xk xo xt xv xn xa).high<=9/\(E.node yk yo yt yv yn ya).high<=9:=by
 rcases h.inv with hv|hv|hv|hv|hv|hv|hv|hv|hv|hv|hv
 ·exfalso;have:=hv.1;omega
 ·exfalso;have:=hv.1;omega
 ·exact hv.2
 ·exfalso;have:=hv.1;omega
 ·exfalso;have:=hv.1;omega
 ·exfalso;have:=hv.1;omega
 ·exfalso;have:=hv.1;omega
 ·exfalso;have:=hv.1;omega
 ·exfalso;have:=hv.1;omega
 ·exfalso;have:=hv.1;omega
 ·exfalso;have:=hv.1;omega
theorem Fk.Alo (h:Fk lo pu Γ (.node k o t b nm (.node xk xo xt xv xn xa) (.node yk yo yt yv yn ya) bo el) Γ') (j:k=4):t=0/\b=0/\bo=[]/\el=[]/\pu=0/\Nm nm/\Γ'=Γ/\∃i,(i=0∨i=2)/\Γ nm=some (0,1,i)/\(o=10∨o=17∨o=18∨o=19∨o=22∨o=23)/\T Γ 1 (.node xk xo xt xv xn xa)/\T Γ 1 (.node yk yo yt yv yn ya)/\(E.node xk xo xt xv xn xa).high<=9/\(E.node yk yo yt yv yn ya).high<=9:=by
 rcases h.inv with hv|hv|hv|hv|hv|hv|hv|hv|hv|hv|hv
 ·exfalso;have:=hv.1;omega
 ·exfalso;have:=hv.1;omega
 ·exfalso;have:=hv.1;omega
 ·exact hv.2
 ·exfalso;have:=hv.1;omega
 ·exfalso;have:=hv.1;omega
 ·exfalso;have:=hv.1;omega
 ·exfalso;have:=hv.1;omega
 ·exfalso;have:=hv.1;omega
 ·exfalso;have:=hv.1;omega
 ·exfalso;have:=hv.1;omega
theorem Fk.kif (h:Fk lo pu Γ (.node k o t b nm (.node xk xo xt xv xn xa) (.node yk yo yt yv yn ya) bo el) Γ') (v:k=5):o=0/\t=0/\b=0/\nm=[]/\No yk yo yt yv yn ya/\T Γ 3 (.node xk xo xt xv xn xa)/\(E.node xk xo xt xv xn xa).high<=9/\Γ'=Γ/\∃j q,Fm lo pu Γ bo j/\Fm lo pu Γ el q:=by
 rcases h.inv with hv|hv|hv|hv|hv|hv|hv|hv|hv|hv|hv
 ·exfalso;have:=hv.1;omega
 ·exfalso;have:=hv.1;omega
 ·exfalso;have:=hv.1;omega
 ·exfalso;have:=hv.1;omega
 ·exact hv.2
 ·exfalso;have:=hv.1;omega
 ·exfalso;have:=hv.1;omega
 ·exfalso;have:=hv.1;omega
 ·exfalso;have:=hv.1;omega
 ·exfalso;have:=hv.1;omega
 ·exfalso;have:=hv.1;omega
theorem Fk.Alk (h:Fk lo pu Γ (.node k o t b nm (.node xk xo xt xv xn xa) (.node yk yo yt yv yn ya) bo el) Γ') (q:k=6):o=0/\t=0/\nm=[]/\No yk yo yt yv yn ya/\el=[]/\T Γ 3 (.node xk xo xt xv xn xa)/\(E.node xk xo xt xv xn xa).high<=9/\1<=b/\b<=4/\Γ'=Γ/\∃j,Fm 1 pu Γ bo j:=by
 rcases h.inv with hv|hv|hv|hv|hv|hv|hv|hv|hv|hv|hv
 ·exfalso;have:=hv.1;omega
 ·exfalso;have:=hv.1;omega
 ·exfalso;have:=hv.1;omega
 ·exfalso;have:=hv.1;omega
 ·exfalso;have:=hv.1;omega
 ·exact hv.2
 ·exfalso;have:=hv.1;omega
 ·exfalso;have:=hv.1;omega
 ·exfalso;have:=hv.1;omega
 ·exfalso;have:=hv.1;omega
 ·exfalso;have:=hv.1;omega
theorem Fk.Apo (h:Fk lo pu Γ (.node k o t b nm (.node xk xo xt xv xn xa) (.node yk yo yt yv yn ya) bo el) Γ') (j:k=12):(t=0/\b=0/\No yk yo yt yv yn ya/\bo=[]/\el=[]/\pu=0/\Nm nm/\Γ'=Γ/\∃u w i,Γ nm=some (3,u,i)/\1<=u/\u<=3/\((o=1/\u=1/\w=3)∨((o=2∨o=3)/\u=3/\w=3)∨((o=5∨o=6)/\u≠3/\w=u))/\T Γ w (.node xk xo xt xv xn xa)/\(E.node xk xo xt xv xn xa).high<=9)∨(o=4/\t=0/\b=0/\bo=[]/\el=[]/\pu=0/\Nm nm/\Γ'=Γ/\∃u i,Γ nm=some (3,u,i)/\1<=u/\u<=3/\T Γ u (.node xk xo xt xv xn xa)/\T Γ 1 (.node yk yo yt yv yn ya)/\(E.node xk xo xt xv xn xa).high<=9/\(E.node yk yo yt yv yn ya).high<=9):=by
 rcases h.inv with hv|hv|hv|hv|hv|hv|hv|hv|hv|hv|hv
 ·exfalso;have:=hv.1;omega
 ·exfalso;have:=hv.1;omega
 ·exfalso;have:=hv.1;omega
 ·exfalso;have:=hv.1;omega
 ·exfalso;have:=hv.1;omega
 ·exfalso;have:=hv.1;omega
 ·exfalso;have:=hv.1;omega
 ·exfalso;have:=hv.1;omega
 ·exfalso;have:=hv.1;omega
 ·exact .inl hv.2
 ·exact .inr hv.2
theorem Fk.same (h:Fk lo pu Γ (.node k o t b nm (.node xk xo xt xv xn xa) (.node yk yo yt yv yn ya) bo el) Γ') (j:k≠1):Γ'=Γ:=by
 rcases h.inv with hv|hv|hv|hv|hv|hv|hv|hv|hv|hv|hv
 ·exfalso;have:=hv.1;omega
 ·exact hv.2.2.2.2.2.2.2.2.1
 ·exact hv.2.2.2.2.2.2.2.2.1
 ·exact hv.2.2.2.2.2.2.2.1
 ·exact hv.2.2.2.2.2.2.2.2.1
 ·exact hv.2.2.2.2.2.2.2.2.2.2.1
 ·exact hv.2.2.2.2.2.2.2.2.2.2
 ·exact hv.2.2.2.2.2.2.2.2.2.2
 ·exact hv.2.2.2.2.2.2.2.2.2.2
 ·exact hv.2.2.2.2.2.2.2.2.1
 ·exact hv.2.2.2.2.2.2.2.2.1
theorem Fk.kinds (h:Fk lo pu Γ (.node k o t b nm (.node xk xo xt xv xn xa) (.node yk yo yt yv yn ya) bo el) Γ'):1<=k/\k<=12:=by
 rcases h.inv with hv|hv|hv|hv|hv|hv|hv|hv|hv|hv|hv<;>(have:=hv.1;omega)
theorem Fk.AeR (h:Fk lo pu Γ (.node k o t b nm (.node xk xo xt xv xn xa) (.node yk yo yt yv yn ya) bo el) Γ'):k=7∨k=8->lo≠0:=by
 intro j
 rcases h.inv with hv|hv|hv|hv|hv|hv|hv|hv|hv|hv|hv
 ·exfalso;have:=hv.1;omega
 ·exfalso;have:=hv.1;omega
 ·exfalso;have:=hv.1;omega
 ·exfalso;have:=hv.1;omega
 ·exfalso;have:=hv.1;omega
 ·exfalso;have:=hv.1;omega
 ·exact hv.2.2.2.2.2.2.2.2.2.1
 ·exfalso;have:=hv.1;omega
 ·exfalso;have:=hv.1;omega
 ·exfalso;have:=hv.1;omega
 ·exfalso;have:=hv.1;omega
theorem Fk.pure (h:Fk lo pu Γ (.node k o t b nm (.node xk xo xt xv xn xa) (.node yk yo yt yv yn ya) bo el) Γ'):3<=k->k<=4∨9<=k->pu=0:=by
 intro _ j
 rcases h.inv with hv|hv|hv|hv|hv|hv|hv|hv|hv|hv|hv
 ·exfalso;have:=hv.1;omega
 ·exfalso;have:=hv.1;omega
 ·exact hv.2.2.2.2.2.2.1
 ·exact hv.2.2.2.2.2.1
 ·exfalso;have:=hv.1;omega
 ·exfalso;have:=hv.1;omega
 ·exfalso;have:=hv.1;omega
 ·exact hv.2.2.2.2.2.2.2.2.2.1
 ·exact hv.2.2.2.2.2.2.2.2.2.1
 ·exact hv.2.2.2.2.2.2.1
 ·exact hv.2.2.2.2.2.2.1
end
theorem UX (m:List (List Nat×List PV)) (k j:List Nat) (v:List PV):Bj (By m k v) j=if j=k then some v else Bj m j:=by
 induction m with
 |nil=>
  simp only [By,Bj]
  by_cases h:j=k
  ·subst h;simp
  ·rw [if_neg h,if_neg (fun e=>h e.symm)]
 |cons e r ih=>
  simp only [By]
  by_cases h:e.1=k
  ·rw [if_pos h]
   simp only [Bj]
   by_cases h':j=k
   ·subst h';simp
   ·rw [if_neg (fun e=>h' e.symm),if_neg h',if_neg (fun x=>h' (x.symm.trans h))]
  ·rw [if_neg h]
   simp only [Bj,ih]
   by_cases h':e.1=j
   ·rw [if_pos h',if_pos h',if_neg (fun x=>h (h'.trans x))]
   ·rw [if_neg h',if_neg h']
section
variable {Γ:Ctx} {al fl:Int} {Ar Fs:List Row} {mp:List (List Nat×List PV)}
theorem Ck.Ld (h:Ck Γ al fl Ar Fs mp) {s:List Nat} {t:Int} (g:Γ s=none):Ck (Γ.Ld s (3,t,0)) al fl Ar Fs (By mp s [PV.int .i64 3,PV.int .i64 t,PV.int .i64 0]):=by
 refine ⟨fun k=>?_,h.ha,h.hf,fun k t' i j=>?_,fun i q=>?_⟩
 ·rw [UX]
  by_cases e:k=s
  ·subst e;rw [if_pos rfl,Hj];rfl
  ·rw [if_neg e,DY e];exact h.see k
 ·by_cases e:k=s
  ·subst e;rw [Hj]at j;cases j
  ·rw [DY e]at j;exact h.ar k t' i j
 ·by_cases e:[104]=s
  ·rw [<-e,Hj]at q;cases q
  ·rw [DY e]at q;exact h.fn i q
theorem Ck.keep {lo pu:Int} {Γ':Ctx} {k o t b xk xo xt xv yk yo yt yv:Int} {nm xn yn:List Nat} {xa ya:List E} {bo el:List S} (h:Ck Γ al fl Ar Fs mp) (hs:Fk lo pu Γ (.node k o t b nm (.node xk xo xt xv xn xa) (.node yk yo yt yv yn ya) bo el) Γ') (j:k≠1):Ck Γ' al fl Ar Fs mp:=by
 have:=hs.same j
 subst this;exact h
end
theorem TR.tl1 {Δ:Rl} {t:Int} {x:E} (h:TR Δ t x):TL Δ [x]:=fun e j=>by
 simp only [List.mem_cons,List.not_mem_nil,or_false]at j;subst j;exact ⟨t,h⟩
theorem TR.tl2 {Δ:Rl} {t u:Int} {x y:E} (h:TR Δ t x) (g:TR Δ u y):TL Δ [x,y]:=fun e j=>by
 simp only [List.mem_cons,List.not_mem_nil,or_false]at j
 rcases j with rfl|rfl
 ·exact ⟨t,h⟩
 ·exact ⟨u,g⟩
end
section
def PSh (k o t b:Int) (nm:List Nat) (xk xo xt xv:Int) (xn:List Nat) (xa:List E) (yk yo yt yv:Int) (yn:List Nat) (ya:List E) (bo el:List S):Prop:=∃Δ:Rl,
 (k=1/\o=0/\b=0/\No yk yo yt yv yn ya/\bo=[]/\el=[]/\Nm nm/\1<=t/\t<=3/\TR Δ t (.node xk xo xt xv xn xa)/\(E.node xk xo xt xv xn xa).high<=9)∨
 (k=2/\o=0/\t=0/\b=0/\No yk yo yt yv yn ya/\bo=[]/\el=[]/\Nm nm/\∃u,TR Δ u (.node xk xo xt xv xn xa)/\(E.node xk xo xt xv xn xa).high<=9)∨
 (k=3/\o=0/\t=0/\b=0/\bo=[]/\el=[]/\Nm nm/\∃u,TR Δ 1 (.node xk xo xt xv xn xa)/\TR Δ u (.node yk yo yt yv yn ya)/\(E.node xk xo xt xv xn xa).high<=9/\(E.node yk yo yt yv yn ya).high<=9)∨
 (k=4/\t=0/\b=0/\bo=[]/\el=[]/\Nm nm/\(o=10∨o=17∨o=18∨o=19∨o=22∨o=23)/\TR Δ 1 (.node xk xo xt xv xn xa)/\TR Δ 1 (.node yk yo yt yv yn ya)/\(E.node xk xo xt xv xn xa).high<=9/\(E.node yk yo yt yv yn ya).high<=9)∨
 (k=5/\o=0/\t=0/\b=0/\nm=[]/\No yk yo yt yv yn ya/\TR Δ 3 (.node xk xo xt xv xn xa)/\(E.node xk xo xt xv xn xa).high<=9)∨
 (k=6/\o=0/\t=0/\nm=[]/\No yk yo yt yv yn ya/\el=[]/\TR Δ 3 (.node xk xo xt xv xn xa)/\(E.node xk xo xt xv xn xa).high<=9/\1<=b/\b<=4)∨
 ((k=7∨k=8)/\o=0/\t=0/\b=0/\nm=[]/\No xk xo xt xv xn xa/\No yk yo yt yv yn ya/\bo=[]/\el=[])∨
 ((k=9∨k=10)/\o=0/\t=0/\b=0/\nm=[]/\No xk xo xt xv xn xa/\No yk yo yt yv yn ya/\bo=[]/\el=[])∨
 (k=11/\(o=1∨o=2)/\t=0/\b=0/\nm=[]/\No xk xo xt xv xn xa/\No yk yo yt yv yn ya/\bo=[]/\el=[])∨
 (k=12/\t=0/\b=0/\No yk yo yt yv yn ya/\bo=[]/\el=[]/\Nm nm/\∃u w,((o=1/\u=1/\w=3)∨((o=2∨o=3)/\u=3/\w=3)∨((o=5∨o=6)/\u≠(3:Int)/\w=u))/\TR Δ w (.node xk xo xt xv xn xa)/\(E.node xk xo xt xv xn xa).high<=9)∨
 (k=12/\o=4/\t=0/\b=0/\bo=[]/\el=[]/\Nm nm/\∃u,TR Δ u (.node xk xo xt xv xn xa)/\TR Δ 1 (.node yk yo yt yv yn ya)/\(E.node xk xo xt xv xn xa).high<=9/\(E.node yk yo yt yv yn ya).high<=9)
mutual
inductive PS:S->Prop
 |mk {k o t b:Int} {nm:List Nat} {xk xo xt xv:Int} {xn:List Nat} {xa:List E} {yk yo yt yv:Int} {yn:List Nat} {ya:List E} {bo el:List S}:PSh k o t b nm xk xo xt xv xn xa yk yo yt yv yn ya bo el->PL bo->PL el->PS (.node k o t b nm (.node xk xo xt xv xn xa) (.node yk yo yt yv yn ya) bo el)
inductive PL:List S->Prop
 |nil:PL []
 |cons {s l}:PS s->PL l->PL (s::l)
end
section
variable {k o t b xk xo xt xv yk yo yt yv:Int} {nm xn yn:List Nat} {xa ya:List E} {bo el:List S}
theorem PS.inv (h:PS (.node k o t b nm (.node xk xo xt xv xn xa) (.node yk yo yt yv yn ya) bo el)):PSh k o t b nm xk xo xt xv xn xa yk yo yt yv yn ya bo el/\PL bo/\PL el:=by
 cases h with|mk h1 h2 h3=>exact ⟨h1,h2,h3⟩
theorem PSh.of {lo N:Int} {Γ O:Ctx} (h:Fk lo N Γ (.node k o t b nm (.node xk xo xt xv xn xa) (.node yk yo yt yv yn ya) bo el) O):PSh k o t b nm xk xo xt xv xn xa yk yo yt yv yn ya bo el:=by
 refine ⟨fun s z=>Γ s=some z,?_⟩
 rcases h.inv with hv|hv|hv|hv|hv|hv|hv|hv|hv|hv|hv
 ·obtain ⟨x,j,q,v,A,H,J,_,I,B,L,M,_⟩:=hv;exact .inl ⟨x,j,q,v,A,H,J,I,B,L,M⟩
 ·obtain ⟨x,j,q,v,A,H,J,C,_,u,_,_,I,B⟩:=hv;exact .inr (.inl ⟨x,j,q,v,A,H,J,C,u,I,B⟩)
 ·obtain ⟨x,j,q,v,A,H,_,C,_,u,_,_,_,_,I,B,L,M⟩:=hv;exact .inr (.inr (.inl ⟨x,j,q,v,A,H,C,u,I,B,L,M⟩))
 ·obtain ⟨x,j,q,v,A,_,J,_,_,_,_,C,I,B,L,M⟩:=hv;exact .inr (.inr (.inr (.inl ⟨x,j,q,v,A,J,C,I,B,L,M⟩)))
 ·obtain ⟨x,j,q,v,A,H,J,C,_⟩:=hv;exact .inr (.inr (.inr (.inr (.inl ⟨x,j,q,v,A,H,J,C⟩))))
 ·obtain ⟨x,j,q,v,A,H,J,C,I,B,_⟩:=hv;exact .inr (.inr (.inr (.inr (.inr (.inl ⟨x,j,q,v,A,H,J,C,I,B⟩)))))
 ·obtain ⟨x,j,q,v,A,H,J,C,I,_⟩:=hv;exact .inr (.inr (.inr (.inr (.inr (.inr (.inl ⟨x,j,q,v,A,H,J,C,I⟩))))))
 ·obtain ⟨x,j,q,v,A,H,J,C,I,_⟩:=hv;exact .inr (.inr (.inr (.inr (.inr (.inr (.inr (.inl ⟨x,j,q,v,A,H,J,C,I⟩)))))))
 ·obtain ⟨x,j,q,v,A,H,J,C,I,_⟩:=hv;exact .inr (.inr (.inr (.inr (.inr (.inr (.inr (.inr (.inl ⟨x,j,q,v,A,H,J,C,I⟩))))))))
 ·obtain ⟨x,j,q,v,A,H,_,C,_,u,w,_,_,_,_,I,B,L⟩:=hv;exact .inr (.inr (.inr (.inr (.inr (.inr (.inr (.inr (.inr (.inl ⟨x,j,q,v,A,H,C,u,w,I,B,L⟩)))))))))
 ·obtain ⟨x,j,q,v,A,H,_,C,_,u,_,_,_,_,I,B,L,M⟩:=hv;exact .inr (.inr (.inr (.inr (.inr (.inr (.inr (.inr (.inr (.inr ⟨x,j,q,v,A,H,C,u,I,B,L,M⟩)))))))))
end
mutual
theorem Fk.ps {lo v:Int} {Γ q:Ctx}:∀(s:S),Fk lo v Γ s q->PS s
 |.node k o t b nm (.node xk xo xt xv xn xa) (.node yk yo yt yv yn ya) bo el,h=>by
  obtain ⟨_,z,C,B,A,j,x⟩:=h.parts
  exact .mk (PSh.of h) (Fm.pl' bo j) (Fm.pl' el x)
theorem Fm.pl' {lo j:Int} {Γ q:Ctx}:∀(l:List S),Fm lo j Γ l q->PL l
 |[],_=>.nil
 |s::l,h=>by cases h with|cons a b=>exact .cons (Fk.ps s a) (Fm.pl' l b)
end
theorem Fm.pl {lo j:Int} {Γ q:Ctx} {l:List S} (h:Fm lo j Γ l q):PL l:=Fm.pl' l h
theorem PL.get {l:List S} (j:Int) (h:PL (l.drop j.toNat)) (x:0<=j) (q:j<((S.Ab l).length:Int)):∃(k o t b:Int) (nm:List Nat) (xk xo xt xv:Int) (xn:List Nat) (xa:List E) (yk yo yt yv:Int) (yn:List Nat) (ya:List E) (bo el:List S),
  (S.Ab l)[j.toNat]?=some [.int .i64 k,.int .i64 o,.int .i64 t,.int .i64 b,.str nm,.int .i64 xk,.int .i64 xo,.int .i64 xt,.str xn,.int .i32 xv,.list 6 (E.Ab xa),.int .i64 yk,.int .i64 yo,.int .i64 yt,.str yn,.int .i32 yv,.list 6 (E.Ab ya),.list 19 (S.Ab bo),.list 19 (S.Ab el)]/\
  PS (.node k o t b nm (.node xk xo xt xv xn xa) (.node yk yo yt yv yn ya) bo el)/\PL (l.drop (j+1).toNat)/\
  S.Ad (l.drop j.toNat)=1+(E.node xk xo xt xv xn xa).nodes+(E.node yk yo yt yv yn ya).nodes+S.Ad bo+S.Ad el+S.Ad (l.drop (j+1).toNat)/\
  S.Az (l.drop j.toNat)=max (1+max (S.Az bo) (S.Az el)) (S.Az (l.drop (j+1).toNat)):=by
 rw [S.AA]at q
 have v:j.toNat<l.length:=by omega
 have hd:l.drop j.toNat=l[j.toNat]::l.drop (j+1).toNat:=by
  rw [show (j+1).toNat=j.toNat+1 by omega];exact List.drop_eq_getElem_cons v
 rw [hd]at h⊢
 generalize he:l[j.toNat]=s at h⊢
 obtain ⟨k,o,t,b,nm,⟨xk,xo,xt,xv,xn,xa⟩,⟨yk,yo,yt,yv,yn,ya⟩,bo,el⟩:=s
 cases h with
 |cons q h2=>
  exact ⟨k,o,t,b,nm,xk,xo,xt,xv,xn,xa,yk,yo,yt,yv,yn,ya,bo,el,by rw [S.Fc,List.getElem?_eq_getElem v,he];rfl,q,h2,rfl,rfl⟩
theorem PS.parts {k o t b xk xo xt xv yk yo yt yv:Int} {nm xn yn:List Nat} {xa ya:List E} {bo el:List S} (h:PS (.node k o t b nm (.node xk xo xt xv xn xa) (.node yk yo yt yv yn ya) bo el)):∃Δ:Rl,(∀e∈[E.node xk xo xt xv xn xa,.node yk yo yt yv yn ya],EOR Δ e)/\PL bo/\PL el:=by
 obtain ⟨⟨Δ,j⟩,H,J⟩:=h.inv
 refine ⟨Δ,?_,H,J⟩
 have key:∀{x y:E},EOR Δ x->EOR Δ y->∀e∈[x,y],EOR Δ e:=fun L I e C=>by
  simp only [List.mem_cons,List.not_mem_nil,or_false]at C
  rcases C with rfl|rfl
  ·exact L
  ·exact I
 rcases j with j|j|j|j|j|j|j|j|j|j|j
 ·obtain ⟨_,_,_,v,_,_,_,_,_,q,z⟩:=j;exact key (.inr ⟨⟨_,q⟩,z⟩) (.inl v.eq)
 ·obtain ⟨_,_,_,_,v,_,_,_,u,q,z⟩:=j;exact key (.inr ⟨⟨_,q⟩,z⟩) (.inl v.eq)
 ·obtain ⟨_,_,_,_,_,_,_,u,q,z,A,B⟩:=j;exact key (.inr ⟨⟨_,q⟩,A⟩) (.inr ⟨⟨_,z⟩,B⟩)
 ·obtain ⟨_,_,_,_,_,_,_,q,z,A,B⟩:=j;exact key (.inr ⟨⟨_,q⟩,A⟩) (.inr ⟨⟨_,z⟩,B⟩)
 ·obtain ⟨_,_,_,_,_,v,q,z⟩:=j;exact key (.inr ⟨⟨_,q⟩,z⟩) (.inl v.eq)
 ·obtain ⟨_,_,_,_,v,_,q,z,_⟩:=j;exact key (.inr ⟨⟨_,q⟩,z⟩) (.inl v.eq)
 ·obtain ⟨_,_,_,_,_,v,q,_⟩:=j;exact key (.inl v.eq) (.inl q.eq)
 ·obtain ⟨_,_,_,_,_,v,q,_⟩:=j;exact key (.inl v.eq) (.inl q.eq)
 ·obtain ⟨_,_,_,_,_,v,q,_⟩:=j;exact key (.inl v.eq) (.inl q.eq)
 ·obtain ⟨_,_,_,v,_,_,_,u,w,_,q,z⟩:=j;exact key (.inr ⟨⟨_,q⟩,z⟩) (.inl v.eq)
 ·obtain ⟨_,_,_,_,_,_,_,u,q,z,A,B⟩:=j;exact key (.inr ⟨⟨_,q⟩,A⟩) (.inr ⟨⟨_,z⟩,B⟩)
end
section
theorem Tg {m:List (List Nat×List PV)} {s:List Nat} (h:∀e∈m,e.1≠s):Bj m s=none:=by
 induction m with
 |nil=>rfl
 |cons e r ih=>
  simp only [Bj]
  rw [if_neg (h e List.mem_cons_self)]
  exact ih fun x j=>h x (List.mem_cons_of_mem _ j)
theorem Ao6 {Γ:Ctx} {m:List (List Nat×List PV)} (L:List (List Nat)) (A:∀s∈L,Bj m s=(Γ s).map fun z=>[PV.int .i64 z.1,PV.int .i64 z.2.1,PV.int .i64 z.2.2]) (j:∀s,s∉L->Γ s=none) (q:∀e∈m,e.1∈L) (s:List Nat):
  Bj m s=(Γ s).map fun z=>[PV.int .i64 z.1,PV.int .i64 z.2.1,PV.int .i64 z.2.2]:=by
 by_cases h:s∈L
 ·exact A s h
 ·rw [j s h,Tg fun e x v=>h (by rw [<-v];exact q e x)];rfl
theorem Aey {ρ:Env} {a b:ST} {x y z:Int} (h:a.den ρ=x) (g:b.den ρ=y) (r:bits .and .i64 x y=z):(ST.bin .and .i64 a b).den ρ=z:=by
 show bits .and .i64 (a.den ρ) (b.den ρ)=z
 rw [h,g];exact r
end
section
abbrev NW:=List (List Nat×List PV)
structure Ae where
 nm:List Nat
 sp:Int
 ty:Int
 ln:Int
def Ao9 (a:Ae):Row:=[.str a.nm,.int .i64 a.sp,.int .i64 a.ty,.int .i64 a.ln]
def Ay (l:List Ae):List Row:=l.map Ao9
structure Pe where
 nm:List Nat
 ty:Int
def Ao8 (a:Pe):Row:=[.str a.nm,.int .i64 a.ty]
def Ax (l:List Pe):List Row:=l.map Ao8
structure Fe where
 nm:List Nat
 ps:List Pe
 ty:Int
 fb:List S
 k:Int
 o:Int
 y:Int
 s:List Nat
 w:Int
 a:List E
def Ajt (f:Fe):Row:=[.str f.nm,.list 2 (Ax f.ps),.int .i64 f.ty,.list 19 (S.Ab f.fb),.int .i64 f.k,.int .i64 f.o,.int .i64 f.y,.str f.s,.int .i32 f.w,.list 6 (E.Ab f.a)]
def A8 (l:List Fe):List Row:=l.map Ajt
def HN (k:Int) (j:Bool):Int->List (List Nat×Int)->NW
 |_,[]=>[]
 |i,x::r=>(x.1,[PV.int .i64 k,PV.int .i64 x.2,PV.int .i64 (bif j then i else 0)])::HN k j (i+1) r
def am (l:List Ae):NW:=HN 0 true 0 (l.map fun a=>(a.nm,a.ty))
def pm (l:List Pe):NW:=HN 2 false 0 (l.map fun a=>(a.nm,a.ty))
def fm (l:List Fe):NW:=HN 1 true 0 (l.map fun a=>(a.nm,a.ty))
theorem TD {k:Int} {j:Bool}:∀(l m:List (List Nat×Int)) (i:Int),HN k j i (l++m)=HN k j i l++HN k j (i+l.length) m
 |[],m,i=>by simp [HN]
 |x::l,m,i=>by
  simp only [List.cons_append,HN,TD l m (i+1),lC]
  congr 3;omega
theorem Gp:∀{m:NW} {s:List Nat} {v:List PV},Bj m s=none->By m s v=m++[(s,v)]
 |[],_,_,_=>rfl
 |e::m,s,v,h=>by
  simp only [Bj]at h
  split at h
  ·cases h
  ·rename_i j
   simp only [By,if_neg j,List.cons_append,Gp h]
theorem KS {k:Int} {q:Bool} {l:List (List Nat×Int)} {j:Int} {x:List Nat×Int} (z:0<=j) (h:l[j.toNat]?=some x):HN k q 0 (l.take (j+1).toNat)=HN k q 0 (l.take j.toNat)++[(x.1,[PV.int .i64 k,PV.int .i64 x.2,PV.int .i64 (bif q then j else 0)])]:=by
 have e:(j+1).toNat=j.toNat+1:=by omega
 have hl:=(List.getElem?_eq_some_iff.1 h).1
 have v:(0:Int)+((l.take j.toNat).length:Int)=j:=by rw [lT'];omega
 rw [e,List.take_add_one,h,TD,v]
 rfl
def Ady (M:NW) (k:Int) (q:Bool) (l:List (List Nat×Int)):Prop:=∀(j:Nat) (x:List Nat×Int),l[j]?=some x->Bj (M++HN k q 0 (l.take j)) x.1=none
abbrev Za (M:NW) (l:List Ae):Prop:=Ady M 0 true (l.map fun a=>(a.nm,a.ty))
abbrev FrP (M:NW) (l:List Pe):Prop:=Ady M 2 false (l.map fun a=>(a.nm,a.ty))
abbrev FrF (M:NW) (l:List Fe):Prop:=Ady M 1 true (l.map fun a=>(a.nm,a.ty))
section
variable {M:NW} {j:Int}
theorem Sd {l:List Ae} {a:Ae} (h:Za M l) (g:l[j.toNat]?=some a):Bj (M++am (l.take j.toNat)) a.nm=none:=by
 have:=h j.toNat (a.nm,a.ty) (by rw [List.getElem?_map,g];rfl)
 simpa only [am,List.map_take]using this
theorem Ada {l:List Ae} {a:Ae} (h:Za M l) (g:l[j.toNat]?=some a) (q:0<=j):By (M++am (l.take j.toNat)) a.nm [PV.int .i64 0,PV.int .i64 a.ty,PV.int .i64 j]=M++am (l.take (j+1).toNat):=by
 rw [Gp (Sd h g),List.append_assoc]
 simp only [am,List.map_take]
 rw [KS q (show (l.map fun a=>(a.nm,a.ty))[j.toNat]?=some (a.nm,a.ty) by rw [List.getElem?_map,g];rfl)]
 rfl
theorem QN {l:List Pe} {a:Pe} (h:FrP M l) (g:l[j.toNat]?=some a):Bj (M++pm (l.take j.toNat)) a.nm=none:=by
 have:=h j.toNat (a.nm,a.ty) (by rw [List.getElem?_map,g];rfl)
 simpa only [pm,List.map_take]using this
theorem AbA {l:List Pe} {a:Pe} (h:FrP M l) (g:l[j.toNat]?=some a) (q:0<=j):By (M++pm (l.take j.toNat)) a.nm [PV.int .i64 2,PV.int .i64 a.ty,PV.int .i64 0]=M++pm (l.take (j+1).toNat):=by
 rw [Gp (QN h g),List.append_assoc]
 simp only [pm,List.map_take]
 rw [KS q (show (l.map fun a=>(a.nm,a.ty))[j.toNat]?=some (a.nm,a.ty) by rw [List.getElem?_map,g];rfl)]
 rfl
theorem R9 {l:List Fe} {a:Fe} (h:FrF M l) (g:l[j.toNat]?=some a):Bj (M++fm (l.take j.toNat)) a.nm=none:=by
 have:=h j.toNat (a.nm,a.ty) (by rw [List.getElem?_map,g];rfl)
 simpa only [fm,List.map_take]using this
theorem Ac6 {l:List Fe} {a:Fe} (h:FrF M l) (g:l[j.toNat]?=some a) (q:0<=j):By (M++fm (l.take j.toNat)) a.nm [PV.int .i64 1,PV.int .i64 a.ty,PV.int .i64 j]=M++fm (l.take (j+1).toNat):=by
 rw [Gp (R9 h g),List.append_assoc]
 simp only [fm,List.map_take]
 rw [KS q (show (l.map fun a=>(a.nm,a.ty))[j.toNat]?=some (a.nm,a.ty) by rw [List.getElem?_map,g];rfl)]
 rfl
theorem Se {l:List Ae} (h:((Ay l).length:Int)<=j):M++am (l.take j.toNat)=M++am l:=by
 rw [List.take_of_length_le (by simp only [Ay,List.length_map]at h;omega)]
theorem QO {l:List Pe} (h:((Ax l).length:Int)<=j):M++pm (l.take j.toNat)=M++pm l:=by
 rw [List.take_of_length_le (by simp only [Ax,List.length_map]at h;omega)]
theorem RB {l:List Fe} (h:((A8 l).length:Int)<=j):M++fm (l.take j.toNat)=M++fm l:=by
 rw [List.take_of_length_le (by simp only [A8,List.length_map]at h;omega)]
theorem WQ (M:NW) (l:List Pe):M=M++pm (l.take (0:Int).toNat):=by simp [pm,HN]
theorem Xg (M:NW) (l:List Fe):M=M++fm (l.take (0:Int).toNat):=by simp [fm,HN]
theorem Im {l:List Ae} (j:Int) (v:0<=j) (q:j<((Ay l).length:Int)):∃(nm:List Nat) (sp ty ln:Int),(Ay l)[j.toNat]?=some [.str nm,.int .i64 sp,.int .i64 ty,.int .i64 ln]/\l[j.toNat]?=some ⟨nm,sp,ty,ln⟩:=by
 simp only [Ay,List.length_map]at q
 have h:j.toNat<l.length:=by omega
 exact ⟨_,_,_,_,by rw [Ay,List.getElem?_map,List.getElem?_eq_getElem h];rfl,List.getElem?_eq_getElem h⟩
theorem Ik {l:List Pe} (j:Int) (v:0<=j) (q:j<((Ax l).length:Int)):∃(nm:List Nat) (ty:Int),(Ax l)[j.toNat]?=some [.str nm,.int .i64 ty]/\l[j.toNat]?=some ⟨nm,ty⟩:=by
 simp only [Ax,List.length_map]at q
 have h:j.toNat<l.length:=by omega
 exact ⟨_,_,by rw [Ax,List.getElem?_map,List.getElem?_eq_getElem h];rfl,List.getElem?_eq_getElem h⟩
theorem Il {l:List Fe} (j:Int) (v:0<=j) (q:j<((A8 l).length:Int)):∃(nm:List Nat) (ps:List Pe) (ty:Int) (fb:List S) (k o y:Int) (s:List Nat) (w:Int) (a:List E),
  (A8 l)[j.toNat]?=some [.str nm,.list 2 (Ax ps),.int .i64 ty,.list 19 (S.Ab fb),.int .i64 k,.int .i64 o,.int .i64 y,.str s,.int .i32 w,.list 6 (E.Ab a)]/\l[j.toNat]?=some ⟨nm,ps,ty,fb,k,o,y,s,w,a⟩:=by
 simp only [A8,List.length_map]at q
 have h:j.toNat<l.length:=by omega
 exact ⟨_,_,_,_,_,_,_,_,_,_,by rw [A8,List.getElem?_map,List.getElem?_eq_getElem h];rfl,List.getElem?_eq_getElem h⟩
theorem UH {l:List Fe} {n:Nat}:(A8 l).take n=A8 (l.take n):=by simp only [A8,List.map_take]
theorem Abt {l:List Fe} {n:Nat} {f:Fe} (h:l[n]?=some f):(A8 l)[n]?=some (Ajt f):=by rw [A8,List.getElem?_map,h];rfl
theorem XI {l:List Fe}:(A8 l).length=l.length:=by simp only [A8,List.length_map]
end
def Zf (q:List Ae):Prop:=∀(j:Int) (a:Ae),q[j.toNat]?=some a->Nm a.nm/\1<=a.sp/\a.sp<=3/\1<=a.ty/\a.ty<=3/\1<=a.ln/\a.ln<=16
def PaP (ps:List Pe):Prop:=∀(j:Int) (a:Pe),ps[j.toNat]?=some a->Nm a.nm/\1<=a.ty/\a.ty<=3
structure FnP (f:Fe):Prop where
 nm:Nm f.nm
 ty:1<=f.ty/\f.ty<=3
 ps:PaP f.ps
 pl:f.ps.length<=2
 fb:PL f.fb
 a:∃Δ t,TR Δ t (.node f.k f.o f.y f.w f.s f.a)
 dp:S.Az f.fb<=2
 nd:S.Ad f.fb<=160
 rn:(E.node f.k f.o f.y f.w f.s f.a).nodes<=13
 rh:(E.node f.k f.o f.y f.w f.s f.a).high<=5
def FsP (fs:List Fe):Prop:=∀(j:Int) (f:Fe),fs[j.toNat]?=some f->FnP f
def FsU (fs:List Fe):Prop:=∀(j:Int) (f:Fe),fs[j.toNat]?=some f->∃(q:Int) (Γ v:Ctx),Fm q 1 Γ f.fb v
structure FnG (av:List Ae) (fs:List Fe) (n:Nat) (f:Fe) (Γ Γe:Ctx):Prop where
 fr:FrF (am av) (fs.take n)
 fp:FrP (am av++fm (fs.take n)) f.ps
 ck:Ck Γ ((Ay av).length:Int) ((A8 fs).length:Int) (Ay av) (A8 fs) (am av++fm (fs.take n)++pm f.ps)
 ok:Fm 0 1 Γ f.fb Γe
 ty:T Γe f.ty (.node f.k f.o f.y f.w f.s f.a)
def FsG (v:List Ae) (fs:List Fe):Prop:=∀(j:Int) (f:Fe),0<=j->fs[j.toNat]?=some f->∃Γ q,FnG v fs j.toNat f Γ q
theorem FsG.at {v:List Ae} {fs:List Fe} (h:FsG v fs) (j:Int) (x:0<=j) (A:j<((A8 fs).length:Int)):∃f Γ q,fs[j.toNat]?=some f/\FnG v fs j.toNat f Γ q:=by
 rw [XI]at A
 have hl:j.toNat<fs.length:=by omega
 obtain ⟨Γ,q,z⟩:=h j _ x (List.getElem?_eq_getElem hl)
 exact ⟨_,Γ,q,List.getElem?_eq_getElem hl,z⟩
end
section
end
section
def R7 (k:Int) (j:Bool):Int->NW->List (List Nat×Int)->Bool
 |_,_,[]=>true
 |i,M,x::r=>(Bj M x.1).isNone&&R7 k j (i+1) (M++[(x.1,[PV.int .i64 k,PV.int .i64 x.2,PV.int .i64 (bif j then i else 0)])]) r
theorem It {k:Int} {q:Bool}:∀{l:List (List Nat×Int)} {i:Int} {M:NW},R7 k q i M l=true->∀(j:Nat) (x:List Nat×Int),l[j]?=some x->Bj (M++HN k q i (l.take j)) x.1=none
 |[],_,_,_,j,x,h=>by simp at h
 |y::r,i,M,h,0,x,g=>by
  simp only [R7,aT,Option.isNone_iff_eq_none]at h
  simp only [List.getElem?_cons_zero,oI]at g
  subst g
  simpa [HN]using h.1
 |y::r,i,M,h,j+1,x,g=>by
  simp only [R7,aT]at h
  have:=It h.2 j x (by simpa using g)
  simpa [HN,List.append_assoc]using this
theorem Zf.of {l:List Ae} (h:∀a∈l,Nm a.nm/\1<=a.sp/\a.sp<=3/\1<=a.ty/\a.ty<=3/\1<=a.ln/\a.ln<=16):Zf l:=fun _ a g=>h a (List.mem_of_getElem? g)
abbrev qn:List Nat:=[113,113,57]
section
variable {fb:List S} {k o y w:Int} {s:List Nat} {a:List E}
abbrev hΓ:Ctx:=fΓ.Ld qn (1,1,0)
end
end
end Go.AM.K
