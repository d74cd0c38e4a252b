/- Part 16 of MeaningCalls. -/
import Derived.Test.YtaolbokoijfhnaaGreatDoorJ4
import Derived.Test.YtaolbokoijfhnaaGreatDoorJ5
import Derived.Test.YtaolbokoijfhnaaGreatDoorJ6
import Derived.Test.YtaolbokoijfhnaaGreatDoorJ7
import Derived.Test.YtaolbokoijfhnaaGreatDoorJ8
import Derived.Test.YtaolbokoijfhnaaGreatDoorJ9
import Derived.Test.YtaolbokoijfhnaaGreatDoorJ10
import Derived.Test.YtaolbokoijfhnaaGreatDoorJ11
import Derived.Test.YtaolbokoijfhnaaGreatDoorJ12
import Derived.Test.YtaolbokoijfhnaaGreatDoorJ13
import Derived.Test.YtaolbokoijfhnaaGreatDoorJ14
import Derived.Test.YtaolbokoijfhnaaGreatDoorJ15
import Derived.KernelRfl
set_option linter.all false
namespace Go.Proofs.YtaolbokoijfhnaaGreatDoor.Am
section
open Go.AM
set_option maxHeartbeats 40000000
set_option maxRecDepth 100000
noncomputable section
def Aik:List (Nat×AM.Tree):=[(4,Xs),(5,t_5),(6,t_6),(7,t_7),(8,t_8),(9,t_9),(10,AfJ),(11,AfI),(12,Ai9),(13,Ai8),(14,AfH),(15,Ai7),(16,Ai6),(17,Ai5),(18,Ai4),(19,Ai3),(20,AfG),(21,Ai2),(22,Ai1),(23,Ai0),(24,Aiz),(25,Aiy),(26,Aix),(27,Aiw),(28,Aiv),(29,Aiu),(30,Ait),(31,Ais),(32,Air),(33,Aiq),(34,Aip),(35,Aio),(36,Ain),(37,Aim),(38,AfF),(39,AfE),(40,AfD),(41,AfC),(42,AfB),(43,AfA),(44,Af9),(46,Af8),(48,Af7),(49,Af6),(50,Af5),(51,Af4),(52,Af3),(53,Af2),(54,Af1),(55,Af0),(56,Afz),(58,Afy),(59,Afx),(60,Afw),(62,Afv),(63,Afu),(65,Aft),(66,Afs),(68,Afr),(69,Adj),(71,Afq),(72,Afp),(75,Afo),(77,Afn),(78,Afm),(79,Afl),(80,Afk),(81,Afj),(82,Afi),(83,Afh),(84,Afg),(85,Aff),(86,Afe),(87,I8),(88,Afd),(89,Afc),(90,Afb),(91,Afa),(92,AeZ),(93,AeY),(94,AeX),(95,AeW),(96,AeV),(97,Ly),(98,AeU),(99,Kd),(100,ZM),(101,ZL),(102,ZK),(103,Oz),(104,ZJ),(105,ZI),(106,ZH),(107,ZG),(108,ZF),(109,ZE),(110,Aei),(111,ZD),(112,ZC),(113,ZB),(114,ZA),(115,Z9),(116,Z8),(117,Z7),(118,Z6),(119,Z5),(120,Z4),(121,Z3),(122,Z2),(123,VK),(124,Is),(125,Z1),(126,Z0),(127,Zz),(128,Zy),(129,Zx),(130,Zw),(131,Zv),(132,CS),(133,Zu),(134,Zt),(135,Zs),(136,Zr),(137,Zq),(138,Zp),(139,Zo),(140,Zn),(141,Ir),(142,Zm),(143,Zl),(144,Zk),(146,Zj),(147,Zi),(148,Zh),(149,Zg),(181,Zf),(182,Ze),(183,Zd),(184,Zc),(185,Zb),(186,Za),(187,YZ),(188,YY),(195,LQ),(196,Dm),(198,Fi),(199,YX),(200,YW),(201,YV),(203,YU),(204,YT),(205,YS),(206,LP),(207,LO)]
def trees (c:Nat):AM.Tree:=YP c Aik
end
theorem sc {S' S:List (Nat×AM.Spec)} {c:Nat} {sp:AM.Spec} (h:EU c S=some sp) (hr:AM.Sub S' S):AM.Sub ((c,sp)::S') S:=ZO h hr
theorem oo {T:Nat->Option Obj} (hB:NH T) {S':List (Nat×AM.Spec)} {sp:AM.Spec} {t:AM.Tree} (h:sp.ok S' (runs sp.f) t=true) (hs:AM.Sub S' SS:=by repeat (first|exact Adk|refine sc rfl ?_)):AM.AcE Tryz.prog T SS sp t:=⟨_,_,hs,Adq hB _,h⟩
theorem AhI {T:Nat->Option Obj} (hB:NH T):AM.AcV Tryz.prog T SS trees:=Ac1
 ⟨oo hB Ao4,
 ⟨oo hB Ao3,
 ⟨oo hB Ao2,
 ⟨oo hB Ao1,
 ⟨oo hB Ao0,
 ⟨oo hB Aoz,
 ⟨oo hB Ak1,
 ⟨oo hB Ak0,
 ⟨oo hB Akz,
 ⟨oo hB Aky,
 ⟨oo hB Akx,
 ⟨oo hB Akw,
 ⟨oo hB Akv,
 ⟨oo hB Aku,
 ⟨oo hB Akt,
 ⟨oo hB Aks,
 ⟨oo hB Akr,
 ⟨oo hB Akq,
 ⟨oo hB Akp,
 ⟨oo hB Ako,
 ⟨oo hB Akn,
 ⟨oo hB Akm,
 ⟨oo hB Akl,
 ⟨oo hB Akk,
 ⟨oo hB Akj,
 ⟨oo hB Aki,
 ⟨oo hB Akh,
 ⟨oo hB Akg,
 ⟨oo hB Akf,
 ⟨oo hB Ake,
 ⟨oo hB Akd,
 ⟨oo hB Akc,
 ⟨oo hB Akb,
 ⟨oo hB Aka,
 ⟨oo hB AjZ,
 ⟨oo hB AjY,
 ⟨oo hB AjX,
 ⟨oo hB AjW,
 ⟨oo hB AjV,
 ⟨oo hB AjU,
 ⟨oo hB AjT,
 ⟨oo hB AjS,
 ⟨oo hB AjR,
 ⟨oo hB AjQ,
 ⟨oo hB AjP,
 ⟨oo hB AjO,
 ⟨oo hB AjN,
 ⟨oo hB AjM,
 ⟨oo hB AjL,
 ⟨oo hB AjK,
 ⟨oo hB AjJ,
 ⟨oo hB AjI,
 ⟨oo hB AjH,
 ⟨oo hB AjG,
 ⟨oo hB AjF,
 ⟨oo hB AjE,
 ⟨oo hB AjD,
 ⟨oo hB AjC,
 ⟨oo hB AjB,
 ⟨oo hB AjA,
 ⟨oo hB Aj9,
 ⟨oo hB Aj8,
 ⟨oo hB Aj7,
 ⟨oo hB Aj6,
 ⟨oo hB Aj5,
 ⟨oo hB Aj4,
 ⟨oo hB Aj3,
 ⟨oo hB Aj2,
 ⟨oo hB Aj1,
 ⟨oo hB Aj0,
 ⟨oo hB Ajz,
 ⟨oo hB Ajy,
 ⟨oo hB Ajx,
 ⟨oo hB Ajw,
 ⟨oo hB Ajv,
 ⟨oo hB Aju,
 ⟨oo hB Ajt,
 ⟨oo hB Ajs,
 ⟨oo hB Ajr,
 ⟨oo hB Ajq,
 ⟨oo hB Ajp,
 ⟨oo hB Ajo,
 ⟨oo hB Ajn,
 ⟨oo hB Ajm,
 ⟨oo hB Ajl,
 ⟨oo hB Ajk,
 ⟨oo hB Ahf,
 ⟨oo hB Ahe,
 ⟨oo hB Ahd,
 ⟨oo hB Ahc,
 ⟨oo hB Ahb,
 ⟨oo hB Aha,
 ⟨oo hB AgZ,
 ⟨oo hB AgY,
 ⟨oo hB AgX,
 ⟨oo hB AgW,
 ⟨oo hB AgV,
 ⟨oo hB AgU,
 ⟨oo hB AgT,
 ⟨oo hB AgS,
 ⟨oo hB AgR,
 ⟨oo hB AgQ,
 ⟨oo hB AgP,
 ⟨oo hB AgO,
 ⟨oo hB AgN,
 ⟨oo hB AgM,
 ⟨oo hB AgL,
 ⟨oo hB AgK,
 ⟨oo hB AgJ,
 ⟨oo hB AgI,
 ⟨oo hB AgH,
 ⟨oo hB AgG,
 ⟨oo hB AgF,
 ⟨oo hB AgE,
 ⟨oo hB AgD,
 ⟨oo hB AgC,
 ⟨oo hB AgB,
 ⟨oo hB AgA,
 ⟨oo hB Ag9,
 ⟨oo hB Ag8,
 ⟨oo hB Ag7,
 ⟨oo hB Ag6,
 ⟨oo hB Ag5,
 ⟨oo hB Ag4,
 ⟨oo hB Ag3,
 ⟨oo hB Ag2,
 ⟨oo hB Ag1,
 ⟨oo hB Ag0,
 ⟨oo hB Agz,
 ⟨oo hB Agy,
 ⟨oo hB Agx,
 ⟨oo hB Agw,
 ⟨oo hB Agv,
 ⟨oo hB Agu,
 ⟨oo hB Agt,
 ⟨oo hB Ags,
 ⟨oo hB Agr,
 ⟨oo hB Agq,
 ⟨oo hB Agp,
 ⟨oo hB Ago,
 ⟨oo hB Agn,
 ⟨oo hB Agm,
 ⟨oo hB Agl,
 ⟨oo hB Agk,
 ⟨oo hB Agj,
 ⟨oo hB Agi,
 ⟨oo hB Agh,
 ⟨oo hB Agg,
 ⟨oo hB Agf,
 ⟨oo hB Age,
 ⟨oo hB Agd,
 ⟨oo hB Agc,
 ⟨oo hB Agb,
 ⟨oo hB Aga,trivial⟩⟩⟩⟩⟩⟩⟩⟩⟩⟩⟩⟩⟩⟩⟩⟩⟩⟩⟩⟩⟩⟩⟩⟩⟩⟩⟩⟩⟩⟩⟩⟩⟩⟩⟩⟩⟩⟩⟩⟩⟩⟩⟩⟩⟩⟩⟩⟩⟩⟩⟩⟩⟩⟩⟩⟩⟩⟩⟩⟩⟩⟩⟩⟩⟩⟩⟩⟩⟩⟩⟩⟩⟩⟩⟩⟩⟩⟩⟩⟩⟩⟩⟩⟩⟩⟩⟩⟩⟩⟩⟩⟩⟩⟩⟩⟩⟩⟩⟩⟩⟩⟩⟩⟩⟩⟩⟩⟩⟩⟩⟩⟩⟩⟩⟩⟩⟩⟩⟩⟩⟩⟩⟩⟩⟩⟩⟩⟩⟩⟩⟩⟩⟩⟩⟩⟩⟩⟩⟩⟩⟩⟩⟩⟩⟩⟩⟩⟩⟩⟩⟩⟩⟩⟩
theorem good {T:Nat->Option Obj} (hB:NH T) (n:Nat):AM.Good Tryz.prog T SS (mir trees n):=SR (AhI hB) n
end
end Go.Proofs.YtaolbokoijfhnaaGreatDoor.Am
namespace Go.AM
section
def BV (B:List (List PV)):Prop:=∀(i:Nat) (x:List PV),B[i]?=some x->∃n:Int,0<=n/\n<=255/\x=[.int .u8 n]
theorem Acs {B:List (List PV)} (h:BV B) (i:Int) (A:0<=i) (z:i<B.length):∃n:Int,0<=n/\n<=255/\B[i.toNat]?=some [.int .u8 n]:=by
 have j:i.toNat<B.length:=by omega
 obtain ⟨n,q,v,x⟩:=h i.toNat _ (List.getElem?_eq_getElem j)
 exact ⟨n,q,v,by rw [List.getElem?_eq_getElem j,x]⟩
theorem Aih (e:Int) (h:(-2147483648:Int)<=e/\e<=(2147483647:Int):=by omega):IntKind.wrap .i32 e=e:=P8 .i32 e h
theorem Aig (e:Int) (h:(-9223372036854775808:Int)<=e/\e<=(9223372036854775807:Int):=by omega):IntKind.wrap .i64 e=e:=P8 .i64 e h
theorem AnJ (e:Int) (h:(0:Int)<=e/\e<=(255:Int):=by omega):IntKind.wrap .u8 e=e:=P8 .u8 e h
end
section
theorem GV {e:Int} (h:(-9223372036854775808:Int)<=e/\e<=9223372036854775807):IntKind.wrap .i64 e=e:=Aig e h
theorem YG {e:Int} (h:(-2147483648:Int)<=e/\e<=2147483647):IntKind.wrap .i32 e=e:=Aih e h
theorem AnI {e:Int} (h:(0:Int)<=e/\e<=255):IntKind.wrap .u8 e=e:=AnJ e h
theorem Adg {a b:Int} (h:0<=a):Int.tmod a b=a%b:=Int.tmod_eq_emod_of_nonneg h
theorem Adh {a b:Int} (h:0<=a):Int.tdiv a b=a/b:=Int.tdiv_eq_ediv_of_nonneg h
theorem kn {p:Prop} (h:p:=by first|omega|assumption|rfl|(simp only [lA,lC,lN,lT',List.length_drop,true_and,and_true];omega) |(simp only [lA,lC,lN,lT',List.length_drop,true_and,and_true]at*;omega) |(subst_vars;first|assumption|omega)):p:=h
theorem dead {p:Prop} (h:False:=by first|omega|contradiction|(simp only [lA,lC,lN,lT',List.length_drop,true_and,and_true]at*;omega)):p:=h.elim
section
variable {ρ:Env} {t a b:ST} {x y:Int}
theorem d8 (h:t.den ρ=x) (r:0<=x/\x<=255):(ST.conv .u8 t).den ρ=x:=by show IntKind.wrap .u8 (t.den ρ)=x;rw [h];exact AnI r
theorem d32 (h:t.den ρ=x) (r:(-2147483648:Int)<=x/\x<=2147483647):(ST.conv .i32 t).den ρ=x:=by show IntKind.wrap .i32 (t.den ρ)=x;rw [h];exact YG r
theorem d64 (h:t.den ρ=x) (r:(-9223372036854775808:Int)<=x/\x<=9223372036854775807):(ST.conv .i64 t).den ρ=x:=by show IntKind.wrap .i64 (t.den ρ)=x;rw [h];exact GV r
theorem da (h:a.den ρ=x) (g:b.den ρ=y) (r:(-9223372036854775808:Int)<=x+y/\x+y<=9223372036854775807):(ST.bin .add .i64 a b).den ρ=x+y:=by show IntKind.wrap .i64 (a.den ρ+b.den ρ)=_;rw [h,g];exact GV r
theorem ds (h:a.den ρ=x) (g:b.den ρ=y) (r:(-9223372036854775808:Int)<=x-y/\x-y<=9223372036854775807):(ST.bin .sub .i64 a b).den ρ=x-y:=by show IntKind.wrap .i64 (a.den ρ-b.den ρ)=_;rw [h,g];exact GV r
theorem dm (h:a.den ρ=x) (g:b.den ρ=y) (r:(-9223372036854775808:Int)<=x*y/\x*y<=9223372036854775807):(ST.bin .mul .i64 a b).den ρ=x*y:=by show IntKind.wrap .i64 (a.den ρ*b.den ρ)=_;rw [h,g];exact GV r
theorem da2 (h:a.den ρ=x) (g:b.den ρ=y) (r:(-2147483648:Int)<=x+y/\x+y<=2147483647):(ST.bin .add .i32 a b).den ρ=x+y:=by show IntKind.wrap .i32 (a.den ρ+b.den ρ)=_;rw [h,g];exact YG r
theorem ds2 (h:a.den ρ=x) (g:b.den ρ=y) (r:(-2147483648:Int)<=x-y/\x-y<=2147483647):(ST.bin .sub .i32 a b).den ρ=x-y:=by show IntKind.wrap .i32 (a.den ρ-b.den ρ)=_;rw [h,g];exact YG r
theorem dm2 (h:a.den ρ=x) (g:b.den ρ=y) (r:(-2147483648:Int)<=x*y/\x*y<=2147483647):(ST.bin .mul .i32 a b).den ρ=x*y:=by show IntKind.wrap .i32 (a.den ρ*b.den ρ)=_;rw [h,g];exact YG r
theorem dr {k:IntKind} (h:a.den ρ=x) (g:b.den ρ=y) (r:0<=x):(ST.bin .rem k a b).den ρ=x%y:=by show Int.tmod (a.den ρ) (b.den ρ)=_;rw [h,g];exact Adg r
theorem dq (h:a.den ρ=x) (g:b.den ρ=y) (r:0<=x/\-9223372036854775808<=x/y/\x/y<=9223372036854775807):(ST.bin .quo .i64 a b).den ρ=x/y:=by show IntKind.wrap .i64 (Int.tdiv (a.den ρ) (b.den ρ))=_;rw [h,g,Adh r.1];exact GV r.2
theorem AkT {i:Nat} (h:ρ.val i=x):(ST.var i).den ρ=x:=h
theorem AkV {n:Nat} (h:(n:Int)=x):(ST.lit (.ofNat n)).den ρ=x:=h
theorem dn (h:t.den ρ=x:=by repeat (first|with_reducible refine AkT ?_|with_reducible refine AkV ?_|with_reducible refine d64 ?_ ?_|with_reducible refine da ?_ ?_ ?_|with_reducible refine ds ?_ ?_ ?_|with_reducible refine dr ?_ ?_ ?_|with_reducible refine dq ?_ ?_ ?_|with_reducible refine dm ?_ ?_ ?_|with_reducible refine d32 ?_ ?_|with_reducible refine da2 ?_ ?_ ?_|with_reducible refine ds2 ?_ ?_ ?_|with_reducible refine dm2 ?_ ?_ ?_|with_reducible refine d8 ?_ ?_|exact rfl|omega|(simp only [];omega))):t.den ρ=x:=h
theorem B5 {ts:List ST} {j:List Int} (h:t.den ρ=x) (g:ts.map (fun t=>t.den ρ)=j):(t::ts).map (fun t=>t.den ρ)=x::j:=by rw [List.map_cons,h,g]
theorem R8:([]:List ST).map (fun t=>t.den ρ)=[]:=rfl
theorem vmk {τ:CE} {n:List Int} {s:List (List Nat)} {l:List (List (List PV))} {m:List (List (List Nat×List PV))} (h:τ.n.map (fun t=>t.den ρ)=n) (hs:τ.s.map (Bm ρ)=s) (hl:τ.l.map ρ.lst=l) (j:τ.m.map ρ.map=m):τ.vals ρ=⟨n,s,l,m⟩:=by
 subst h;subst hs;subst hl;subst j;rfl
theorem vn {τ:CE} {v:Aj} (h:τ.vals ρ=v:=by refine vmk ?_ rfl rfl rfl;repeat (first|with_reducible refine B5 ?_ ?_|with_reducible exact R8|exact dn)):τ.vals ρ=v:=h
theorem AdO {k:IntKind} (h:t.den ρ=x):Fz ρ (.int k) (.int k t)=some (.int k x):=by
 have:UM k k=true:=by cases k<;>rfl
 simp [Fz,this,h]
theorem Xa {c:CK} {sh:List CK} {a:Aa} {j:List Aa} {p:PV} {ps:List PV} (h:Fz ρ c a=some p) (g:BP ρ sh j=some ps):BP ρ (c::sh) (a::j)=some (p::ps):=by simp only [BP,h,g]
theorem AaZ {sh:List CK} {a:List Aa} {j:List (List Aa)} {p:List PV} {ps:List (List PV)} (h:BP ρ sh a=some p) (g:Fl ρ sh j=some ps):Fl ρ sh (a::j)=some (p::ps):=by simp only [Fl,h,g]
theorem AfX {sh:List CK} {j:List (List Aa)} {l:List (List PV)} (h:Fl ρ sh j=some l):CW ρ sh (.els j)=some l:=h
variable {sh:List CK} {p q r:AE} {l l2 l3:List (List PV)}
theorem Gf (h:CW ρ sh p=some l):Cn ρ sh [p]=some l:=by simp [Cn,h]
theorem Bq (h:CW ρ sh p=some l) (g:CW ρ sh q=some l2):Cn ρ sh [p,q]=some (l++l2):=by simp [Cn,h,g]
theorem Abj (h:CW ρ sh p=some l) (g:CW ρ sh q=some l2) (f:CW ρ sh r=some l3):Cn ρ sh [p,q,r]=some (l++l2++l3):=by simp [Cn,h,g,f]
theorem X9 {i:Nat} {n:ST} {n':Int} (h:n.den ρ=n') (j:0<=n'/\n'<=((ρ.lst i).length:Int)):CW ρ sh (.take i n)=some ((ρ.lst i).take n'.toNat):=by
 simp only [CW,h];rw [if_pos j]
theorem pe {j:List (List Aa)} (h:CW ρ sh (.els j)=some l:=by first|rfl|(refine AfX ?_;repeat (first|refine AaZ ?_ ?_|refine Xa ?_ ?_|exact AdO dn|rfl))):CW ρ sh (.els j)=some l:=h
theorem pw {i:Nat} {n:ST} (x:Int) (L:List (List PV)) (h:n.den ρ=x:=by exact dn) (hl:ρ.lst i=L:=by rfl) (j:x=(L.length:Int):=by exact kn):CW ρ sh (.take i n)=some L:=by
 subst hl;subst j
 simp only [CW,h]
 rw [if_pos ⟨by omega,by omega⟩,Int.toNat_natCast,List.take_length]
theorem pt {i:Nat} {n:ST} (x:Int) (L:List (List PV)) (h:n.den ρ=x:=by exact dn) (hl:ρ.lst i=L:=by rfl) (j:0<=x/\x<=(L.length:Int):=by exact kn):CW ρ sh (.take i n)=some (L.take x.toNat):=by
 subst hl;exact X9 h j
end
def W (trees:Nat->Tree) (Q:Out->Prop) (t:Tree) (v:Aj):Prop:=t.wp (Ec trees) Q v
def Ok (trees:Nat->Tree) (c:Nat) (v:Aj) (R:Out->Prop):Prop:=∃o,R o/\∀Q:Out->Prop,Q o->Ec trees c v Q
theorem Ok.of {trees:Nat->Tree} {c:Nat} {v:Aj} {R:Out->Prop} {t:Tree} (j:trees c=t) (h:W trees R t v):Ok trees c v R:=by
 subst j;exact Ec.elim (SW h)
theorem Eo {c j:Prop} {inst:Decidable c} {A B:Prop} (hc:c↔j) (q:j->A) (x:¬j->B):@ite Prop c inst A B:=by
 split
 ·rename_i h;exact q (hc.1 h)
 ·rename_i h;exact x fun v=>h (hc.2 v)
theorem Du {c:Prop} {inst:Decidable c} {A B:Prop} (hc:c) (j:A):@ite Prop c inst A B:=by rw [if_pos hc];exact j
theorem K0 {c:Prop} {inst:Decidable c} {A B:Prop} (hc:¬c) (j:B):@ite Prop c inst A B:=by rw [if_neg hc];exact j
section
variable {trees:Nat->Tree} {Q:Out->Prop} {t e k:Tree} {v:Aj}
section
variable {a b:ST} (x y:Int)
theorem lt (z:x<y->W trees Q t v) (j:¬(x<y)->W trees Q e v) (A:a.den v.e=x:=by exact dn) (q:b.den v.e=y:=by exact dn):W trees Q (.test .lss a b t e) v:=by subst A;subst q;exact Eo Iff.rfl z j
theorem CF (q:W trees Q t v) (hc:x<y:=by exact kn) (z:a.den v.e=x:=by exact dn) (j:b.den v.e=y:=by exact dn):W trees Q (.test .lss a b t e) v:=by subst z;subst j;exact Du hc q
theorem JY (j:W trees Q e v) (hc:¬(x<y):=by exact kn) (z:a.den v.e=x:=by exact dn) (q:b.den v.e=y:=by exact dn):W trees Q (.test .lss a b t e) v:=by subst z;subst q;exact K0 hc j
theorem le (z:x<=y->W trees Q t v) (j:¬(x<=y)->W trees Q e v) (A:a.den v.e=x:=by exact dn) (q:b.den v.e=y:=by exact dn):W trees Q (.test .leq a b t e) v:=by subst A;subst q;exact Eo Iff.rfl z j
theorem E6 (q:W trees Q t v) (hc:x<=y:=by exact kn) (z:a.den v.e=x:=by exact dn) (j:b.den v.e=y:=by exact dn):W trees Q (.test .leq a b t e) v:=by subst z;subst j;exact Du hc q
theorem gt (z:x>y->W trees Q t v) (j:¬(x>y)->W trees Q e v) (A:a.den v.e=x:=by exact dn) (q:b.den v.e=y:=by exact dn):W trees Q (.test .gtr a b t e) v:=by subst A;subst q;exact Eo Iff.rfl z j
theorem gtN (j:W trees Q e v) (hc:¬(x>y):=by exact kn) (z:a.den v.e=x:=by exact dn) (q:b.den v.e=y:=by exact dn):W trees Q (.test .gtr a b t e) v:=by subst z;subst q;exact K0 hc j
theorem ge (z:x>=y->W trees Q t v) (j:¬(x>=y)->W trees Q e v) (A:a.den v.e=x:=by exact dn) (q:b.den v.e=y:=by exact dn):W trees Q (.test .geq a b t e) v:=by subst A;subst q;exact Eo Iff.rfl z j
theorem Dv (q:W trees Q t v) (hc:x>=y:=by exact kn) (z:a.den v.e=x:=by exact dn) (j:b.den v.e=y:=by exact dn):W trees Q (.test .geq a b t e) v:=by subst z;subst j;exact Du hc q
theorem LA (j:W trees Q e v) (hc:¬(x>=y):=by exact kn) (z:a.den v.e=x:=by exact dn) (q:b.den v.e=y:=by exact dn):W trees Q (.test .geq a b t e) v:=by subst z;subst q;exact K0 hc j
theorem eq (z:x=y->W trees Q t v) (j:¬(x=y)->W trees Q e v) (A:a.den v.e=x:=by exact dn) (q:b.den v.e=y:=by exact dn):W trees Q (.test .eql a b t e) v:=by subst A;subst q;exact Eo Iff.rfl z j
theorem Bw (q:W trees Q t v) (hc:x=y:=by exact kn) (z:a.den v.e=x:=by exact dn) (j:b.den v.e=y:=by exact dn):W trees Q (.test .eql a b t e) v:=by subst z;subst j;exact Du hc q
theorem AB (j:W trees Q e v) (hc:¬(x=y):=by exact kn) (z:a.den v.e=x:=by exact dn) (q:b.den v.e=y:=by exact dn):W trees Q (.test .eql a b t e) v:=by subst z;subst q;exact K0 hc j
theorem ne (z:x≠y->W trees Q t v) (j:¬(x≠y)->W trees Q e v) (A:a.den v.e=x:=by exact dn) (q:b.den v.e=y:=by exact dn):W trees Q (.test .neq a b t e) v:=by subst A;subst q;exact Eo Iff.rfl z j
theorem neY (q:W trees Q t v) (hc:x≠y:=by exact kn) (z:a.den v.e=x:=by exact dn) (j:b.den v.e=y:=by exact dn):W trees Q (.test .neq a b t e) v:=by subst z;subst j;exact Du hc q
theorem BJ (j:W trees Q e v) (hc:¬(x≠y):=by exact kn) (z:a.den v.e=x:=by exact dn) (q:b.den v.e=y:=by exact dn):W trees Q (.test .neq a b t e) v:=by subst z;subst q;exact K0 hc j
end
section
variable {i:Nat} {n':Int} {s:List Nat}
theorem sn (x n:Int) (j:x=n->W trees Q t v) (q:¬x=n->W trees Q e v) (z:v.n.getD i 0=x:=by rfl) (A:n'=n:=by rfl):W trees Q (.B6 i n' t e) v:=by subst z;subst A;exact Eo Iff.rfl j q
theorem Bg (x n:Int) (j:W trees Q t v) (hc:x=n:=by exact kn) (q:v.n.getD i 0=x:=by rfl) (z:n'=n:=by rfl):W trees Q (.B6 i n' t e) v:=by subst q;subst z;exact Du hc j
theorem NN (x n:Int) (j:W trees Q e v) (hc:¬x=n:=by exact kn) (q:v.n.getD i 0=x:=by rfl) (z:n'=n:=by rfl):W trees Q (.B6 i n' t e) v:=by subst q;subst z;exact K0 hc j
theorem ss (x:List Nat) (q:x=s->W trees Q t v) (j:¬x=s->W trees Q e v) (z:v.s.getD i []=x:=by rfl):W trees Q (.sets i s t e) v:=by subst z;exact Eo Iff.rfl q j
theorem Xv (x:List Nat) (j:W trees Q t v) (hc:x=s:=by first|rfl|assumption) (q:v.s.getD i []=x:=by rfl):W trees Q (.sets i s t e) v:=by subst q;exact Du hc j
variable {p q:Aa}
theorem seY (x y:List Nat) (j:W trees Q t v) (hc:x=y:=by first|rfl|assumption) (A:Bm v.e p=x:=by rfl) (z:Bm v.e q=y:=by rfl):W trees Q (.FH p q t e) v:=by subst A;subst z;exact Du hc j
end
theorem el {l:Nat} {j:ST} {sh:List CK} {ps:List PV} {w:Aj} {j':Int} (B:(v.l.getD l [])[j'.toNat]?=some ps) (q:W trees Q k (v.app (w.fit (HF sh)))) (x:j.den v.e=j':=by exact dn) (A:0<=j':=by exact kn) (z:CL sh ps=some w:=by rfl):W trees Q (.elem l j sh k) v:=by
 show Tree.wp _ _ _ _
 show WU _ _ _ _
 unfold WU
 rw [x,B]
 simp only [z]
 exact ⟨A,q⟩
theorem ll {l:Nat} {t:ST} (x:Int) (L:List (List PV)) (j:W trees Q k v) (q:t.den v.e=x:=by exact dn) (hl:v.l.getD l []=L:=by rfl) (h:x=(L.length:Int):=by first|rfl|exact kn):W trees Q (.Bc l t k) v:=by subst q;subst hl;exact Du h j
theorem sl {s lo j:Nat} (S:List Nat) (q:W trees Q k (v.app {n:=[(S.length:Int)]})) (hs:v.s.getD s []=S:=by rfl) (hl:lo=0:=by rfl) (x:j=64:=by rfl) (h:S.length<=64:=by first|omega|(simp;done)):W trees Q (.BQ s lo j k) v:=by subst hs;subst hl;subst x;exact Du ⟨Nat.zero_le _,h⟩ q
theorem ca {x y:Aa} (X Y:List Nat) (j:W trees Q k (v.app {s:=[X++Y]})) (z:Bm v.e x=X:=by rfl) (q:Bm v.e y=Y:=by rfl) (h:X.length+Y.length<=1048576:=by first|omega|(simp only [lA,lC,lN];omega) |(simp;done)):W trees Q (.cat x y k) v:=by subst z;subst q;exact Du h j
theorem bu {t:ST} {n:Nat} (x m:Int) (q:W trees Q k (v.app {n:=[x+m]})) (z:t.den v.e=x:=by exact dn) (j:(n:Int)=m:=by rfl) (h:x+m<=1048576:=by omega):W trees Q (.bump t n k) v:=by subst z;subst j;exact Du h q
theorem de {ps:List AE} {sh:List CK} (l:List (List PV)) (j:W trees Q k (v.app {n:=[(l.length:Int)],l:=[l]})) (h:Cn v.e sh ps=some l:=by first|rfl|repeat (first|refine Gf ?_|refine Bq ?_ ?_|refine Abj ?_ ?_ ?_|refine AfX ?_|refine AaZ ?_ ?_|refine Xa ?_ ?_|exact AdO dn|rfl)):W trees Q (.JO ps sh k) v:=by
 show Jp _ _
 rw [h];exact j
theorem dL {ps:List AE} {sh:List CK} (l0:List (List PV)) (j:∀l,l=l0->W trees Q k (v.app {n:=[(l.length:Int)],l:=[l]})) (h:Cn v.e sh ps=some l0:=by first|rfl|repeat (first|refine Gf ?_|refine Bq ?_ ?_|refine Abj ?_ ?_ ?_|refine AfX ?_|refine AaZ ?_ ?_|refine Xa ?_ ?_|exact AdO dn|rfl)):W trees Q (.JO ps sh k) v:=de l0 (j l0 rfl) h
theorem fr {z:Nat×Nat×Nat×Nat×Nat} (j:W trees Q k v):W trees Q (.Od z k) v:=j
theorem md {j:List (Aa×List Aa)} {sh:List CK} (l:List (List Nat×List PV)) (q:W trees Q k (v.app {m:=[l]})) (h:C7 v.e sh j=some l:=by rfl):W trees Q (.Ku j sh k) v:=by
 show Jp _ _
 rw [h];exact q
theorem up {m:Nat} {key:Aa} {cs:List Aa} {sh:List CK} (ps:List PV) (j:W trees Q k (v.app {m:=[Bv (v.m.getD m []) (Bm v.e key) ps]})) (h:BP v.e sh cs=some ps:=by first|rfl|repeat (first|refine Xa ?_ ?_|exact AdO dn|rfl)):W trees Q (.up m key cs sh k) v:=by
 show Jp _ _
 rw [h];exact j
theorem lh {m:Nat} {key:Aa} {sh:List CK} {ps:List PV} {w:Aj} (q:Bh (v.m.getD m []) (Bm v.e key)=some ps) (j:W trees Q t (v.app (w.fit (HF sh)))) (x:CL sh ps=some w:=by rfl):W trees Q (.look m key sh t e) v:=by
 show Tree.wp _ _ _ _
 show OR _ _ _ _ _
 unfold OR
 rw [q]
 simp only [x]
 exact j
theorem lm {m:Nat} {key:Aa} {sh:List CK} (q:Bh (v.m.getD m []) (Bm v.e key)=none) (j:W trees Q e v):W trees Q (.look m key sh t e) v:=by
 show Tree.wp _ _ _ _
 show OR _ _ _ _ _
 unfold OR
 rw [q]
 exact j
section
variable {c alt alt':Nat} {τ:CE} {u:C3} {v' w:Aj}
theorem ch (x:∀Q:Out->Prop,Q (alt,w)->Ec trees c v' Q) (q:W trees Q k (v.app (w.fit u))) (j:τ.vals v.e=v':=by exact vn):W trees Q (.call c alt τ u k e) v:=by
 show Ec trees c (τ.vals v.e) _
 rw [j]
 exact x _ (by simp only [if_true];exact q)
theorem cm (z:∀Q:Out->Prop,Q (alt',w)->Ec trees c v' Q) (q:W trees Q e v) (j:alt'≠alt:=by decide) (x:τ.vals v.e=v':=by exact vn):W trees Q (.call c alt τ u k e) v:=by
 show Ec trees c (τ.vals v.e) _
 rw [x]
 exact z _ (by rw [if_neg j];exact q)
theorem Ah {j:List Nat} (w:Aj) (h:Q (alt,w)) (q:τ.vals v.e=w:=by exact vn):W trees Q (.leaf alt j τ) v:=by
 show Q _
 rw [q];exact h
end
end
def E7 (j:List Int):Tree->Option (Nat×List Int)
 |.leaf a _ ⟨ts,[],[],[]⟩=>some (a,ts.map fun t=>t.den (Aj.e ⟨j,[],[],[]⟩))
 |.B6 i n t e=>if j.getD i 0=n then E7 j t else E7 j e
 |.test .lss a b t e=>if a.den (Aj.e ⟨j,[],[],[]⟩)<b.den (Aj.e ⟨j,[],[],[]⟩)then E7 j t else E7 j e
 |.test .eql a b t e=>if a.den (Aj.e ⟨j,[],[],[]⟩)=b.den (Aj.e ⟨j,[],[],[]⟩)then E7 j t else E7 j e
 |.test .neq a b t e=>if a.den (Aj.e ⟨j,[],[],[]⟩)≠b.den (Aj.e ⟨j,[],[],[]⟩)then E7 j t else E7 j e
 |_=>none
theorem DM {trees:Nat->Tree} {Q:Out->Prop} {j:List Int} {a:Nat} {ms:List Int}:∀(t:Tree),E7 j t=some (a,ms)->Q (a,⟨ms,[],[],[]⟩)->W trees Q t ⟨j,[],[],[]⟩
 |.leaf b nw ⟨ts,[],[],[]⟩,h,hq=>by
  simp only [E7,oI,Prod.mk.injEq]at h
  obtain ⟨v,q⟩:=h
  subst v;subst q;exact hq
 |.B6 i n t e,h,hq=>by
  simp only [E7]at h
  refine sn (j.getD i 0) n (fun k=>?_) fun k=>?_
  ·rw [if_pos k]at h;exact DM t h hq
  ·rw [if_neg k]at h;exact DM e h hq
 |.test .lss a b t e,h,hq=>by
  simp only [E7]at h
  refine lt (a.den (Aj.e ⟨j,[],[],[]⟩)) (b.den (Aj.e ⟨j,[],[],[]⟩)) (fun k=>?_) (fun k=>?_) rfl rfl
  ·rw [if_pos k]at h;exact DM t h hq
  ·rw [if_neg k]at h;exact DM e h hq
 |.test .eql a b t e,h,hq=>by
  simp only [E7]at h
  refine eq (a.den (Aj.e ⟨j,[],[],[]⟩)) (b.den (Aj.e ⟨j,[],[],[]⟩)) (fun k=>?_) (fun k=>?_) rfl rfl
  ·rw [if_pos k]at h;exact DM t h hq
  ·rw [if_neg k]at h;exact DM e h hq
 |.test .neq a b t e,h,hq=>by
  simp only [E7]at h
  refine ne (a.den (Aj.e ⟨j,[],[],[]⟩)) (b.den (Aj.e ⟨j,[],[],[]⟩)) (fun k=>?_) (fun k=>?_) rfl rfl
  ·rw [if_pos k]at h;exact DM t h hq
  ·rw [if_neg k]at h;exact DM e h hq
theorem Ok.num {trees:Nat->Tree} {c:Nat} {j:List Int} {R:Out->Prop} {t:Tree} {a:Nat} {ms:List Int} (v:trees c=t) (h:E7 j t=some (a,ms)) (q:R (a,⟨ms,[],[],[]⟩)):Ok trees c ⟨j,[],[],[]⟩ R:=.of v (DM t h q)
attribute [irreducible] W
end
end Go.AM
namespace Go.AM.K
section
abbrev Rs:=List (List PV)
abbrev Mp:=List (List Nat×List PV)
theorem asm {p:Prop} (h:p:=by assumption):p:=h
abbrev v0:Aj:=⟨[],[],[],[]⟩
theorem om {p:Prop} (h:p:=by omega):p:=h
abbrev Row:=List PV
inductive E where
 |node (k o t v:Int) (s:List Nat) (a:List E)
mutual
def E.enc:E->Row
 |.node k o t v s a=>[.int .i64 k,.int .i64 o,.int .i64 t,.str s,.int .i32 v,.list 6 (E.Ab a)]
def E.Ab:List E->List Row
 |[]=>[]
 |e::l=>e.enc::E.Ab l
end
mutual
def E.nodes:E->Nat
 |.node k _ _ _ _ a=>(if k=0 then 0 else 1)+E.Ad a
def E.Ad:List E->Nat
 |[]=>0
 |e::l=>e.nodes+E.Ad l
end
mutual
def E.high:E->Nat
 |.node _ _ _ _ _ a=>1+E.BA a
def E.BA:List E->Nat
 |[]=>0
 |e::l=>max e.high (E.BA l)
end
def E0:E:=.node 0 0 0 0 [] []
theorem E.A7:∀l,(E.Ab l).length=l.length
 |[]=>rfl
 |_::l=>by simp only [E.Ab,lC,E.A7 l]
theorem E.EW:∀(l:List E) (i:Nat),(E.Ab l)[i]?=(l[i]?).map E.enc
 |[],i=>by simp [E.Ab]
 |e::l,0=>by simp [E.Ab]
 |e::l,i+1=>by simp only [E.Ab,List.getElem?_cons_succ];exact E.EW l i
theorem E.get (a:List E) (j:Int) (x:0<=j) (q:j<((E.Ab a).length:Int)):∃(k o t v:Int) (s:List Nat) (b:List E),(E.Ab a)[j.toNat]?=some [.int .i64 k,.int .i64 o,.int .i64 t,.str s,.int .i32 v,.list 6 (E.Ab b)]/\a[j.toNat]?=some (.node k o t v s b):=by
 rw [E.A7]at q
 have h:j.toNat<a.length:=by omega
 rcases he:a[j.toNat]with ⟨k,o,t,v,s,b⟩
 exact ⟨k,o,t,v,s,b,by rw [E.EW,List.getElem?_eq_getElem h,he];rfl,by rw [List.getElem?_eq_getElem h,he]⟩
theorem E.Kt:∀{l:List E} {i:Nat} {e:E},l[i]?=some e->e.nodes+E.Ad (l.drop (i+1))=E.Ad (l.drop i)
 |[],i,e,h=>by simp at h
 |x::l,0,e,h=>by simp at h;subst h;simp [E.Ad]
 |x::l,i+1,e,h=>by
  simp only [List.getElem?_cons_succ]at h
  simpa using E.Kt h
theorem E.J9:∀{l:List E} {i:Nat} {e:E},l[i]?=some e->e.high<=E.BA l
 |[],i,e,h=>by simp at h
 |x::l,0,e,h=>by simp at h;subst h;simp only [E.BA];omega
 |x::l,i+1,e,h=>by
  simp only [List.getElem?_cons_succ]at h
  have:=E.J9 h
  simp only [E.BA];omega
abbrev Ctx:=List Nat->Option (Int×Int×Int)
def Ctx.Iq (Γ:Ctx) (s:List Nat) (x:Int×Int×Int):Ctx:=fun n=>if n=s then some x else Γ n
theorem FD {Γ:Ctx} {s x}:Γ.Iq s x s=some x:=if_pos rfl
theorem Cu {Γ:Ctx} {s x n} (h:n≠s):Γ.Iq s x n=Γ n:=if_neg h
def vn (i:Nat):List Nat:=if i<10 then [118,48+i]else [118,49+(i-10)/10,48+i%10]
def names:List (List Nat):=[[107],[97],[102],[115],[112],[98],[110],[116],[99],[104],[120],[121],[113,113,57],[113,113,56],[122],[113],[118]]++(List.range 24).map vn
def Nm (s:List Nat):Prop:=s∈names
instance {s:List Nat}:Decidable (Nm s):=by unfold Nm;infer_instance
theorem Nm.len {s:List Nat} (h:Nm s):s.length<=3:=by
 have:∀s∈names,s.length<=3:=by decide
 exact this s h
theorem Nm.vn {i:Nat} (h:i<24):Nm (vn i):=by
 have:∀i,i<24->K.vn i∈names:=by decide
 exact this i h
theorem AeN {i j:Nat} (v:i<24) (q:j<24) (h:vn i=vn j):i=j:=by
 have:∀i,i<24->∀j,j<24->vn i=vn j->i=j:=by decide
 exact this i v j q h
def Xo (o t u:Int):Prop:=((o=1∨o=3)/\(t=1∨t=2)/\u=t)∨(o=2/\(t=1∨t=3)/\u=t)∨(o=4/\t=1/\u=2)∨(o=5/\t=2/\u=1)
def FC (o t u:Int):Prop:=((o=10∨o=11∨o=22∨o=23)/\(t=1∨t=2)/\u=t)∨((o=12∨o=13∨o=14∨o=20∨o=21)/\t=1/\u=1)∨((o=15∨o=16)/\t=2/\u=2)
 ∨((o=17∨o=18∨o=19)/\(t=1∨t=3)/\u=t)∨((o=24∨o=25)/\1<=t/\t<=3/\u=3)∨((o=26∨o=27∨o=28∨o=29)/\(t=1∨t=2)/\u=3)
instance {o t u}:Decidable (Xo o t u):=by unfold Xo;infer_instance
instance {o t u}:Decidable (FC o t u):=by unfold FC;infer_instance
def Fx (v:Int):Prop:=∃x:Nat,x<256/\v=x*16384-100000
theorem Fx.mk {x v:Int} (q:0<=x) (j:x<=255) (h:v=x*16384-100000):Fx v:=⟨x.toNat,by omega,by omega⟩
inductive TR (Δ:List Nat->Int×Int×Int->Prop):Int->E->Prop
 |num {t v:Int}:1<=t->t<=3->(t=3->v=0∨v=1)->(t=2->Fx v)->-200000<=v/\v<=5000000->TR Δ t (.node 1 0 t v [] [])
 |id {o:Int}:1<=o->o<=7->TR Δ 1 (.node 3 o 0 0 [] [])
 |var {s:List Nat} {k t i:Int}:Nm s->(k=2∨k=3)->1<=t->t<=3->Δ s (k,t,i)->TR Δ t (.node 2 0 0 0 s [])
 |un {o t u:Int} {a:E}:Xo o t u->TR Δ t a->TR Δ u (.node 4 o 0 0 [] [a])
 |bin {o t u:Int} {a b:E}:FC o t u->TR Δ t a->TR Δ t b->TR Δ u (.node 5 o 0 0 [] [a,b])
 |cond {t:Int} {a b c:E}:TR Δ 3 a->TR Δ t b->TR Δ t c->TR Δ t (.node 6 0 0 0 [] [a,b,c])
 |load {s:List Nat} {t i:Int} {a:E}:Nm s->1<=t->t<=3->Δ s (0,t,i)->TR Δ 1 a->TR Δ t (.node 7 0 0 0 s [a])
 |call {i:Int} {a b:E}:Δ [104] (1,1,i)->TR Δ 1 a->TR Δ 1 b->TR Δ 1 (.node 8 0 0 0 [104] [a,b])
 |ca0 {t:Int} {s:List Nat}:(∀s z,Δ s z)->Nm s->1<=t/\t<=3->TR Δ t (.node 8 0 0 0 s [])
 |ca1 {t:Int} {s:List Nat} {a:E}:(∀s z,Δ s z)->Nm s->1<=t/\t<=3->TR Δ 1 a->TR Δ t (.node 8 0 0 0 s [a])
abbrev T (Γ:Ctx):Int->E->Prop:=TR fun s z=>Γ s=some z
theorem Ctx.St {Γ:Ctx} (h:∀s z,Γ s=some z):False:=by
 have j:=h [] (0,0,0)
 rw [h [] (1,0,0)]at j
 simp at j
def F (d:Int):Nat:=if d<=1 then 1 else if d=2 then 4 else 13
theorem AeG (d:Int):1<=F d:=by
 unfold F
 repeat' split
 all_goals omega
theorem NF {d:Int} (q:¬d<=1) (j:d<=3):1+3*F (d-1)<=F d:=by
 have:d=2∨d=3:=by omega
 rcases this with h|h<;>subst h<;>decide
def CQ (Γ:Ctx) (t d k o ty v:Int) (s:List Nat) (A:List Row):Prop:=
 ∃a:List E,A=E.Ab a/\T Γ t (.node k o ty v s a)/\(E.node k o ty v s a).nodes<=F d/\((E.node k o ty v s a).high:Int)<=2*max d 1-1
section
variable {Γ:Ctx}
theorem CQ.leaf {t d k o ty v:Int} {s:List Nat} (h:T Γ t (.node k o ty v s [])):CQ Γ t d k o ty v s []:=by
 refine ⟨[],rfl,h,?_,?_⟩
 ·have:=AeG d
  simp only [E.nodes,E.Ad];split<;>omega
 ·simp only [E.high,E.BA];omega
theorem CQ.num {t d v:Int} (j:1<=t) (q:t<=3) (x:t=3->v=0∨v=1) (hf:t=2->Fx v) (hb: -200000<=v/\v<=5000000):CQ Γ t d 1 0 t v [] []:=.leaf (.num j q x hf hb)
theorem CQ.id {d o:Int} (j:1<=o) (q:o<=7):CQ Γ 1 d 3 o 0 0 [] []:=.leaf (.id j q)
theorem CQ.var {t d k i:Int} {s:List Nat} (x:Nm s) (j:k=2∨k=3) (q:1<=t) (v:t<=3) (h:Γ s=some (k,t,i)):CQ Γ t d 2 0 0 0 s []:=.leaf (.var x j q v h)
theorem CQ.mono {t d j k o ty v:Int} {s:List Nat} {A:List Row} (h:CQ Γ t d k o ty v s A) (hd:d<=max j 1):CQ Γ t j k o ty v s A:=by
 obtain ⟨a,x,q,B,z⟩:=h
 refine ⟨a,x,q,?_,by omega⟩
 have:F d<=F j:=by
  unfold F
  repeat' split
  all_goals omega
 omega
def GK (k o ty v:Int) (s:List Nat) (A:List Row):Row:=[.int .i64 k,.int .i64 o,.int .i64 ty,.str s,.int .i32 v,.list 6 A]
theorem Ee {k o ty v:Int} {s:List Nat} {A:List Row} {a:List E} (h:A=E.Ab a):GK k o ty v s A=(E.node k o ty v s a).enc:=by subst h;rfl
theorem CQ.un {d t u o j x q v1:Int} {v:List Nat} {z:List Row} (h:CQ Γ t (d-1) j x q v1 v z) (A:Xo o t u) (I:¬d<=1) (B:d<=3):CQ Γ u d 4 o 0 0 [] [GK j x q v1 v z]:=by
 obtain ⟨a,J,C,M,L⟩:=h
 refine ⟨[.node j x q v1 v a],by simp only [E.Ab,Ee J],.un A C,?_,?_⟩
 ·have:=NF I B
  have H:¬(4:Int)=0:=by decide
  rw [E.nodes,if_neg H]
  simp only [E.Ad]at*;omega
 ·rw [E.high];simp only [E.BA]at*;omega
theorem CQ.bin {d t u o j H v v1 A C q x:Int} {z B:List Nat} {I J:List Row} (h:CQ Γ t (d-1) j H v v1 z I) (g:CQ Γ t (d-1) A C q x B J) (L:FC o t u) (R:¬d<=1) (N:d<=3):
  CQ Γ u d 5 o 0 0 [] [GK j H v v1 z I,GK A C q x B J]:=by
 obtain ⟨a,U,P,X,V⟩:=h
 obtain ⟨b,O,M,Y,Z⟩:=g
 refine ⟨[.node j H v v1 z a,.node A C q x B b],by simp only [E.Ab,Ee U,Ee O],.bin L P M,?_,?_⟩
 ·have:=NF R N
  have Q:¬(5:Int)=0:=by decide
  rw [E.nodes,if_neg Q]
  simp only [E.Ad]at*;omega
 ·rw [E.high];simp only [E.BA]at*;omega
theorem CQ.call {d i j H v v1 A C q x:Int} {z B:List Nat} {I J:List Row} (R:¬d<=1) (N:d<=3) (L:Γ [104]=some (1,1,i)) (h:CQ Γ 1 (d-1) j H v v1 z I) (g:CQ Γ 1 (d-1) A C q x B J):
  CQ Γ 1 d 8 0 0 0 [104] [GK j H v v1 z I,GK A C q x B J]:=by
 obtain ⟨a,U,P,X,V⟩:=h
 obtain ⟨b,O,M,Y,Z⟩:=g
 refine ⟨[.node j H v v1 z a,.node A C q x B b],by simp only [E.Ab,Ee U,Ee O],.call L P M,?_,?_⟩
 ·have:=NF R N
  have Q:¬(8:Int)=0:=by decide
  rw [E.nodes,if_neg Q]
  simp only [E.Ad]at*;omega
 ·rw [E.high];simp only [E.BA]at*;omega
theorem CQ.cond {d t j C H v1 M B q J z I v x:Int} {L A N:List Nat} {O Q P:List Row} (V:¬d<=1) (h3:d<=3) (h:CQ Γ 3 (d-1) j C H v1 L O) (g:CQ Γ t (d-1) M B q J A Q) (f:CQ Γ t (d-1) z I v x N P):
  CQ Γ t d 6 0 0 0 [] [GK j C H v1 L O,GK M B q J A Q,GK z I v x N P]:=by
 obtain ⟨a,X,U,hn,hh⟩:=h
 obtain ⟨b,gA,Y,gn,gh⟩:=g
 obtain ⟨c,R,Z,fn,fh⟩:=f
 refine ⟨[.node j C H v1 L a,.node M B q J A b,.node z I v x N c],by simp only [E.Ab,Ee X,Ee gA,Ee R],.cond U Y Z,?_,?_⟩
 ·have:=NF V h3
  have e4:¬(6:Int)=0:=by decide
  rw [E.nodes,if_neg e4]
  simp only [E.Ad]at*;omega
 ·rw [E.high];simp only [E.BA]at*;omega
def Idx (Γ:Ctx) (d:Int) (A:List Row):Prop:=
 ∃a:List E,A=E.Ab a/\T Γ 1 (.node 5 17 0 0 [] a)/\(E.node 5 17 0 0 [] a).nodes<=2+F (d-1)/\((E.node 5 17 0 0 [] a).high:Int)<=2*max (d-1) 1
theorem Idx.mk {d n j x q v1:Int} {v:List Nat} {z:List Row} (h:CQ Γ 1 (d-1) j x q v1 v z) (hb: -200000<=n/\n<=5000000):Idx Γ d [GK j x q v1 v z,GK 1 0 1 n [] []]:=by
 obtain ⟨a,C,A,I,H⟩:=h
 refine ⟨[.node j x q v1 v a,.node 1 0 1 n [] []],by simp only [E.Ab,Ee C];rfl,.bin (by decide) A (.num (by decide) (by decide) (fun h=>absurd h (by decide)) (fun h=>absurd h (by decide)) hb),?_,?_⟩
 ·have B:¬(5:Int)=0:=by decide
  rw [E.nodes,if_neg B]
  have:(E.node 1 0 1 n [] []).nodes=1:=rfl
  simp only [E.Ad,this]at*;omega
 ·have:(E.node 1 0 1 n [] []).high=1:=rfl
  rw [E.high];simp only [E.BA,this]at*;omega
theorem CQ.load {d t i:Int} {s:List Nat} {j:List Row} (x:¬d<=1) (B:d<=3) (hs:Nm s) (q:1<=t) (v:t<=3) (C:Γ s=some (0,t,i)) (h:Idx Γ d j):CQ Γ t d 7 0 0 0 s [GK 5 17 0 0 [] j]:=by
 obtain ⟨a,H,z,J,I⟩:=h
 refine ⟨[.node 5 17 0 0 [] a],by simp only [E.Ab,Ee H],.load hs q v C z,?_,?_⟩
 ·have:=NF x B
  have:=AeG (d-1)
  have A:¬(7:Int)=0:=by decide
  rw [E.nodes,if_neg A]
  simp only [E.Ad]at*;omega
 ·rw [E.high];simp only [E.BA]at*;omega
end
def P4 (Γ:Ctx) (t:Int) (s:List Nat):Prop:=∃k:Int,Γ s=some (k,t,0)/\(k=2∨k=3)/\Nm s
def Apz (Γ:Ctx) (f q:Int) (V:List Row):Prop:=∀j:Int,0<=j->j<q->∃(nm:List Nat) (t:Int),V[j.toNat]?=some [.str nm,.int .i64 t]/\P4 Γ t nm/\(f<=j->Γ nm=some (3,t,0))/\1<=t/\t<=3
def HO (Γ:Ctx) (t:Int) (L:List Row):Prop:=∀j:Int,0<=j->j<(L.length:Int)->∃nm:List Nat,L[j.toNat]?=some [.str nm]/\P4 Γ t nm
theorem HO.one {Γ:Ctx} {t:Int} {s:List Nat} (h:P4 Γ t s):HO Γ t [[.str s]]:=fun j v q=>by
 simp only [lC,lN]at q
 have:j=0:=by omega
 subst this;exact ⟨s,rfl,h⟩
theorem HO.snoc {Γ:Ctx} {t:Int} {L:List Row} {s:List Nat} (g:HO Γ t L) (h:P4 Γ t s):HO Γ t (L++[[.str s]]):=fun j q v=>by
 simp only [lA,lC,lN]at v
 by_cases hj:j<(L.length:Int)
 ·obtain ⟨nm,g1,g2⟩:=g j q hj
  exact ⟨nm,by rw [List.getElem?_append_left om];exact g1,g2⟩
 ·have:j.toNat=L.length:=by omega
  exact ⟨s,by rw [this];simp,h⟩
structure Je (Γ:Ctx) (call:Int):Prop where
 a:Γ [97]=some (0,1,0)
 f:Γ [102]=some (0,2,1)
 s:Γ [115]=some (0,1,2)
 p:Γ [112]=some (0,1,3)
 b:Γ [98]=some (0,3,4)
 h:call=1->∃i,Γ [104]=some (1,1,i)
def G (d:Int):Int:=if d<=1 then 3 else if d=2 then 12 else 40
theorem GJ (d:Int):3<=G d/\G d<=40:=by
 unfold G
 repeat' split
 all_goals omega
theorem KL (d:Int) (j:d<=3):d<=1∨1+3*G (d-1)<=G d:=by
 have:d<=1∨d=2∨d=3:=by omega
 rcases this with h|h|h
 ·exact .inl h
 ·subst h;exact .inr (by decide)
 ·subst h;exact .inr (by decide)
def T7 (Γ:Ctx) (d:Int) (A:List Row):Prop:=∃I,A=[GK 5 17 0 0 [] I]/\Idx Γ d I
section
variable {Γ:Ctx}
theorem CQ.cast {t t' d k o ty v:Int} {s:List Nat} {A:List Row} (h:CQ Γ t d k o ty v s A) (e:t'=t):CQ Γ t' d k o ty v s A:=by subst e;exact h
theorem CQ.var' {t d:Int} {s:List Nat} (h:P4 Γ t s) (j:1<=t) (q:t<=3):CQ Γ t d 2 0 0 0 s []:=by
 obtain ⟨k,g1,g2,g3⟩:=h
 exact .var g3 g2 j q g1
theorem T7.mk {d:Int} {I:List Row} (h:Idx Γ d I):T7 Γ d [GK 5 17 0 0 [] I]:=⟨I,rfl,h⟩
theorem CQ.Ak5 {d t i:Int} {s:List Nat} {A:List Row} (x:Γ s=some (0,t,i)) (h:T7 Γ d A) (hs:Nm s) (q:¬d<=1) (v:d<=3) (j:1<=t/\t<=3):CQ Γ t d 7 0 0 0 s A:=by
 obtain ⟨I,rfl,h⟩:=h
 exact .load q v hs j.1 j.2 x h
theorem CQ.call' {d q B C v1 J A v H:Int} {I z:List Nat} {x L:List Row} (M:¬d<=1) (N:d<=3) (j:∃i,Γ [104]=some (1,1,i)) (h:CQ Γ 1 (d-1) q B C v1 I x) (g:CQ Γ 1 (d-1) J A v H z L):
  CQ Γ 1 d 8 0 0 0 [104] [GK q B C v1 I x,GK J A v H z L]:=by
 obtain ⟨i,j⟩:=j
 exact .call M N j h g
end
theorem Pz {B:List (List PV)} (h:BV B) (i:Int) (z:0<=i) (x:i<B.length):∃n:Int,B[i.toNat]?=some [.int .u8 n]/\0<=n/\n<=255:=by
 obtain ⟨n,j,q,v⟩:=Acs h i z x
 exact ⟨n,v,j,q⟩
structure NL (Γ:Ctx) (f bl vl count left call loads:Int) (B V:List Row):Prop where
 hB:BV B
 hl:bl=B.length
 hvl:vl<=V.length
 GP:0<=vl/\vl<=30
 hV:Apz Γ f vl V
 hb:Je Γ call
 hc:call=0∨call=1
 hd:loads=0∨loads=1
theorem AkP {p:Prop} (h:p:=by
  first
  |assumption
  |(apply CQ.mono;assumption;omega)
  |(apply CQ.cast;assumption;omega)
  |(refine CQ.num ?_ ?_ ?_ ?_ ?_<;>first|omega|(intro h;exfalso;omega) |(intro _;refine Fx.mk (x:=_) ?_ ?_ rfl<;>omega))
  |(refine CQ.id ?_ ?_<;>omega)
  |(refine CQ.var' ?_ ?_ ?_<;>first|assumption|omega)
  |(apply CQ.un;assumption;all_goals first|omega|decide|(unfold Xo;omega))
  |(apply CQ.bin;assumption;assumption;all_goals first|omega|decide|(unfold FC;omega))
  |(refine CQ.cond ?_ ?_ ?_ ?_ ?_<;>first|assumption|omega)
  |(refine CQ.call' ?_ ?_ ?_ ?_ ?_<;>first|assumption|omega|(refine Je.h (by assumption) ?_;omega))
  |(apply CQ.Ak5;(first|exact Je.a (by assumption) |exact Je.f (by assumption) |exact Je.s (by assumption) |exact Je.p (by assumption) |exact Je.b (by assumption));assumption;decide;all_goals first|omega|decide)
  |(refine Idx.mk ?_ ?_;assumption;omega)
  |(refine T7.mk ?_;assumption)
  |(refine HO.one ?_;first|assumption|(subst_vars;assumption))
  |(refine HO.snoc ?_ ?_<;>first|assumption|(subst_vars;assumption))
  |rfl
  |exact kn):p:=h
theorem fin {p:Prop} (h:p:=by first|exact AkP|(subst_vars;exact AkP)):p:=h
end
section
inductive S where
 |node (k o t b:Int) (nm:List Nat) (x y:E) (body els:List S)
mutual
def S.enc:S->Row
 |.node k o t b nm x y bo el=>.int .i64 k::.int .i64 o::.int .i64 t::.int .i64 b::.str nm::(x.enc++(y.enc++[.list 19 (S.Ab bo),.list 19 (S.Ab el)]))
def S.Ab:List S->List Row
 |[]=>[]
 |e::l=>e.enc::S.Ab l
end
mutual
def S.nodes:S->Nat
 |.node _ _ _ _ _ x y bo el=>1+x.nodes+y.nodes+S.Ad bo+S.Ad el
def S.Ad:List S->Nat
 |[]=>0
 |e::l=>e.nodes+S.Ad l
end
mutual
def S.deep:S->Nat
 |.node _ _ _ _ _ _ _ bo el=>1+max (S.Az bo) (S.Az el)
def S.Az:List S->Nat
 |[]=>0
 |e::l=>max e.deep (S.Az l)
end
theorem S.A7:∀l,(S.Ab l).length=l.length
 |[]=>rfl
 |_::l=>by simp only [S.Ab,lC,S.A7 l]
theorem S.EW:∀(l:List S) (i:Nat),(S.Ab l)[i]?=(l[i]?).map S.enc
 |[],i=>by simp [S.Ab]
 |e::l,0=>by simp [S.Ab]
 |e::l,i+1=>by simp only [S.Ab,List.getElem?_cons_succ];exact S.EW l i
theorem S.To:∀(l m:List S),S.Ab (l++m)=S.Ab l++S.Ab m
 |[],m=>rfl
 |e::l,m=>by simp only [List.cons_append,S.Ab,S.To l m]
theorem S.M0:∀(l m:List S),S.Ad (l++m)=S.Ad l+S.Ad m
 |[],m=>by simp [S.Ad]
 |e::l,m=>by simp only [List.cons_append,S.Ad,S.M0 l m];omega
theorem S.Pu:∀(l m:List S),S.Az (l++m)=max (S.Az l) (S.Az m)
 |[],m=>by simp [S.Az]
 |e::l,m=>by simp only [List.cons_append,S.Az,S.Pu l m];omega
def Vn (n:List Nat):Prop:=∃i:Nat,i<24/\n=vn i
theorem Vn.nm {n:List Nat} (h:Vn n):Nm n:=by obtain ⟨i,j,rfl⟩:=h;exact Nm.vn j
def Sm (q:Bool) (x:E):Prop:=x.high<=(bif q then 5 else 9)/\(q=true->x.nodes<=13)
theorem Sm.mk {x:E} (h:x.high<=5) (g:x.nodes<=13):Sm true x:=⟨h,fun _=>g⟩
theorem Sm.lo {q:Bool} {x:E} (h:Sm q x):Sm false x:=⟨by cases q<;>(have:=h.1;simp at this⊢;omega),fun h=>by cases h⟩
mutual
inductive RS (q:Bool):Int->Int->Ctx->S->Ctx->Prop
 |var {lo pu Γ n t x}:Nm n->(q=true->Vn n)->Γ n=none->1<=t->t<=3->T Γ t x->Sm q x->RS q lo pu Γ (.node 1 0 t 0 n x E0 [] []) (Γ.Iq n (3,t,0))
 |set {lo pu Γ n t x i}:Nm n->Γ n=some (3,t,i)->T Γ t x->Sm q x->RS q lo pu Γ (.node 2 0 0 0 n x E0 [] []) Γ
 |store {lo Γ n t x y i}:Nm n->0<=i->i<=4->Γ n=some (0,t,i)->T Γ 1 x->T Γ t y->Sm q x->Sm q y->RS q lo 0 Γ (.node 3 0 0 0 n x y [] []) Γ
 |atom {lo Γ n o x y i}:Nm n->i=0∨i=2->Γ n=some (0,1,i)->(o=10∨o=17∨o=18∨o=19∨o=22∨o=23)->T Γ 1 x->T Γ 1 y->Sm q x->Sm q y->RS q lo 0 Γ (.node 4 o 0 0 n x y [] []) Γ
 |ife {lo pu Γ x bo el Γ1 Γ2}:T Γ 3 x->Sm q x->T8 q lo pu Γ bo Γ1->T8 q lo pu Γ el Γ2->RS q lo pu Γ (.node 5 0 0 0 [] x E0 bo el) Γ
 |whl {lo pu Γ x b bo Γ1}:T Γ 3 x->Sm q x->1<=b->b<=4->T8 q 1 pu Γ bo Γ1->RS q lo pu Γ (.node 6 0 0 b [] x E0 bo []) Γ
 |esc {lo pu Γ k}:k=7∨k=8->lo≠0->RS q lo pu Γ (.node k 0 0 0 [] E0 E0 [] []) Γ
 |bar {lo Γ k}:k=9∨k=10->RS q lo 0 Γ (.node k 0 0 0 [] E0 E0 [] []) Γ
 |MT {lo Γ o}:o=1∨o=2->RS q lo 0 Γ (.node 11 o 0 0 [] E0 E0 [] []) Γ
 |TJ {lo Γ n o t u x i}:Nm n->Γ n=some (3,t,i)->1<=t->t<=3->((o=1/\t=1/\u=3)∨((o=2∨o=3)/\t=3/\u=3)∨((o=5∨o=6)/\t≠3/\u=t))->T Γ u x->Sm q x->RS q lo 0 Γ (.node 12 o 0 0 n x E0 [] []) Γ
 |TI {lo Γ n t x y i}:Nm n->Γ n=some (3,t,i)->1<=t->t<=3->T Γ t x->T Γ 1 y->Sm q x->Sm q y->RS q lo 0 Γ (.node 12 4 0 0 n x y [] []) Γ
inductive T8 (q:Bool):Int->Int->Ctx->List S->Ctx->Prop
 |nil {lo pu Γ}:T8 q lo pu Γ [] Γ
 |cons {lo pu Γ s Γ1 l Γ2}:RS q lo pu Γ s Γ1->T8 q lo pu Γ1 l Γ2->T8 q lo pu Γ (s::l) Γ2
end
abbrev SOm:=RS true
abbrev LOm:=T8 true
abbrev Fc:=RS false
abbrev EK:=T8 false
mutual
theorem RS.loose {q:Bool} {lo pu:Int} {Γ Γ':Ctx} {s:S}:RS q lo pu Γ s Γ'->Fc lo pu Γ s Γ'
 |.var h1 _ h2 h3 h4 h5 h6=>.var h1 (fun h=>by cases h) h2 h3 h4 h5 h6.lo
 |.set h1 h2 h3 h4=>.set h1 h2 h3 h4.lo
 |.store h1 h2 h3 h4 h5 h6 h7 h8=>.store h1 h2 h3 h4 h5 h6 h7.lo h8.lo
 |.atom h1 h2 h3 h4 h5 h6 h7 h8=>.atom h1 h2 h3 h4 h5 h6 h7.lo h8.lo
 |.ife h1 h2 h3 h4=>.ife h1 h2.lo (T8.loose h3) (T8.loose h4)
 |.whl h1 h2 h3 h4 h5=>.whl h1 h2.lo h3 h4 (T8.loose h5)
 |.esc h1 h2=>.esc h1 h2
 |.bar h1=>.bar h1
 |.MT h1=>.MT h1
 |.TJ h1 h2 h3 h4 h5 h6 h7=>.TJ h1 h2 h3 h4 h5 h6 h7.lo
 |.TI h1 h2 h3 h4 h5 h6 h7 h8=>.TI h1 h2 h3 h4 h5 h6 h7.lo h8.lo
theorem T8.loose {q:Bool} {lo pu:Int} {Γ Γ':Ctx} {l:List S}:T8 q lo pu Γ l Γ'->EK lo pu Γ l Γ'
 |.nil=>.nil
 |.cons h g=>.cons (RS.loose h) (T8.loose g)
end
theorem T8.snoc {q:Bool} {lo pu:Int} {Γ v j:Ctx} {l:List S} {s:S} (h:T8 q lo pu Γ l v) (g:RS q lo pu v s j):T8 q lo pu Γ (l++[s]) j:=by
 induction l generalizing Γ with
 |nil=>cases h;exact .cons g .nil
 |cons x l ih=>cases h with|cons a b=>exact .cons a (ih b)
abbrev AQ (k o t b:Int) (nm:List Nat) (A H v:Int) (j:List Nat) (z:Int) (X:List Row) (yk x I:Int) (q:List Nat) (C:Int) (Y:List Row) (B L:List Row):Row:=
 [.int .i64 k,.int .i64 o,.int .i64 t,.int .i64 b,.str nm,.int .i64 A,.int .i64 H,.int .i64 v,.str j,.int .i32 z,.list 6 X,.int .i64 yk,.int .i64 x,.int .i64 I,.str q,.int .i32 C,.list 6 Y,.list 19 B,.list 19 L]
def DR (lo pu D:Int) (Γ Γ':Ctx) (left left':Int) (j:Row):Prop:=∃s:S,j=s.enc/\SOm lo pu Γ s Γ'/\(s.nodes:Int)+40*left'<=40*left/\(s.deep:Int)<=D
def AP (lo pu D:Int) (Γ Γ':Ctx) (left left':Int) (R:List Row):Prop:=∃l:List S,R=S.Ab l/\LOm lo pu Γ l Γ'/\(S.Ad l:Int)+40*left'<=40*left/\(S.Az l:Int)<=D
def I3 (lo pu D:Int) (Γ:Ctx) (left left':Int) (R:List Row):Prop:=∃Γ',AP lo pu D Γ Γ' left left' R
section
variable {lo pu D left left':Int} {Γ Γ':Ctx}
theorem AP.nil (h:0<=D/\left'<=left):AP lo pu D Γ Γ left left' []:=⟨[],rfl,.nil,by simp only [S.Ad];omega,by simp only [S.Az];omega⟩
theorem AP.snoc {q:Ctx} {j:Int} {R:List Row} {r:Row} (h:AP lo pu D Γ q left j R) (g:DR lo pu D q Γ' j left' r):AP lo pu D Γ Γ' left left' (R++[r]):=by
 obtain ⟨l,rfl,v,x,z⟩:=h
 obtain ⟨s,rfl,g1,g2,g3⟩:=g
 refine ⟨l++[s],by rw [S.To];rfl,v.snoc g1,?_,?_⟩
 ·rw [S.M0];simp only [S.Ad];omega
 ·rw [S.Pu];simp only [S.Az];omega
theorem AP.one {r:Row} (g:DR lo pu D Γ Γ' left left' r) (h:0<=D):AP lo pu D Γ Γ' left left' [r]:=(AP.nil (left':=left) ⟨h,Int.le_refl _⟩).snoc g
theorem AP.mono {q j v:Int} {R:List Row} (h:AP lo pu D Γ Γ' left left' R) (hd:D<=q/\left-left'<=j-v):AP lo pu q Γ Γ' j v R:=by
 obtain ⟨l,z,x,A,B⟩:=h
 exact ⟨l,z,x,by omega,by omega⟩
theorem I3.mk {R:List Row} (h:AP lo pu D Γ Γ' left left' R):I3 lo pu D Γ left left' R:=⟨_,h⟩
theorem I3.nil (h:0<=D/\left'<=left):I3 lo pu D Γ left left' []:=⟨_,AP.nil h⟩
theorem JH {Γ:Ctx} {t d k o ty v:Int} {s:List Nat} {A:List Row} (h:CQ Γ t d k o ty v s A) (hd:d<=3):∃x:E,GK k o ty v s A=x.enc/\T Γ t x/\x.nodes<=13/\x.high<=5:=by
 obtain ⟨a,rfl,j,z,q⟩:=h
 refine ⟨_,rfl,j,?_,by omega⟩
 have:F d<=13:=by
  unfold F
  repeat' split
  all_goals omega
 omega
theorem Aes {Γ:Ctx} {A:List Row} (h:Idx Γ 3 A):∃x:E,GK 5 17 0 0 [] A=x.enc/\T Γ 1 x/\x.nodes<=6/\x.high<=4:=by
 obtain ⟨a,rfl,j,v,q⟩:=h
 refine ⟨_,rfl,j,?_,by omega⟩
 have:F (3-1)=4:=by decide
 omega
theorem Ew:E0.nodes=0:=rfl
section
variable {k o t v k2 o2 t2 v2:Int} {s s2 n:List Nat} {A A2:List Row} {u d d2:Int}
theorem DR.var (h:CQ Γ u d k o t v s A) (q:Vn n) (C:Γ n=none) (j:d<=3/\1<=u/\u<=3/\1<=D/\left'+1<=left):DR lo pu D Γ (Γ.Iq n (3,u,0)) left left' (AQ 1 0 u 0 n k o t s v A 0 0 0 [] 0 [] [] []):=by
 obtain ⟨x,e,B,H,z⟩:=JH h j.1
 refine ⟨.node 1 0 u 0 n x E0 [] [],?_,.var q.nm (fun _=>q) C j.2.1 j.2.2.1 B (.mk z H),?_,?_⟩
 ·rw [S.enc,<-e];rfl
 ·simp only [S.nodes,S.Ad,Ew];omega
 ·simp only [S.deep,S.Az];omega
theorem DR.set {i:Int} (h:CQ Γ u d k o t v s A) (H:Nm n) (B:Γ n=some (3,u,i)) (z:d<=3/\1<=D/\left'+1<=left):DR lo pu D Γ Γ left left' (AQ 2 0 0 0 n k o t s v A 0 0 0 [] 0 [] [] []):=by
 obtain ⟨x,e,q,C,j⟩:=JH h z.1
 refine ⟨.node 2 0 0 0 n x E0 [] [],?_,.set H B q (.mk j C),?_,?_⟩
 ·rw [S.enc,<-e];rfl
 ·simp only [S.nodes,S.Ad,Ew];omega
 ·simp only [S.deep,S.Az];omega
theorem DR.store {i:Int} (h:Idx Γ 3 A) (g:CQ Γ u d k2 o2 t2 v2 s2 A2) (J:Nm n) (I:Γ n=some (0,u,i)) (v:pu=0) (j:0<=i/\i<=4) (H:d<=3/\1<=D/\left'+1<=left):DR lo pu D Γ Γ left left' (AQ 3 0 0 0 n 5 17 0 [] 0 A k2 o2 t2 s2 v2 A2 [] []):=by
 obtain ⟨x,e,B,N,M⟩:=Aes h
 obtain ⟨y,C,z,q,L⟩:=JH g H.1
 subst v
 refine ⟨.node 3 0 0 0 n x y [] [],?_,.store J j.1 j.2 I B z (.mk om om) (.mk L q),?_,?_⟩
 ·rw [S.enc,<-e,<-C];rfl
 ·simp only [S.nodes,S.Ad];omega
 ·simp only [S.deep,S.Az];omega
theorem DR.atom {i:Int} (h:Idx Γ 3 A) (g:CQ Γ 1 d k2 o2 t2 v2 s2 A2) (I:Nm n) (B:Γ n=some (0,1,i)) (H:i=0∨i=2) (q:o=10∨o=17∨o=18∨o=19∨o=22∨o=23) (j:pu=0) (z:d<=3/\1<=D/\left'+1<=left):DR lo pu D Γ Γ left left' (AQ 4 o 0 0 n 5 17 0 [] 0 A k2 o2 t2 s2 v2 A2 [] []):=by
 obtain ⟨x,e,J,O,N⟩:=Aes h
 obtain ⟨y,L,v,C,M⟩:=JH g z.1
 subst j
 refine ⟨.node 4 o 0 0 n x y [] [],?_,.atom I H B q J v (.mk om om) (.mk M C),?_,?_⟩
 ·rw [S.enc,<-e,<-L];rfl
 ·simp only [S.nodes,S.Ad];omega
 ·simp only [S.deep,S.Az];omega
theorem DR.ife {D1 D2 q j a2 b2:Int} {B L:List Row} (h:CQ Γ 3 d k o t v s A) (hb:I3 lo pu D1 Γ q j B) (I:I3 lo pu D2 Γ a2 b2 L) (C:d<=3/\D1+1<=D/\D2+1<=D/\1+left'+(q-j)+(a2-b2)<=left):DR lo pu D Γ Γ left left' (AQ 5 0 0 0 [] k o t s v A 0 0 0 [] 0 [] B L):=by
 obtain ⟨x,e,J,H,z⟩:=JH h C.1
 obtain ⟨U,M,rfl,O,P,Q⟩:=hb
 obtain ⟨R,N,rfl,g1,g2,g3⟩:=I
 refine ⟨.node 5 0 0 0 [] x E0 M N,?_,.ife J (.mk z H) O g1,?_,?_⟩
 ·rw [S.enc,<-e];rfl
 ·simp only [S.nodes,Ew];omega
 ·simp only [S.deep];omega
theorem DR.whl {D1 z q b:Int} {B:List Row} (h:CQ Γ 3 d k o t v s A) (hb:I3 1 pu D1 Γ z q B) (j:d<=3/\D1+1<=D/\1<=D/\1+left'+(z-q)<=left/\1<=b/\b<=4):DR lo pu D Γ Γ left left' (AQ 6 0 0 b [] k o t s v A 0 0 0 [] 0 [] B []):=by
 obtain ⟨x,e,J,H,C⟩:=JH h j.1
 obtain ⟨O,I,rfl,L,M,N⟩:=hb
 refine ⟨.node 6 0 0 b [] x E0 I [],?_,.whl J (.mk C H) j.2.2.2.2.1 j.2.2.2.2.2 L,?_,?_⟩
 ·rw [S.enc,<-e];rfl
 ·simp only [S.nodes,S.Ad,Ew];omega
 ·simp only [S.deep,S.Az];omega
theorem DR.esc (j:k=7∨k=8) (hl:lo≠0) (q:1<=D/\left'+1<=left):DR lo pu D Γ Γ left left' (AQ k 0 0 0 [] 0 0 0 [] 0 [] 0 0 0 [] 0 [] [] []):=
 ⟨.node k 0 0 0 [] E0 E0 [] [],rfl,.esc j hl,by simp only [S.nodes,S.Ad,Ew];omega,by simp only [S.deep,S.Az];omega⟩
theorem DR.bar (q:k=9∨k=10) (j:pu=0) (v:1<=D/\left'+1<=left):DR lo pu D Γ Γ left left' (AQ k 0 0 0 [] 0 0 0 [] 0 [] 0 0 0 [] 0 [] [] []):=by
 subst j
 exact ⟨.node k 0 0 0 [] E0 E0 [] [],rfl,.bar q,by simp only [S.nodes,S.Ad,Ew];omega,by simp only [S.deep,S.Az];omega⟩
theorem DR.MT (q:o=1∨o=2) (j:pu=0) (v:1<=D/\left'+1<=left):DR lo pu D Γ Γ left left' (AQ 11 o 0 0 [] 0 0 0 [] 0 [] 0 0 0 [] 0 [] [] []):=by
 subst j
 exact ⟨.node 11 o 0 0 [] E0 E0 [] [],rfl,.MT q,by simp only [S.nodes,S.Ad,Ew];omega,by simp only [S.deep,S.Az];omega⟩
theorem DR.TJ {w i op:Int} (h:CQ Γ w d k o t v s A) (J:Nm n) (H:Γ n=some (3,u,i)) (q:(op=1/\u=1/\w=3)∨((op=2∨op=3)/\u=3/\w=3)∨((op=5∨op=6)/\u≠3/\w=u)) (z:pu=0) (j:d<=3/\1<=D/\left'+1<=left/\1<=u/\u<=3):DR lo pu D Γ Γ left left' (AQ 12 op 0 0 n k o t s v A 0 0 0 [] 0 [] [] []):=by
 obtain ⟨x,e,C,I,B⟩:=JH h j.1
 subst z
 refine ⟨.node 12 op 0 0 n x E0 [] [],?_,.TJ J H j.2.2.2.1 j.2.2.2.2 q C (.mk B I),?_,?_⟩
 ·rw [S.enc,<-e];rfl
 ·simp only [S.nodes,S.Ad,Ew];omega
 ·simp only [S.deep,S.Az];omega
theorem DR.TI {i:Int} (h:CQ Γ u d k o t v s A) (g:CQ Γ 1 d2 k2 o2 t2 v2 s2 A2) (M:Nm n) (I:Γ n=some (3,u,i)) (z:pu=0) (j:d<=3/\d2<=3/\1<=D/\left'+1<=left/\1<=u/\u<=3):DR lo pu D Γ Γ left left' (AQ 12 4 0 0 n k o t s v A k2 o2 t2 s2 v2 A2 [] []):=by
 obtain ⟨x,e,H,L,C⟩:=JH h j.1
 obtain ⟨y,J,B,q,N⟩:=JH g j.2.1
 subst z
 refine ⟨.node 12 4 0 0 n x y [] [],?_,.TI M I j.2.2.2.2.1 j.2.2.2.2.2 H B (.mk C L) (.mk N q),?_,?_⟩
 ·rw [S.enc,<-e,<-J];rfl
 ·simp only [S.nodes,S.Ad];omega
 ·simp only [S.deep,S.Az];omega
end
theorem DR.mono {q j v:Int} {r:Row} (h:DR lo pu D Γ Γ' left left' r) (hd:D<=q/\left-left'<=j-v):DR lo pu q Γ Γ' j v r:=by
 obtain ⟨s,z,x,A,B⟩:=h
 exact ⟨s,z,x,by omega,by omega⟩
end
structure MS (E:Bool) (Γ:Ctx) (f K M bl pos vl count left call loads:Int) (B V:List Row):Prop where
 m:NL Γ f bl vl count left call loads B V
 fr:∀i:Nat,count<=i->i<24->Γ (vn i)=none
 c0:0<=count
 cl:count+left<=K
 l0:0<=left
 vc:vl<=count+3
 p0:0<=pos
 p1:pos+300*left<=M
 f0:0<=f
 kk:K<=16/\M<=20000
 ex:E=true->vl=V.length
theorem NL.at_ {Γ:Ctx} {f bl vl count left call loads:Int} {B V:List Row} (h:NL Γ f bl vl count left call loads B V) (c l:Int):NL Γ f bl vl c l call loads B V:=⟨h.hB,h.hl,h.hvl,h.GP,h.hV,h.hb,h.hc,h.hd⟩
section
variable {E:Bool} {Γ:Ctx} {f K M bl pos vl count left call loads:Int} {B V:List Row}
theorem MS.mv {j left':Int} (h:MS E Γ f K M bl pos vl count left call loads B V) (k:0<=j/\0<=left'/\left'<=left/\j+300*left'<=M:=by exact kn):MS E Γ f K M bl j vl count left' call loads B V:=
 ⟨h.m.at_ _ _,h.fr,h.c0,by have:=h.cl;omega,k.2.1,h.vc,k.1,k.2.2.2,h.f0,h.kk,h.ex⟩
theorem MS.Fh (h:MS E Γ f K M bl pos vl count left call loads B V) (c l:Int):NL Γ f bl vl c l call loads B V:=h.m.at_ _ _
theorem Eg {Γ:Ctx} {n s:List Nat} {x z:Int×Int×Int} (h:Γ n=some z) (g:Γ s=none):Γ.Iq s x n=some z:=by
 rw [Cu];exact h
 intro e;subst e;rw [g]at h;cases h
def Ext (vl:Int) (V q:List Row):Prop:=∀j:Int,0<=j->j<vl->q[j.toNat]?=V[j.toNat]?
theorem Ext.refl:Ext vl V V:=fun _ _ _=>rfl
theorem Ext.trans {q:Int} {x z:List Row} (h:Ext vl V x) (g:Ext q x z) (B:vl<=q):Ext vl V z:=fun j v A=>(g j v om).trans (h j v A)
theorem Ext.more {W:List Row} (h:0<=vl/\vl<=V.length):Ext vl V (V.take vl.toNat++W):=fun j v q=>by
 rw [List.getElem?_append_left (by rw [lT'];omega),List.getElem?_take,if_pos om]
theorem MS.more {v t:Int} {n:List Nat} (h:MS E Γ f K M bl pos vl count left call loads B V) (Y:n=vn count.toNat) (A:1<=t/\t<=3) (ad:count+left+1<=K)
  (k:0<=left/\0<=v/\v+300*left<=M):MS false (Γ.Iq n (3,t,0)) f K M bl v ((V.take vl.toNat++[[PV.str n,PV.int .i64 t]]).length:Nat) (count+1) left call loads B (V.take vl.toNat++[[PV.str n,PV.int .i64 t]]):=by
 subst Y
 have aa:=h.c0;have ac:=h.vc;have J:=h.m.GP;have hvl:=h.m.hvl;have ab:=h.l0;have C:=h.kk
 have q:Γ (vn count.toNat)=none:=h.fr _ om om
 have z:((V.take vl.toNat++[[PV.str (vn count.toNat),PV.int .i64 t]]).length:Int)=vl+1:=by
  simp only [lA,lC,lN,lT'];omega
 rw [z]
 refine ⟨⟨h.m.hB,h.m.hl,by omega,by omega,?_,?_,h.m.hc,h.m.hd⟩,?_,by omega,by omega,by omega,by omega,k.2.1,k.2.2,h.f0,C,fun e=>by cases e⟩
 ·intro j I hj
  by_cases hjv:j<vl
  ·obtain ⟨nm,u,g1,⟨kk,g2,g3,O⟩,Z,Q,N⟩:=h.m.hV j I hjv
   exact ⟨nm,u,(Ext.more ⟨J.1,hvl⟩ j I hjv).trans g1,⟨kk,Eg g2 q,g3,O⟩,fun hf=>Eg (Z hf) q,Q,N⟩
  ·have:j=vl:=by omega
   subst this
   refine ⟨vn count.toNat,t,?_,⟨3,FD,.inr rfl,Nm.vn om⟩,fun _=>FD,A.1,A.2⟩
   rw [List.getElem?_append_right (by rw [lT'];omega),lT',show j.toNat-min j.toNat V.length=0 by omega];rfl
 ·obtain ⟨U,X,bs,L,R,P⟩:=h.m.hb
  exact ⟨Eg U q,Eg X q,Eg bs q,Eg L q,Eg R q,fun hc=>let ⟨i,H⟩:=P hc;⟨i,Eg H q⟩⟩
 ·intro i H x
  rw [Cu]
  ·exact h.fr i om x
  ·intro e
   have:=AeN x om e
   omega
theorem MS.Ab1 {j t:Int} {n:List Nat} (h:MS true Γ f K M bl pos vl count left call loads B V) (x:n=vn count.toNat) (v:1<=t/\t<=3) (q:count+left+1<=K)
  (k:0<=left/\0<=j/\j+300*left<=M):MS false (Γ.Iq n (3,t,0)) f K M bl j ((V++[[PV.str n,PV.int .i64 t]]).length:Nat) (count+1) left call loads B (V++[[PV.str n,PV.int .i64 t]]):=by
 have e:V.take vl.toNat=V:=List.take_of_length_le (by have:=h.ex rfl;omega)
 have:=h.more x v q k
 rw [e]at this;exact this
theorem Ext.Ab1 {W:List Row} (h:vl=V.length):Ext vl V (V++W):=fun j v q=>by rw [List.getElem?_append_left om]
theorem MS.back {L:Bool} {N:Ctx} {x z q v:Int} {A:List Row} (h:MS E Γ f K M bl pos vl count left call loads B V) (g:MS L N f K M bl x z q v call loads B A) (J:Ext vl V A) (hc:count<=q/\vl<=z):MS false Γ f K M bl x vl q v call loads B A:=
 ⟨⟨h.m.hB,h.m.hl,by have:=g.m.hvl;omega,h.m.GP,fun j C H=>by
   obtain ⟨nm,u,g1,g2⟩:=h.m.hV j C H
   exact ⟨nm,u,(J j C H).trans g1,g2⟩,h.m.hb,h.m.hc,h.m.hd⟩,fun i O I=>h.fr i om I,g.c0,g.cl,g.l0,by have:=h.vc;omega,g.p0,g.p1,h.f0,h.kk,fun e=>by cases e⟩
theorem DR.decl {lo pu D l left' k o t v d u:Int} {s n:List Nat} {A:List Row} (j:MS E Γ f K M bl pos vl count left call loads B V) (h:CQ Γ u d k o t v s A) (x:n=vn count.toNat) (q:d<=3/\1<=u/\u<=3/\1<=D/\left'+1<=l):DR lo pu D Γ (Γ.Iq n (3,u,0)) l left' (AQ 1 0 u 0 n k o t s v A 0 0 0 [] 0 [] [] []):=by
 have z:=j.c0;have I:=j.cl;have C:=j.l0;have H:=j.kk
 subst x
 exact .var h ⟨count.toNat,by omega,rfl⟩ (j.fr _ om om) q
end
theorem AkO {p:Prop} (h:p:=by
  first
  |assumption
  |(apply DR.mono;assumption;omega)
  |(apply AP.mono;assumption;omega)
  |(apply DR.set (d:=3);assumption;assumption;assumption;omega)
  |(apply DR.store (d:=3);assumption;assumption;decide;(first|exact Je.a (by assumption) |exact Je.f (by assumption) |exact Je.s (by assumption) |exact Je.p (by assumption) |exact Je.b (by assumption));all_goals omega)
  |(apply DR.atom (d:=3);assumption;assumption;decide;(first|exact Je.a (by assumption) |exact Je.s (by assumption));all_goals omega)
  |(refine DR.esc ?_ ?_ ?_<;>omega)
  |(refine DR.bar ?_ ?_ ?_<;>omega)
  |(refine DR.MT ?_ ?_ ?_<;>omega)
  |(apply DR.TJ (d:=3);assumption;assumption;assumption;all_goals omega)
  |(apply DR.TI (d:=2) (d2:=2);assumption;assumption;assumption;assumption;all_goals omega)
  |(apply DR.ife (d:=3);assumption;assumption;(first|assumption|(apply I3.nil (D:=0) (left:=0) (left':=0);exact ⟨Int.le_refl 0,Int.le_refl 0⟩));omega)
  |(apply DR.whl (d:=3);assumption;assumption;omega)
  |exact Ext.refl
  |(apply Ext.trans;assumption;assumption;omega)
  |(apply Ext.trans;assumption;apply Ext.trans;assumption;assumption;all_goals omega)
  |exact kn):p:=h
theorem A9 {p:Prop} (h:p:=by first|exact AkO|(subst_vars;exact AkO)):p:=h
end
section
def aΓ:Ctx:=fun s=>if s=[97]then some (0,1,0)else if s=[102]then some (0,2,1)else if s=[115]then some (0,1,2)else if s=[112]then some (0,1,3)else if s=[98]then some (0,3,4)else none
def fΓ:Ctx:=(aΓ.Iq [120] (2,1,0)).Iq [121] (2,1,0)
def pΓ:Ctx:=((aΓ.Iq [110] (2,1,0)).Iq [116] (2,2,0)).Iq [99] (2,3,0)
def bΓ (call:Int):Ctx:=if call=1 then pΓ.Iq [104] (1,1,0)else pΓ
def AF:List Row:=[[.str [97],.int .i64 1,.int .i64 1,.int .i64 8],[.str [102],.int .i64 1,.int .i64 2,.int .i64 4],[.str [115],.int .i64 2,.int .i64 1,.int .i64 8],[.str [112],.int .i64 3,.int .i64 1,.int .i64 4],[.str [98],.int .i64 2,.int .i64 3,.int .i64 4]]
def A8:List Row:=[[.str [110],.int .i64 1],[.str [116],.int .i64 2],[.str [99],.int .i64 3]]
def WN (m n:List Nat):List Row:=[[.str m,.int .i64 1],[.str n,.int .i64 1]]
abbrev WL:List Row:=WN [120] [121]
theorem AkK {i:Nat} (h:i<24):fΓ (vn i)=none:=by
 have:∀i,i<24->fΓ (vn i)=none:=by decide
 exact this i h
theorem Amf {c:Int} {i:Nat} (h:i<24):bΓ c (vn i)=none:=by
 have q:∀i,i<24->pΓ (vn i)=none:=by decide
 have j:∀i,i<24->(pΓ.Iq [104] (1,1,0)) (vn i)=none:=by decide
 unfold bΓ
 split
 ·exact j i h
 ·exact q i h
section
variable {B:List Row} {bl pos count call:Int}
theorem MS.Ao7 (hB:BV B) (hl:bl=B.length) (h:0<=pos/\pos<=100):MS true fΓ 2 4 1400 bl pos 2 0 4 0 0 B [[PV.str [120],PV.int .i64 1],[PV.str [121],PV.int .i64 1]]:=by
 refine ⟨⟨hB,hl,by decide,by decide,?_,⟨rfl,rfl,rfl,rfl,rfl,fun h=>by cases h⟩,.inl rfl,.inl rfl⟩,fun i _ q=>AkK q,by decide,by decide,by decide,by decide,h.1,by omega,by decide,by decide,fun _=>rfl⟩
 intro j x v
 have:j=0∨j=1:=by omega
 rcases this with rfl|rfl
 ·exact ⟨[120],1,rfl,⟨2,rfl,.inl rfl,by decide⟩,fun h=>absurd h (by decide),by decide,by decide⟩
 ·exact ⟨[121],1,rfl,⟨2,rfl,.inl rfl,by decide⟩,fun h=>absurd h (by decide),by decide,by decide⟩
theorem MS.Acu (hB:BV B) (hl:bl=B.length) (h:0<=pos/\pos<=2000) (hc:0<=count/\count<=4) (q:call=0∨call=1):MS false (bΓ call) 3 16 19000 bl pos 3 count 12 call 1 B [[PV.str [110],PV.int .i64 1],[PV.str [116],PV.int .i64 2],[PV.str [99],PV.int .i64 3]]:=by
 have hb:Je (bΓ call) call:=by
  rcases q with rfl|rfl
  ·exact ⟨rfl,rfl,rfl,rfl,rfl,fun h=>by cases h⟩
  ·exact ⟨rfl,rfl,rfl,rfl,rfl,fun _=>⟨0,rfl⟩⟩
 have v:bΓ call [110]=some (2,1,0)/\bΓ call [116]=some (2,2,0)/\bΓ call [99]=some (2,3,0):=by
  rcases q with rfl|rfl
  ·exact ⟨rfl,rfl,rfl⟩
  ·exact ⟨rfl,rfl,rfl⟩
 refine ⟨⟨hB,hl,by decide,by decide,?_,hb,q,.inr rfl⟩,fun i _ x=>Amf x,hc.1,by omega,by decide,by omega,h.1,by omega,by decide,by decide,fun e=>by cases e⟩
 intro j z A
 have:j=0∨j=1∨j=2:=by omega
 rcases this with rfl|rfl|rfl
 ·exact ⟨[110],1,rfl,⟨2,v.1,.inl rfl,by decide⟩,fun h=>absurd h (by decide),by decide,by decide⟩
 ·exact ⟨[116],2,rfl,⟨2,v.2.1,.inl rfl,by decide⟩,fun h=>absurd h (by decide),by decide,by decide⟩
 ·exact ⟨[99],3,rfl,⟨2,v.2.2,.inl rfl,by decide⟩,fun h=>absurd h (by decide),by decide,by decide⟩
end
def JV (R:List Row) (k o y w:Int) (s:List Nat) (A:List Row):Prop:=∃(j:Ctx) (l:Int),AP 0 1 2 fΓ j 4 l R/\0<=l/\CQ j 1 3 k o y w s A
theorem JV.mk {j:Ctx} {l k o y w:Int} {R A:List Row} {s:List Nat} (h:AP 0 1 2 fΓ j 4 l R) (hl:0<=l) (g:CQ j 1 3 k o y w s A):JV R k o y w s A:=⟨_,_,h,hl,g⟩
theorem JV.nil {k o y w:Int} {A:List Row} {s:List Nat} (g:CQ fΓ 1 3 k o y w s A):JV [] k o y w s A:=⟨_,4,AP.nil ⟨by decide,by decide⟩,by decide,g⟩
def Cp (Γ:Ctx) (R:List Row):Prop:=∃(j:Ctx) (l:Int),AP 0 0 4 Γ j 17 l R/\0<=l
theorem Cp.of {Γ j:Ctx} {l:Int} {R:List Row} (h:AP 0 0 3 Γ j 12 l R) (hl:0<=l):Cp Γ R:=⟨_,l+5,h.mono ⟨by decide,by omega⟩,by omega⟩
theorem Cp.nil {Γ:Ctx}:Cp Γ []:=⟨_,0,AP.nil ⟨by decide,by decide⟩,by decide⟩
theorem Cp.plus {Γ j:Ctx} {l v k o y w:Int} {s:List Nat} {A R:List Row} {q:Row} (h:AP 0 0 3 Γ j 12 l R) (hl:0<=l) (H:CQ j 3 3 k o y w s A) (x:DR 0 0 3 j j (v+1) v q):
  Cp Γ (R++[AQ 5 0 0 0 [] k o y s w A 0 0 0 [] 0 [] [AQ 9 0 0 0 [] 0 0 0 [] 0 [] 0 0 0 [] 0 [] [] []] [],q]):=by
 have z:AP 0 0 4 Γ j 17 (l+5) R:=h.mono ⟨by decide,by omega⟩
 have hb:I3 0 0 1 j 2 1 [AQ 9 0 0 0 [] 0 0 0 [] 0 [] 0 0 0 [] 0 [] [] []]:=.mk (AP.one (DR.bar (.inl rfl) rfl ⟨by decide,by decide⟩) (by decide))
 have C:DR 0 0 4 j j (l+5) (l+3) (AQ 5 0 0 0 [] k o y s w A 0 0 0 [] 0 [] [AQ 9 0 0 0 [] 0 0 0 [] 0 [] 0 0 0 [] 0 [] [] []] []):=
  DR.ife (d:=3) (D1:=1) (D2:=0) (a2:=0) (b2:=0) H hb (I3.nil ⟨by decide,by decide⟩) ⟨by decide,by decide,by decide,by omega⟩
 have B:DR 0 0 4 j j (l+3) l q:=x.mono ⟨by decide,by omega⟩
 have:=(z.snoc C).snoc B
 rw [List.append_assoc]at this
 exact ⟨_,l,this,hl⟩
theorem Cp.Aji {Γ:Ctx} {q k o y w:Int} {s:List Nat} {A:List Row} {j:Row} (x:CQ Γ 3 3 k o y w s A) (v:DR 0 0 3 Γ Γ (q+1) q j):
  Cp Γ [AQ 5 0 0 0 [] k o y s w A 0 0 0 [] 0 [] [AQ 9 0 0 0 [] 0 0 0 [] 0 [] 0 0 0 [] 0 [] [] []] [],j]:=
 Cp.plus (R:=[]) (l:=12) (AP.nil ⟨by decide,by decide⟩) (by decide) x v
def Cz (g sub:Int):Prop:=(sub=1∨sub=2∨sub=4∨sub=8)/\g%sub=0
def hrow (P R:List Row) (k o y:Int) (s:List Nat) (w:Int) (A:List Row):Row:=[.str [104],.list 2 P,.int .i64 1,.list 19 R,.int .i64 k,.int .i64 o,.int .i64 y,.str s,.int .i32 w,.list 6 A]
def Bz (g sub:Int) (q P j R:List Row):Prop:=q=AF/\P=A8/\0<R.length/\(g=4∨g=1∨g=2∨g=8∨g=6)/\Cz g sub/\
 ((j=[]/\Cp (bΓ 0) R)∨(∃(F:List Row) (k o y w:Int) (s:List Nat) (A:List Row),j=[hrow WL F k o y s w A]/\JV F k o y w s A/\Cp (bΓ 1) R))
theorem Bz.a {g sub:Int} {R:List Row} (q:g=4∨g=1∨g=2∨g=8∨g=6) (hs:Cz g sub) (h:Cp (bΓ 0) R) (j:0<R.length):Bz g sub AF A8 [] R:=⟨rfl,rfl,j,q,hs,.inl ⟨rfl,h⟩⟩
theorem Bz.b {g sub k o y w:Int} {s:List Nat} {P F A R:List Row} (v:g=4∨g=1∨g=2∨g=8∨g=6) (hs:Cz g sub) (j:P=WL) (hf:JV F k o y w s A) (h:Cp (bΓ 1) R) (q:0<R.length):Bz g sub AF A8 [hrow P F k o y s w A] R:=by
 subst j
 exact ⟨rfl,rfl,q,v,hs,.inr ⟨F,k,o,y,w,s,A,rfl,hf,h⟩⟩
theorem nv {trees:Nat->Tree} {Q:Out->Prop} {t:Tree} {v:Aj} (j:Aj) (h:W trees Q t j) (e:v=j:=by rfl):W trees Q t v:=by subst e;exact h
theorem MS.wide {E:Bool} {Γ:Ctx} {f K M M' bl pos vl count left call loads:Int} {B V:List Row} (h:MS E Γ f K M bl pos vl count left call loads B V) (k:M<=M'/\M'<=20000):MS E Γ f K M' bl pos vl count left call loads B V:=
 ⟨h.m,h.fr,h.c0,h.cl,h.l0,h.vc,h.p0,by have:=h.p1;omega,h.f0,⟨h.kk.1,k.2⟩,h.ex⟩
end
section
abbrev Rl:=List Nat->Int×Int×Int->Prop
def TL (Δ:Rl) (a:List E):Prop:=∀e∈a,∃t,TR Δ t e
section
variable {Δ:Rl} {t k o ty v:Int} {s:List Nat} {a:List E}
theorem TR.args (h:TR Δ t (.node k o ty v s a)):TL Δ a:=by
 cases h with
 |num=>intro e j;cases j
 |id=>intro e j;cases j
 |var=>intro e j;cases j
 |un _ h1=>intro e j;simp only [List.mem_cons,List.not_mem_nil,or_false]at j;subst j;exact ⟨_,h1⟩
 |bin _ h1 h2=>intro e j;simp only [List.mem_cons,List.not_mem_nil,or_false]at j;rcases j with rfl|rfl<;>first|exact ⟨_,h1⟩|exact ⟨_,h2⟩
 |cond h1 h2 h3=>intro e j;simp only [List.mem_cons,List.not_mem_nil,or_false]at j;rcases j with rfl|rfl|rfl<;>first|exact ⟨_,h1⟩|exact ⟨_,h2⟩|exact ⟨_,h3⟩
 |load _ _ _ _ h1=>intro e j;simp only [List.mem_cons,List.not_mem_nil,or_false]at j;subst j;exact ⟨_,h1⟩
 |call _ h1 h2=>intro e j;simp only [List.mem_cons,List.not_mem_nil,or_false]at j;rcases j with rfl|rfl<;>first|exact ⟨_,h1⟩|exact ⟨_,h2⟩
 |ca0=>intro e j;cases j
 |ca1 _ _ _ h1=>intro e j;simp only [List.mem_cons,List.not_mem_nil,or_false]at j;subst j;exact ⟨_,h1⟩
theorem TR.kind (h:TR Δ t (.node k o ty v s a)):1<=k/\k<=8/\a.length<=3:=by
 cases h<;>simp
theorem TR.nodes (h:TR Δ t (.node k o ty v s a)):(E.node k o ty v s a).nodes=1+E.Ad a:=by
 have:=h.kind
 rw [E.nodes,if_neg om]
theorem Fu:(E.node k o ty v s a).high=1+E.BA a:=by rw [E.high]
theorem TL.get (h:TL Δ a) (j:Int) (x:0<=j) (z:j<((E.Ab a).length:Int)):∃(k o t v:Int) (s:List Nat) (b:List E) (u:Int),
  (E.Ab a)[j.toNat]?=some [.int .i64 k,.int .i64 o,.int .i64 t,.str s,.int .i32 v,.list 6 (E.Ab b)]/\TR Δ u (.node k o t v s b)/\(E.node k o t v s b).high<=E.BA a/\1<=(E.node k o t v s b).nodes/\(E.node k o t v s b).nodes+E.Ad (a.drop (j+1).toNat)=E.Ad (a.drop j.toNat):=by
 obtain ⟨k,o,t,v,s,b,g1,g2⟩:=E.get a j x z
 obtain ⟨u,q⟩:=h _ (List.mem_of_getElem? g2)
 refine ⟨k,o,t,v,s,b,u,g1,q,E.J9 g2,by have:=q.nodes;omega,?_⟩
 rw [show (j+1).toNat=j.toNat+1 by omega]
 exact E.Kt g2
theorem JN {j:Int} (h:((E.Ab a).length:Int)<=j):E.Ad (a.drop j.toNat)=0:=by
 rw [E.A7]at h
 rw [List.drop_eq_nil_of_le om];rfl
theorem TR.len {Δ:Rl} (h:TL Δ a):(a.length:Int)<=E.Ad a:=by
 induction a with
 |nil=>simp [E.Ad]
 |cons e l ih=>
  have z:=ih fun x q=>h x (List.mem_cons_of_mem _ q)
  obtain ⟨u,j⟩:=h e List.mem_cons_self
  obtain ⟨k,o,t,v,s,b⟩:=e
  have:=j.nodes
  simp only [lC,E.Ad];omega
end
abbrev By (t:Int):Row:=[.int .i64 t]
inductive Ts (Γ:Ctx):List Int->List E->Prop
 |nil:Ts Γ [] []
 |cons {t:Int} {e:E} {ts:List Int} {a:List E}:T Γ t e->Ts Γ ts a->Ts Γ (t::ts) (e::a)
theorem Ts.len {Γ:Ctx}:∀{ts:List Int} {a:List E},Ts Γ ts a->ts.length=a.length
 |_,_,.nil=>rfl
 |_,_,.cons _ h=>by simp [h.len]
theorem Ts.at {Γ:Ctx}:∀{ts:List Int} {a:List E} (_:Ts Γ ts a) {i:Nat} {e:E},a[i]?=some e->∃t,ts[i]?=some t/\T Γ t e
 |_,_,.nil,i,e,h=>by simp at h
 |_,_,.cons h g,0,e,k=>by simp at k;subst k;exact ⟨_,rfl,h⟩
 |_,_,.cons h g,i+1,e,k=>by simpa using g.at (by simpa using k)
theorem Ts.get {Γ:Ctx} {ts:List Int} {a:List E} (h:Ts Γ ts a) (j:Int) (q:0<=j) (A:j<((E.Ab a).length:Int)):∃(k o t v:Int) (s:List Nat) (b:List E) (u:Int),
  (E.Ab a)[j.toNat]?=some [.int .i64 k,.int .i64 o,.int .i64 t,.str s,.int .i32 v,.list 6 (E.Ab b)]/\T Γ u (.node k o t v s b)/\(E.node k o t v s b).high<=E.BA a/\ts[j.toNat]?=some u:=by
 obtain ⟨k,o,t,v,s,b,g1,g2⟩:=E.get a j q A
 obtain ⟨u,x,z⟩:=h.at g2
 exact ⟨k,o,t,v,s,b,u,g1,z,E.J9 g2,x⟩
theorem HQ {ts:List Int} {j u:Int} (h:ts[j.toNat]?=some u) (q:0<=j):(ts.take j.toNat).map By++[[PV.int .i64 u]]=(ts.take (j+1).toNat).map By:=by
 rw [show (j+1).toNat=j.toNat+1 by omega,List.take_add_one,h];simp [By]
theorem YQ {ts:List Int} {j:Int} (h:(ts.length:Int)<=j):(ts.take j.toNat).map By=ts.map By:=by
 rw [List.take_of_length_le om]
theorem Xo.X2 {o t u:Int} (h:Xo o t u):1<=o/\o<=5/\1<=t/\t<=3/\1<=u/\u<=3:=by unfold Xo at h;omega
theorem FC.X2 {o t u:Int} (h:FC o t u):10<=o/\o<=29/\1<=t/\t<=3/\1<=u/\u<=3:=by unfold FC at h;omega
section
variable {Γ:Ctx} {t k o ty v:Int} {s:List Nat} {a:List E}
theorem TR.inv {Δ:Rl} (h:TR Δ t (.node k o ty v s a)):
  (k=1/\o=0/\ty=t/\s=[]/\a=[]/\1<=t/\t<=3/\(t=3->v=0∨v=1)/\(t=2->Fx v)/\-200000<=v/\v<=5000000)∨
  (k=3/\ty=0/\v=0/\s=[]/\a=[]/\t=1/\1<=o/\o<=7)∨
  (k=2/\o=0/\ty=0/\v=0/\a=[]/\Nm s/\∃kk i,(kk=2∨kk=3)/\1<=t/\t<=3/\Δ s (kk,t,i))∨
  (k=4/\ty=0/\v=0/\s=[]/\∃j x A v1 B q w,a=[.node j x A v1 B q]/\Xo o w t/\TR Δ w (.node j x A v1 B q))∨
  (k=5/\ty=0/\v=0/\s=[]/\∃j x A v1 B q L I C J H b2 w,a=[.node j x A v1 B q,.node L I C J H b2]/\FC o w t/\TR Δ w (.node j x A v1 B q)/\TR Δ w (.node L I C J H b2))∨
  (k=6/\o=0/\ty=0/\v=0/\s=[]/\∃j x A v1 B q L I C J H b2 P Q M N R O,a=[.node j x A v1 B q,.node L I C J H b2,.node P Q M N R O]/\TR Δ 3 (.node j x A v1 B q)/\TR Δ t (.node L I C J H b2)/\TR Δ t (.node P Q M N R O))∨
  (k=7/\o=0/\ty=0/\v=0/\Nm s/\∃j x A v1 B q i,a=[.node j x A v1 B q]/\1<=t/\t<=3/\Δ s (0,t,i)/\TR Δ 1 (.node j x A v1 B q))∨
  (k=8/\o=0/\ty=0/\v=0/\s=[104]/\∃j x A v1 B q L I C J H b2 i,a=[.node j x A v1 B q,.node L I C J H b2]/\t=1/\Δ [104] (1,1,i)/\TR Δ 1 (.node j x A v1 B q)/\TR Δ 1 (.node L I C J H b2))∨
  (k=8/\o=0/\ty=0/\v=0/\a=[]/\Nm s/\(1<=t/\t<=3)/\∀s z,Δ s z)∨
  (k=8/\o=0/\ty=0/\v=0/\Nm s/\∃j x A v1 B q,a=[.node j x A v1 B q]/\(1<=t/\t<=3)/\(∀s z,Δ s z)/\TR Δ 1 (.node j x A v1 B q)):=by
 cases h with
 |num h1 h2 h3 h4 h5=>exact .inl ⟨rfl,rfl,rfl,rfl,rfl,h1,h2,h3,h4,h5⟩
 |id h1 h2=>exact .inr (.inl ⟨rfl,rfl,rfl,rfl,rfl,rfl,h1,h2⟩)
 |var h1 h2 h3 h4 h5=>exact .inr (.inr (.inl ⟨rfl,rfl,rfl,rfl,rfl,h1,_,_,h2,h3,h4,h5⟩))
 |@un _ _ _ a h1 h2=>
  obtain ⟨_,_,_,_,_,_⟩:=a
  exact .inr (.inr (.inr (.inl ⟨rfl,rfl,rfl,rfl,_,_,_,_,_,_,_,rfl,h1,h2⟩)))
 |@bin _ _ _ a b h1 h2 h3=>
  obtain ⟨_,_,_,_,_,_⟩:=a
  obtain ⟨_,_,_,_,_,_⟩:=b
  exact .inr (.inr (.inr (.inr (.inl ⟨rfl,rfl,rfl,rfl,_,_,_,_,_,_,_,_,_,_,_,_,_,rfl,h1,h2,h3⟩))))
 |@cond _ a b c h1 h2 h3=>
  obtain ⟨_,_,_,_,_,_⟩:=a
  obtain ⟨_,_,_,_,_,_⟩:=b
  obtain ⟨_,_,_,_,_,_⟩:=c
  exact .inr (.inr (.inr (.inr (.inr (.inl ⟨rfl,rfl,rfl,rfl,rfl,_,_,_,_,_,_,_,_,_,_,_,_,_,_,_,_,_,_,rfl,h1,h2,h3⟩)))))
 |@load _ _ _ a h1 h2 h3 h4 h5=>
  obtain ⟨_,_,_,_,_,_⟩:=a
  exact .inr (.inr (.inr (.inr (.inr (.inr (.inl ⟨rfl,rfl,rfl,rfl,h1,_,_,_,_,_,_,_,rfl,h2,h3,h4,h5⟩))))))
 |@call _ a b h1 h2 h3=>
  obtain ⟨_,_,_,_,_,_⟩:=a
  obtain ⟨_,_,_,_,_,_⟩:=b
  exact .inr (.inr (.inr (.inr (.inr (.inr (.inr (.inl ⟨rfl,rfl,rfl,rfl,rfl,_,_,_,_,_,_,_,_,_,_,_,_,_,rfl,rfl,h1,h2,h3⟩)))))))
 |ca0 h1 h2 h3=>exact .inr (.inr (.inr (.inr (.inr (.inr (.inr (.inr (.inl ⟨rfl,rfl,rfl,rfl,rfl,h2,h3,h1⟩))))))))
 |@ca1 _ _ a h1 h2 h4 h3=>
  obtain ⟨_,_,_,_,_,_⟩:=a
  exact .inr (.inr (.inr (.inr (.inr (.inr (.inr (.inr (.inr ⟨rfl,rfl,rfl,rfl,h2,_,_,_,_,_,_,rfl,h4,h1,h3⟩))))))))
theorem T.inv (h:T Γ t (.node k o ty v s a)):
  (k=1/\o=0/\ty=t/\s=[]/\a=[]/\1<=t/\t<=3/\(t=3->v=0∨v=1)/\(t=2->Fx v)/\-200000<=v/\v<=5000000)∨
  (k=3/\ty=0/\v=0/\s=[]/\a=[]/\t=1/\1<=o/\o<=7)∨
  (k=2/\o=0/\ty=0/\v=0/\a=[]/\Nm s/\∃kk i,(kk=2∨kk=3)/\1<=t/\t<=3/\Γ s=some (kk,t,i))∨
  (k=4/\ty=0/\v=0/\s=[]/\∃j x z v1 A q w,a=[.node j x z v1 A q]/\Xo o w t/\T Γ w (.node j x z v1 A q))∨
  (k=5/\ty=0/\v=0/\s=[]/\∃j x z v1 A q J H B I C b2 w,a=[.node j x z v1 A q,.node J H B I C b2]/\FC o w t/\T Γ w (.node j x z v1 A q)/\T Γ w (.node J H B I C b2))∨
  (k=6/\o=0/\ty=0/\v=0/\s=[]/\∃j x z v1 A q J H B I C b2 O P L M Q N,a=[.node j x z v1 A q,.node J H B I C b2,.node O P L M Q N]/\T Γ 3 (.node j x z v1 A q)/\T Γ t (.node J H B I C b2)/\T Γ t (.node O P L M Q N))∨
  (k=7/\o=0/\ty=0/\v=0/\Nm s/\∃j x z v1 A q i,a=[.node j x z v1 A q]/\1<=t/\t<=3/\Γ s=some (0,t,i)/\T Γ 1 (.node j x z v1 A q))∨
  (k=8/\o=0/\ty=0/\v=0/\s=[104]/\∃j x z v1 A q J H B I C b2 i,a=[.node j x z v1 A q,.node J H B I C b2]/\t=1/\Γ [104]=some (1,1,i)/\T Γ 1 (.node j x z v1 A q)/\T Γ 1 (.node J H B I C b2)):=by
 rcases TR.inv h with h|h|h|h|h|h|h|h|⟨_,_,_,_,_,_,_,h⟩|⟨_,_,_,_,_,_,_,_,_,_,_,_,_,h,_⟩
 ·exact .inl h
 ·exact .inr (.inl h)
 ·exact .inr (.inr (.inl h))
 ·exact .inr (.inr (.inr (.inl h)))
 ·exact .inr (.inr (.inr (.inr (.inl h))))
 ·exact .inr (.inr (.inr (.inr (.inr (.inl h)))))
 ·exact .inr (.inr (.inr (.inr (.inr (.inr (.inl h))))))
 ·exact .inr (.inr (.inr (.inr (.inr (.inr (.inr h))))))
 ·exact (Ctx.St h).elim
 ·exact (Ctx.St h).elim
theorem n1 {x:E}:E.Ad [x]=x.nodes:=by simp only [E.Ad];omega
theorem n2 {x y:E}:E.Ad [x,y]=x.nodes+y.nodes:=by simp only [E.Ad];omega
theorem n3 {x y z:E}:E.Ad [x,y,z]=x.nodes+y.nodes+z.nodes:=by simp only [E.Ad];omega
theorem g1 {x:E}:E.BA [x]=x.high:=by simp only [E.BA];omega
theorem g2 {x y:E}:E.BA [x,y]=max x.high y.high:=by simp only [E.BA];omega
theorem g3 {x y z:E}:E.BA [x,y,z]=max x.high (max y.high z.high):=by simp only [E.BA];omega
end
def Na (s:List Nat):Tree->Option Nat
 |.leaf a _ ⟨[],[],[],[]⟩=>some a
 |.sets 0 l t e=>if s=l then Na s t else Na s e
 |_=>none
theorem MZ {trees:Nat->Tree} {Q:Out->Prop} {s:List Nat} {a:Nat}:∀(t:Tree),Na s t=some a->Q (a,⟨[],[],[],[]⟩)->W trees Q t ⟨[],[s],[],[]⟩
 |.leaf b nw ⟨[],[],[],[]⟩,h,hq=>by
  simp only [Na,oI]at h
  subst h;exact Ah ⟨[],[],[],[]⟩ hq rfl
 |.sets 0 l t e,h,hq=>by
  simp only [Na]at h
  refine ss s (fun k=>?_) fun k=>?_
  ·rw [if_pos k]at h;exact MZ t h hq
  ·rw [if_neg k]at h;exact MZ e h hq
theorem Ok.str {trees:Nat->Tree} {c:Nat} {s:List Nat} {R:Out->Prop} {t:Tree} {a:Nat} (q:trees c=t) (h:Na s t=some a) (j:R (a,⟨[],[],[],[]⟩)):Ok trees c ⟨[],[s],[],[]⟩ R:=.of q (MZ t h j)
structure Ck (Γ:Ctx) (al fl:Int) (Ar Fs:List Row) (m:List (List Nat×List PV)):Prop where
 see:∀s,Bh m s=(Γ s).map fun z=>[PV.int .i64 z.1,PV.int .i64 z.2.1,PV.int .i64 z.2.2]
 ha:al=Ar.length
 hf:fl=Fs.length
 ar:∀s t i,Γ s=some (0,t,i)->0<=i/\i<al/\∃(nm:List Nat) (sp ln:Int),Ar[i.toNat]?=some [.str nm,.int .i64 sp,.int .i64 t,.int .i64 ln]/\(i=0∨i=2->sp≠3)
 fn:∀i,Γ [104]=some (1,1,i)->0<=i/\i<fl/\∃(gm gn:List Nat) (F:List Row) (k o y w:Int) (s:List Nat) (A:List Row),Fs[i.toNat]?=some [.str [104],.list 2 (WN gm gn),.int .i64 1,.list 19 F,.int .i64 k,.int .i64 o,.int .i64 y,.str s,.int .i32 w,.list 6 A]
theorem Ck.look {Γ:Ctx} {v fl:Int} {j q:List Row} {m:List (List Nat×List PV)} (h:Ck Γ v fl j q m) {s:List Nat} {k t i:Int} (g:Γ s=some (k,t,i)):Bh m s=some [PV.int .i64 k,PV.int .i64 t,PV.int .i64 i]:=by
 rw [h.see,g];rfl
theorem Ck.Ak4 {Γ:Ctx} {v fl:Int} {j q:List Row} {m:List (List Nat×List PV)} (h:Ck Γ v fl j q m) {s:List Nat} (g:Γ s=none):Bh m s=none:=by
 rw [h.see,g];rfl
theorem WM {v q:List Nat} (j:Int) (z:0<=j) (x:j<2):∃nm:List Nat,(WN v q)[j.toNat]?=some [.str nm,.int .i64 1]:=by
 have:j=0∨j=1:=by omega
 rcases this with rfl|rfl
 ·exact ⟨v,rfl⟩
 ·exact ⟨q,rfl⟩
theorem SD (j:Int) (q:0<=j) (v:j<2):([1,1].map By)[j.toNat]?=some [PV.int .i64 1]:=by
 have:j=0∨j=1:=by omega
 rcases this with rfl|rfl<;>rfl
theorem Ts.none {Γ:Ctx} {ts:List Int} {a:List E} (h:Ts Γ ts a) (j:((E.Ab a).length:Int)<=0):ts=[]:=by
 rw [E.A7]at j
 have:=h.len
 exact List.eq_nil_of_length_eq_zero om
theorem Ts.end {Γ:Ctx} {ts:List Int} {a:List E} (h:Ts Γ ts a) {j:Int} (q:((E.Ab a).length:Int)<=j):(ts.take j.toNat).map By=ts.map By:=by
 rw [E.A7]at q
 exact YQ (by rw [h.len];omega)
theorem Ts.CM {ts:List Int}:((ts.map By).length:Int)=ts.length:=by simp
theorem S.len:∀l:List S,l.length<=S.Ad l
 |[]=>by simp
 |s::l=>by
  have:=S.len l
  obtain ⟨_,_,_,_,_,_,_,_,_⟩:=s
  simp only [lC,S.Ad,S.nodes];omega
end
section
def EOR (Δ:Rl) (e:E):Prop:=e=E0∨((∃t,TR Δ t e)/\e.high<=9)
abbrev EOk (Γ:Ctx) (e:E):Prop:=EOR (fun s z=>Γ s=some z) e
def No (k o t v:Int) (s:List Nat) (a:List E):Prop:=k=0/\o=0/\t=0/\v=0/\s=[]/\a=[]
theorem No.of {k o t v:Int} {s:List Nat} {a:List E} (h:E.node k o t v s a=E0):No k o t v s a:=by
 unfold E0 at h
 simp only [E.node.injEq]at h
 exact h
theorem No.eq {k o t v:Int} {s:List Nat} {a:List E} (h:No k o t v s a):E.node k o t v s a=E0:=by
 obtain ⟨rfl,rfl,rfl,rfl,rfl,rfl⟩:=h;rfl
section
variable {lo pu:Int} {Γ Γ':Ctx} {k o t b xk xo xt xv yk yo yt yv:Int} {nm xn yn:List Nat} {xa ya:List E} {bo el:List S}
theorem Fc.inv (h:Fc lo pu Γ (.node k o t b nm (.node xk xo xt xv xn xa) (.node yk yo yt yv yn ya) bo el) Γ'):
  (k=1/\o=0/\b=0/\No yk yo yt yv yn ya/\bo=[]/\el=[]/\Nm nm/\Γ nm=none/\1<=t/\t<=3/\T Γ t (.node xk xo xt xv xn xa)/\(E.node xk xo xt xv xn xa).high<=9/\Γ'=Γ.Iq nm (3,t,0))∨
  (k=2/\o=0/\t=0/\b=0/\No yk yo yt yv yn ya/\bo=[]/\el=[]/\Nm nm/\Γ'=Γ/\∃u i,Γ nm=some (3,u,i)/\T Γ u (.node xk xo xt xv xn xa)/\(E.node xk xo xt xv xn xa).high<=9)∨
  (k=3/\o=0/\t=0/\b=0/\bo=[]/\el=[]/\pu=0/\Nm nm/\Γ'=Γ/\∃u i,0<=i/\i<=4/\Γ nm=some (0,u,i)/\T Γ 1 (.node xk xo xt xv xn xa)/\T Γ u (.node yk yo yt yv yn ya)/\(E.node xk xo xt xv xn xa).high<=9/\(E.node yk yo yt yv yn ya).high<=9)∨
  (k=4/\t=0/\b=0/\bo=[]/\el=[]/\pu=0/\Nm nm/\Γ'=Γ/\∃i,(i=0∨i=2)/\Γ nm=some (0,1,i)/\(o=10∨o=17∨o=18∨o=19∨o=22∨o=23)/\T Γ 1 (.node xk xo xt xv xn xa)/\T Γ 1 (.node yk yo yt yv yn ya)/\(E.node xk xo xt xv xn xa).high<=9/\(E.node yk yo yt yv yn ya).high<=9)∨
  (k=5/\o=0/\t=0/\b=0/\nm=[]/\No yk yo yt yv yn ya/\T Γ 3 (.node xk xo xt xv xn xa)/\(E.node xk xo xt xv xn xa).high<=9/\Γ'=Γ/\∃j q,EK lo pu Γ bo j/\EK lo pu Γ el q)∨
  (k=6/\o=0/\t=0/\nm=[]/\No yk yo yt yv yn ya/\el=[]/\T Γ 3 (.node xk xo xt xv xn xa)/\(E.node xk xo xt xv xn xa).high<=9/\1<=b/\b<=4/\Γ'=Γ/\∃j,EK 1 pu Γ bo j)∨
  ((k=7∨k=8)/\o=0/\t=0/\b=0/\nm=[]/\No xk xo xt xv xn xa/\No yk yo yt yv yn ya/\bo=[]/\el=[]/\lo≠0/\Γ'=Γ)∨
  ((k=9∨k=10)/\o=0/\t=0/\b=0/\nm=[]/\No xk xo xt xv xn xa/\No yk yo yt yv yn ya/\bo=[]/\el=[]/\pu=0/\Γ'=Γ)∨
  (k=11/\(o=1∨o=2)/\t=0/\b=0/\nm=[]/\No xk xo xt xv xn xa/\No yk yo yt yv yn ya/\bo=[]/\el=[]/\pu=0/\Γ'=Γ)∨
  (k=12/\t=0/\b=0/\No yk yo yt yv yn ya/\bo=[]/\el=[]/\pu=0/\Nm nm/\Γ'=Γ/\∃u w i,Γ nm=some (3,u,i)/\1<=u/\u<=3/\((o=1/\u=1/\w=3)∨((o=2∨o=3)/\u=3/\w=3)∨((o=5∨o=6)/\u≠3/\w=u))/\T Γ w (.node xk xo xt xv xn xa)/\(E.node xk xo xt xv xn xa).high<=9)∨
  (k=12/\o=4/\t=0/\b=0/\bo=[]/\el=[]/\pu=0/\Nm nm/\Γ'=Γ/\∃u i,Γ nm=some (3,u,i)/\1<=u/\u<=3/\T Γ u (.node xk xo xt xv xn xa)/\T Γ 1 (.node yk yo yt yv yn ya)/\(E.node xk xo xt xv xn xa).high<=9/\(E.node yk yo yt yv yn ya).high<=9):=by
 generalize hx:E.node xk xo xt xv xn xa=x at h⊢
 generalize hy:E.node yk yo yt yv yn ya=y at h⊢
 cases h with
 |var h1 _ h2 h3 h4 h5 h6=>exact .inl ⟨rfl,rfl,rfl,.of hy,rfl,rfl,h1,h2,h3,h4,h5,h6.1,rfl⟩
 |set h1 h2 h3 h4=>exact .inr (.inl ⟨rfl,rfl,rfl,rfl,.of hy,rfl,rfl,h1,rfl,_,_,h2,h3,h4.1⟩)
 |store h1 h2 h3 h4 h5 h6 h7 h8=>exact .inr (.inr (.inl ⟨rfl,rfl,rfl,rfl,rfl,rfl,rfl,h1,rfl,_,_,h2,h3,h4,h5,h6,h7.1,h8.1⟩))
 |atom h1 h2 h3 h4 h5 h6 h7 h8=>exact .inr (.inr (.inr (.inl ⟨rfl,rfl,rfl,rfl,rfl,rfl,h1,rfl,_,h2,h3,h4,h5,h6,h7.1,h8.1⟩)))
 |ife h1 h2 h3 h4=>exact .inr (.inr (.inr (.inr (.inl ⟨rfl,rfl,rfl,rfl,rfl,.of hy,h1,h2.1,rfl,_,_,h3,h4⟩))))
 |whl h1 h2 h3 h4 h5=>exact .inr (.inr (.inr (.inr (.inr (.inl ⟨rfl,rfl,rfl,rfl,.of hy,rfl,h1,h2.1,h3,h4,rfl,_,h5⟩)))))
 |esc h1 h2=>exact .inr (.inr (.inr (.inr (.inr (.inr (.inl ⟨h1,rfl,rfl,rfl,rfl,.of hx,.of hy,rfl,rfl,h2,rfl⟩))))))
 |bar h1=>exact .inr (.inr (.inr (.inr (.inr (.inr (.inr (.inl ⟨h1,rfl,rfl,rfl,rfl,.of hx,.of hy,rfl,rfl,rfl,rfl⟩)))))))
 |MT h1=>exact .inr (.inr (.inr (.inr (.inr (.inr (.inr (.inr (.inl ⟨rfl,h1,rfl,rfl,rfl,.of hx,.of hy,rfl,rfl,rfl,rfl⟩))))))))
 |TJ h1 h2 h3 h4 h5 h6 h7=>exact .inr (.inr (.inr (.inr (.inr (.inr (.inr (.inr (.inr (.inl ⟨rfl,rfl,rfl,.of hy,rfl,rfl,rfl,h1,rfl,_,_,_,h2,h3,h4,h5,h6,h7.1⟩)))))))))
 |TI h1 h2 h3 h4 h5 h6 h7 h8=>exact .inr (.inr (.inr (.inr (.inr (.inr (.inr (.inr (.inr (.inr ⟨rfl,rfl,rfl,rfl,rfl,rfl,rfl,h1,rfl,_,_,h2,h3,h4,h5,h6,h7.1,h8.1⟩)))))))))
theorem Fc.exprs {s:S} (h:Fc lo pu Γ s Γ'):∃k o t b nm x y bo el,s=.node k o t b nm x y bo el/\EOk Γ x/\EOk Γ y/\∃j q z v,EK j pu Γ bo z/\EK q pu Γ el v:=by
 cases h with
 |var h1 _ h2 h3 h4 h5 h6=>exact ⟨_,_,_,_,_,_,_,_,_,rfl,.inr ⟨⟨_,h5⟩,h6.1⟩,.inl rfl,0,0,_,_,.nil,.nil⟩
 |set h1 h2 h3 h4=>exact ⟨_,_,_,_,_,_,_,_,_,rfl,.inr ⟨⟨_,h3⟩,h4.1⟩,.inl rfl,0,0,_,_,.nil,.nil⟩
 |store h1 h2 h3 h4 h5 h6 h7 h8=>exact ⟨_,_,_,_,_,_,_,_,_,rfl,.inr ⟨⟨_,h5⟩,h7.1⟩,.inr ⟨⟨_,h6⟩,h8.1⟩,0,0,_,_,.nil,.nil⟩
 |atom h1 h2 h3 h4 h5 h6 h7 h8=>exact ⟨_,_,_,_,_,_,_,_,_,rfl,.inr ⟨⟨_,h5⟩,h7.1⟩,.inr ⟨⟨_,h6⟩,h8.1⟩,0,0,_,_,.nil,.nil⟩
 |ife h1 h2 h3 h4=>exact ⟨_,_,_,_,_,_,_,_,_,rfl,.inr ⟨⟨_,h1⟩,h2.1⟩,.inl rfl,_,_,_,_,h3,h4⟩
 |whl h1 h2 h3 h4 h5=>exact ⟨_,_,_,_,_,_,_,_,_,rfl,.inr ⟨⟨_,h1⟩,h2.1⟩,.inl rfl,_,0,_,_,h5,.nil⟩
 |esc h1 h2=>exact ⟨_,_,_,_,_,_,_,_,_,rfl,.inl rfl,.inl rfl,0,0,_,_,.nil,.nil⟩
 |bar h1=>exact ⟨_,_,_,_,_,_,_,_,_,rfl,.inl rfl,.inl rfl,0,0,_,_,.nil,.nil⟩
 |MT h1=>exact ⟨_,_,_,_,_,_,_,_,_,rfl,.inl rfl,.inl rfl,0,0,_,_,.nil,.nil⟩
 |TJ h1 h2 h3 h4 h5 h6 h7=>exact ⟨_,_,_,_,_,_,_,_,_,rfl,.inr ⟨⟨_,h6⟩,h7.1⟩,.inl rfl,0,0,_,_,.nil,.nil⟩
 |TI h1 h2 h3 h4 h5 h6 h7 h8=>exact ⟨_,_,_,_,_,_,_,_,_,rfl,.inr ⟨⟨_,h5⟩,h7.1⟩,.inr ⟨⟨_,h6⟩,h8.1⟩,0,0,_,_,.nil,.nil⟩
theorem EK.get {l:List S} (j:Int) (h:EK lo pu Γ (l.drop j.toNat) Γ') (z:0<=j) (q:j<((S.Ab l).length:Int)):∃(k o t b:Int) (nm:List Nat) (xk xo xt xv:Int) (xn:List Nat) (xa:List E) (yk yo yt yv:Int) (yn:List Nat) (ya:List E) (bo el:List S) (x:Ctx),
  (S.Ab l)[j.toNat]?=some [.int .i64 k,.int .i64 o,.int .i64 t,.int .i64 b,.str nm,.int .i64 xk,.int .i64 xo,.int .i64 xt,.str xn,.int .i32 xv,.list 6 (E.Ab xa),.int .i64 yk,.int .i64 yo,.int .i64 yt,.str yn,.int .i32 yv,.list 6 (E.Ab ya),.list 19 (S.Ab bo),.list 19 (S.Ab el)]/\
  Fc lo pu Γ (.node k o t b nm (.node xk xo xt xv xn xa) (.node yk yo yt yv yn ya) bo el) x/\EK lo pu x (l.drop (j+1).toNat) Γ'/\
  S.Ad (l.drop j.toNat)=1+(E.node xk xo xt xv xn xa).nodes+(E.node yk yo yt yv yn ya).nodes+S.Ad bo+S.Ad el+S.Ad (l.drop (j+1).toNat)/\
  S.Az (l.drop j.toNat)=max (1+max (S.Az bo) (S.Az el)) (S.Az (l.drop (j+1).toNat)):=by
 rw [S.A7]at q
 have v:j.toNat<l.length:=by omega
 have hd:l.drop j.toNat=l[j.toNat]::l.drop (j+1).toNat:=by
  rw [show (j+1).toNat=j.toNat+1 by omega];exact List.drop_eq_getElem_cons v
 rw [hd]at h⊢
 generalize he:l[j.toNat]=s at h⊢
 obtain ⟨k,o,t,b,nm,⟨xk,xo,xt,xv,xn,xa⟩,⟨yk,yo,yt,yv,yn,ya⟩,bo,el⟩:=s
 cases h with
 |cons q h2=>
  exact ⟨k,o,t,b,nm,xk,xo,xt,xv,xn,xa,yk,yo,yt,yv,yn,ya,bo,el,_,by rw [S.EW,List.getElem?_eq_getElem v,he];rfl,q,h2,rfl,rfl⟩
theorem Fc.parts (h:Fc lo pu Γ (.node k o t b nm (.node xk xo xt xv xn xa) (.node yk yo yt yv yn ya) bo el) Γ'):(∀e∈[E.node xk xo xt xv xn xa,.node yk yo yt yv yn ya],EOk Γ e)/\∃v H C B,EK v pu Γ bo C/\EK H pu Γ el B:=by
 obtain ⟨_,_,_,_,_,x,y,_,_,e,z,q,A⟩:=h.exprs
 simp only [S.node.injEq]at e
 obtain ⟨_,_,_,_,_,rfl,rfl,rfl,rfl⟩:=e
 refine ⟨fun e j=>?_,A⟩
 simp only [List.mem_cons,List.not_mem_nil,or_false]at j
 rcases j with rfl|rfl
 ·exact z
 ·exact q
theorem Bf {l:List S} {j:Int} (h:((S.Ab l).length:Int)<=j):S.Ad (l.drop j.toNat)=0/\S.Az (l.drop j.toNat)=0/\l.drop j.toNat=[]:=by
 rw [S.A7]at h
 rw [List.drop_eq_nil_of_le om];exact ⟨rfl,rfl,rfl⟩
theorem EL.get {a:List E} {Δ:Rl} (h:∀e∈a,EOR Δ e) (j:Int) (x:0<=j) (z:j<((E.Ab a).length:Int)):∃(k o t v:Int) (s:List Nat) (b:List E) (u:Int),
  (E.Ab a)[j.toNat]?=some [.int .i64 k,.int .i64 o,.int .i64 t,.str s,.int .i32 v,.list 6 (E.Ab b)]/\(k≠0->TR Δ u (.node k o t v s b))/\(k≠0->(E.node k o t v s b).high<=9)/\(k=0->(E.node k o t v s b).nodes=0)/\(E.node k o t v s b).nodes+E.Ad (a.drop (j+1).toNat)=E.Ad (a.drop j.toNat):=by
 obtain ⟨k,o,t,v,s,b,g1,g2⟩:=E.get a j x z
 have q:=E.Kt g2
 rw [show j.toNat+1=(j+1).toNat by omega]at q
 rcases h _ (List.mem_of_getElem? g2)with e|⟨⟨u,hu⟩,hh⟩
 ·obtain ⟨rfl,rfl,rfl,rfl,rfl,rfl⟩:=No.of e
  exact ⟨0,0,0,0,[],[],0,g1,fun h=>absurd rfl h,fun h=>absurd rfl h,fun _=>rfl,q⟩
 ·refine ⟨k,o,t,v,s,b,u,g1,fun _=>hu,fun _=>hh,fun h=>?_,q⟩
  have:=hu.kind;omega
theorem Fc.Ak7 (h:Fc lo pu Γ (.node k o t b nm (.node xk xo xt xv xn xa) (.node yk yo yt yv yn ya) bo el) Γ') (j:k=1):o=0/\b=0/\No yk yo yt yv yn ya/\bo=[]/\el=[]/\Nm nm/\Γ nm=none/\1<=t/\t<=3/\T Γ t (.node xk xo xt xv xn xa)/\(E.node xk xo xt xv xn xa).high<=9/\Γ'=Γ.Iq nm (3,t,0):=by
 rcases h.inv with hv|hv|hv|hv|hv|hv|hv|hv|hv|hv|hv
 ·exact hv.2
 ·exfalso;have:=hv.1;omega
 ·exfalso;have:=hv.1;omega
 ·exfalso;have:=hv.1;omega
 ·exfalso;have:=hv.1;omega
 ·exfalso;have:=hv.1;omega
 ·exfalso;have:=hv.1;omega
 ·exfalso;have:=hv.1;omega
 ·exfalso;have:=hv.1;omega
 ·exfalso;have:=hv.1;omega
 ·exfalso;have:=hv.1;omega
theorem Fc.Ak8 (h:Fc lo pu Γ (.node k o t b nm (.node xk xo xt xv xn xa) (.node yk yo yt yv yn ya) bo el) Γ') (j:k=2):o=0/\t=0/\b=0/\No yk yo yt yv yn ya/\bo=[]/\el=[]/\Nm nm/\Γ'=Γ/\∃u i,Γ nm=some (3,u,i)/\T Γ u (.node xk xo xt xv xn xa)/\(E.node xk xo xt xv xn xa).high<=9:=by
 rcases h.inv with hv|hv|hv|hv|hv|hv|hv|hv|hv|hv|hv
 ·exfalso;have:=hv.1;omega
 ·exact hv.2
 ·exfalso;have:=hv.1;omega
 ·exfalso;have:=hv.1;omega
 ·exfalso;have:=hv.1;omega
 ·exfalso;have:=hv.1;omega
 ·exfalso;have:=hv.1;omega
 ·exfalso;have:=hv.1;omega
 ·exfalso;have:=hv.1;omega
 ·exfalso;have:=hv.1;omega
 ·exfalso;have:=hv.1;omega
theorem Fc.Aho (h:Fc lo pu Γ (.node k o t b nm (.node xk xo xt xv xn xa) (.node yk yo yt yv yn ya) bo el) Γ') (j:k=3):o=0/\t=0/\b=0/\bo=[]/\el=[]/\pu=0/\Nm nm/\Γ'=Γ/\∃u i,0<=i/\i<=4/\Γ nm=some (0,u,i)/\T Γ 1 (.node xk xo xt xv xn xa)/\T Γ u (.node yk yo yt yv yn ya)/\(E.node xk xo xt xv xn xa).high<=9/\(E.node yk yo yt yv yn ya).high<=9:=by
 rcases h.inv with hv|hv|hv|hv|hv|hv|hv|hv|hv|hv|hv
 ·exfalso;have:=hv.1;omega
 ·exfalso;have:=hv.1;omega
 ·exact hv.2
 ·exfalso;have:=hv.1;omega
 ·exfalso;have:=hv.1;omega
 ·exfalso;have:=hv.1;omega
 ·exfalso;have:=hv.1;omega
 ·exfalso;have:=hv.1;omega
 ·exfalso;have:=hv.1;omega
 ·exfalso;have:=hv.1;omega
 ·exfalso;have:=hv.1;omega
theorem Fc.AkA (h:Fc lo pu Γ (.node k o t b nm (.node xk xo xt xv xn xa) (.node yk yo yt yv yn ya) bo el) Γ') (j:k=4):t=0/\b=0/\bo=[]/\el=[]/\pu=0/\Nm nm/\Γ'=Γ/\∃i,(i=0∨i=2)/\Γ nm=some (0,1,i)/\(o=10∨o=17∨o=18∨o=19∨o=22∨o=23)/\T Γ 1 (.node xk xo xt xv xn xa)/\T Γ 1 (.node yk yo yt yv yn ya)/\(E.node xk xo xt xv xn xa).high<=9/\(E.node yk yo yt yv yn ya).high<=9:=by
 rcases h.inv with hv|hv|hv|hv|hv|hv|hv|hv|hv|hv|hv
 ·exfalso;have:=hv.1;omega
 ·exfalso;have:=hv.1;omega
 ·exfalso;have:=hv.1;omega
 ·exact hv.2
 ·exfalso;have:=hv.1;omega
 ·exfalso;have:=hv.1;omega
 ·exfalso;have:=hv.1;omega
 ·exfalso;have:=hv.1;omega
 ·exfalso;have:=hv.1;omega
 ·exfalso;have:=hv.1;omega
 ·exfalso;have:=hv.1;omega
theorem Fc.kif (h:Fc lo pu Γ (.node k o t b nm (.node xk xo xt xv xn xa) (.node yk yo yt yv yn ya) bo el) Γ') (v:k=5):o=0/\t=0/\b=0/\nm=[]/\No yk yo yt yv yn ya/\T Γ 3 (.node xk xo xt xv xn xa)/\(E.node xk xo xt xv xn xa).high<=9/\Γ'=Γ/\∃j q,EK lo pu Γ bo j/\EK lo pu Γ el q:=by
 rcases h.inv with hv|hv|hv|hv|hv|hv|hv|hv|hv|hv|hv
 ·exfalso;have:=hv.1;omega
 ·exfalso;have:=hv.1;omega
 ·exfalso;have:=hv.1;omega
 ·exfalso;have:=hv.1;omega
 ·exact hv.2
 ·exfalso;have:=hv.1;omega
 ·exfalso;have:=hv.1;omega
 ·exfalso;have:=hv.1;omega
 ·exfalso;have:=hv.1;omega
 ·exfalso;have:=hv.1;omega
 ·exfalso;have:=hv.1;omega
theorem Fc.Ak6 (h:Fc lo pu Γ (.node k o t b nm (.node xk xo xt xv xn xa) (.node yk yo yt yv yn ya) bo el) Γ') (q:k=6):o=0/\t=0/\nm=[]/\No yk yo yt yv yn ya/\el=[]/\T Γ 3 (.node xk xo xt xv xn xa)/\(E.node xk xo xt xv xn xa).high<=9/\1<=b/\b<=4/\Γ'=Γ/\∃j,EK 1 pu Γ bo j:=by
 rcases h.inv with hv|hv|hv|hv|hv|hv|hv|hv|hv|hv|hv
 ·exfalso;have:=hv.1;omega
 ·exfalso;have:=hv.1;omega
 ·exfalso;have:=hv.1;omega
 ·exfalso;have:=hv.1;omega
 ·exfalso;have:=hv.1;omega
 ·exact hv.2
 ·exfalso;have:=hv.1;omega
 ·exfalso;have:=hv.1;omega
 ·exfalso;have:=hv.1;omega
 ·exfalso;have:=hv.1;omega
 ·exfalso;have:=hv.1;omega
theorem Fc.Ao5 (h:Fc lo pu Γ (.node k o t b nm (.node xk xo xt xv xn xa) (.node yk yo yt yv yn ya) bo el) Γ') (j:k=12):(t=0/\b=0/\No yk yo yt yv yn ya/\bo=[]/\el=[]/\pu=0/\Nm nm/\Γ'=Γ/\∃u w i,Γ nm=some (3,u,i)/\1<=u/\u<=3/\((o=1/\u=1/\w=3)∨((o=2∨o=3)/\u=3/\w=3)∨((o=5∨o=6)/\u≠3/\w=u))/\T Γ w (.node xk xo xt xv xn xa)/\(E.node xk xo xt xv xn xa).high<=9)∨(o=4/\t=0/\b=0/\bo=[]/\el=[]/\pu=0/\Nm nm/\Γ'=Γ/\∃u i,Γ nm=some (3,u,i)/\1<=u/\u<=3/\T Γ u (.node xk xo xt xv xn xa)/\T Γ 1 (.node yk yo yt yv yn ya)/\(E.node xk xo xt xv xn xa).high<=9/\(E.node yk yo yt yv yn ya).high<=9):=by
 rcases h.inv with hv|hv|hv|hv|hv|hv|hv|hv|hv|hv|hv
 ·exfalso;have:=hv.1;omega
 ·exfalso;have:=hv.1;omega
 ·exfalso;have:=hv.1;omega
 ·exfalso;have:=hv.1;omega
 ·exfalso;have:=hv.1;omega
 ·exfalso;have:=hv.1;omega
 ·exfalso;have:=hv.1;omega
 ·exfalso;have:=hv.1;omega
 ·exfalso;have:=hv.1;omega
 ·exact .inl hv.2
 ·exact .inr hv.2
theorem Fc.same (h:Fc lo pu Γ (.node k o t b nm (.node xk xo xt xv xn xa) (.node yk yo yt yv yn ya) bo el) Γ') (j:k≠1):Γ'=Γ:=by
 rcases h.inv with hv|hv|hv|hv|hv|hv|hv|hv|hv|hv|hv
 ·exfalso;have:=hv.1;omega
 ·exact hv.2.2.2.2.2.2.2.2.1
 ·exact hv.2.2.2.2.2.2.2.2.1
 ·exact hv.2.2.2.2.2.2.2.1
 ·exact hv.2.2.2.2.2.2.2.2.1
 ·exact hv.2.2.2.2.2.2.2.2.2.2.1
 ·exact hv.2.2.2.2.2.2.2.2.2.2
 ·exact hv.2.2.2.2.2.2.2.2.2.2
 ·exact hv.2.2.2.2.2.2.2.2.2.2
 ·exact hv.2.2.2.2.2.2.2.2.1
 ·exact hv.2.2.2.2.2.2.2.2.1
theorem Fc.kinds (h:Fc lo pu Γ (.node k o t b nm (.node xk xo xt xv xn xa) (.node yk yo yt yv yn ya) bo el) Γ'):1<=k/\k<=12:=by
 rcases h.inv with hv|hv|hv|hv|hv|hv|hv|hv|hv|hv|hv<;>(have:=hv.1;omega)
theorem Fc.Aen (h:Fc lo pu Γ (.node k o t b nm (.node xk xo xt xv xn xa) (.node yk yo yt yv yn ya) bo el) Γ'):k=7∨k=8->lo≠0:=by
 intro j
 rcases h.inv with hv|hv|hv|hv|hv|hv|hv|hv|hv|hv|hv
 ·exfalso;have:=hv.1;omega
 ·exfalso;have:=hv.1;omega
 ·exfalso;have:=hv.1;omega
 ·exfalso;have:=hv.1;omega
 ·exfalso;have:=hv.1;omega
 ·exfalso;have:=hv.1;omega
 ·exact hv.2.2.2.2.2.2.2.2.2.1
 ·exfalso;have:=hv.1;omega
 ·exfalso;have:=hv.1;omega
 ·exfalso;have:=hv.1;omega
 ·exfalso;have:=hv.1;omega
theorem Fc.pure (h:Fc lo pu Γ (.node k o t b nm (.node xk xo xt xv xn xa) (.node yk yo yt yv yn ya) bo el) Γ'):3<=k->k<=4∨9<=k->pu=0:=by
 intro _ j
 rcases h.inv with hv|hv|hv|hv|hv|hv|hv|hv|hv|hv|hv
 ·exfalso;have:=hv.1;omega
 ·exfalso;have:=hv.1;omega
 ·exact hv.2.2.2.2.2.2.1
 ·exact hv.2.2.2.2.2.1
 ·exfalso;have:=hv.1;omega
 ·exfalso;have:=hv.1;omega
 ·exfalso;have:=hv.1;omega
 ·exact hv.2.2.2.2.2.2.2.2.2.1
 ·exact hv.2.2.2.2.2.2.2.2.2.1
 ·exact hv.2.2.2.2.2.2.1
 ·exact hv.2.2.2.2.2.2.1
end
theorem UC (m:List (List Nat×List PV)) (k j:List Nat) (v:List PV):Bh (Bv m k v) j=if j=k then some v else Bh m j:=by
 induction m with
 |nil=>
  simp only [Bv,Bh]
  by_cases h:j=k
  ·subst h;simp
  ·rw [if_neg h,if_neg (fun e=>h e.symm)]
 |cons e r ih=>
  simp only [Bv]
  by_cases h:e.1=k
  ·rw [if_pos h]
   simp only [Bh]
   by_cases h':j=k
   ·subst h';simp
   ·rw [if_neg (fun e=>h' e.symm),if_neg h',if_neg (fun x=>h' (x.symm.trans h))]
  ·rw [if_neg h]
   simp only [Bh,ih]
   by_cases h':e.1=j
   ·rw [if_pos h',if_pos h',if_neg (fun x=>h (h'.trans x))]
   ·rw [if_neg h',if_neg h']
section
variable {Γ:Ctx} {al fl:Int} {Ar Fs:List Row} {mp:List (List Nat×List PV)}
theorem Ck.Iq (h:Ck Γ al fl Ar Fs mp) {s:List Nat} {t:Int} (g:Γ s=none):Ck (Γ.Iq s (3,t,0)) al fl Ar Fs (Bv mp s [PV.int .i64 3,PV.int .i64 t,PV.int .i64 0]):=by
 refine ⟨fun k=>?_,h.ha,h.hf,fun k t' i j=>?_,fun i q=>?_⟩
 ·rw [UC]
  by_cases e:k=s
  ·subst e;rw [if_pos rfl,FD];rfl
  ·rw [if_neg e,Cu e];exact h.see k
 ·by_cases e:k=s
  ·subst e;rw [FD]at j;cases j
  ·rw [Cu e]at j;exact h.ar k t' i j
 ·by_cases e:[104]=s
  ·rw [<-e,FD]at q;cases q
  ·rw [Cu e]at q;exact h.fn i q
theorem Ck.keep {lo pu:Int} {Γ':Ctx} {k o t b xk xo xt xv yk yo yt yv:Int} {nm xn yn:List Nat} {xa ya:List E} {bo el:List S} (h:Ck Γ al fl Ar Fs mp) (hs:Fc lo pu Γ (.node k o t b nm (.node xk xo xt xv xn xa) (.node yk yo yt yv yn ya) bo el) Γ') (j:k≠1):Ck Γ' al fl Ar Fs mp:=by
 have:=hs.same j
 subst this;exact h
end
theorem TR.tl1 {Δ:Rl} {t:Int} {x:E} (h:TR Δ t x):TL Δ [x]:=fun e j=>by
 simp only [List.mem_cons,List.not_mem_nil,or_false]at j;subst j;exact ⟨t,h⟩
theorem TR.tl2 {Δ:Rl} {t u:Int} {x y:E} (h:TR Δ t x) (g:TR Δ u y):TL Δ [x,y]:=fun e j=>by
 simp only [List.mem_cons,List.not_mem_nil,or_false]at j
 rcases j with rfl|rfl
 ·exact ⟨t,h⟩
 ·exact ⟨u,g⟩
end
section
def PSh (k o t b:Int) (nm:List Nat) (xk xo xt xv:Int) (xn:List Nat) (xa:List E) (yk yo yt yv:Int) (yn:List Nat) (ya:List E) (bo el:List S):Prop:=∃Δ:Rl,
 (k=1/\o=0/\b=0/\No yk yo yt yv yn ya/\bo=[]/\el=[]/\Nm nm/\1<=t/\t<=3/\TR Δ t (.node xk xo xt xv xn xa)/\(E.node xk xo xt xv xn xa).high<=9)∨
 (k=2/\o=0/\t=0/\b=0/\No yk yo yt yv yn ya/\bo=[]/\el=[]/\Nm nm/\∃u,TR Δ u (.node xk xo xt xv xn xa)/\(E.node xk xo xt xv xn xa).high<=9)∨
 (k=3/\o=0/\t=0/\b=0/\bo=[]/\el=[]/\Nm nm/\∃u,TR Δ 1 (.node xk xo xt xv xn xa)/\TR Δ u (.node yk yo yt yv yn ya)/\(E.node xk xo xt xv xn xa).high<=9/\(E.node yk yo yt yv yn ya).high<=9)∨
 (k=4/\t=0/\b=0/\bo=[]/\el=[]/\Nm nm/\(o=10∨o=17∨o=18∨o=19∨o=22∨o=23)/\TR Δ 1 (.node xk xo xt xv xn xa)/\TR Δ 1 (.node yk yo yt yv yn ya)/\(E.node xk xo xt xv xn xa).high<=9/\(E.node yk yo yt yv yn ya).high<=9)∨
 (k=5/\o=0/\t=0/\b=0/\nm=[]/\No yk yo yt yv yn ya/\TR Δ 3 (.node xk xo xt xv xn xa)/\(E.node xk xo xt xv xn xa).high<=9)∨
 (k=6/\o=0/\t=0/\nm=[]/\No yk yo yt yv yn ya/\el=[]/\TR Δ 3 (.node xk xo xt xv xn xa)/\(E.node xk xo xt xv xn xa).high<=9/\1<=b/\b<=4)∨
 ((k=7∨k=8)/\o=0/\t=0/\b=0/\nm=[]/\No xk xo xt xv xn xa/\No yk yo yt yv yn ya/\bo=[]/\el=[])∨
 ((k=9∨k=10)/\o=0/\t=0/\b=0/\nm=[]/\No xk xo xt xv xn xa/\No yk yo yt yv yn ya/\bo=[]/\el=[])∨
 (k=11/\(o=1∨o=2)/\t=0/\b=0/\nm=[]/\No xk xo xt xv xn xa/\No yk yo yt yv yn ya/\bo=[]/\el=[])∨
 (k=12/\t=0/\b=0/\No yk yo yt yv yn ya/\bo=[]/\el=[]/\Nm nm/\∃u w,((o=1/\u=1/\w=3)∨((o=2∨o=3)/\u=3/\w=3)∨((o=5∨o=6)/\u≠(3:Int)/\w=u))/\TR Δ w (.node xk xo xt xv xn xa)/\(E.node xk xo xt xv xn xa).high<=9)∨
 (k=12/\o=4/\t=0/\b=0/\bo=[]/\el=[]/\Nm nm/\∃u,TR Δ u (.node xk xo xt xv xn xa)/\TR Δ 1 (.node yk yo yt yv yn ya)/\(E.node xk xo xt xv xn xa).high<=9/\(E.node yk yo yt yv yn ya).high<=9)
mutual
inductive PS:S->Prop
 |mk {k o t b:Int} {nm:List Nat} {xk xo xt xv:Int} {xn:List Nat} {xa:List E} {yk yo yt yv:Int} {yn:List Nat} {ya:List E} {bo el:List S}:PSh k o t b nm xk xo xt xv xn xa yk yo yt yv yn ya bo el->PL bo->PL el->PS (.node k o t b nm (.node xk xo xt xv xn xa) (.node yk yo yt yv yn ya) bo el)
inductive PL:List S->Prop
 |nil:PL []
 |cons {s l}:PS s->PL l->PL (s::l)
end
section
variable {k o t b xk xo xt xv yk yo yt yv:Int} {nm xn yn:List Nat} {xa ya:List E} {bo el:List S}
theorem PS.inv (h:PS (.node k o t b nm (.node xk xo xt xv xn xa) (.node yk yo yt yv yn ya) bo el)):PSh k o t b nm xk xo xt xv xn xa yk yo yt yv yn ya bo el/\PL bo/\PL el:=by
 cases h with|mk h1 h2 h3=>exact ⟨h1,h2,h3⟩
theorem PSh.of {lo N:Int} {Γ O:Ctx} (h:Fc lo N Γ (.node k o t b nm (.node xk xo xt xv xn xa) (.node yk yo yt yv yn ya) bo el) O):PSh k o t b nm xk xo xt xv xn xa yk yo yt yv yn ya bo el:=by
 refine ⟨fun s z=>Γ s=some z,?_⟩
 rcases h.inv with hv|hv|hv|hv|hv|hv|hv|hv|hv|hv|hv
 ·obtain ⟨x,j,q,v,A,H,J,_,I,B,L,M,_⟩:=hv;exact .inl ⟨x,j,q,v,A,H,J,I,B,L,M⟩
 ·obtain ⟨x,j,q,v,A,H,J,C,_,u,_,_,I,B⟩:=hv;exact .inr (.inl ⟨x,j,q,v,A,H,J,C,u,I,B⟩)
 ·obtain ⟨x,j,q,v,A,H,_,C,_,u,_,_,_,_,I,B,L,M⟩:=hv;exact .inr (.inr (.inl ⟨x,j,q,v,A,H,C,u,I,B,L,M⟩))
 ·obtain ⟨x,j,q,v,A,_,J,_,_,_,_,C,I,B,L,M⟩:=hv;exact .inr (.inr (.inr (.inl ⟨x,j,q,v,A,J,C,I,B,L,M⟩)))
 ·obtain ⟨x,j,q,v,A,H,J,C,_⟩:=hv;exact .inr (.inr (.inr (.inr (.inl ⟨x,j,q,v,A,H,J,C⟩))))
 ·obtain ⟨x,j,q,v,A,H,J,C,I,B,_⟩:=hv;exact .inr (.inr (.inr (.inr (.inr (.inl ⟨x,j,q,v,A,H,J,C,I,B⟩)))))
 ·obtain ⟨x,j,q,v,A,H,J,C,I,_⟩:=hv;exact .inr (.inr (.inr (.inr (.inr (.inr (.inl ⟨x,j,q,v,A,H,J,C,I⟩))))))
 ·obtain ⟨x,j,q,v,A,H,J,C,I,_⟩:=hv;exact .inr (.inr (.inr (.inr (.inr (.inr (.inr (.inl ⟨x,j,q,v,A,H,J,C,I⟩)))))))
 ·obtain ⟨x,j,q,v,A,H,J,C,I,_⟩:=hv;exact .inr (.inr (.inr (.inr (.inr (.inr (.inr (.inr (.inl ⟨x,j,q,v,A,H,J,C,I⟩))))))))
 ·obtain ⟨x,j,q,v,A,H,_,C,_,u,w,_,_,_,_,I,B,L⟩:=hv;exact .inr (.inr (.inr (.inr (.inr (.inr (.inr (.inr (.inr (.inl ⟨x,j,q,v,A,H,C,u,w,I,B,L⟩)))))))))
 ·obtain ⟨x,j,q,v,A,H,_,C,_,u,_,_,_,_,I,B,L,M⟩:=hv;exact .inr (.inr (.inr (.inr (.inr (.inr (.inr (.inr (.inr (.inr ⟨x,j,q,v,A,H,C,u,I,B,L,M⟩)))))))))
end
mutual
theorem Fc.ps {lo v:Int} {Γ q:Ctx}:∀(s:S),Fc lo v Γ s q->PS s
 |.node k o t b nm (.node xk xo xt xv xn xa) (.node yk yo yt yv yn ya) bo el,h=>by
  obtain ⟨_,z,C,B,A,j,x⟩:=h.parts
  exact .mk (PSh.of h) (EK.pl' bo j) (EK.pl' el x)
theorem EK.pl' {lo j:Int} {Γ q:Ctx}:∀(l:List S),EK lo j Γ l q->PL l
 |[],_=>.nil
 |s::l,h=>by cases h with|cons a b=>exact .cons (Fc.ps s a) (EK.pl' l b)
end
theorem EK.pl {lo j:Int} {Γ q:Ctx} {l:List S} (h:EK lo j Γ l q):PL l:=EK.pl' l h
theorem PL.get {l:List S} (j:Int) (h:PL (l.drop j.toNat)) (x:0<=j) (q:j<((S.Ab l).length:Int)):∃(k o t b:Int) (nm:List Nat) (xk xo xt xv:Int) (xn:List Nat) (xa:List E) (yk yo yt yv:Int) (yn:List Nat) (ya:List E) (bo el:List S),
  (S.Ab l)[j.toNat]?=some [.int .i64 k,.int .i64 o,.int .i64 t,.int .i64 b,.str nm,.int .i64 xk,.int .i64 xo,.int .i64 xt,.str xn,.int .i32 xv,.list 6 (E.Ab xa),.int .i64 yk,.int .i64 yo,.int .i64 yt,.str yn,.int .i32 yv,.list 6 (E.Ab ya),.list 19 (S.Ab bo),.list 19 (S.Ab el)]/\
  PS (.node k o t b nm (.node xk xo xt xv xn xa) (.node yk yo yt yv yn ya) bo el)/\PL (l.drop (j+1).toNat)/\
  S.Ad (l.drop j.toNat)=1+(E.node xk xo xt xv xn xa).nodes+(E.node yk yo yt yv yn ya).nodes+S.Ad bo+S.Ad el+S.Ad (l.drop (j+1).toNat)/\
  S.Az (l.drop j.toNat)=max (1+max (S.Az bo) (S.Az el)) (S.Az (l.drop (j+1).toNat)):=by
 rw [S.A7]at q
 have v:j.toNat<l.length:=by omega
 have hd:l.drop j.toNat=l[j.toNat]::l.drop (j+1).toNat:=by
  rw [show (j+1).toNat=j.toNat+1 by omega];exact List.drop_eq_getElem_cons v
 rw [hd]at h⊢
 generalize he:l[j.toNat]=s at h⊢
 obtain ⟨k,o,t,b,nm,⟨xk,xo,xt,xv,xn,xa⟩,⟨yk,yo,yt,yv,yn,ya⟩,bo,el⟩:=s
 cases h with
 |cons q h2=>
  exact ⟨k,o,t,b,nm,xk,xo,xt,xv,xn,xa,yk,yo,yt,yv,yn,ya,bo,el,by rw [S.EW,List.getElem?_eq_getElem v,he];rfl,q,h2,rfl,rfl⟩
theorem PS.parts {k o t b xk xo xt xv yk yo yt yv:Int} {nm xn yn:List Nat} {xa ya:List E} {bo el:List S} (h:PS (.node k o t b nm (.node xk xo xt xv xn xa) (.node yk yo yt yv yn ya) bo el)):∃Δ:Rl,(∀e∈[E.node xk xo xt xv xn xa,.node yk yo yt yv yn ya],EOR Δ e)/\PL bo/\PL el:=by
 obtain ⟨⟨Δ,j⟩,H,J⟩:=h.inv
 refine ⟨Δ,?_,H,J⟩
 have key:∀{x y:E},EOR Δ x->EOR Δ y->∀e∈[x,y],EOR Δ e:=fun L I e C=>by
  simp only [List.mem_cons,List.not_mem_nil,or_false]at C
  rcases C with rfl|rfl
  ·exact L
  ·exact I
 rcases j with j|j|j|j|j|j|j|j|j|j|j
 ·obtain ⟨_,_,_,v,_,_,_,_,_,q,z⟩:=j;exact key (.inr ⟨⟨_,q⟩,z⟩) (.inl v.eq)
 ·obtain ⟨_,_,_,_,v,_,_,_,u,q,z⟩:=j;exact key (.inr ⟨⟨_,q⟩,z⟩) (.inl v.eq)
 ·obtain ⟨_,_,_,_,_,_,_,u,q,z,A,B⟩:=j;exact key (.inr ⟨⟨_,q⟩,A⟩) (.inr ⟨⟨_,z⟩,B⟩)
 ·obtain ⟨_,_,_,_,_,_,_,q,z,A,B⟩:=j;exact key (.inr ⟨⟨_,q⟩,A⟩) (.inr ⟨⟨_,z⟩,B⟩)
 ·obtain ⟨_,_,_,_,_,v,q,z⟩:=j;exact key (.inr ⟨⟨_,q⟩,z⟩) (.inl v.eq)
 ·obtain ⟨_,_,_,_,v,_,q,z,_⟩:=j;exact key (.inr ⟨⟨_,q⟩,z⟩) (.inl v.eq)
 ·obtain ⟨_,_,_,_,_,v,q,_⟩:=j;exact key (.inl v.eq) (.inl q.eq)
 ·obtain ⟨_,_,_,_,_,v,q,_⟩:=j;exact key (.inl v.eq) (.inl q.eq)
 ·obtain ⟨_,_,_,_,_,v,q,_⟩:=j;exact key (.inl v.eq) (.inl q.eq)
 ·obtain ⟨_,_,_,v,_,_,_,u,w,_,q,z⟩:=j;exact key (.inr ⟨⟨_,q⟩,z⟩) (.inl v.eq)
 ·obtain ⟨_,_,_,_,_,_,_,u,q,z,A,B⟩:=j;exact key (.inr ⟨⟨_,q⟩,A⟩) (.inr ⟨⟨_,z⟩,B⟩)
end
section
theorem SK {m:List (List Nat×List PV)} {s:List Nat} (h:∀e∈m,e.1≠s):Bh m s=none:=by
 induction m with
 |nil=>rfl
 |cons e r ih=>
  simp only [Bh]
  rw [if_neg (h e List.mem_cons_self)]
  exact ih fun x j=>h x (List.mem_cons_of_mem _ j)
theorem AfT {Γ:Ctx} {m:List (List Nat×List PV)} (L:List (List Nat)) (A:∀s∈L,Bh m s=(Γ s).map fun z=>[PV.int .i64 z.1,PV.int .i64 z.2.1,PV.int .i64 z.2.2]) (j:∀s,s∉L->Γ s=none) (q:∀e∈m,e.1∈L) (s:List Nat):
  Bh m s=(Γ s).map fun z=>[PV.int .i64 z.1,PV.int .i64 z.2.1,PV.int .i64 z.2.2]:=by
 by_cases h:s∈L
 ·exact A s h
 ·rw [j s h,SK fun e x v=>h (by rw [<-v];exact q e x)];rfl
theorem AdK {ρ:Env} {a b:ST} {x y z:Int} (h:a.den ρ=x) (g:b.den ρ=y) (r:bits .and .i64 x y=z):(ST.bin .and .i64 a b).den ρ=z:=by
 show bits .and .i64 (a.den ρ) (b.den ρ)=z
 rw [h,g];exact r
end
section
abbrev NK:=List (List Nat×List PV)
structure Ae where
 nm:List Nat
 sp:Int
 ty:Int
 ln:Int
def AnQ (a:Ae):Row:=[.str a.nm,.int .i64 a.sp,.int .i64 a.ty,.int .i64 a.ln]
def Ay (l:List Ae):List Row:=l.map AnQ
structure Pe where
 nm:List Nat
 ty:Int
def AnP (a:Pe):Row:=[.str a.nm,.int .i64 a.ty]
def Ax (l:List Pe):List Row:=l.map AnP
structure Fe where
 nm:List Nat
 ps:List Pe
 ty:Int
 fb:List S
 k:Int
 o:Int
 y:Int
 s:List Nat
 w:Int
 a:List E
def AiD (f:Fe):Row:=[.str f.nm,.list 2 (Ax f.ps),.int .i64 f.ty,.list 19 (S.Ab f.fb),.int .i64 f.k,.int .i64 f.o,.int .i64 f.y,.str f.s,.int .i32 f.w,.list 6 (E.Ab f.a)]
def A5 (l:List Fe):List Row:=l.map AiD
def HC (k:Int) (j:Bool):Int->List (List Nat×Int)->NK
 |_,[]=>[]
 |i,x::r=>(x.1,[PV.int .i64 k,PV.int .i64 x.2,PV.int .i64 (bif j then i else 0)])::HC k j (i+1) r
def am (l:List Ae):NK:=HC 0 true 0 (l.map fun a=>(a.nm,a.ty))
def pm (l:List Pe):NK:=HC 2 false 0 (l.map fun a=>(a.nm,a.ty))
def fm (l:List Fe):NK:=HC 1 true 0 (l.map fun a=>(a.nm,a.ty))
theorem Tn {k:Int} {j:Bool}:∀(l m:List (List Nat×Int)) (i:Int),HC k j i (l++m)=HC k j i l++HC k j (i+l.length) m
 |[],m,i=>by simp [HC]
 |x::l,m,i=>by
  simp only [List.cons_append,HC,Tn l m (i+1),lC]
  congr 3;omega
theorem Gi:∀{m:NK} {s:List Nat} {v:List PV},Bh m s=none->Bv m s v=m++[(s,v)]
 |[],_,_,_=>rfl
 |e::m,s,v,h=>by
  simp only [Bh]at h
  split at h
  ·cases h
  ·rename_i j
   simp only [Bv,if_neg j,List.cons_append,Gi h]
theorem KH {k:Int} {q:Bool} {l:List (List Nat×Int)} {j:Int} {x:List Nat×Int} (z:0<=j) (h:l[j.toNat]?=some x):HC k q 0 (l.take (j+1).toNat)=HC k q 0 (l.take j.toNat)++[(x.1,[PV.int .i64 k,PV.int .i64 x.2,PV.int .i64 (bif q then j else 0)])]:=by
 have e:(j+1).toNat=j.toNat+1:=by omega
 have hl:=(List.getElem?_eq_some_iff.1 h).1
 have v:(0:Int)+((l.take j.toNat).length:Int)=j:=by rw [lT'];omega
 rw [e,List.take_add_one,h,Tn,v]
 rfl
def AcM (M:NK) (k:Int) (q:Bool) (l:List (List Nat×Int)):Prop:=∀(j:Nat) (x:List Nat×Int),l[j]?=some x->Bh (M++HC k q 0 (l.take j)) x.1=none
abbrev Y5 (M:NK) (l:List Ae):Prop:=AcM M 0 true (l.map fun a=>(a.nm,a.ty))
abbrev FrP (M:NK) (l:List Pe):Prop:=AcM M 2 false (l.map fun a=>(a.nm,a.ty))
abbrev FrF (M:NK) (l:List Fe):Prop:=AcM M 1 true (l.map fun a=>(a.nm,a.ty))
section
variable {M:NK} {j:Int}
theorem RL {l:List Ae} {a:Ae} (h:Y5 M l) (g:l[j.toNat]?=some a):Bh (M++am (l.take j.toNat)) a.nm=none:=by
 have:=h j.toNat (a.nm,a.ty) (by rw [List.getElem?_map,g];rfl)
 simpa only [am,List.map_take]using this
theorem Ac0 {l:List Ae} {a:Ae} (h:Y5 M l) (g:l[j.toNat]?=some a) (q:0<=j):Bv (M++am (l.take j.toNat)) a.nm [PV.int .i64 0,PV.int .i64 a.ty,PV.int .i64 j]=M++am (l.take (j+1).toNat):=by
 rw [Gi (RL h g),List.append_assoc]
 simp only [am,List.map_take]
 rw [KH q (show (l.map fun a=>(a.nm,a.ty))[j.toNat]?=some (a.nm,a.ty) by rw [List.getElem?_map,g];rfl)]
 rfl
theorem Q4 {l:List Pe} {a:Pe} (h:FrP M l) (g:l[j.toNat]?=some a):Bh (M++pm (l.take j.toNat)) a.nm=none:=by
 have:=h j.toNat (a.nm,a.ty) (by rw [List.getElem?_map,g];rfl)
 simpa only [pm,List.map_take]using this
theorem Abf {l:List Pe} {a:Pe} (h:FrP M l) (g:l[j.toNat]?=some a) (q:0<=j):Bv (M++pm (l.take j.toNat)) a.nm [PV.int .i64 2,PV.int .i64 a.ty,PV.int .i64 0]=M++pm (l.take (j+1).toNat):=by
 rw [Gi (Q4 h g),List.append_assoc]
 simp only [pm,List.map_take]
 rw [KH q (show (l.map fun a=>(a.nm,a.ty))[j.toNat]?=some (a.nm,a.ty) by rw [List.getElem?_map,g];rfl)]
 rfl
theorem Rn {l:List Fe} {a:Fe} (h:FrF M l) (g:l[j.toNat]?=some a):Bh (M++fm (l.take j.toNat)) a.nm=none:=by
 have:=h j.toNat (a.nm,a.ty) (by rw [List.getElem?_map,g];rfl)
 simpa only [fm,List.map_take]using this
theorem AbS {l:List Fe} {a:Fe} (h:FrF M l) (g:l[j.toNat]?=some a) (q:0<=j):Bv (M++fm (l.take j.toNat)) a.nm [PV.int .i64 1,PV.int .i64 a.ty,PV.int .i64 j]=M++fm (l.take (j+1).toNat):=by
 rw [Gi (Rn h g),List.append_assoc]
 simp only [fm,List.map_take]
 rw [KH q (show (l.map fun a=>(a.nm,a.ty))[j.toNat]?=some (a.nm,a.ty) by rw [List.getElem?_map,g];rfl)]
 rfl
theorem RM {l:List Ae} (h:((Ay l).length:Int)<=j):M++am (l.take j.toNat)=M++am l:=by
 rw [List.take_of_length_le (by simp only [Ay,List.length_map]at h;omega)]
theorem Q5 {l:List Pe} (h:((Ax l).length:Int)<=j):M++pm (l.take j.toNat)=M++pm l:=by
 rw [List.take_of_length_le (by simp only [Ax,List.length_map]at h;omega)]
theorem Ro {l:List Fe} (h:((A5 l).length:Int)<=j):M++fm (l.take j.toNat)=M++fm l:=by
 rw [List.take_of_length_le (by simp only [A5,List.length_map]at h;omega)]
theorem Wv (M:NK) (l:List Pe):M=M++pm (l.take (0:Int).toNat):=by simp [pm,HC]
theorem WO (M:NK) (l:List Fe):M=M++fm (l.take (0:Int).toNat):=by simp [fm,HC]
theorem Ia {l:List Ae} (j:Int) (v:0<=j) (q:j<((Ay l).length:Int)):∃(nm:List Nat) (sp ty ln:Int),(Ay l)[j.toNat]?=some [.str nm,.int .i64 sp,.int .i64 ty,.int .i64 ln]/\l[j.toNat]?=some ⟨nm,sp,ty,ln⟩:=by
 simp only [Ay,List.length_map]at q
 have h:j.toNat<l.length:=by omega
 exact ⟨_,_,_,_,by rw [Ay,List.getElem?_map,List.getElem?_eq_getElem h];rfl,List.getElem?_eq_getElem h⟩
theorem HY {l:List Pe} (j:Int) (v:0<=j) (q:j<((Ax l).length:Int)):∃(nm:List Nat) (ty:Int),(Ax l)[j.toNat]?=some [.str nm,.int .i64 ty]/\l[j.toNat]?=some ⟨nm,ty⟩:=by
 simp only [Ax,List.length_map]at q
 have h:j.toNat<l.length:=by omega
 exact ⟨_,_,by rw [Ax,List.getElem?_map,List.getElem?_eq_getElem h];rfl,List.getElem?_eq_getElem h⟩
theorem HZ {l:List Fe} (j:Int) (v:0<=j) (q:j<((A5 l).length:Int)):∃(nm:List Nat) (ps:List Pe) (ty:Int) (fb:List S) (k o y:Int) (s:List Nat) (w:Int) (a:List E),
  (A5 l)[j.toNat]?=some [.str nm,.list 2 (Ax ps),.int .i64 ty,.list 19 (S.Ab fb),.int .i64 k,.int .i64 o,.int .i64 y,.str s,.int .i32 w,.list 6 (E.Ab a)]/\l[j.toNat]?=some ⟨nm,ps,ty,fb,k,o,y,s,w,a⟩:=by
 simp only [A5,List.length_map]at q
 have h:j.toNat<l.length:=by omega
 exact ⟨_,_,_,_,_,_,_,_,_,_,by rw [A5,List.getElem?_map,List.getElem?_eq_getElem h];rfl,List.getElem?_eq_getElem h⟩
theorem Ux {l:List Fe} {n:Nat}:(A5 l).take n=A5 (l.take n):=by simp only [A5,List.map_take]
theorem AaN {l:List Fe} {n:Nat} {f:Fe} (h:l[n]?=some f):(A5 l)[n]?=some (AiD f):=by rw [A5,List.getElem?_map,h];rfl
theorem OD {l:List Fe}:(A5 l).length=l.length:=by simp only [A5,List.length_map]
end
def YB (q:List Ae):Prop:=∀(j:Int) (a:Ae),q[j.toNat]?=some a->Nm a.nm/\1<=a.sp/\a.sp<=3/\1<=a.ty/\a.ty<=3/\1<=a.ln/\a.ln<=16
def Y9 (ps:List Pe):Prop:=∀(j:Int) (a:Pe),ps[j.toNat]?=some a->Nm a.nm/\1<=a.ty/\a.ty<=3
structure FnP (f:Fe):Prop where
 nm:Nm f.nm
 ty:1<=f.ty/\f.ty<=3
 ps:Y9 f.ps
 pl:f.ps.length<=2
 fb:PL f.fb
 a:∃Δ t,TR Δ t (.node f.k f.o f.y f.w f.s f.a)
 dp:S.Az f.fb<=2
 nd:S.Ad f.fb<=160
 rn:(E.node f.k f.o f.y f.w f.s f.a).nodes<=13
 rh:(E.node f.k f.o f.y f.w f.s f.a).high<=5
def YA (fs:List Fe):Prop:=∀(j:Int) (f:Fe),fs[j.toNat]?=some f->FnP f
def FsU (fs:List Fe):Prop:=∀(j:Int) (f:Fe),fs[j.toNat]?=some f->∃(q:Int) (Γ v:Ctx),EK q 1 Γ f.fb v
structure FnG (av:List Ae) (fs:List Fe) (n:Nat) (f:Fe) (Γ Γe:Ctx):Prop where
 fr:FrF (am av) (fs.take n)
 fp:FrP (am av++fm (fs.take n)) f.ps
 ck:Ck Γ ((Ay av).length:Int) ((A5 fs).length:Int) (Ay av) (A5 fs) (am av++fm (fs.take n)++pm f.ps)
 ok:EK 0 1 Γ f.fb Γe
 ty:T Γe f.ty (.node f.k f.o f.y f.w f.s f.a)
def FsG (v:List Ae) (fs:List Fe):Prop:=∀(j:Int) (f:Fe),0<=j->fs[j.toNat]?=some f->∃Γ q,FnG v fs j.toNat f Γ q
theorem FsG.at {v:List Ae} {fs:List Fe} (h:FsG v fs) (j:Int) (x:0<=j) (A:j<((A5 fs).length:Int)):∃f Γ q,fs[j.toNat]?=some f/\FnG v fs j.toNat f Γ q:=by
 rw [OD]at A
 have hl:j.toNat<fs.length:=by omega
 obtain ⟨Γ,q,z⟩:=h j _ x (List.getElem?_eq_getElem hl)
 exact ⟨_,Γ,q,List.getElem?_eq_getElem hl,z⟩
end
section
end
section
def Rk (k:Int) (j:Bool):Int->NK->List (List Nat×Int)->Bool
 |_,_,[]=>true
 |i,M,x::r=>(Bh M x.1).isNone&&Rk k j (i+1) (M++[(x.1,[PV.int .i64 k,PV.int .i64 x.2,PV.int .i64 (bif j then i else 0)])]) r
theorem FR {k:Int} {q:Bool}:∀{l:List (List Nat×Int)} {i:Int} {M:NK},Rk k q i M l=true->∀(j:Nat) (x:List Nat×Int),l[j]?=some x->Bh (M++HC k q i (l.take j)) x.1=none
 |[],_,_,_,j,x,h=>by simp at h
 |y::r,i,M,h,0,x,g=>by
  simp only [Rk,aT,Option.isNone_iff_eq_none]at h
  simp only [List.getElem?_cons_zero,oI]at g
  subst g
  simpa [HC]using h.1
 |y::r,i,M,h,j+1,x,g=>by
  simp only [Rk,aT]at h
  have:=FR h.2 j x (by simpa using g)
  simpa [HC,List.append_assoc]using this
theorem YB.of {l:List Ae} (h:∀a∈l,Nm a.nm/\1<=a.sp/\a.sp<=3/\1<=a.ty/\a.ty<=3/\1<=a.ln/\a.ln<=16):YB l:=fun _ a g=>h a (List.mem_of_getElem? g)
theorem Y9.of {l:List Pe} (h:∀a∈l,Nm a.nm/\1<=a.ty/\a.ty<=3):Y9 l:=fun _ a g=>h a (List.mem_of_getElem? g)
abbrev qn:List Nat:=[113,113,57]
section
variable {fb:List S} {k o y w:Int} {s:List Nat} {a:List E}
abbrev hΓ:Ctx:=fΓ.Iq qn (1,1,0)
end
end
end Go.AM.K
