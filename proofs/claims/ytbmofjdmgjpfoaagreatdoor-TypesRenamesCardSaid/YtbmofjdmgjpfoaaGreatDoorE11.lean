/- Part 11 of the proof of TypesRenames. -/
import Derived.Test.YtbmofjdmgjpfoaaGreatDoorE4
import Derived.Test.YtbmofjdmgjpfoaaGreatDoorE5
import Derived.Test.YtbmofjdmgjpfoaaGreatDoorE6
import Derived.Test.YtbmofjdmgjpfoaaGreatDoorE7
import Derived.Test.YtbmofjdmgjpfoaaGreatDoorE8
import Derived.Test.YtbmofjdmgjpfoaaGreatDoorE9
import Derived.Test.YtbmofjdmgjpfoaaGreatDoorE10
import Derived.KernelRfl
set_option linter.all false
section
namespace Go.Proofs.YtbmofjdmgjpfoaaGreatDoor.Am
open Go.AM
set_option maxRecDepth 100000
def Ajh:List (Nat×AM.Tree):=[(1,t_1),(4,YA),(5,t_5),(6,t_6),(7,t_7),(8,t_8),(9,t_9),(10,Aet),(11,Aes),(12,Aj6),(13,Aj5),(14,Aer),(15,Aj4),(16,Aj3),(17,Aj2),(18,Aj1),(19,Aj0),(20,Aeq),(21,Ajz),(22,Ajy),(23,Ajx),(24,Ajw),(25,Ajv),(26,Aju),(27,Ajt),(28,Ajs),(29,Ajr),(30,Ajq),(31,Ajp),(32,Ajo),(33,Ajn),(34,Ajm),(35,Ajl),(36,Ajk),(37,Ajj),(38,Aep),(39,Aeo),(40,Aen),(41,Aem),(42,Ael),(43,Aek),(44,Y9),(45,Aej),(46,Y8),(47,Aei),(48,Aeh),(49,Aeg),(50,Aef),(51,SA),(52,Aee),(53,Aed),(54,Aec),(55,Aeb),(56,Aea),(57,Ahl),(58,AdZ),(59,AdY),(60,AdX),(61,Ahk),(62,AdW),(63,AdV),(64,Ahj),(65,AdU),(66,AdT),(67,Ahi),(68,AdS),(69,AdR),(70,Ahh),(71,AdQ),(72,AdP),(73,Ahg),(74,Ahf),(75,AdO),(76,Ahe),(77,AdN),(78,JE),(79,O0),(80,Sz),(81,AdM),(82,AdL),(83,AdK),(84,AdJ),(85,AdI),(86,AdH),(87,Eo),(88,AdG),(89,AdF),(90,AdE),(91,AdD),(92,AdC),(93,AdB),(94,AdA),(95,Ad9),(96,Ad8),(97,Hv),(98,Ad7),(99,K3),(100,Xh),(101,Xg),(102,LA),(103,IJ),(104,FG),(105,Xf),(106,FE),(107,II),(108,Lz),(109,Ly),(110,Afs),(111,Xe),(112,FD),(113,Pe),(114,Xd),(115,Pd),(116,Hi),(117,Pc),(118,Xc),(119,Lx),(120,OZ),(121,Xb),(122,Xa),(123,OY),(124,Er),(125,WZ),(126,WY),(127,WX),(128,WW),(129,Lw),(130,WV),(131,ZV),(132,WU),(133,WT),(134,WS),(135,WR),(136,WQ),(137,WO),(138,WN),(139,WM),(140,WL),(141,Ep),(142,WK),(143,WJ),(144,WI),(146,WH),(147,WG),(148,WE),(149,WD)]
def trees (c:Nat):AM.Tree:=ZS c Ajh
theorem sc {S' S:List (Nat×AM.Spec)} {c:Nat} {sp:AM.Spec} (h:F4 c S=some sp) (hr:AM.Sub S' S):AM.Sub ((c,sp)::S') S:=ZX h hr
theorem oo {T:Nat→Option Obj} (hB:Ou T) {S':List (Nat×AM.Spec)} {sp:AM.Spec} {t:AM.Tree} (h:sp.ok S' (runs sp.f) t=true) (hs:AM.Sub S' SS:=by repeat (first|exact Aeu|refine sc rfl ?_)):AM.Ade Tryz.prog T SS sp t:=⟨_,_,hs,Aey hB _,h⟩
theorem AiK {T:Nat→Option Obj} (hB:Ou T):AM.Adv Tryz.prog T SS trees:=AcP
 ⟨oo hB Ao6,
 ⟨oo hB Ao5,
 ⟨oo hB Ao4,
 ⟨oo hB Ao3,
 ⟨oo hB Ao2,
 ⟨oo hB Ao1,
 ⟨oo hB Ao0,
 ⟨oo hB Aly,
 ⟨oo hB Alx,
 ⟨oo hB Alw,
 ⟨oo hB Alv,
 ⟨oo hB Alu,
 ⟨oo hB Als,
 ⟨oo hB Alr,
 ⟨oo hB Alq,
 ⟨oo hB Alp,
 ⟨oo hB Alo,
 ⟨oo hB Aln,
 ⟨oo hB Alm,
 ⟨oo hB All,
 ⟨oo hB Alk,
 ⟨oo hB Alj,
 ⟨oo hB Ali,
 ⟨oo hB Alh,
 ⟨oo hB Alg,
 ⟨oo hB Alf,
 ⟨oo hB Ale,
 ⟨oo hB Ald,
 ⟨oo hB Alc,
 ⟨oo hB Alb,
 ⟨oo hB Ala,
 ⟨oo hB AkZ,
 ⟨oo hB AkY,
 ⟨oo hB AkX,
 ⟨oo hB AkW,
 ⟨oo hB AkV,
 ⟨oo hB AkU,
 ⟨oo hB AkT,
 ⟨oo hB AkS,
 ⟨oo hB AkR,
 ⟨oo hB AkQ,
 ⟨oo hB AkP,
 ⟨oo hB AkO,
 ⟨oo hB AkN,
 ⟨oo hB AkM,
 ⟨oo hB AkL,
 ⟨oo hB AkK,
 ⟨oo hB AkJ,
 ⟨oo hB AkI,
 ⟨oo hB AkH,
 ⟨oo hB AkG,
 ⟨oo hB AkF,
 ⟨oo hB AkE,
 ⟨oo hB AkD,
 ⟨oo hB AkC,
 ⟨oo hB AkB,
 ⟨oo hB AkA,
 ⟨oo hB Ak9,
 ⟨oo hB Ak8,
 ⟨oo hB Ak7,
 ⟨oo hB Ak6,
 ⟨oo hB Ak5,
 ⟨oo hB Ak4,
 ⟨oo hB Ak3,
 ⟨oo hB Ak2,
 ⟨oo hB Ak1,
 ⟨oo hB Ak0,
 ⟨oo hB Akz,
 ⟨oo hB Aky,
 ⟨oo hB Akx,
 ⟨oo hB Akw,
 ⟨oo hB Akv,
 ⟨oo hB Aku,
 ⟨oo hB Akt,
 ⟨oo hB Aks,
 ⟨oo hB Akr,
 ⟨oo hB Akq,
 ⟨oo hB Akp,
 ⟨oo hB Ako,
 ⟨oo hB Akn,
 ⟨oo hB Akm,
 ⟨oo hB Akl,
 ⟨oo hB Akk,
 ⟨oo hB Akj,
 ⟨oo hB Aki,
 ⟨oo hB Akh,
 ⟨oo hB Akg,
 ⟨oo hB Akf,
 ⟨oo hB Ake,
 ⟨oo hB Akd,
 ⟨oo hB Akc,
 ⟨oo hB Akb,
 ⟨oo hB Aka,
 ⟨oo hB AjZ,
 ⟨oo hB AjY,
 ⟨oo hB AjX,
 ⟨oo hB AjW,
 ⟨oo hB Aii,
 ⟨oo hB Aih,
 ⟨oo hB Aig,
 ⟨oo hB Aif,
 ⟨oo hB Aie,
 ⟨oo hB Aid,
 ⟨oo hB Aic,
 ⟨oo hB Aib,
 ⟨oo hB Aia,
 ⟨oo hB AhZ,
 ⟨oo hB AhY,
 ⟨oo hB AhX,
 ⟨oo hB AhW,
 ⟨oo hB AhV,
 ⟨oo hB AhU,
 ⟨oo hB AhT,
 ⟨oo hB AhS,
 ⟨oo hB AhR,
 ⟨oo hB AhQ,
 ⟨oo hB AhP,
 ⟨oo hB AhO,
 ⟨oo hB AhN,
 ⟨oo hB AhM,
 ⟨oo hB AhL,
 ⟨oo hB AhK,
 ⟨oo hB AhJ,
 ⟨oo hB AhI,
 ⟨oo hB AhH,
 ⟨oo hB AhG,
 ⟨oo hB AhF,
 ⟨oo hB AhE,
 ⟨oo hB AhD,
 ⟨oo hB AhC,
 ⟨oo hB AhB,
 ⟨oo hB AhA,
 ⟨oo hB Ah9,
 ⟨oo hB Ah8,
 ⟨oo hB Ah7,
 ⟨oo hB Ah6,
 ⟨oo hB Ah5,
 ⟨oo hB Ah4,
 ⟨oo hB Ah3,
 ⟨oo hB Ah2,
 ⟨oo hB Ah1,
 ⟨oo hB Ah0,
 ⟨oo hB Ahz,
 ⟨oo hB Ahy,
 ⟨oo hB Ahx,
 ⟨oo hB Ahw,trivial⟩⟩⟩⟩⟩⟩⟩⟩⟩⟩⟩⟩⟩⟩⟩⟩⟩⟩⟩⟩⟩⟩⟩⟩⟩⟩⟩⟩⟩⟩⟩⟩⟩⟩⟩⟩⟩⟩⟩⟩⟩⟩⟩⟩⟩⟩⟩⟩⟩⟩⟩⟩⟩⟩⟩⟩⟩⟩⟩⟩⟩⟩⟩⟩⟩⟩⟩⟩⟩⟩⟩⟩⟩⟩⟩⟩⟩⟩⟩⟩⟩⟩⟩⟩⟩⟩⟩⟩⟩⟩⟩⟩⟩⟩⟩⟩⟩⟩⟩⟩⟩⟩⟩⟩⟩⟩⟩⟩⟩⟩⟩⟩⟩⟩⟩⟩⟩⟩⟩⟩⟩⟩⟩⟩⟩⟩⟩⟩⟩⟩⟩⟩⟩⟩⟩⟩⟩⟩⟩⟩⟩⟩⟩⟩⟩⟩
theorem good {T:Nat→Option Obj} (hB:Ou T) (n:Nat):AM.Good Tryz.prog T SS (mir trees n):=T6 (AiK hB) n
end Go.Proofs.YtbmofjdmgjpfoaaGreatDoor.Am
end
section
namespace Go.AM
def Dy (B:List (List PV)):Prop:=∀(i:Nat) (x:List PV),B[i]?=some x→∃n:Int,0≤n∧n≤255∧x=[.int .u8 n]
theorem AcI {B:List (List PV)} (h:Dy B) (i:Int) (o:0≤i) (k:i<B.length):∃n:Int,0≤n∧n≤255∧B[i.toNat]?=some [.int .u8 n]:=by
 have c:i.toNat<B.length:=by omega
 obtain ⟨n,d,g,j⟩:=h i.toNat _ (List.getElem?_eq_getElem c)
 exact ⟨n,d,g,by rw [List.getElem?_eq_getElem c,j]⟩
theorem Aje (e:Int) (h:(-2147483648:Int)≤e∧e≤(2147483647:Int):=by omega):IntKind.wrap .i32 e=e:=Qn .i32 e h
theorem Ajd (e:Int) (h:(-9223372036854775808:Int)≤e∧e≤(9223372036854775807:Int):=by omega):IntKind.wrap .i64 e=e:=Qn .i64 e h
theorem AnU (e:Int) (h:(0:Int)≤e∧e≤(255:Int):=by omega):IntKind.wrap .u8 e=e:=Qn .u8 e h
end Go.AM
end
section
namespace Go.AM
theorem ZK {e:Int} (h:(-9223372036854775808:Int)≤e∧e≤9223372036854775807):IntKind.wrap .i64 e=e:=Ajd e h
theorem Ad4 {e:Int} (h:(-2147483648:Int)≤e∧e≤2147483647):IntKind.wrap .i32 e=e:=Aje e h
theorem AnT {e:Int} (h:(0:Int)≤e∧e≤255):IntKind.wrap .u8 e=e:=AnU e h
theorem Ad5 {a b:Int} (h:0≤a):Int.tmod a b=a%b:=Int.tmod_eq_emod_of_nonneg h
theorem Ad6 {a b:Int} (h:0≤a):Int.tdiv a b=a/b:=Int.tdiv_eq_ediv_of_nonneg h
theorem kn {p:Prop} (h:p:=by first|omega|assumption|rfl|(simp only [lA,lC,lN,lT',List.length_drop,true_and,and_true];omega) |(simp only [lA,lC,lN,lT',List.length_drop,true_and,and_true]at*;omega) |(subst_vars;first|assumption|omega)):p:=h
theorem dead {p:Prop} (h:False:=by first|omega|contradiction|(simp only [lA,lC,lN,lT',List.length_drop,true_and,and_true]at*;omega)):p:=h.elim
section
variable {ρ:Env} {t a b:ST} {x y:Int}
theorem d8 (h:t.den ρ=x) (r:0≤x∧x≤255):(ST.conv .u8 t).den ρ=x:=by show IntKind.wrap .u8 (t.den ρ)=x;rw [h];exact AnT r
theorem d32 (h:t.den ρ=x) (r:(-2147483648:Int)≤x∧x≤2147483647):(ST.conv .i32 t).den ρ=x:=by show IntKind.wrap .i32 (t.den ρ)=x;rw [h];exact Ad4 r
theorem d64 (h:t.den ρ=x) (r:(-9223372036854775808:Int)≤x∧x≤9223372036854775807):(ST.conv .i64 t).den ρ=x:=by show IntKind.wrap .i64 (t.den ρ)=x;rw [h];exact ZK r
theorem da (h:a.den ρ=x) (g:b.den ρ=y) (r:(-9223372036854775808:Int)≤x+y∧x+y≤9223372036854775807):(ST.bin .add .i64 a b).den ρ=x+y:=by show IntKind.wrap .i64 (a.den ρ+b.den ρ)=_;rw [h,g];exact ZK r
theorem ds (h:a.den ρ=x) (g:b.den ρ=y) (r:(-9223372036854775808:Int)≤x-y∧x-y≤9223372036854775807):(ST.bin .sub .i64 a b).den ρ=x-y:=by show IntKind.wrap .i64 (a.den ρ-b.den ρ)=_;rw [h,g];exact ZK r
theorem dm (h:a.den ρ=x) (g:b.den ρ=y) (r:(-9223372036854775808:Int)≤x*y∧x*y≤9223372036854775807):(ST.bin .mul .i64 a b).den ρ=x*y:=by show IntKind.wrap .i64 (a.den ρ*b.den ρ)=_;rw [h,g];exact ZK r
theorem da2 (h:a.den ρ=x) (g:b.den ρ=y) (r:(-2147483648:Int)≤x+y∧x+y≤2147483647):(ST.bin .add .i32 a b).den ρ=x+y:=by show IntKind.wrap .i32 (a.den ρ+b.den ρ)=_;rw [h,g];exact Ad4 r
theorem ds2 (h:a.den ρ=x) (g:b.den ρ=y) (r:(-2147483648:Int)≤x-y∧x-y≤2147483647):(ST.bin .sub .i32 a b).den ρ=x-y:=by show IntKind.wrap .i32 (a.den ρ-b.den ρ)=_;rw [h,g];exact Ad4 r
theorem dm2 (h:a.den ρ=x) (g:b.den ρ=y) (r:(-2147483648:Int)≤x*y∧x*y≤2147483647):(ST.bin .mul .i32 a b).den ρ=x*y:=by show IntKind.wrap .i32 (a.den ρ*b.den ρ)=_;rw [h,g];exact Ad4 r
theorem dr {k:IntKind} (h:a.den ρ=x) (g:b.den ρ=y) (r:0≤x):(ST.bin .rem k a b).den ρ=x%y:=by show Int.tmod (a.den ρ) (b.den ρ)=_;rw [h,g];exact Ad5 r
theorem dq (h:a.den ρ=x) (g:b.den ρ=y) (r:0≤x∧-9223372036854775808≤x/y∧x/y≤9223372036854775807):(ST.bin .quo .i64 a b).den ρ=x/y:=by show IntKind.wrap .i64 (Int.tdiv (a.den ρ) (b.den ρ))=_;rw [h,g,Ad6 r.1];exact ZK r.2
theorem AoA {i:Nat} (h:ρ.val i=x):(ST.var i).den ρ=x:=h
theorem AlR {n:Nat} (h:(n:Int)=x):(ST.lit (.ofNat n)).den ρ=x:=h
theorem dn (h:t.den ρ=x:=by repeat (first|with_reducible refine AoA ?_|with_reducible refine AlR ?_|with_reducible refine d64 ?_ ?_|with_reducible refine da ?_ ?_ ?_|with_reducible refine ds ?_ ?_ ?_|with_reducible refine dr ?_ ?_ ?_|with_reducible refine dq ?_ ?_ ?_|with_reducible refine dm ?_ ?_ ?_|with_reducible refine d32 ?_ ?_|with_reducible refine da2 ?_ ?_ ?_|with_reducible refine ds2 ?_ ?_ ?_|with_reducible refine dm2 ?_ ?_ ?_|with_reducible refine d8 ?_ ?_|exact rfl|omega)):t.den ρ=x:=h
theorem AlS {ts:List ST} {c:List Int} (h:t.den ρ=x) (g:ts.map (fun t=>t.den ρ)=c):(t::ts).map (fun t=>t.den ρ)=x::c:=by rw [List.map_cons,h,g]
theorem AoB:([]:List ST).map (fun t=>t.den ρ)=[]:=rfl
theorem vmk {τ:Dd} {n:List Int} {s:List (List Nat)} {l:List (List (List PV))} {m:List (List (List Nat×List PV))} (h:τ.n.map (fun t=>t.den ρ)=n) (hs:τ.s.map (Br ρ)=s) (hl:τ.l.map ρ.lst=l) (c:τ.m.map ρ.map=m):τ.vals ρ=⟨n,s,l,m⟩:=by
 subst h;subst hs;subst hl;subst c;rfl
theorem vn {τ:Dd} {v:Ah} (h:τ.vals ρ=v:=by refine vmk ?_ rfl rfl rfl;repeat (first|with_reducible refine AlS ?_ ?_|with_reducible exact AoB|exact dn)):τ.vals ρ=v:=h
theorem AeZ {k:IntKind} (h:t.den ρ=x):Hs ρ (.int k) (.int k t)=some (.int k x):=by
 have:VA k k=true:=by cases k<;>rfl
 simp [Hs,this,h]
theorem Yn {c:CK} {sh:List CK} {a:Aa} {az9:List Aa} {p:PV} {ps:List PV} (h:Hs ρ c a=some p) (g:CE ρ sh az9=some ps):CE ρ (c::sh) (a::az9)=some (p::ps):=by simp only [CE,h,g]
theorem Abj {sh:List CK} {a:List Aa} {az9:List (List Aa)} {p:List PV} {ps:List (List PV)} (h:CE ρ sh a=some p) (g:Hp ρ sh az9=some ps):Hp ρ sh (a::az9)=some (p::ps):=by simp only [Hp,h,g]
theorem Ahv {sh:List CK} {c:List (List Aa)} {l:List (List PV)} (h:Hp ρ sh c=some l):D0 ρ sh (.els c)=some l:=h
variable {sh:List CK} {p q r:AL} {l l2 l3:List (List PV)}
theorem Fw (h:D0 ρ sh p=some l):CI ρ sh [p]=some l:=by simp [CI,h]
theorem BC (h:D0 ρ sh p=some l) (g:D0 ρ sh q=some l2):CI ρ sh [p,q]=some (l++l2):=by simp [CI,h,g]
theorem AbH (h:D0 ρ sh p=some l) (g:D0 ρ sh q=some l2) (f:D0 ρ sh r=some l3):CI ρ sh [p,q,r]=some (l++l2++l3):=by simp [CI,h,g,f]
theorem YQ {i:Nat} {n:ST} {n':Int} (h:n.den ρ=n') (c:0≤n'∧n'≤((ρ.lst i).length:Int)):D0 ρ sh (.take i n)=some ((ρ.lst i).take n'.toNat):=by
 simp only [D0,h];rw [if_pos c]
theorem pe {c:List (List Aa)} (h:D0 ρ sh (.els c)=some l:=by first|rfl|(refine Ahv ?_;repeat (first|refine Abj ?_ ?_|refine Yn ?_ ?_|exact AeZ dn|rfl))):D0 ρ sh (.els c)=some l:=h
theorem pw {i:Nat} {n:ST} (x:Int) (L:List (List PV)) (h:n.den ρ=x:=by exact dn) (hl:ρ.lst i=L:=by rfl) (c:x=(L.length:Int):=by exact kn):D0 ρ sh (.take i n)=some L:=by
 subst hl;subst c
 simp only [D0,h]
 rw [if_pos ⟨by omega,by omega⟩,Int.toNat_natCast,List.take_length]
theorem pt {i:Nat} {n:ST} (x:Int) (L:List (List PV)) (h:n.den ρ=x:=by exact dn) (hl:ρ.lst i=L:=by rfl) (c:0≤x∧x≤(L.length:Int):=by exact kn):D0 ρ sh (.take i n)=some (L.take x.toNat):=by
 subst hl;exact YQ h c
end
def Ok (trees:Nat→Tree) (c:Nat) (v:Ah) (R:Out→Prop):Prop:=∃o,R o∧∀Q:Out→Prop,Q o→Ei trees c v Q
theorem Ok.of {trees:Nat→Tree} {c:Nat} {v:Ah} {R:Out→Prop} {t:Tree} (d:trees c=t) (h:t.wp (Ei trees) R v):Ok trees c v R:=by
 subst d;exact Ei.elim (T9 h)
theorem EH {c d:Prop} {g:Decidable c} {A B:Prop} (hc:c↔d) (o:d→A) (k:¬d→B):@ite Prop c g A B:=by
 split
 ·rename_i h;exact o (hc.1 h)
 ·rename_i h;exact k fun j=>h (hc.2 j)
theorem Du {c:Prop} {d:Decidable c} {A B:Prop} (hc:c) (g:A):@ite Prop c d A B:=by rw [if_pos hc];exact g
theorem KY {c:Prop} {d:Decidable c} {A B:Prop} (hc:¬c) (g:B):@ite Prop c d A B:=by rw [if_neg hc];exact g
section
variable {trees:Nat→Tree} {Q:Out→Prop} {t e k:Tree} {v:Ah}
abbrev W (trees:Nat→Tree) (Q:Out→Prop) (t:Tree) (v:Ah):Prop:=t.wp (Ei trees) Q v
section
variable {a b:ST} (x y:Int)
theorem lt (j:x<y→W trees Q t v) (c:¬(x<y)→W trees Q e v) (g:a.den v.e=x:=by exact dn) (d:b.den v.e=y:=by exact dn):W trees Q (.test .lss a b t e) v:=by subst g;subst d;exact EH Iff.rfl j c
theorem B9 (g:W trees Q t v) (hc:x<y:=by exact kn) (c:a.den v.e=x:=by exact dn) (d:b.den v.e=y:=by exact dn):W trees Q (.test .lss a b t e) v:=by subst c;subst d;exact Du hc g
theorem Ek (c:W trees Q e v) (hc:¬(x<y):=by exact kn) (g:a.den v.e=x:=by exact dn) (d:b.den v.e=y:=by exact dn):W trees Q (.test .lss a b t e) v:=by subst g;subst d;exact KY hc c
theorem le (j:x≤y→W trees Q t v) (c:¬(x≤y)→W trees Q e v) (g:a.den v.e=x:=by exact dn) (d:b.den v.e=y:=by exact dn):W trees Q (.test .leq a b t e) v:=by subst g;subst d;exact EH Iff.rfl j c
theorem FM (g:W trees Q t v) (hc:x≤y:=by exact kn) (c:a.den v.e=x:=by exact dn) (d:b.den v.e=y:=by exact dn):W trees Q (.test .leq a b t e) v:=by subst c;subst d;exact Du hc g
theorem gt (j:x>y→W trees Q t v) (c:¬(x>y)→W trees Q e v) (g:a.den v.e=x:=by exact dn) (d:b.den v.e=y:=by exact dn):W trees Q (.test .gtr a b t e) v:=by subst g;subst d;exact EH Iff.rfl j c
theorem gtY (g:W trees Q t v) (hc:x>y:=by exact kn) (c:a.den v.e=x:=by exact dn) (d:b.den v.e=y:=by exact dn):W trees Q (.test .gtr a b t e) v:=by subst c;subst d;exact Du hc g
theorem T5 (c:W trees Q e v) (hc:¬(x>y):=by exact kn) (g:a.den v.e=x:=by exact dn) (d:b.den v.e=y:=by exact dn):W trees Q (.test .gtr a b t e) v:=by subst g;subst d;exact KY hc c
theorem CG (g:W trees Q t v) (hc:x≥y:=by exact kn) (c:a.den v.e=x:=by exact dn) (d:b.den v.e=y:=by exact dn):W trees Q (.test .geq a b t e) v:=by subst c;subst d;exact Du hc g
theorem Jt (c:W trees Q e v) (hc:¬(x≥y):=by exact kn) (g:a.den v.e=x:=by exact dn) (d:b.den v.e=y:=by exact dn):W trees Q (.test .geq a b t e) v:=by subst g;subst d;exact KY hc c
theorem eq (j:x=y→W trees Q t v) (c:¬(x=y)→W trees Q e v) (g:a.den v.e=x:=by exact dn) (d:b.den v.e=y:=by exact dn):W trees Q (.test .eql a b t e) v:=by subst g;subst d;exact EH Iff.rfl j c
theorem BF (g:W trees Q t v) (hc:x=y:=by exact kn) (c:a.den v.e=x:=by exact dn) (d:b.den v.e=y:=by exact dn):W trees Q (.test .eql a b t e) v:=by subst c;subst d;exact Du hc g
theorem AN (c:W trees Q e v) (hc:¬(x=y):=by exact kn) (g:a.den v.e=x:=by exact dn) (d:b.den v.e=y:=by exact dn):W trees Q (.test .eql a b t e) v:=by subst g;subst d;exact KY hc c
theorem ne (j:x≠y→W trees Q t v) (c:¬(x≠y)→W trees Q e v) (g:a.den v.e=x:=by exact dn) (d:b.den v.e=y:=by exact dn):W trees Q (.test .neq a b t e) v:=by subst g;subst d;exact EH Iff.rfl j c
theorem neY (g:W trees Q t v) (hc:x≠y:=by exact kn) (c:a.den v.e=x:=by exact dn) (d:b.den v.e=y:=by exact dn):W trees Q (.test .neq a b t e) v:=by subst c;subst d;exact Du hc g
theorem BW (c:W trees Q e v) (hc:¬(x≠y):=by exact kn) (g:a.den v.e=x:=by exact dn) (d:b.den v.e=y:=by exact dn):W trees Q (.test .neq a b t e) v:=by subst g;subst d;exact KY hc c
end
section
variable {i:Nat} {n':Int} {s:List Nat}
theorem sn (x n:Int) (j:x=n→W trees Q t v) (d:¬x=n→W trees Q e v) (c:v.n.getD i 0=x:=by rfl) (g:n'=n:=by rfl):W trees Q (.A4 i n' t e) v:=by subst c;subst g;exact EH Iff.rfl j d
theorem Cp (x n:Int) (g:W trees Q t v) (hc:x=n:=by exact kn) (c:v.n.getD i 0=x:=by rfl) (d:n'=n:=by rfl):W trees Q (.A4 i n' t e) v:=by subst c;subst d;exact Du hc g
theorem ss (x:List Nat) (g:x=s→W trees Q t v) (c:¬x=s→W trees Q e v) (d:v.s.getD i []=x:=by rfl):W trees Q (.sets i s t e) v:=by subst d;exact EH Iff.rfl g c
theorem YD (x:List Nat) (d:W trees Q t v) (hc:x=s:=by first|rfl|assumption) (c:v.s.getD i []=x:=by rfl):W trees Q (.sets i s t e) v:=by subst c;exact Du hc d
variable {p q:Aa}
theorem se (x y:List Nat) (j:x=y→W trees Q t v) (g:¬x=y→W trees Q e v) (c:Br v.e p=x:=by rfl) (d:Br v.e q=y:=by rfl):W trees Q (.DB p q t e) v:=by subst c;subst d;exact EH Iff.rfl j g
theorem seY (x y:List Nat) (g:W trees Q t v) (hc:x=y:=by first|rfl|assumption) (d:Br v.e p=x:=by rfl) (c:Br v.e q=y:=by rfl):W trees Q (.DB p q t e) v:=by subst d;subst c;exact Du hc g
theorem seN (x y:List Nat) (g:W trees Q e v) (hc:¬x=y:=by first|decide|assumption) (d:Br v.e p=x:=by rfl) (c:Br v.e q=y:=by rfl):W trees Q (.DB p q t e) v:=by subst d;subst c;exact KY hc g
end
theorem el {l:Nat} {j:ST} {sh:List CK} {ps:List PV} {w:Ah} {j':Int} (hg:(v.l.getD l [])[j'.toNat]?=some ps) (d:W trees Q k (v.app (w.fit (Ii sh)))) (c:j.den v.e=j':=by exact dn) (o:0≤j':=by exact kn) (g:CZ sh ps=some w:=by rfl):W trees Q (.elem l j sh k) v:=by
 show Yh _ _ _ _
 unfold Yh
 rw [c,hg]
 simp only [g]
 exact ⟨o,d⟩
theorem ll {l:Nat} {t:ST} (x:Int) (L:List (List PV)) (c:W trees Q k v) (d:t.den v.e=x:=by exact dn) (hl:v.l.getD l []=L:=by rfl) (h:x=(L.length:Int):=by first|rfl|exact kn):W trees Q (.Ad l t k) v:=by subst d;subst hl;exact Du h c
theorem sl {s d c:Nat} (S:List Nat) (g:W trees Q k (v.app {n:=[(S.length:Int)]})) (hs:v.s.getD s []=S:=by rfl) (h:d≤S.length∧S.length≤c:=by first|omega|(simp;done)):W trees Q (.BB s d c k) v:=by subst hs;exact Du h g
theorem ca {x y:Aa} (X Y:List Nat) (c:W trees Q k (v.app {s:=[X++Y]})) (d:Br v.e x=X:=by rfl) (g:Br v.e y=Y:=by rfl) (h:X.length+Y.length≤1048576:=by first|omega|(simp only [lA,lC,lN];omega) |(simp;done)):W trees Q (.cat x y k) v:=by subst d;subst g;exact Du h c
theorem bu {t:ST} {n:Nat} (x:Int) (c:W trees Q k (v.app {n:=[x+n]})) (d:t.den v.e=x:=by exact dn) (h:x+n≤1048576:=by omega):W trees Q (.bump t n k) v:=by subst d;exact Du h c
theorem de {ps:List AL} {sh:List CK} (l:List (List PV)) (c:W trees Q k (v.app {n:=[(l.length:Int)],l:=[l]})) (h:CI v.e sh ps=some l:=by first|rfl|repeat (first|refine Fw ?_|refine BC ?_ ?_|refine AbH ?_ ?_ ?_|refine Ahv ?_|refine Abj ?_ ?_|refine Yn ?_ ?_|exact AeZ dn|rfl)):W trees Q (.Ay ps sh k) v:=by
 show JK _ _
 rw [h];exact c
theorem dL {ps:List AL} {sh:List CK} (l0:List (List PV)) (c:∀l,l=l0→W trees Q k (v.app {n:=[(l.length:Int)],l:=[l]})) (h:CI v.e sh ps=some l0:=by first|rfl|repeat (first|refine Fw ?_|refine BC ?_ ?_|refine AbH ?_ ?_ ?_|refine Ahv ?_|refine Abj ?_ ?_|refine Yn ?_ ?_|exact AeZ dn|rfl)):W trees Q (.Ay ps sh k) v:=de l0 (c l0 rfl) h
theorem fr {z:Nat×Nat×Nat×Nat×Nat} (c:W trees Q k v):W trees Q (.BI z k) v:=c
theorem md {c:List (Aa×List Aa)} {sh:List CK} (l:List (List Nat×List PV)) (d:W trees Q k (v.app {m:=[l]})) (h:CP v.e sh c=some l:=by rfl):W trees Q (.Mm c sh k) v:=by
 show JK _ _
 rw [h];exact d
theorem up {m:Nat} {key:Aa} {cs:List Aa} {sh:List CK} (ps:List PV) (c:W trees Q k (v.app {m:=[Bj (v.m.getD m []) (Br v.e key) ps]})) (h:CE v.e sh cs=some ps:=by first|rfl|repeat (first|refine Yn ?_ ?_|exact AeZ dn|rfl)):W trees Q (.up m key cs sh k) v:=by
 show JK _ _
 rw [h];exact c
theorem lh {m:Nat} {key:Aa} {sh:List CK} {ps:List PV} {w:Ah} (hg:BK (v.m.getD m []) (Br v.e key)=some ps) (c:W trees Q t (v.app (w.fit (Ii sh)))) (d:CZ sh ps=some w:=by rfl):W trees Q (.look m key sh t e) v:=by
 show PB _ _ _ _ _
 unfold PB
 rw [hg]
 simp only [d]
 exact c
theorem lm {m:Nat} {key:Aa} {sh:List CK} (hg:BK (v.m.getD m []) (Br v.e key)=none) (c:W trees Q e v):W trees Q (.look m key sh t e) v:=by
 show PB _ _ _ _ _
 unfold PB
 rw [hg]
 exact c
section
variable {c alt alt':Nat} {τ:Dd} {u:C7} {v' w:Ah}
theorem ch (d:∀Q:Out→Prop,Q (alt,w)→Ei trees c v' Q) (g:W trees Q k (v.app (w.fit u))) (hv:τ.vals v.e=v':=by exact vn):W trees Q (.call c alt τ u k e) v:=by
 show Ei trees c (τ.vals v.e) _
 rw [hv]
 exact d _ (by simp only [if_true];exact g)
theorem cm (g:∀Q:Out→Prop,Q (alt',w)→Ei trees c v' Q) (j:W trees Q e v) (d:alt'≠alt:=by decide) (hv:τ.vals v.e=v':=by exact vn):W trees Q (.call c alt τ u k e) v:=by
 show Ei trees c (τ.vals v.e) _
 rw [hv]
 exact g _ (by rw [if_neg d];exact j)
theorem Ai {c:List Nat} (w:Ah) (h:Q (alt,w)) (hv:τ.vals v.e=w:=by exact vn):W trees Q (.leaf alt c τ) v:=by
 show Q _
 rw [hv];exact h
end
end
def EY (c:List Int):Tree→Option (Nat×List Int)
 |.leaf a _ ⟨ts,[],[],[]⟩=>some (a,ts.map fun t=>t.den (Ah.e ⟨c,[],[],[]⟩))
 |.A4 i n t e=>if c.getD i 0=n then EY c t else EY c e
 |.test .lss a b t e=>if a.den (Ah.e ⟨c,[],[],[]⟩)<b.den (Ah.e ⟨c,[],[],[]⟩)then EY c t else EY c e
 |.test .eql a b t e=>if a.den (Ah.e ⟨c,[],[],[]⟩)=b.den (Ah.e ⟨c,[],[],[]⟩)then EY c t else EY c e
 |.test .neq a b t e=>if a.den (Ah.e ⟨c,[],[],[]⟩)≠b.den (Ah.e ⟨c,[],[],[]⟩)then EY c t else EY c e
 |_=>none
theorem Ee {trees:Nat→Tree} {Q:Out→Prop} {c:List Int} {a:Nat} {ms:List Int}:∀(t:Tree),EY c t=some (a,ms)→Q (a,⟨ms,[],[],[]⟩)→W trees Q t ⟨c,[],[],[]⟩
 |.leaf b nw ⟨ts,[],[],[]⟩,h,hq=>by
  simp only [EY,oI,Prod.mk.injEq]at h
  obtain ⟨d,g⟩:=h
  subst d;subst g;exact hq
 |.A4 i n t e,h,hq=>by
  simp only [EY]at h
  refine sn (c.getD i 0) n (fun k=>?_) fun k=>?_
  ·rw [if_pos k]at h;exact Ee t h hq
  ·rw [if_neg k]at h;exact Ee e h hq
 |.test .lss a b t e,h,hq=>by
  simp only [EY]at h
  refine lt (a.den (Ah.e ⟨c,[],[],[]⟩)) (b.den (Ah.e ⟨c,[],[],[]⟩)) (fun k=>?_) (fun k=>?_) rfl rfl
  ·rw [if_pos k]at h;exact Ee t h hq
  ·rw [if_neg k]at h;exact Ee e h hq
 |.test .eql a b t e,h,hq=>by
  simp only [EY]at h
  refine eq (a.den (Ah.e ⟨c,[],[],[]⟩)) (b.den (Ah.e ⟨c,[],[],[]⟩)) (fun k=>?_) (fun k=>?_) rfl rfl
  ·rw [if_pos k]at h;exact Ee t h hq
  ·rw [if_neg k]at h;exact Ee e h hq
 |.test .neq a b t e,h,hq=>by
  simp only [EY]at h
  refine ne (a.den (Ah.e ⟨c,[],[],[]⟩)) (b.den (Ah.e ⟨c,[],[],[]⟩)) (fun k=>?_) (fun k=>?_) rfl rfl
  ·rw [if_pos k]at h;exact Ee t h hq
  ·rw [if_neg k]at h;exact Ee e h hq
theorem Ok.num {trees:Nat→Tree} {c:Nat} {d:List Int} {R:Out→Prop} {t:Tree} {a:Nat} {ms:List Int} (g:trees c=t) (h:EY d t=some (a,ms)) (j:R (a,⟨ms,[],[],[]⟩)):Ok trees c ⟨d,[],[],[]⟩ R:=.of g (Ee t h j)
end Go.AM
end
section
namespace Go.AM.K
abbrev Rs:=List (List PV)
abbrev Mp:=List (List Nat×List PV)
abbrev v0:Ah:=⟨[],[],[],[]⟩
theorem om {p:Prop} (h:p:=by omega):p:=h
abbrev Row:=List PV
inductive E where
 |node (k o t v:Int) (s:List Nat) (a:List E)
mutual
def E.enc:E→Row
 |.node k o t v s a=>[.int .i64 k,.int .i64 o,.int .i64 t,.str s,.int .i32 v,.list 6 (E.Ab a)]
def E.Ab:List E→List Row
 |[]=>[]
 |e::l=>e.enc::E.Ab l
end
mutual
def E.nodes:E→Nat
 |.node k _ _ _ _ a=>(if k=0 then 0 else 1)+E.Ae a
def E.Ae:List E→Nat
 |[]=>0
 |e::l=>e.nodes+E.Ae l
end
mutual
def E.high:E→Nat
 |.node _ _ _ _ _ a=>1+E.B3 a
def E.B3:List E→Nat
 |[]=>0
 |e::l=>max e.high (E.B3 l)
end
def E0:E:=.node 0 0 0 0 [] []
theorem E.Az:∀l,(E.Ab l).length=l.length
 |[]=>rfl
 |_::l=>by simp only [E.Ab,lC,E.Az l]
theorem E.DE:∀(l:List E) (i:Nat),(E.Ab l)[i]?=(l[i]?).map E.enc
 |[],i=>by simp [E.Ab]
 |e::l,0=>by simp [E.Ab]
 |e::l,i+1=>by simp only [E.Ab,List.getElem?_cons_succ];exact E.DE l i
theorem E.get (a:List E) (j:Int) (d:0≤j) (c:j<((E.Ab a).length:Int)):∃(k o t v:Int) (s:List Nat) (b:List E),(E.Ab a)[j.toNat]?=some [.int .i64 k,.int .i64 o,.int .i64 t,.str s,.int .i32 v,.list 6 (E.Ab b)]∧a[j.toNat]?=some (.node k o t v s b):=by
 rw [E.Az]at c
 have h:j.toNat<a.length:=by omega
 rcases he:a[j.toNat]with ⟨k,o,t,v,s,b⟩
 exact ⟨k,o,t,v,s,b,by rw [E.DE,List.getElem?_eq_getElem h,he];rfl,by rw [List.getElem?_eq_getElem h,he]⟩
theorem E.KM:∀{l:List E} {i:Nat} {e:E},l[i]?=some e→e.nodes+E.Ae (l.drop (i+1))=E.Ae (l.drop i)
 |[],i,e,h=>by simp at h
 |x::l,0,e,h=>by simp at h;subst h;simp [E.Ae]
 |x::l,i+1,e,h=>by
  simp only [List.getElem?_cons_succ]at h
  simpa using E.KM h
theorem E.Ke:∀{l:List E} {i:Nat} {e:E},l[i]?=some e→e.high≤E.B3 l
 |[],i,e,h=>by simp at h
 |x::l,0,e,h=>by simp at h;subst h;simp only [E.B3];omega
 |x::l,i+1,e,h=>by
  simp only [List.getElem?_cons_succ]at h
  have:=E.Ke h
  simp only [E.B3];omega
abbrev Ctx:=List Nat→Option (Int×Int×Int)
def Ctx.Gj (Γ:Ctx) (s:List Nat) (x:Int×Int×Int):Ctx:=fun n=>if n=s then some x else Γ n
theorem BX {Γ:Ctx} {s x}:Γ.Gj s x s=some x:=if_pos rfl
theorem AV {Γ:Ctx} {s x n} (h:n≠s):Γ.Gj s x n=Γ n:=if_neg h
def vn (i:Nat):List Nat:=if i<10 then [118,48+i]else [118,49+(i-10)/10,48+i%10]
def names:List (List Nat):=[[107],[97],[102],[115],[112],[98],[110],[116],[99],[104],[120],[121],[113,113,57],[113,113,56]]++(List.range 24).map vn
def Nm (s:List Nat):Prop:=s∈names
instance {s:List Nat}:Decidable (Nm s):=by unfold Nm;infer_instance
theorem Nm.len {s:List Nat} (h:Nm s):s.length≤3:=by
 have:∀s∈names,s.length≤3:=by decide
 exact this s h
theorem Nm.vn {i:Nat} (h:i<24):Nm (vn i):=by
 have:∀i,i<24→K.vn i∈names:=by decide
 exact this i h
theorem AgX {i j:Nat} (c:i<24) (d:j<24) (h:vn i=vn j):i=j:=by
 have:∀i,i<24→∀j,j<24→vn i=vn j→i=j:=by decide
 exact this i c j d h
def ZG (o t u:Int):Prop:=((o=1∨o=3)∧(t=1∨t=2)∧u=t)∨(o=2∧(t=1∨t=3)∧u=t)∨(o=4∧t=1∧u=2)∨(o=5∧t=2∧u=1)
def Lt (o t u:Int):Prop:=((o=10∨o=11∨o=22∨o=23)∧(t=1∨t=2)∧u=t)∨((o=12∨o=13∨o=14∨o=20∨o=21)∧t=1∧u=1)∨((o=15∨o=16)∧t=2∧u=2)
 ∨((o=17∨o=18∨o=19)∧(t=1∨t=3)∧u=t)∨((o=24∨o=25)∧1≤t∧t≤3∧u=3)∨((o=26∨o=27∨o=28∨o=29)∧(t=1∨t=2)∧u=3)
instance {o t u}:Decidable (ZG o t u):=by unfold ZG;infer_instance
instance {o t u}:Decidable (Lt o t u):=by unfold Lt;infer_instance
def Fx (v:Int):Prop:=∃x:Nat,x<256∧v=x*16384-100000
theorem Fx.mk {x v:Int} (d:0≤x) (c:x≤255) (h:v=x*16384-100000):Fx v:=⟨x.toNat,by omega,by omega⟩
inductive TR (Δ:List Nat→Int×Int×Int→Prop):Int→E→Prop
 |num {t v:Int}:1≤t→t≤3→(t=3→v=0∨v=1)→(t=2→Fx v)→-200000≤v∧v≤5000000→TR Δ t (.node 1 0 t v [] [])
 |id {o:Int}:1≤o→o≤7→TR Δ 1 (.node 3 o 0 0 [] [])
 |var {s:List Nat} {k t i:Int}:Nm s→(k=2∨k=3)→1≤t→t≤3→Δ s (k,t,i)→TR Δ t (.node 2 0 0 0 s [])
 |un {o t u:Int} {a:E}:ZG o t u→TR Δ t a→TR Δ u (.node 4 o 0 0 [] [a])
 |bin {o t u:Int} {a b:E}:Lt o t u→TR Δ t a→TR Δ t b→TR Δ u (.node 5 o 0 0 [] [a,b])
 |cond {t:Int} {a b c:E}:TR Δ 3 a→TR Δ t b→TR Δ t c→TR Δ t (.node 6 0 0 0 [] [a,b,c])
 |load {s:List Nat} {t i:Int} {a:E}:Nm s→1≤t→t≤3→Δ s (0,t,i)→TR Δ 1 a→TR Δ t (.node 7 0 0 0 s [a])
 |call {i:Int} {a b:E}:Δ [104] (1,1,i)→TR Δ 1 a→TR Δ 1 b→TR Δ 1 (.node 8 0 0 0 [104] [a,b])
abbrev T (Γ:Ctx):Int→E→Prop:=TR fun s z=>Γ s=some z
def F (d:Int):Nat:=if d≤1 then 1 else if d=2 then 4 else 13
theorem AgW (d:Int):1≤F d:=by
 unfold F
 repeat' split
 all_goals omega
theorem Oq {d:Int} (g:¬d≤1) (c:d≤3):1+3*F (d-1)≤F d:=by
 have:d=2∨d=3:=by omega
 rcases this with h|h<;>subst h<;>decide
def Dc (Γ:Ctx) (t d k o ty v:Int) (s:List Nat) (A:List Row):Prop:=
 ∃a:List E,A=E.Ab a∧T Γ t (.node k o ty v s a)∧(E.node k o ty v s a).nodes≤F d∧((E.node k o ty v s a).high:Int)≤2*max d 1-1
section
variable {Γ:Ctx}
theorem Dc.leaf {t d k o ty v:Int} {s:List Nat} (h:T Γ t (.node k o ty v s [])):Dc Γ t d k o ty v s []:=by
 refine ⟨[],rfl,h,?_,?_⟩
 ·have:=AgW d
  simp only [E.nodes,E.Ae];split<;>omega
 ·simp only [E.high,E.B3];omega
theorem Dc.num {t d v:Int} (c:1≤t) (g:t≤3) (hv:t=3→v=0∨v=1) (hf:t=2→Fx v) (hb: -200000≤v∧v≤5000000):Dc Γ t d 1 0 t v [] []:=.leaf (.num c g hv hf hb)
theorem Dc.id {d o:Int} (g:1≤o) (c:o≤7):Dc Γ 1 d 3 o 0 0 [] []:=.leaf (.id g c)
theorem Dc.var {t d k i:Int} {s:List Nat} (j:Nm s) (o:k=2∨k=3) (c:1≤t) (g:t≤3) (h:Γ s=some (k,t,i)):Dc Γ t d 2 0 0 0 s []:=.leaf (.var j o c g h)
theorem Dc.mono {t d c k o ty v:Int} {s:List Nat} {A:List Row} (h:Dc Γ t d k o ty v s A) (hd:d≤max c 1):Dc Γ t c k o ty v s A:=by
 obtain ⟨a,j,g,x,u⟩:=h
 refine ⟨a,j,g,?_,by omega⟩
 have:F d≤F c:=by
  unfold F
  repeat' split
  all_goals omega
 omega
def Hu (k o ty v:Int) (s:List Nat) (A:List Row):Row:=[.int .i64 k,.int .i64 o,.int .i64 ty,.str s,.int .i32 v,.list 6 A]
theorem E8 {k o ty v:Int} {s:List Nat} {A:List Row} {a:List E} (h:A=E.Ab a):Hu k o ty v s A=(E.node k o ty v s a).enc:=by subst h;rfl
theorem Dc.un {d t u o c k j x:Int} {g:List Nat} {y:List Row} (h:Dc Γ t (d-1) c k j x g y) (C:ZG o t u) (D:¬d≤1) (z:d≤3):Dc Γ u d 4 o 0 0 [] [Hu c k j x g y]:=by
 obtain ⟨a,A,J,M,N⟩:=h
 refine ⟨[.node c k j x g a],by simp only [E.Ab,E8 A],.un C J,?_,?_⟩
 ·have:=Oq D z
  have H:¬(4:Int)=0:=by decide
  rw [E.nodes,if_neg H]
  simp only [E.Ae]at*;omega
 ·rw [E.high];simp only [E.B3]at*;omega
theorem Dc.bin {d t u o c z y C k D A H:Int} {x j:List Nat} {J M:List Row} (h:Dc Γ t (d-1) c z y C x J) (g:Dc Γ t (d-1) k D A H j M) (P:Lt o t u) (Q:¬d≤1) (N:d≤3):
  Dc Γ u d 5 o 0 0 [] [Hu c z y C x J,Hu k D A H j M]:=by
 obtain ⟨a,O,X,hn,hh⟩:=h
 obtain ⟨b,Z,R,gn,gh⟩:=g
 refine ⟨[.node c z y C x a,.node k D A H j b],by simp only [E.Ab,E8 O,E8 Z],.bin P X R,?_,?_⟩
 ·have:=Oq Q N
  have U:¬(5:Int)=0:=by decide
  rw [E.nodes,if_neg U]
  simp only [E.Ae]at*;omega
 ·rw [E.high];simp only [E.B3]at*;omega
theorem Dc.call {d i c x u z k A y C:Int} {o j:List Nat} {D H:List Row} (O:¬d≤1) (J:d≤3) (N:Γ [104]=some (1,1,i)) (h:Dc Γ 1 (d-1) c x u z o D) (g:Dc Γ 1 (d-1) k A y C j H):
  Dc Γ 1 d 8 0 0 0 [104] [Hu c x u z o D,Hu k A y C j H]:=by
 obtain ⟨a,M,R,hn,Z⟩:=h
 obtain ⟨b,U,P,X,gh⟩:=g
 refine ⟨[.node c x u z o a,.node k A y C j b],by simp only [E.Ab,E8 M,E8 U],.call N R P,?_,?_⟩
 ·have:=Oq O J
  have Q:¬(8:Int)=0:=by decide
  rw [E.nodes,if_neg Q]
  simp only [E.Ae]at*;omega
 ·rw [E.high];simp only [E.B3]at*;omega
theorem Dc.cond {d t x H j k z M J o C u D N:Int} {A y O:List Nat} {R P Q:List Row} (Z:¬d≤1) (U:d≤3) (h:Dc Γ 3 (d-1) x H j k A R) (g:Dc Γ t (d-1) z M J o y P) (f:Dc Γ t (d-1) C u D N O Q):
  Dc Γ t d 6 0 0 0 [] [Hu x H j k A R,Hu z M J o y P,Hu C u D N O Q]:=by
 obtain ⟨a,hA,hT,hn,hh⟩:=h
 obtain ⟨b,gA,gT,gn,gh⟩:=g
 obtain ⟨c,fA,X,fn,fh⟩:=f
 refine ⟨[.node x H j k A a,.node z M J o y b,.node C u D N O c],by simp only [E.Ab,E8 hA,E8 gA,E8 fA],.cond hT gT X,?_,?_⟩
 ·have:=Oq Z U
  have e4:¬(6:Int)=0:=by decide
  rw [E.nodes,if_neg e4]
  simp only [E.Ae]at*;omega
 ·rw [E.high];simp only [E.B3]at*;omega
def Idx (Γ:Ctx) (d:Int) (A:List Row):Prop:=
 ∃a:List E,A=E.Ab a∧T Γ 1 (.node 5 17 0 0 [] a)∧(E.node 5 17 0 0 [] a).nodes≤2+F (d-1)∧((E.node 5 17 0 0 [] a).high:Int)≤2*max (d-1) 1
theorem Idx.mk {d n c o k g:Int} {j:List Nat} {u:List Row} (h:Dc Γ 1 (d-1) c o k g j u) (hb: -200000≤n∧n≤5000000):Idx Γ d [Hu c o k g j u,Hu 1 0 1 n [] []]:=by
 obtain ⟨a,z,y,A,C⟩:=h
 refine ⟨[.node c o k g j a,.node 1 0 1 n [] []],by simp only [E.Ab,E8 z];rfl,.bin (by decide) y (.num (by decide) (by decide) (fun h=>absurd h (by decide)) (fun h=>absurd h (by decide)) hb),?_,?_⟩
 ·have x:¬(5:Int)=0:=by decide
  rw [E.nodes,if_neg x]
  have:(E.node 1 0 1 n [] []).nodes=1:=rfl
  simp only [E.Ae,this]at*;omega
 ·have:(E.node 1 0 1 n [] []).high=1:=rfl
  rw [E.high];simp only [E.B3,this]at*;omega
theorem Dc.load {d t i:Int} {s:List Nat} {c:List Row} (k:¬d≤1) (o:d≤3) (hs:Nm s) (j:1≤t) (g:t≤3) (hg:Γ s=some (0,t,i)) (h:Idx Γ d c):Dc Γ t d 7 0 0 0 s [Hu 5 17 0 0 [] c]:=by
 obtain ⟨a,y,x,A,z⟩:=h
 refine ⟨[.node 5 17 0 0 [] a],by simp only [E.Ab,E8 y],.load hs j g hg x,?_,?_⟩
 ·have:=Oq k o
  have:=AgW (d-1)
  have u:¬(7:Int)=0:=by decide
  rw [E.nodes,if_neg u]
  simp only [E.Ae]at*;omega
 ·rw [E.high];simp only [E.B3]at*;omega
end
def Ql (Γ:Ctx) (t:Int) (s:List Nat):Prop:=∃k:Int,Γ s=some (k,t,0)∧(k=2∨k=3)∧Nm s
def Ap7 (Γ:Ctx) (f c:Int) (V:List Row):Prop:=∀j:Int,0≤j→j<c→∃(nm:List Nat) (t:Int),V[j.toNat]?=some [.str nm,.int .i64 t]∧Ql Γ t nm∧(f≤j→Γ nm=some (3,t,0))∧1≤t∧t≤3
def Ip (Γ:Ctx) (t:Int) (L:List Row):Prop:=∀j:Int,0≤j→j<(L.length:Int)→∃nm:List Nat,L[j.toNat]?=some [.str nm]∧Ql Γ t nm
theorem Ip.one {Γ:Ctx} {t:Int} {s:List Nat} (h:Ql Γ t s):Ip Γ t [[.str s]]:=fun j d c=>by
 simp only [lC,lN]at c
 have:j=0:=by omega
 subst this;exact ⟨s,rfl,h⟩
theorem Ip.snoc {Γ:Ctx} {t:Int} {L:List Row} {s:List Nat} (g:Ip Γ t L) (h:Ql Γ t s):Ip Γ t (L++[[.str s]]):=fun j c d=>by
 simp only [lA,lC,lN]at d
 by_cases hj:j<(L.length:Int)
 ·obtain ⟨nm,g1,g2⟩:=g j c hj
  exact ⟨nm,by rw [List.getElem?_append_left om];exact g1,g2⟩
 ·have:j.toNat=L.length:=by omega
  exact ⟨s,by rw [this];simp,h⟩
structure J9 (Γ:Ctx) (call:Int):Prop where
 a:Γ [97]=some (0,1,0)
 f:Γ [102]=some (0,2,1)
 s:Γ [115]=some (0,1,2)
 p:Γ [112]=some (0,1,3)
 b:Γ [98]=some (0,3,4)
 h:call=1→∃i,Γ [104]=some (1,1,i)
def G (d:Int):Int:=if d≤1 then 3 else if d=2 then 12 else 40
theorem Ht (d:Int):3≤G d∧G d≤40:=by
 unfold G
 repeat' split
 all_goals omega
theorem Lp (d:Int) (c:d≤3):d≤1∨1+3*G (d-1)≤G d:=by
 have:d≤1∨d=2∨d=3:=by omega
 rcases this with h|h|h
 ·exact .inl h
 ·subst h;exact .inr (by decide)
 ·subst h;exact .inr (by decide)
def Um (Γ:Ctx) (d:Int) (A:List Row):Prop:=∃I,A=[Hu 5 17 0 0 [] I]∧Idx Γ d I
section
variable {Γ:Ctx}
theorem Dc.cast {t t' d k o ty v:Int} {s:List Nat} {A:List Row} (h:Dc Γ t d k o ty v s A) (e:t'=t):Dc Γ t' d k o ty v s A:=by subst e;exact h
theorem Dc.var' {t d:Int} {s:List Nat} (h:Ql Γ t s) (c:1≤t) (g:t≤3):Dc Γ t d 2 0 0 0 s []:=by
 obtain ⟨k,g1,g2,g3⟩:=h
 exact .var g3 g2 c g g1
theorem Um.mk {d:Int} {I:List Row} (h:Idx Γ d I):Um Γ d [Hu 5 17 0 0 [] I]:=⟨I,rfl,h⟩
theorem Dc.Al0 {d t i:Int} {s:List Nat} {A:List Row} (hg:Γ s=some (0,t,i)) (h:Um Γ d A) (hs:Nm s) (g:¬d≤1) (j:d≤3) (c:1≤t∧t≤3):Dc Γ t d 7 0 0 0 s A:=by
 obtain ⟨I,rfl,h⟩:=h
 exact .load g j hs c.1 c.2 hg h
theorem Dc.call' {d x D k o A J H u:Int} {C y:List Nat} {z j:List Row} (N:¬d≤1) (M:d≤3) (c:∃i,Γ [104]=some (1,1,i)) (h:Dc Γ 1 (d-1) x D k o C z) (g:Dc Γ 1 (d-1) A J H u y j):
  Dc Γ 1 d 8 0 0 0 [104] [Hu x D k o C z,Hu A J H u y j]:=by
 obtain ⟨i,c⟩:=c
 exact .call N M c h g
end
theorem Qh {B:List (List PV)} (h:Dy B) (i:Int) (k:0≤i) (d:i<B.length):∃n:Int,B[i.toNat]?=some [.int .u8 n]∧0≤n∧n≤255:=by
 obtain ⟨n,c,g,j⟩:=AcI h i k d
 exact ⟨n,j,c,g⟩
structure Ox (Γ:Ctx) (f bl vl count left call loads:Int) (B V:List Row):Prop where
 hB:Dy B
 hl:bl=B.length
 hvl:vl≤V.length
 H6:0≤vl∧vl≤30
 hV:Ap7 Γ f vl V
 hb:J9 Γ call
 hc:call=0∨call=1
 hd:loads=0∨loads=1
theorem AlH {p:Prop} (h:p:=by
  first
  |assumption
  |(apply Dc.mono;assumption;omega)
  |(apply Dc.cast;assumption;omega)
  |(refine Dc.num ?_ ?_ ?_ ?_ ?_<;>first|omega|(intro h;exfalso;omega) |(intro _;refine Fx.mk (x:=_) ?_ ?_ rfl<;>omega))
  |(refine Dc.id ?_ ?_<;>omega)
  |(refine Dc.var' ?_ ?_ ?_<;>first|assumption|omega)
  |(apply Dc.un;assumption;all_goals first|omega|decide|(unfold ZG;omega))
  |(apply Dc.bin;assumption;assumption;all_goals first|omega|decide|(unfold Lt;omega))
  |(refine Dc.cond ?_ ?_ ?_ ?_ ?_<;>first|assumption|omega)
  |(refine Dc.call' ?_ ?_ ?_ ?_ ?_<;>first|assumption|omega|(refine J9.h (by assumption) ?_;omega))
  |(apply Dc.Al0;(first|exact J9.a (by assumption) |exact J9.f (by assumption) |exact J9.s (by assumption) |exact J9.p (by assumption) |exact J9.b (by assumption));assumption;decide;all_goals first|omega|decide)
  |(refine Idx.mk ?_ ?_;assumption;omega)
  |(refine Um.mk ?_;assumption)
  |(refine Ip.one ?_;first|assumption|(subst_vars;assumption))
  |(refine Ip.snoc ?_ ?_<;>first|assumption|(subst_vars;assumption))
  |rfl
  |exact kn):p:=h
theorem fin {p:Prop} (h:p:=by first|exact AlH|(subst_vars;exact AlH)):p:=h
end Go.AM.K
end
section
namespace Go.AM.K
inductive S where
 |node (k o t b:Int) (nm:List Nat) (x y:E) (body els:List S)
mutual
def S.enc:S→Row
 |.node k o t b nm x y bo el=>.int .i64 k::.int .i64 o::.int .i64 t::.int .i64 b::.str nm::(x.enc++(y.enc++[.list 19 (S.Ab bo),.list 19 (S.Ab el)]))
def S.Ab:List S→List Row
 |[]=>[]
 |e::l=>e.enc::S.Ab l
end
mutual
def S.nodes:S→Nat
 |.node _ _ _ _ _ x y bo el=>1+x.nodes+y.nodes+S.Ae bo+S.Ae el
def S.Ae:List S→Nat
 |[]=>0
 |e::l=>e.nodes+S.Ae l
end
mutual
def S.deep:S→Nat
 |.node _ _ _ _ _ _ _ bo el=>1+max (S.Au bo) (S.Au el)
def S.Au:List S→Nat
 |[]=>0
 |e::l=>max e.deep (S.Au l)
end
theorem S.Az:∀l,(S.Ab l).length=l.length
 |[]=>rfl
 |_::l=>by simp only [S.Ab,lC,S.Az l]
theorem S.DE:∀(l:List S) (i:Nat),(S.Ab l)[i]?=(l[i]?).map S.enc
 |[],i=>by simp [S.Ab]
 |e::l,0=>by simp [S.Ab]
 |e::l,i+1=>by simp only [S.Ab,List.getElem?_cons_succ];exact S.DE l i
theorem S.TT:∀(l m:List S),S.Ab (l++m)=S.Ab l++S.Ab m
 |[],m=>rfl
 |e::l,m=>by simp only [List.cons_append,S.Ab,S.TT l m]
theorem S.Nh:∀(l m:List S),S.Ae (l++m)=S.Ae l+S.Ae m
 |[],m=>by simp [S.Ae]
 |e::l,m=>by simp only [List.cons_append,S.Ae,S.Nh l m];omega
theorem S.Qf:∀(l m:List S),S.Au (l++m)=max (S.Au l) (S.Au m)
 |[],m=>by simp [S.Au]
 |e::l,m=>by simp only [List.cons_append,S.Au,S.Qf l m];omega
def Vn (n:List Nat):Prop:=∃i:Nat,i<24∧n=vn i
theorem Vn.nm {n:List Nat} (h:Vn n):Nm n:=by obtain ⟨i,c,rfl⟩:=h;exact Nm.vn c
mutual
inductive Sp (q:Bool):Int→Int→Ctx→S→Ctx→Prop
 |var {lo pu Γ n t x}:Nm n→(q=true→Vn n)→Γ n=none→1≤t→t≤3→T Γ t x→x.high≤5→Sp q lo pu Γ (.node 1 0 t 0 n x E0 [] []) (Γ.Gj n (3,t,0))
 |set {lo pu Γ n t x i}:Nm n→Γ n=some (3,t,i)→T Γ t x→x.high≤5→Sp q lo pu Γ (.node 2 0 0 0 n x E0 [] []) Γ
 |store {lo Γ n t x y i}:Nm n→0≤i→i≤4→Γ n=some (0,t,i)→T Γ 1 x→T Γ t y→x.high≤5→y.high≤5→Sp q lo 0 Γ (.node 3 0 0 0 n x y [] []) Γ
 |atom {lo Γ n o x y i}:Nm n→i=0∨i=2→Γ n=some (0,1,i)→(o=10∨o=17∨o=18∨o=19∨o=22∨o=23)→T Γ 1 x→T Γ 1 y→x.high≤5→y.high≤5→Sp q lo 0 Γ (.node 4 o 0 0 n x y [] []) Γ
 |Zf {lo pu Γ x bo el Γ1 Γ2}:T Γ 3 x→x.high≤5→Un q lo pu Γ bo Γ1→Un q lo pu Γ el Γ2→Sp q lo pu Γ (.node 5 0 0 0 [] x E0 bo el) Γ
 |Uv {lo pu Γ x b bo Γ1}:T Γ 3 x→x.high≤5→1≤b→b≤4→Un q 1 pu Γ bo Γ1→Sp q lo pu Γ (.node 6 0 0 b [] x E0 bo []) Γ
 |esc {lo pu Γ k}:k=7∨k=8→lo≠0→Sp q lo pu Γ (.node k 0 0 0 [] E0 E0 [] []) Γ
 |Yu {lo Γ k}:k=9∨k=10→Sp q lo 0 Γ (.node k 0 0 0 [] E0 E0 [] []) Γ
 |Hq {lo Γ o}:o=1∨o=2→Sp q lo 0 Γ (.node 11 o 0 0 [] E0 E0 [] []) Γ
 |Mj {lo Γ n o t u x i}:Nm n→Γ n=some (3,t,i)→1≤t→t≤3→((o=1∧t=1∧u=3)∨((o=2∨o=3)∧t=3∧u=3)∨((o=5∨o=6)∧t≠3∧u=t))→T Γ u x→x.high≤5→Sp q lo 0 Γ (.node 12 o 0 0 n x E0 [] []) Γ
 |Mi {lo Γ n t x y i}:Nm n→Γ n=some (3,t,i)→1≤t→t≤3→T Γ t x→T Γ 1 y→x.high≤5→y.high≤5→Sp q lo 0 Γ (.node 12 4 0 0 n x y [] []) Γ
inductive Un (q:Bool):Int→Int→Ctx→List S→Ctx→Prop
 |nil {lo pu Γ}:Un q lo pu Γ [] Γ
 |cons {lo pu Γ s Γ1 l Γ2}:Sp q lo pu Γ s Γ1→Un q lo pu Γ1 l Γ2→Un q lo pu Γ (s::l) Γ2
end
abbrev SOm:=Sp true
abbrev Uo:=Un true
abbrev Es:=Sp false
abbrev DG:=Un false
mutual
theorem Sp.loose {q:Bool} {lo pu:Int} {Γ Γ':Ctx} {s:S}:Sp q lo pu Γ s Γ'→Es lo pu Γ s Γ'
 |.var h1 _ h2 h3 h4 h5 h6=>.var h1 (fun h=>by cases h) h2 h3 h4 h5 h6
 |.set h1 h2 h3 h4=>.set h1 h2 h3 h4
 |.store h1 h2 h3 h4 h5 h6 h7 h8=>.store h1 h2 h3 h4 h5 h6 h7 h8
 |.atom h1 h2 h3 h4 h5 h6 h7 h8=>.atom h1 h2 h3 h4 h5 h6 h7 h8
 |.Zf h1 h2 h3 h4=>.Zf h1 h2 (Un.loose h3) (Un.loose h4)
 |.Uv h1 h2 h3 h4 h5=>.Uv h1 h2 h3 h4 (Un.loose h5)
 |.esc h1 h2=>.esc h1 h2
 |.Yu h1=>.Yu h1
 |.Hq h1=>.Hq h1
 |.Mj h1 h2 h3 h4 h5 h6 h7=>.Mj h1 h2 h3 h4 h5 h6 h7
 |.Mi h1 h2 h3 h4 h5 h6 h7 h8=>.Mi h1 h2 h3 h4 h5 h6 h7 h8
theorem Un.loose {q:Bool} {lo pu:Int} {Γ Γ':Ctx} {l:List S}:Un q lo pu Γ l Γ'→DG lo pu Γ l Γ'
 |.nil=>.nil
 |.cons h g=>.cons (Sp.loose h) (Un.loose g)
end
theorem Un.snoc {q:Bool} {lo pu:Int} {Γ d c:Ctx} {l:List S} {s:S} (h:Un q lo pu Γ l d) (g:Sp q lo pu d s c):Un q lo pu Γ (l++[s]) c:=by
 induction l generalizing Γ with
 |nil=>cases h;exact .cons g .nil
 |cons x l ih=>cases h with|cons a b=>exact .cons a (ih b)
abbrev AZ (k o t b:Int) (nm:List Nat) (y u z:Int) (j:List Nat) (d:Int) (X:List Row) (yk g x:Int) (c:List Nat) (A:Int) (Y:List Row) (B L:List Row):Row:=
 [.int .i64 k,.int .i64 o,.int .i64 t,.int .i64 b,.str nm,.int .i64 y,.int .i64 u,.int .i64 z,.str j,.int .i32 d,.list 6 X,.int .i64 yk,.int .i64 g,.int .i64 x,.str c,.int .i32 A,.list 6 Y,.list 19 B,.list 19 L]
def En (lo pu D:Int) (Γ Γ':Ctx) (left left':Int) (c:Row):Prop:=∃s:S,c=s.enc∧SOm lo pu Γ s Γ'∧(s.nodes:Int)+40*left'≤40*left∧(s.deep:Int)≤D
def AT (lo pu D:Int) (Γ Γ':Ctx) (left left':Int) (R:List Row):Prop:=∃l:List S,R=S.Ab l∧Uo lo pu Γ l Γ'∧(S.Ae l:Int)+40*left'≤40*left∧(S.Au l:Int)≤D
def IZ (lo pu D:Int) (Γ:Ctx) (left left':Int) (R:List Row):Prop:=∃Γ',AT lo pu D Γ Γ' left left' R
section
variable {lo pu D left left':Int} {Γ Γ':Ctx}
theorem AT.nil (h:0≤D∧left'≤left):AT lo pu D Γ Γ left left' []:=⟨[],rfl,.nil,by simp only [S.Ae];omega,by simp only [S.Au];omega⟩
theorem AT.snoc {c:Ctx} {d:Int} {R:List Row} {r:Row} (h:AT lo pu D Γ c left d R) (g:En lo pu D c Γ' d left' r):AT lo pu D Γ Γ' left left' (R++[r]):=by
 obtain ⟨l,rfl,j,o,k⟩:=h
 obtain ⟨s,rfl,g1,g2,g3⟩:=g
 refine ⟨l++[s],by rw [S.TT];rfl,j.snoc g1,?_,?_⟩
 ·rw [S.Nh];simp only [S.Ae];omega
 ·rw [S.Qf];simp only [S.Au];omega
theorem AT.one {r:Row} (g:En lo pu D Γ Γ' left left' r) (h:0≤D):AT lo pu D Γ Γ' left left' [r]:=(AT.nil (left':=left) ⟨h,Int.le_refl _⟩).snoc g
theorem AT.mono {c d g:Int} {R:List Row} (h:AT lo pu D Γ Γ' left left' R) (hd:D≤c∧left-left'≤d-g):AT lo pu c Γ Γ' d g R:=by
 obtain ⟨l,k,j,u,o⟩:=h
 exact ⟨l,k,j,by omega,by omega⟩
theorem IZ.mk {R:List Row} (h:AT lo pu D Γ Γ' left left' R):IZ lo pu D Γ left left' R:=⟨_,h⟩
theorem IZ.nil (h:0≤D∧left'≤left):IZ lo pu D Γ left left' []:=⟨_,AT.nil h⟩
theorem Km {Γ:Ctx} {t d k o ty v:Int} {s:List Nat} {A:List Row} (h:Dc Γ t d k o ty v s A) (hd:d≤3):∃x:E,Hu k o ty v s A=x.enc∧T Γ t x∧x.nodes≤13∧x.high≤5:=by
 obtain ⟨a,rfl,c,j,g⟩:=h
 refine ⟨_,rfl,c,?_,by omega⟩
 have:F d≤13:=by
  unfold F
  repeat' split
  all_goals omega
 omega
theorem Ag9 {Γ:Ctx} {A:List Row} (h:Idx Γ 3 A):∃x:E,Hu 5 17 0 0 [] A=x.enc∧T Γ 1 x∧x.nodes≤6∧x.high≤4:=by
 obtain ⟨a,rfl,c,g,d⟩:=h
 refine ⟨_,rfl,c,?_,by omega⟩
 have:F (3-1)=4:=by decide
 omega
theorem EO:E0.nodes=0:=rfl
section
variable {k o t v k2 o2 t2 v2:Int} {s s2 n:List Nat} {A A2:List Row} {u d d2:Int}
theorem En.var (h:Dc Γ u d k o t v s A) (g:Vn n) (hg:Γ n=none) (c:d≤3∧1≤u∧u≤3∧1≤D∧left'+1≤left):En lo pu D Γ (Γ.Gj n (3,u,0)) left left' (AZ 1 0 u 0 n k o t s v A 0 0 0 [] 0 [] [] []):=by
 obtain ⟨x,e,y,z,j⟩:=Km h c.1
 refine ⟨.node 1 0 u 0 n x E0 [] [],?_,.var g.nm (fun _=>g) hg c.2.1 c.2.2.1 y j,?_,?_⟩
 ·rw [S.enc,←e];rfl
 ·simp only [S.nodes,S.Ae,EO];omega
 ·simp only [S.deep,S.Au];omega
theorem En.set {i:Int} (h:Dc Γ u d k o t v s A) (y:Nm n) (hg:Γ n=some (3,u,i)) (c:d≤3∧1≤D∧left'+1≤left):En lo pu D Γ Γ left left' (AZ 2 0 0 0 n k o t s v A 0 0 0 [] 0 [] [] []):=by
 obtain ⟨x,e,j,z,g⟩:=Km h c.1
 refine ⟨.node 2 0 0 0 n x E0 [] [],?_,.set y hg j g,?_,?_⟩
 ·rw [S.enc,←e];rfl
 ·simp only [S.nodes,S.Ae,EO];omega
 ·simp only [S.deep,S.Au];omega
theorem En.store {i:Int} (h:Idx Γ 3 A) (g:Dc Γ u d k2 o2 t2 v2 s2 A2) (J:Nm n) (hg:Γ n=some (0,u,i)) (C:pu=0) (c:0≤i∧i≤4) (j:d≤3∧1≤D∧left'+1≤left):En lo pu D Γ Γ left left' (AZ 3 0 0 0 n 5 17 0 [] 0 A k2 o2 t2 s2 v2 A2 [] []):=by
 obtain ⟨x,e,H,O,N⟩:=Ag9 h
 obtain ⟨y,k,z,M,o⟩:=Km g j.1
 subst C
 refine ⟨.node 3 0 0 0 n x y [] [],?_,.store J c.1 c.2 hg H z om o,?_,?_⟩
 ·rw [S.enc,←e,←k];rfl
 ·simp only [S.nodes,S.Ae];omega
 ·simp only [S.deep,S.Au];omega
theorem En.atom {i:Int} (h:Idx Γ 3 A) (g:Dc Γ 1 d k2 o2 t2 v2 s2 A2) (M:Nm n) (hg:Γ n=some (0,1,i)) (u:i=0∨i=2) (j:o=10∨o=17∨o=18∨o=19∨o=22∨o=23) (H:pu=0) (k:d≤3∧1≤D∧left'+1≤left):En lo pu D Γ Γ left left' (AZ 4 o 0 0 n 5 17 0 [] 0 A k2 o2 t2 s2 v2 A2 [] []):=by
 obtain ⟨x,e,J,O,N⟩:=Ag9 h
 obtain ⟨y,c,C,P,z⟩:=Km g k.1
 subst H
 refine ⟨.node 4 o 0 0 n x y [] [],?_,.atom M u hg j J C om z,?_,?_⟩
 ·rw [S.enc,←e,←c];rfl
 ·simp only [S.nodes,S.Ae];omega
 ·simp only [S.deep,S.Au];omega
theorem En.Zf {D1 D2 g c a2 b2:Int} {B L:List Row} (h:Dc Γ 3 d k o t v s A) (hb:IZ lo pu D1 Γ g c B) (u:IZ lo pu D2 Γ a2 b2 L) (z:d≤3∧D1+1≤D∧D2+1≤D∧1+left'+(g-c)+(a2-b2)≤left):En lo pu D Γ Γ left left' (AZ 5 0 0 0 [] k o t s v A 0 0 0 [] 0 [] B L):=by
 obtain ⟨x,e,H,P,j⟩:=Km h z.1
 obtain ⟨Q,y,rfl,C,N,M⟩:=hb
 obtain ⟨O,J,rfl,g1,g2,g3⟩:=u
 refine ⟨.node 5 0 0 0 [] x E0 y J,?_,.Zf H j C g1,?_,?_⟩
 ·rw [S.enc,←e];rfl
 ·simp only [S.nodes,EO];omega
 ·simp only [S.deep];omega
theorem En.Uv {D1 j g b:Int} {B:List Row} (h:Dc Γ 3 d k o t v s A) (hb:IZ 1 pu D1 Γ j g B) (c:d≤3∧D1+1≤D∧1≤D∧1+left'+(j-g)≤left∧1≤b∧b≤4):En lo pu D Γ Γ left left' (AZ 6 0 0 b [] k o t s v A 0 0 0 [] 0 [] B []):=by
 obtain ⟨x,e,C,M,u⟩:=Km h c.1
 obtain ⟨N,y,rfl,z,J,H⟩:=hb
 refine ⟨.node 6 0 0 b [] x E0 y [],?_,.Uv C u c.2.2.2.2.1 c.2.2.2.2.2 z,?_,?_⟩
 ·rw [S.enc,←e];rfl
 ·simp only [S.nodes,S.Ae,EO];omega
 ·simp only [S.deep,S.Au];omega
theorem En.esc (c:k=7∨k=8) (hl:lo≠0) (d:1≤D∧left'+1≤left):En lo pu D Γ Γ left left' (AZ k 0 0 0 [] 0 0 0 [] 0 [] 0 0 0 [] 0 [] [] []):=
 ⟨.node k 0 0 0 [] E0 E0 [] [],rfl,.esc c hl,by simp only [S.nodes,S.Ae,EO];omega,by simp only [S.deep,S.Au];omega⟩
theorem En.Yu (c:k=9∨k=10) (d:pu=0) (g:1≤D∧left'+1≤left):En lo pu D Γ Γ left left' (AZ k 0 0 0 [] 0 0 0 [] 0 [] 0 0 0 [] 0 [] [] []):=by
 subst d
 exact ⟨.node k 0 0 0 [] E0 E0 [] [],rfl,.Yu c,by simp only [S.nodes,S.Ae,EO];omega,by simp only [S.deep,S.Au];omega⟩
theorem En.Hq (c:o=1∨o=2) (d:pu=0) (g:1≤D∧left'+1≤left):En lo pu D Γ Γ left left' (AZ 11 o 0 0 [] 0 0 0 [] 0 [] 0 0 0 [] 0 [] [] []):=by
 subst d
 exact ⟨.node 11 o 0 0 [] E0 E0 [] [],rfl,.Hq c,by simp only [S.nodes,S.Ae,EO];omega,by simp only [S.deep,S.Au];omega⟩
theorem En.Mj {w i op:Int} (h:Dc Γ w d k o t v s A) (C:Nm n) (hg:Γ n=some (3,u,i)) (y:(op=1∧u=1∧w=3)∨((op=2∨op=3)∧u=3∧w=3)∨((op=5∨op=6)∧u≠3∧w=u)) (j:pu=0) (c:d≤3∧1≤D∧left'+1≤left∧1≤u∧u≤3):En lo pu D Γ Γ left left' (AZ 12 op 0 0 n k o t s v A 0 0 0 [] 0 [] [] []):=by
 obtain ⟨x,e,z,H,g⟩:=Km h c.1
 subst j
 refine ⟨.node 12 op 0 0 n x E0 [] [],?_,.Mj C hg c.2.2.2.1 c.2.2.2.2 y z g,?_,?_⟩
 ·rw [S.enc,←e];rfl
 ·simp only [S.nodes,S.Ae,EO];omega
 ·simp only [S.deep,S.Au];omega
theorem En.Mi {i:Int} (h:Dc Γ u d k o t v s A) (g:Dc Γ 1 d2 k2 o2 t2 v2 s2 A2) (N:Nm n) (hg:Γ n=some (3,u,i)) (J:pu=0) (c:d≤3∧d2≤3∧1≤D∧left'+1≤left∧1≤u∧u≤3):En lo pu D Γ Γ left left' (AZ 12 4 0 0 n k o t s v A k2 o2 t2 s2 v2 A2 [] []):=by
 obtain ⟨x,e,M,P,H⟩:=Km h c.1
 obtain ⟨y,j,C,O,z⟩:=Km g c.2.1
 subst J
 refine ⟨.node 12 4 0 0 n x y [] [],?_,.Mi N hg c.2.2.2.2.1 c.2.2.2.2.2 M C H z,?_,?_⟩
 ·rw [S.enc,←e,←j];rfl
 ·simp only [S.nodes,S.Ae];omega
 ·simp only [S.deep,S.Au];omega
end
theorem En.mono {c d g:Int} {r:Row} (h:En lo pu D Γ Γ' left left' r) (hd:D≤c∧left-left'≤d-g):En lo pu c Γ Γ' d g r:=by
 obtain ⟨s,k,j,u,o⟩:=h
 exact ⟨s,k,j,by omega,by omega⟩
end
structure MS (E:Bool) (Γ:Ctx) (f K M bl pos vl count left call loads:Int) (B V:List Row):Prop where
 m:Ox Γ f bl vl count left call loads B V
 fr:∀i:Nat,count≤i→i<24→Γ (vn i)=none
 c0:0≤count
 cl:count+left≤K
 l0:0≤left
 vc:vl≤count+3
 p0:0≤pos
 p1:pos+300*left≤M
 f0:0≤f
 kk:K≤16∧M≤20000
 ex:E=true→vl=V.length
theorem Ox.at_ {Γ:Ctx} {f bl vl count left call loads:Int} {B V:List Row} (h:Ox Γ f bl vl count left call loads B V) (c l:Int):Ox Γ f bl vl c l call loads B V:=⟨h.hB,h.hl,h.hvl,h.H6,h.hV,h.hb,h.hc,h.hd⟩
section
variable {E:Bool} {Γ:Ctx} {f K M bl pos vl count left call loads:Int} {B V:List Row}
theorem MS.mv {c left':Int} (h:MS E Γ f K M bl pos vl count left call loads B V) (k:0≤c∧0≤left'∧left'≤left∧c+300*left'≤M:=by exact kn):MS E Γ f K M bl c vl count left' call loads B V:=
 ⟨h.m.at_ _ _,h.fr,h.c0,by have:=h.cl;omega,k.2.1,h.vc,k.1,k.2.2.2,h.f0,h.kk,h.ex⟩
theorem MS.FC (h:MS E Γ f K M bl pos vl count left call loads B V) (c l:Int):Ox Γ f bl vl c l call loads B V:=h.m.at_ _ _
theorem DU {Γ:Ctx} {n s:List Nat} {x z:Int×Int×Int} (h:Γ n=some z) (g:Γ s=none):Γ.Gj s x n=some z:=by
 rw [AV];exact h
 intro e;subst e;rw [g]at h;cases h
def Ext (vl:Int) (V c:List Row):Prop:=∀j:Int,0≤j→j<vl→c[j.toNat]?=V[j.toNat]?
theorem Ext.refl:Ext vl V V:=fun _ _ _=>rfl
theorem Ext.trans {c:Int} {V1 V2:List Row} (h:Ext vl V V1) (g:Ext c V1 V2) (hv:vl≤c):Ext vl V V2:=fun j d k=>(g j d om).trans (h j d k)
theorem Ext.more {W:List Row} (h:0≤vl∧vl≤V.length):Ext vl V (V.take vl.toNat++W):=fun j d c=>by
 rw [List.getElem?_append_left (by rw [lT'];omega),List.getElem?_take,if_pos om]
theorem MS.more {d t:Int} {n:List Nat} (h:MS E Γ f K M bl pos vl count left call loads B V) (O:n=vn count.toNat) (C:1≤t∧t≤3) (aa:count+left+1≤K)
  (k:0≤left∧0≤d∧d+300*left≤M):MS false (Γ.Gj n (3,t,0)) f K M bl d ((V.take vl.toNat++[[PV.str n,PV.int .i64 t]]).length:Nat) (count+1) left call loads B (V.take vl.toNat++[[PV.str n,PV.int .i64 t]]):=by
 subst O
 have Z:=h.c0;have ab:=h.vc;have x:=h.m.H6;have hvl:=h.m.hvl;have ac:=h.l0;have z:=h.kk
 have c:Γ (vn count.toNat)=none:=h.fr _ om om
 have o:((V.take vl.toNat++[[PV.str (vn count.toNat),PV.int .i64 t]]).length:Int)=vl+1:=by
  simp only [lA,lC,lN,lT'];omega
 rw [o]
 refine ⟨⟨h.m.hB,h.m.hl,by omega,by omega,?_,?_,h.m.hc,h.m.hd⟩,?_,by omega,by omega,by omega,by omega,k.2.1,k.2.2,h.f0,z,fun e=>by cases e⟩
 ·intro j y hj
  by_cases hjv:j<vl
  ·obtain ⟨nm,u,g1,⟨kk,g2,g3,P⟩,H,R,U⟩:=h.m.hV j y hjv
   exact ⟨nm,u,(Ext.more ⟨x.1,hvl⟩ j y hjv).trans g1,⟨kk,DU g2 c,g3,P⟩,fun hf=>DU (H hf) c,R,U⟩
  ·have:j=vl:=by omega
   subst this
   refine ⟨vn count.toNat,t,?_,⟨3,BX,.inr rfl,Nm.vn om⟩,fun _=>BX,C.1,C.2⟩
   rw [List.getElem?_append_right (by rw [lT'];omega),lT',show j.toNat-min j.toNat V.length=0 by omega];rfl
 ·obtain ⟨J,Q,bs,X,N,D⟩:=h.m.hb
  exact ⟨DU J c,DU Q c,DU bs c,DU X c,DU N c,fun hc=>let ⟨i,A⟩:=D hc;⟨i,DU A c⟩⟩
 ·intro i A g
  rw [AV]
  ·exact h.fr i om g
  ·intro e
   have:=AgX g om e
   omega
theorem MS.AbN {c t:Int} {n:List Nat} (h:MS true Γ f K M bl pos vl count left call loads B V) (j:n=vn count.toNat) (g:1≤t∧t≤3) (d:count+left+1≤K)
  (k:0≤left∧0≤c∧c+300*left≤M):MS false (Γ.Gj n (3,t,0)) f K M bl c ((V++[[PV.str n,PV.int .i64 t]]).length:Nat) (count+1) left call loads B (V++[[PV.str n,PV.int .i64 t]]):=by
 have e:V.take vl.toNat=V:=List.take_of_length_le (by have:=h.ex rfl;omega)
 have:=h.more j g d k
 rw [e]at this;exact this
theorem Ext.AbN {W:List Row} (h:vl=V.length):Ext vl V (V++W):=fun j d c=>by rw [List.getElem?_append_left om]
theorem MS.back {D:Bool} {C:Ctx} {k o c d:Int} {V1:List Row} (h:MS E Γ f K M bl pos vl count left call loads B V) (g:MS D C f K M bl k o c d call loads B V1) (A:Ext vl V V1) (hc:count≤c∧vl≤o):MS false Γ f K M bl k vl c d call loads B V1:=
 ⟨⟨h.m.hB,h.m.hl,by have:=g.m.hvl;omega,h.m.H6,fun j x y=>by
   obtain ⟨nm,u,g1,g2⟩:=h.m.hV j x y
   exact ⟨nm,u,(A j x y).trans g1,g2⟩,h.m.hb,h.m.hc,h.m.hd⟩,fun i H z=>h.fr i om z,g.c0,g.cl,g.l0,by have:=h.vc;omega,g.p0,g.p1,h.f0,h.kk,fun e=>by cases e⟩
theorem En.decl {lo pu D l left' k o t v d u:Int} {s n:List Nat} {A:List Row} (c:MS E Γ f K M bl pos vl count left call loads B V) (h:Dc Γ u d k o t v s A) (j:n=vn count.toNat) (g:d≤3∧1≤u∧u≤3∧1≤D∧left'+1≤l):En lo pu D Γ (Γ.Gj n (3,u,0)) l left' (AZ 1 0 u 0 n k o t s v A 0 0 0 [] 0 [] [] []):=by
 have x:=c.c0;have C:=c.cl;have z:=c.l0;have y:=c.kk
 subst j
 exact .var h ⟨count.toNat,by omega,rfl⟩ (c.fr _ om om) g
end
theorem AlG {p:Prop} (h:p:=by
  first
  |assumption
  |(apply En.mono;assumption;omega)
  |(apply AT.mono;assumption;omega)
  |(apply En.set (d:=3);assumption;assumption;assumption;omega)
  |(apply En.store (d:=3);assumption;assumption;decide;(first|exact J9.a (by assumption) |exact J9.f (by assumption) |exact J9.s (by assumption) |exact J9.p (by assumption) |exact J9.b (by assumption));all_goals omega)
  |(apply En.atom (d:=3);assumption;assumption;decide;(first|exact J9.a (by assumption) |exact J9.s (by assumption));all_goals omega)
  |(refine En.esc ?_ ?_ ?_<;>omega)
  |(refine En.Yu ?_ ?_ ?_<;>omega)
  |(refine En.Hq ?_ ?_ ?_<;>omega)
  |(apply En.Mj (d:=3);assumption;assumption;assumption;all_goals omega)
  |(apply En.Mi (d:=2) (d2:=2);assumption;assumption;assumption;assumption;all_goals omega)
  |(apply En.Zf (d:=3);assumption;assumption;(first|assumption|(apply IZ.nil (D:=0) (left:=0) (left':=0);exact ⟨Int.le_refl 0,Int.le_refl 0⟩));omega)
  |(apply En.Uv (d:=3);assumption;assumption;omega)
  |exact Ext.refl
  |(apply Ext.trans;assumption;assumption;omega)
  |(apply Ext.trans;assumption;apply Ext.trans;assumption;assumption;all_goals omega)
  |exact kn):p:=h
theorem AA {p:Prop} (h:p:=by first|exact AlG|(subst_vars;exact AlG)):p:=h
end Go.AM.K
end
section
namespace Go.AM.K
def aΓ:Ctx:=fun s=>if s=[97]then some (0,1,0)else if s=[102]then some (0,2,1)else if s=[115]then some (0,1,2)else if s=[112]then some (0,1,3)else if s=[98]then some (0,3,4)else none
def fΓ:Ctx:=(aΓ.Gj [120] (2,1,0)).Gj [121] (2,1,0)
def pΓ:Ctx:=((aΓ.Gj [110] (2,1,0)).Gj [116] (2,2,0)).Gj [99] (2,3,0)
def bΓ (call:Int):Ctx:=if call=1 then pΓ.Gj [104] (1,1,0)else pΓ
def Ax:List Row:=[[.str [97],.int .i64 1,.int .i64 1,.int .i64 8],[.str [102],.int .i64 1,.int .i64 2,.int .i64 4],[.str [115],.int .i64 2,.int .i64 1,.int .i64 8],[.str [112],.int .i64 3,.int .i64 1,.int .i64 4],[.str [98],.int .i64 2,.int .i64 3,.int .i64 4]]
def As:List Row:=[[.str [110],.int .i64 1],[.str [116],.int .i64 2],[.str [99],.int .i64 3]]
def AD:List Row:=[[.str [120],.int .i64 1],[.str [121],.int .i64 1]]
theorem AlC {i:Nat} (h:i<24):fΓ (vn i)=none:=by
 have:∀i,i<24→fΓ (vn i)=none:=by decide
 exact this i h
theorem Am9 {c:Int} {i:Nat} (h:i<24):bΓ c (vn i)=none:=by
 have g:∀i,i<24→pΓ (vn i)=none:=by decide
 have d:∀i,i<24→(pΓ.Gj [104] (1,1,0)) (vn i)=none:=by decide
 unfold bΓ
 split
 ·exact d i h
 ·exact g i h
section
variable {B:List Row} {bl pos count call:Int}
theorem MS.Aiy (hB:Dy B) (hl:bl=B.length) (h:0≤pos∧pos≤100):MS true fΓ 2 4 1400 bl pos 2 0 4 0 0 B [[PV.str [120],PV.int .i64 1],[PV.str [121],PV.int .i64 1]]:=by
 refine ⟨⟨hB,hl,by decide,by decide,?_,⟨rfl,rfl,rfl,rfl,rfl,fun h=>by cases h⟩,.inl rfl,.inl rfl⟩,fun i _ c=>AlC c,by decide,by decide,by decide,by decide,h.1,by omega,by decide,by decide,fun _=>rfl⟩
 intro j g d
 have:j=0∨j=1:=by omega
 rcases this with rfl|rfl
 ·exact ⟨[120],1,rfl,⟨2,rfl,.inl rfl,by decide⟩,fun h=>absurd h (by decide),by decide,by decide⟩
 ·exact ⟨[121],1,rfl,⟨2,rfl,.inl rfl,by decide⟩,fun h=>absurd h (by decide),by decide,by decide⟩
theorem MS.Ud (hB:Dy B) (hl:bl=B.length) (h:0≤pos∧pos≤2000) (hc:0≤count∧count≤4) (c:call=0∨call=1):MS false (bΓ call) 3 16 19000 bl pos 3 count 12 call 1 B [[PV.str [110],PV.int .i64 1],[PV.str [116],PV.int .i64 2],[PV.str [99],PV.int .i64 3]]:=by
 have hb:J9 (bΓ call) call:=by
  rcases c with rfl|rfl
  ·exact ⟨rfl,rfl,rfl,rfl,rfl,fun h=>by cases h⟩
  ·exact ⟨rfl,rfl,rfl,rfl,rfl,fun _=>⟨0,rfl⟩⟩
 have d:bΓ call [110]=some (2,1,0)∧bΓ call [116]=some (2,2,0)∧bΓ call [99]=some (2,3,0):=by
  rcases c with rfl|rfl
  ·exact ⟨rfl,rfl,rfl⟩
  ·exact ⟨rfl,rfl,rfl⟩
 refine ⟨⟨hB,hl,by decide,by decide,?_,hb,c,.inr rfl⟩,fun i _ g=>Am9 g,hc.1,by omega,by decide,by omega,h.1,by omega,by decide,by decide,fun e=>by cases e⟩
 intro j k o
 have:j=0∨j=1∨j=2:=by omega
 rcases this with rfl|rfl|rfl
 ·exact ⟨[110],1,rfl,⟨2,d.1,.inl rfl,by decide⟩,fun h=>absurd h (by decide),by decide,by decide⟩
 ·exact ⟨[116],2,rfl,⟨2,d.2.1,.inl rfl,by decide⟩,fun h=>absurd h (by decide),by decide,by decide⟩
 ·exact ⟨[99],3,rfl,⟨2,d.2.2,.inl rfl,by decide⟩,fun h=>absurd h (by decide),by decide,by decide⟩
end
def J7 (R:List Row) (k o y w:Int) (s:List Nat) (A:List Row):Prop:=∃(c:Ctx) (l:Int),AT 0 1 2 fΓ c 4 l R∧0≤l∧Dc c 1 3 k o y w s A
theorem J7.mk {c:Ctx} {l k o y w:Int} {R A:List Row} {s:List Nat} (h:AT 0 1 2 fΓ c 4 l R) (hl:0≤l) (g:Dc c 1 3 k o y w s A):J7 R k o y w s A:=⟨_,_,h,hl,g⟩
theorem J7.nil {k o y w:Int} {A:List Row} {s:List Nat} (g:Dc fΓ 1 3 k o y w s A):J7 [] k o y w s A:=⟨_,4,AT.nil ⟨by decide,by decide⟩,by decide,g⟩
def Aj (Γ:Ctx) (R:List Row):Prop:=∃(c:Ctx) (l:Int),AT 0 0 4 Γ c 17 l R∧0≤l
theorem Aj.of {Γ c:Ctx} {l:Int} {R:List Row} (h:AT 0 0 3 Γ c 12 l R) (hl:0≤l):Aj Γ R:=⟨_,l+5,h.mono ⟨by decide,by omega⟩,by omega⟩
theorem Aj.nil {Γ:Ctx}:Aj Γ []:=⟨_,0,AT.nil ⟨by decide,by decide⟩,by decide⟩
theorem Aj.plus {Γ c:Ctx} {l j k o y w:Int} {s:List Nat} {A R:List Row} {g:Row} (h:AT 0 0 3 Γ c 12 l R) (hl:0≤l) (C:Dc c 3 3 k o y w s A) (u:En 0 0 3 c c (j+1) j g):
  Aj Γ (R++[AZ 5 0 0 0 [] k o y s w A 0 0 0 [] 0 [] [AZ 9 0 0 0 [] 0 0 0 [] 0 [] 0 0 0 [] 0 [] [] []] [],g]):=by
 have x:AT 0 0 4 Γ c 17 (l+5) R:=h.mono ⟨by decide,by omega⟩
 have hb:IZ 0 0 1 c 2 1 [AZ 9 0 0 0 [] 0 0 0 [] 0 [] 0 0 0 [] 0 [] [] []]:=.mk (AT.one (En.Yu (.inl rfl) rfl ⟨by decide,by decide⟩) (by decide))
 have D:En 0 0 4 c c (l+5) (l+3) (AZ 5 0 0 0 [] k o y s w A 0 0 0 [] 0 [] [AZ 9 0 0 0 [] 0 0 0 [] 0 [] 0 0 0 [] 0 [] [] []] []):=
  En.Zf (d:=3) (D1:=1) (D2:=0) (a2:=0) (b2:=0) C hb (IZ.nil ⟨by decide,by decide⟩) ⟨by decide,by decide,by decide,by omega⟩
 have z:En 0 0 4 c c (l+3) l g:=u.mono ⟨by decide,by omega⟩
 have:=(x.snoc D).snoc z
 rw [List.append_assoc]at this
 exact ⟨_,l,this,hl⟩
theorem Aj.BU {Γ:Ctx} {c k o y w:Int} {s:List Nat} {A:List Row} {d:Row} (j:Dc Γ 3 3 k o y w s A) (g:En 0 0 3 Γ Γ (c+1) c d):
  Aj Γ [AZ 5 0 0 0 [] k o y s w A 0 0 0 [] 0 [] [AZ 9 0 0 0 [] 0 0 0 [] 0 [] 0 0 0 [] 0 [] [] []] [],d]:=
 Aj.plus (R:=[]) (l:=12) (AT.nil ⟨by decide,by decide⟩) (by decide) j g
def C1 (g sub:Int):Prop:=(sub=1∨sub=2∨sub=4∨sub=8)∧g%sub=0
def hrow (P R:List Row) (k o y:Int) (s:List Nat) (w:Int) (A:List Row):Row:=[.str [104],.list 2 P,.int .i64 1,.list 19 R,.int .i64 k,.int .i64 o,.int .i64 y,.str s,.int .i32 w,.list 6 A]
def B7 (g sub:Int) (d P c R:List Row):Prop:=d=Ax∧P=As∧0<R.length∧(g=4∨g=1∨g=2∨g=8∨g=6)∧C1 g sub∧
 ((c=[]∧Aj (bΓ 0) R)∨(∃(F:List Row) (k o y w:Int) (s:List Nat) (A:List Row),c=[hrow AD F k o y s w A]∧J7 F k o y w s A∧Aj (bΓ 1) R))
theorem B7.a {g sub:Int} {R:List Row} (hg:g=4∨g=1∨g=2∨g=8∨g=6) (hs:C1 g sub) (h:Aj (bΓ 0) R) (c:0<R.length):B7 g sub Ax As [] R:=⟨rfl,rfl,c,hg,hs,.inl ⟨rfl,h⟩⟩
theorem B7.b {g sub k o y w:Int} {s:List Nat} {P F A R:List Row} (hg:g=4∨g=1∨g=2∨g=8∨g=6) (hs:C1 g sub) (d:P=AD) (hf:J7 F k o y w s A) (h:Aj (bΓ 1) R) (c:0<R.length):B7 g sub Ax As [hrow P F k o y s w A] R:=by
 subst d
 exact ⟨rfl,rfl,c,hg,hs,.inr ⟨F,k,o,y,w,s,A,rfl,hf,h⟩⟩
theorem nv {trees:Nat→Tree} {Q:Out→Prop} {t:Tree} {v:Ah} (c:Ah) (h:W trees Q t c) (e:v=c:=by rfl):W trees Q t v:=by subst e;exact h
theorem MS.wide {E:Bool} {Γ:Ctx} {f K M M' bl pos vl count left call loads:Int} {B V:List Row} (h:MS E Γ f K M bl pos vl count left call loads B V) (k:M≤M'∧M'≤20000):MS E Γ f K M' bl pos vl count left call loads B V:=
 ⟨h.m,h.fr,h.c0,h.cl,h.l0,h.vc,h.p0,by have:=h.p1;omega,h.f0,⟨h.kk.1,k.2⟩,h.ex⟩
end Go.AM.K
end
section
namespace Go.AM.K
abbrev Rl:=List Nat→Int×Int×Int→Prop
def TL (Δ:Rl) (a:List E):Prop:=∀e∈a,∃t,TR Δ t e
section
variable {Δ:Rl} {t k o ty v:Int} {s:List Nat} {a:List E}
theorem TR.args (h:TR Δ t (.node k o ty v s a)):TL Δ a:=by
 cases h with
 |num=>intro e c;cases c
 |id=>intro e c;cases c
 |var=>intro e c;cases c
 |un _ h1=>intro e c;simp only [List.mem_cons,List.not_mem_nil,or_false]at c;subst c;exact ⟨_,h1⟩
 |bin _ h1 h2=>intro e c;simp only [List.mem_cons,List.not_mem_nil,or_false]at c;rcases c with rfl|rfl<;>first|exact ⟨_,h1⟩|exact ⟨_,h2⟩
 |cond h1 h2 h3=>intro e c;simp only [List.mem_cons,List.not_mem_nil,or_false]at c;rcases c with rfl|rfl|rfl<;>first|exact ⟨_,h1⟩|exact ⟨_,h2⟩|exact ⟨_,h3⟩
 |load _ _ _ _ h1=>intro e c;simp only [List.mem_cons,List.not_mem_nil,or_false]at c;subst c;exact ⟨_,h1⟩
 |call _ h1 h2=>intro e c;simp only [List.mem_cons,List.not_mem_nil,or_false]at c;rcases c with rfl|rfl<;>first|exact ⟨_,h1⟩|exact ⟨_,h2⟩
theorem TR.kind (h:TR Δ t (.node k o ty v s a)):1≤k∧k≤8∧a.length≤3:=by
 cases h<;>simp
theorem TR.nodes (h:TR Δ t (.node k o ty v s a)):(E.node k o ty v s a).nodes=1+E.Ae a:=by
 have:=h.kind
 rw [E.nodes,if_neg om]
theorem I2:(E.node k o ty v s a).high=1+E.B3 a:=by rw [E.high]
theorem TL.get (h:TL Δ a) (j:Int) (d:0≤j) (g:j<((E.Ab a).length:Int)):∃(k o t v:Int) (s:List Nat) (b:List E) (u:Int),
  (E.Ab a)[j.toNat]?=some [.int .i64 k,.int .i64 o,.int .i64 t,.str s,.int .i32 v,.list 6 (E.Ab b)]∧TR Δ u (.node k o t v s b)∧(E.node k o t v s b).high≤E.B3 a∧1≤(E.node k o t v s b).nodes∧(E.node k o t v s b).nodes+E.Ae (a.drop (j+1).toNat)=E.Ae (a.drop j.toNat):=by
 obtain ⟨k,o,t,v,s,b,g1,g2⟩:=E.get a j d g
 obtain ⟨u,c⟩:=h _ (List.mem_of_getElem? g2)
 refine ⟨k,o,t,v,s,b,u,g1,c,E.Ke g2,by have:=c.nodes;omega,?_⟩
 rw [show (j+1).toNat=j.toNat+1 by omega]
 exact E.KM g2
theorem NP {j:Int} (h:((E.Ab a).length:Int)≤j):E.Ae (a.drop j.toNat)=0:=by
 rw [E.Az]at h
 rw [List.drop_eq_nil_of_le om];rfl
theorem TR.len {Δ:Rl} (h:TL Δ a):(a.length:Int)≤E.Ae a:=by
 induction a with
 |nil=>simp [E.Ae]
 |cons e l ih=>
  have g:=ih fun x d=>h x (List.mem_cons_of_mem _ d)
  obtain ⟨u,c⟩:=h e List.mem_cons_self
  obtain ⟨k,o,t,v,s,b⟩:=e
  have:=c.nodes
  simp only [lC,E.Ae];omega
end
abbrev Bd (t:Int):Row:=[.int .i64 t]
inductive Ts (Γ:Ctx):List Int→List E→Prop
 |nil:Ts Γ [] []
 |cons {t:Int} {e:E} {ts:List Int} {a:List E}:T Γ t e→Ts Γ ts a→Ts Γ (t::ts) (e::a)
theorem Ts.len {Γ:Ctx}:∀{ts:List Int} {a:List E},Ts Γ ts a→ts.length=a.length
 |_,_,.nil=>rfl
 |_,_,.cons _ h=>by simp [h.len]
theorem Ts.at {Γ:Ctx}:∀{ts:List Int} {a:List E} (_:Ts Γ ts a) {i:Nat} {e:E},a[i]?=some e→∃t,ts[i]?=some t∧T Γ t e
 |_,_,.nil,i,e,h=>by simp at h
 |_,_,.cons h g,0,e,k=>by simp at k;subst k;exact ⟨_,rfl,h⟩
 |_,_,.cons h g,i+1,e,k=>by simpa using g.at (by simpa using k)
theorem Ts.get {Γ:Ctx} {ts:List Int} {a:List E} (h:Ts Γ ts a) (j:Int) (c:0≤j) (g:j<((E.Ab a).length:Int)):∃(k o t v:Int) (s:List Nat) (b:List E) (u:Int),
  (E.Ab a)[j.toNat]?=some [.int .i64 k,.int .i64 o,.int .i64 t,.str s,.int .i32 v,.list 6 (E.Ab b)]∧T Γ u (.node k o t v s b)∧(E.node k o t v s b).high≤E.B3 a∧ts[j.toNat]?=some u:=by
 obtain ⟨k,o,t,v,s,b,g1,g2⟩:=E.get a j c g
 obtain ⟨u,d,x⟩:=h.at g2
 exact ⟨k,o,t,v,s,b,u,g1,x,E.Ke g2,d⟩
theorem Ir {ts:List Int} {j u:Int} (h:ts[j.toNat]?=some u) (c:0≤j):(ts.take j.toNat).map Bd++[[PV.int .i64 u]]=(ts.take (j+1).toNat).map Bd:=by
 rw [show (j+1).toNat=j.toNat+1 by omega,List.take_add_one,h];simp [Bd]
theorem ZT {ts:List Int} {j:Int} (h:(ts.length:Int)≤j):(ts.take j.toNat).map Bd=ts.map Bd:=by
 rw [List.take_of_length_le om]
theorem ZG.rng {o t u:Int} (h:ZG o t u):1≤o∧o≤5∧1≤t∧t≤3∧1≤u∧u≤3:=by unfold ZG at h;omega
theorem Lt.rng {o t u:Int} (h:Lt o t u):10≤o∧o≤29∧1≤t∧t≤3∧1≤u∧u≤3:=by unfold Lt at h;omega
section
variable {Γ:Ctx} {t k o ty v:Int} {s:List Nat} {a:List E}
theorem TR.inv {Δ:Rl} (h:TR Δ t (.node k o ty v s a)):
  (k=1∧o=0∧ty=t∧s=[]∧a=[]∧1≤t∧t≤3∧(t=3→v=0∨v=1)∧(t=2→Fx v)∧-200000≤v∧v≤5000000)∨
  (k=3∧ty=0∧v=0∧s=[]∧a=[]∧t=1∧1≤o∧o≤7)∨
  (k=2∧o=0∧ty=0∧v=0∧a=[]∧Nm s∧∃kk i,(kk=2∨kk=3)∧1≤t∧t≤3∧Δ s (kk,t,i))∨
  (k=4∧ty=0∧v=0∧s=[]∧∃u y g j x d w,a=[.node u y g j x d]∧ZG o w t∧TR Δ w (.node u y g j x d))∨
  (k=5∧ty=0∧v=0∧s=[]∧∃u y g j x d C H D z A b2 w,a=[.node u y g j x d,.node C H D z A b2]∧Lt o w t∧TR Δ w (.node u y g j x d)∧TR Δ w (.node C H D z A b2))∨
  (k=6∧o=0∧ty=0∧v=0∧s=[]∧∃u y g j x d C H D z A b2 N J O Q M P,a=[.node u y g j x d,.node C H D z A b2,.node N J O Q M P]∧TR Δ 3 (.node u y g j x d)∧TR Δ t (.node C H D z A b2)∧TR Δ t (.node N J O Q M P))∨
  (k=7∧o=0∧ty=0∧v=0∧Nm s∧∃u y g j x d i,a=[.node u y g j x d]∧1≤t∧t≤3∧Δ s (0,t,i)∧TR Δ 1 (.node u y g j x d))∨
  (k=8∧o=0∧ty=0∧v=0∧s=[104]∧∃u y g j x d C H D z A b2 i,a=[.node u y g j x d,.node C H D z A b2]∧t=1∧Δ [104] (1,1,i)∧TR Δ 1 (.node u y g j x d)∧TR Δ 1 (.node C H D z A b2)):=by
 cases h with
 |num h1 h2 h3 h4 h5=>exact .inl ⟨rfl,rfl,rfl,rfl,rfl,h1,h2,h3,h4,h5⟩
 |id h1 h2=>exact .inr (.inl ⟨rfl,rfl,rfl,rfl,rfl,rfl,h1,h2⟩)
 |var h1 h2 h3 h4 h5=>exact .inr (.inr (.inl ⟨rfl,rfl,rfl,rfl,rfl,h1,_,_,h2,h3,h4,h5⟩))
 |@un _ _ _ a h1 h2=>
  obtain ⟨_,_,_,_,_,_⟩:=a
  exact .inr (.inr (.inr (.inl ⟨rfl,rfl,rfl,rfl,_,_,_,_,_,_,_,rfl,h1,h2⟩)))
 |@bin _ _ _ a b h1 h2 h3=>
  obtain ⟨_,_,_,_,_,_⟩:=a
  obtain ⟨_,_,_,_,_,_⟩:=b
  exact .inr (.inr (.inr (.inr (.inl ⟨rfl,rfl,rfl,rfl,_,_,_,_,_,_,_,_,_,_,_,_,_,rfl,h1,h2,h3⟩))))
 |@cond _ a b c h1 h2 h3=>
  obtain ⟨_,_,_,_,_,_⟩:=a
  obtain ⟨_,_,_,_,_,_⟩:=b
  obtain ⟨_,_,_,_,_,_⟩:=c
  exact .inr (.inr (.inr (.inr (.inr (.inl ⟨rfl,rfl,rfl,rfl,rfl,_,_,_,_,_,_,_,_,_,_,_,_,_,_,_,_,_,_,rfl,h1,h2,h3⟩)))))
 |@load _ _ _ a h1 h2 h3 h4 h5=>
  obtain ⟨_,_,_,_,_,_⟩:=a
  exact .inr (.inr (.inr (.inr (.inr (.inr (.inl ⟨rfl,rfl,rfl,rfl,h1,_,_,_,_,_,_,_,rfl,h2,h3,h4,h5⟩))))))
 |@call _ a b h1 h2 h3=>
  obtain ⟨_,_,_,_,_,_⟩:=a
  obtain ⟨_,_,_,_,_,_⟩:=b
  exact .inr (.inr (.inr (.inr (.inr (.inr (.inr ⟨rfl,rfl,rfl,rfl,rfl,_,_,_,_,_,_,_,_,_,_,_,_,_,rfl,rfl,h1,h2,h3⟩))))))
theorem T.inv (h:T Γ t (.node k o ty v s a)):
  (k=1∧o=0∧ty=t∧s=[]∧a=[]∧1≤t∧t≤3∧(t=3→v=0∨v=1)∧(t=2→Fx v)∧-200000≤v∧v≤5000000)∨
  (k=3∧ty=0∧v=0∧s=[]∧a=[]∧t=1∧1≤o∧o≤7)∨
  (k=2∧o=0∧ty=0∧v=0∧a=[]∧Nm s∧∃kk i,(kk=2∨kk=3)∧1≤t∧t≤3∧Γ s=some (kk,t,i))∨
  (k=4∧ty=0∧v=0∧s=[]∧∃j x d g u c w,a=[.node j x d g u c]∧ZG o w t∧T Γ w (.node j x d g u c))∨
  (k=5∧ty=0∧v=0∧s=[]∧∃j x d g u c A D C y z b2 w,a=[.node j x d g u c,.node A D C y z b2]∧Lt o w t∧T Γ w (.node j x d g u c)∧T Γ w (.node A D C y z b2))∨
  (k=6∧o=0∧ty=0∧v=0∧s=[]∧∃j x d g u c A D C y z b2 M H N P J O,a=[.node j x d g u c,.node A D C y z b2,.node M H N P J O]∧T Γ 3 (.node j x d g u c)∧T Γ t (.node A D C y z b2)∧T Γ t (.node M H N P J O))∨
  (k=7∧o=0∧ty=0∧v=0∧Nm s∧∃j x d g u c i,a=[.node j x d g u c]∧1≤t∧t≤3∧Γ s=some (0,t,i)∧T Γ 1 (.node j x d g u c))∨
  (k=8∧o=0∧ty=0∧v=0∧s=[104]∧∃j x d g u c A D C y z b2 i,a=[.node j x d g u c,.node A D C y z b2]∧t=1∧Γ [104]=some (1,1,i)∧T Γ 1 (.node j x d g u c)∧T Γ 1 (.node A D C y z b2)):=TR.inv h
theorem n1 {x:E}:E.Ae [x]=x.nodes:=by simp only [E.Ae];omega
theorem n2 {x y:E}:E.Ae [x,y]=x.nodes+y.nodes:=by simp only [E.Ae];omega
theorem n3 {x y z:E}:E.Ae [x,y,z]=x.nodes+y.nodes+z.nodes:=by simp only [E.Ae];omega
theorem g1 {x:E}:E.B3 [x]=x.high:=by simp only [E.B3];omega
theorem g2 {x y:E}:E.B3 [x,y]=max x.high y.high:=by simp only [E.B3];omega
theorem g3 {x y z:E}:E.B3 [x,y,z]=max x.high (max y.high z.high):=by simp only [E.B3];omega
end
def NH (s:List Nat):Tree→Option Nat
 |.leaf a _ ⟨[],[],[],[]⟩=>some a
 |.sets 0 l t e=>if s=l then NH s t else NH s e
 |_=>none
theorem NG {trees:Nat→Tree} {Q:Out→Prop} {s:List Nat} {a:Nat}:∀(t:Tree),NH s t=some a→Q (a,⟨[],[],[],[]⟩)→W trees Q t ⟨[],[s],[],[]⟩
 |.leaf b nw ⟨[],[],[],[]⟩,h,hq=>by
  simp only [NH,oI]at h
  subst h;exact hq
 |.sets 0 l t e,h,hq=>by
  simp only [NH]at h
  refine ss s (fun k=>?_) fun k=>?_
  ·rw [if_pos k]at h;exact NG t h hq
  ·rw [if_neg k]at h;exact NG e h hq
theorem Ok.str {trees:Nat→Tree} {c:Nat} {s:List Nat} {R:Out→Prop} {t:Tree} {a:Nat} (d:trees c=t) (h:NH s t=some a) (g:R (a,⟨[],[],[],[]⟩)):Ok trees c ⟨[],[s],[],[]⟩ R:=.of d (NG t h g)
structure Ck (Γ:Ctx) (al fl:Int) (Ar Fs:List Row) (m:List (List Nat×List PV)):Prop where
 see:∀s,BK m s=(Γ s).map fun z=>[PV.int .i64 z.1,PV.int .i64 z.2.1,PV.int .i64 z.2.2]
 ha:al=Ar.length
 hf:fl=Fs.length
 ar:∀s t i,Γ s=some (0,t,i)→0≤i∧i<al∧∃(nm:List Nat) (sp ln:Int),Ar[i.toNat]?=some [.str nm,.int .i64 sp,.int .i64 t,.int .i64 ln]∧(i=0∨i=2→sp≠3)
 fn:∀i,Γ [104]=some (1,1,i)→0≤i∧i<fl∧∃(F:List Row) (k o y w:Int) (s:List Nat) (A:List Row),Fs[i.toNat]?=some [.str [104],.list 2 AD,.int .i64 1,.list 19 F,.int .i64 k,.int .i64 o,.int .i64 y,.str s,.int .i32 w,.list 6 A]
theorem Ck.look {Γ:Ctx} {c fl:Int} {d j:List Row} {m:List (List Nat×List PV)} (h:Ck Γ c fl d j m) {s:List Nat} {k t i:Int} (g:Γ s=some (k,t,i)):BK m s=some [PV.int .i64 k,PV.int .i64 t,PV.int .i64 i]:=by
 rw [h.see,g];rfl
theorem Ck.Alz {Γ:Ctx} {c fl:Int} {d j:List Row} {m:List (List Nat×List PV)} (h:Ck Γ c fl d j m) {s:List Nat} (g:Γ s=none):BK m s=none:=by
 rw [h.see,g];rfl
theorem PU (j:Int) (c:0≤j) (d:j<2):∃nm:List Nat,AD[j.toNat]?=some [.str nm,.int .i64 1]:=by
 have:j=0∨j=1:=by omega
 rcases this with rfl|rfl
 ·exact ⟨[120],rfl⟩
 ·exact ⟨[121],rfl⟩
theorem Tp (j:Int) (c:0≤j) (d:j<2):([1,1].map Bd)[j.toNat]?=some [PV.int .i64 1]:=by
 have:j=0∨j=1:=by omega
 rcases this with rfl|rfl<;>rfl
theorem Ts.none {Γ:Ctx} {ts:List Int} {a:List E} (h:Ts Γ ts a) (c:((E.Ab a).length:Int)≤0):ts=[]:=by
 rw [E.Az]at c
 have:=h.len
 exact List.eq_nil_of_length_eq_zero om
theorem Ts.end {Γ:Ctx} {ts:List Int} {a:List E} (h:Ts Γ ts a) {j:Int} (c:((E.Ab a).length:Int)≤j):(ts.take j.toNat).map Bd=ts.map Bd:=by
 rw [E.Az]at c
 exact ZT (by rw [h.len];omega)
theorem Ts.Da {ts:List Int}:((ts.map Bd).length:Int)=ts.length:=by simp
theorem S.len:∀l:List S,l.length≤S.Ae l
 |[]=>by simp
 |s::l=>by
  have:=S.len l
  obtain ⟨_,_,_,_,_,_,_,_,_⟩:=s
  simp only [lC,S.Ae,S.nodes];omega
end Go.AM.K
end
section
namespace Go.AM.K
def EOR (Δ:Rl) (e:E):Prop:=e=E0∨((∃t,TR Δ t e)∧e.high≤5)
abbrev EOk (Γ:Ctx) (e:E):Prop:=EOR (fun s z=>Γ s=some z) e
def No (k o t v:Int) (s:List Nat) (a:List E):Prop:=k=0∧o=0∧t=0∧v=0∧s=[]∧a=[]
theorem No.of {k o t v:Int} {s:List Nat} {a:List E} (h:E.node k o t v s a=E0):No k o t v s a:=by
 unfold E0 at h
 simp only [E.node.injEq]at h
 exact h
theorem No.eq {k o t v:Int} {s:List Nat} {a:List E} (h:No k o t v s a):E.node k o t v s a=E0:=by
 obtain ⟨rfl,rfl,rfl,rfl,rfl,rfl⟩:=h;rfl
section
variable {lo pu:Int} {Γ Γ':Ctx} {k o t b xk xo xt xv yk yo yt yv:Int} {nm xn yn:List Nat} {xa ya:List E} {bo el:List S}
theorem Es.inv (h:Es lo pu Γ (.node k o t b nm (.node xk xo xt xv xn xa) (.node yk yo yt yv yn ya) bo el) Γ'):
  (k=1∧o=0∧b=0∧No yk yo yt yv yn ya∧bo=[]∧el=[]∧Nm nm∧Γ nm=none∧1≤t∧t≤3∧T Γ t (.node xk xo xt xv xn xa)∧(E.node xk xo xt xv xn xa).high≤5∧Γ'=Γ.Gj nm (3,t,0))∨
  (k=2∧o=0∧t=0∧b=0∧No yk yo yt yv yn ya∧bo=[]∧el=[]∧Nm nm∧Γ'=Γ∧∃u i,Γ nm=some (3,u,i)∧T Γ u (.node xk xo xt xv xn xa)∧(E.node xk xo xt xv xn xa).high≤5)∨
  (k=3∧o=0∧t=0∧b=0∧bo=[]∧el=[]∧pu=0∧Nm nm∧Γ'=Γ∧∃u i,0≤i∧i≤4∧Γ nm=some (0,u,i)∧T Γ 1 (.node xk xo xt xv xn xa)∧T Γ u (.node yk yo yt yv yn ya)∧(E.node xk xo xt xv xn xa).high≤5∧(E.node yk yo yt yv yn ya).high≤5)∨
  (k=4∧t=0∧b=0∧bo=[]∧el=[]∧pu=0∧Nm nm∧Γ'=Γ∧∃i,(i=0∨i=2)∧Γ nm=some (0,1,i)∧(o=10∨o=17∨o=18∨o=19∨o=22∨o=23)∧T Γ 1 (.node xk xo xt xv xn xa)∧T Γ 1 (.node yk yo yt yv yn ya)∧(E.node xk xo xt xv xn xa).high≤5∧(E.node yk yo yt yv yn ya).high≤5)∨
  (k=5∧o=0∧t=0∧b=0∧nm=[]∧No yk yo yt yv yn ya∧T Γ 3 (.node xk xo xt xv xn xa)∧(E.node xk xo xt xv xn xa).high≤5∧Γ'=Γ∧∃c d,DG lo pu Γ bo c∧DG lo pu Γ el d)∨
  (k=6∧o=0∧t=0∧nm=[]∧No yk yo yt yv yn ya∧el=[]∧T Γ 3 (.node xk xo xt xv xn xa)∧(E.node xk xo xt xv xn xa).high≤5∧1≤b∧b≤4∧Γ'=Γ∧∃c,DG 1 pu Γ bo c)∨
  ((k=7∨k=8)∧o=0∧t=0∧b=0∧nm=[]∧No xk xo xt xv xn xa∧No yk yo yt yv yn ya∧bo=[]∧el=[]∧lo≠0∧Γ'=Γ)∨
  ((k=9∨k=10)∧o=0∧t=0∧b=0∧nm=[]∧No xk xo xt xv xn xa∧No yk yo yt yv yn ya∧bo=[]∧el=[]∧pu=0∧Γ'=Γ)∨
  (k=11∧(o=1∨o=2)∧t=0∧b=0∧nm=[]∧No xk xo xt xv xn xa∧No yk yo yt yv yn ya∧bo=[]∧el=[]∧pu=0∧Γ'=Γ)∨
  (k=12∧t=0∧b=0∧No yk yo yt yv yn ya∧bo=[]∧el=[]∧pu=0∧Nm nm∧Γ'=Γ∧∃u w i,Γ nm=some (3,u,i)∧1≤u∧u≤3∧((o=1∧u=1∧w=3)∨((o=2∨o=3)∧u=3∧w=3)∨((o=5∨o=6)∧u≠3∧w=u))∧T Γ w (.node xk xo xt xv xn xa)∧(E.node xk xo xt xv xn xa).high≤5)∨
  (k=12∧o=4∧t=0∧b=0∧bo=[]∧el=[]∧pu=0∧Nm nm∧Γ'=Γ∧∃u i,Γ nm=some (3,u,i)∧1≤u∧u≤3∧T Γ u (.node xk xo xt xv xn xa)∧T Γ 1 (.node yk yo yt yv yn ya)∧(E.node xk xo xt xv xn xa).high≤5∧(E.node yk yo yt yv yn ya).high≤5):=by
 generalize hx:E.node xk xo xt xv xn xa=x at h⊢
 generalize hy:E.node yk yo yt yv yn ya=y at h⊢
 cases h with
 |var h1 _ h2 h3 h4 h5 h6=>exact .inl ⟨rfl,rfl,rfl,.of hy,rfl,rfl,h1,h2,h3,h4,h5,h6,rfl⟩
 |set h1 h2 h3 h4=>exact .inr (.inl ⟨rfl,rfl,rfl,rfl,.of hy,rfl,rfl,h1,rfl,_,_,h2,h3,h4⟩)
 |store h1 h2 h3 h4 h5 h6 h7 h8=>exact .inr (.inr (.inl ⟨rfl,rfl,rfl,rfl,rfl,rfl,rfl,h1,rfl,_,_,h2,h3,h4,h5,h6,h7,h8⟩))
 |atom h1 h2 h3 h4 h5 h6 h7 h8=>exact .inr (.inr (.inr (.inl ⟨rfl,rfl,rfl,rfl,rfl,rfl,h1,rfl,_,h2,h3,h4,h5,h6,h7,h8⟩)))
 |Zf h1 h2 h3 h4=>exact .inr (.inr (.inr (.inr (.inl ⟨rfl,rfl,rfl,rfl,rfl,.of hy,h1,h2,rfl,_,_,h3,h4⟩))))
 |Uv h1 h2 h3 h4 h5=>exact .inr (.inr (.inr (.inr (.inr (.inl ⟨rfl,rfl,rfl,rfl,.of hy,rfl,h1,h2,h3,h4,rfl,_,h5⟩)))))
 |esc h1 h2=>exact .inr (.inr (.inr (.inr (.inr (.inr (.inl ⟨h1,rfl,rfl,rfl,rfl,.of hx,.of hy,rfl,rfl,h2,rfl⟩))))))
 |Yu h1=>exact .inr (.inr (.inr (.inr (.inr (.inr (.inr (.inl ⟨h1,rfl,rfl,rfl,rfl,.of hx,.of hy,rfl,rfl,rfl,rfl⟩)))))))
 |Hq h1=>exact .inr (.inr (.inr (.inr (.inr (.inr (.inr (.inr (.inl ⟨rfl,h1,rfl,rfl,rfl,.of hx,.of hy,rfl,rfl,rfl,rfl⟩))))))))
 |Mj h1 h2 h3 h4 h5 h6 h7=>exact .inr (.inr (.inr (.inr (.inr (.inr (.inr (.inr (.inr (.inl ⟨rfl,rfl,rfl,.of hy,rfl,rfl,rfl,h1,rfl,_,_,_,h2,h3,h4,h5,h6,h7⟩)))))))))
 |Mi h1 h2 h3 h4 h5 h6 h7 h8=>exact .inr (.inr (.inr (.inr (.inr (.inr (.inr (.inr (.inr (.inr ⟨rfl,rfl,rfl,rfl,rfl,rfl,rfl,h1,rfl,_,_,h2,h3,h4,h5,h6,h7,h8⟩)))))))))
theorem Es.exprs {s:S} (h:Es lo pu Γ s Γ'):∃k o t b nm x y bo el,s=.node k o t b nm x y bo el∧EOk Γ x∧EOk Γ y∧∃g j d c,DG g pu Γ bo d∧DG j pu Γ el c:=by
 cases h with
 |var h1 _ h2 h3 h4 h5 h6=>exact ⟨_,_,_,_,_,_,_,_,_,rfl,.inr ⟨⟨_,h5⟩,h6⟩,.inl rfl,0,0,_,_,.nil,.nil⟩
 |set h1 h2 h3 h4=>exact ⟨_,_,_,_,_,_,_,_,_,rfl,.inr ⟨⟨_,h3⟩,h4⟩,.inl rfl,0,0,_,_,.nil,.nil⟩
 |store h1 h2 h3 h4 h5 h6 h7 h8=>exact ⟨_,_,_,_,_,_,_,_,_,rfl,.inr ⟨⟨_,h5⟩,h7⟩,.inr ⟨⟨_,h6⟩,h8⟩,0,0,_,_,.nil,.nil⟩
 |atom h1 h2 h3 h4 h5 h6 h7 h8=>exact ⟨_,_,_,_,_,_,_,_,_,rfl,.inr ⟨⟨_,h5⟩,h7⟩,.inr ⟨⟨_,h6⟩,h8⟩,0,0,_,_,.nil,.nil⟩
 |Zf h1 h2 h3 h4=>exact ⟨_,_,_,_,_,_,_,_,_,rfl,.inr ⟨⟨_,h1⟩,h2⟩,.inl rfl,_,_,_,_,h3,h4⟩
 |Uv h1 h2 h3 h4 h5=>exact ⟨_,_,_,_,_,_,_,_,_,rfl,.inr ⟨⟨_,h1⟩,h2⟩,.inl rfl,_,0,_,_,h5,.nil⟩
 |esc h1 h2=>exact ⟨_,_,_,_,_,_,_,_,_,rfl,.inl rfl,.inl rfl,0,0,_,_,.nil,.nil⟩
 |Yu h1=>exact ⟨_,_,_,_,_,_,_,_,_,rfl,.inl rfl,.inl rfl,0,0,_,_,.nil,.nil⟩
 |Hq h1=>exact ⟨_,_,_,_,_,_,_,_,_,rfl,.inl rfl,.inl rfl,0,0,_,_,.nil,.nil⟩
 |Mj h1 h2 h3 h4 h5 h6 h7=>exact ⟨_,_,_,_,_,_,_,_,_,rfl,.inr ⟨⟨_,h6⟩,h7⟩,.inl rfl,0,0,_,_,.nil,.nil⟩
 |Mi h1 h2 h3 h4 h5 h6 h7 h8=>exact ⟨_,_,_,_,_,_,_,_,_,rfl,.inr ⟨⟨_,h5⟩,h7⟩,.inr ⟨⟨_,h6⟩,h8⟩,0,0,_,_,.nil,.nil⟩
theorem DG.get {l:List S} (j:Int) (h:DG lo pu Γ (l.drop j.toNat) Γ') (u:0≤j) (c:j<((S.Ab l).length:Int)):∃(k o t b:Int) (nm:List Nat) (xk xo xt xv:Int) (xn:List Nat) (xa:List E) (yk yo yt yv:Int) (yn:List Nat) (ya:List E) (bo el:List S) (g:Ctx),
  (S.Ab l)[j.toNat]?=some [.int .i64 k,.int .i64 o,.int .i64 t,.int .i64 b,.str nm,.int .i64 xk,.int .i64 xo,.int .i64 xt,.str xn,.int .i32 xv,.list 6 (E.Ab xa),.int .i64 yk,.int .i64 yo,.int .i64 yt,.str yn,.int .i32 yv,.list 6 (E.Ab ya),.list 19 (S.Ab bo),.list 19 (S.Ab el)]∧
  Es lo pu Γ (.node k o t b nm (.node xk xo xt xv xn xa) (.node yk yo yt yv yn ya) bo el) g∧DG lo pu g (l.drop (j+1).toNat) Γ'∧
  S.Ae (l.drop j.toNat)=1+(E.node xk xo xt xv xn xa).nodes+(E.node yk yo yt yv yn ya).nodes+S.Ae bo+S.Ae el+S.Ae (l.drop (j+1).toNat)∧
  S.Au (l.drop j.toNat)=max (1+max (S.Au bo) (S.Au el)) (S.Au (l.drop (j+1).toNat)):=by
 rw [S.Az]at c
 have d:j.toNat<l.length:=by omega
 have hd:l.drop j.toNat=l[j.toNat]::l.drop (j+1).toNat:=by
  rw [show (j+1).toNat=j.toNat+1 by omega];exact List.drop_eq_getElem_cons d
 rw [hd]at h⊢
 generalize he:l[j.toNat]=s at h⊢
 obtain ⟨k,o,t,b,nm,⟨xk,xo,xt,xv,xn,xa⟩,⟨yk,yo,yt,yv,yn,ya⟩,bo,el⟩:=s
 cases h with
 |cons c h2=>
  exact ⟨k,o,t,b,nm,xk,xo,xt,xv,xn,xa,yk,yo,yt,yv,yn,ya,bo,el,_,by rw [S.DE,List.getElem?_eq_getElem d,he];rfl,c,h2,rfl,rfl⟩
theorem Es.parts (h:Es lo pu Γ (.node k o t b nm (.node xk xo xt xv xn xa) (.node yk yo yt yv yn ya) bo el) Γ'):(∀e∈[E.node xk xo xt xv xn xa,.node yk yo yt yv yn ya],EOk Γ e)∧∃A C z j,DG A pu Γ bo z∧DG C pu Γ el j:=by
 obtain ⟨_,_,_,_,_,x,y,_,_,e,d,u,g⟩:=h.exprs
 simp only [S.node.injEq]at e
 obtain ⟨_,_,_,_,_,rfl,rfl,rfl,rfl⟩:=e
 refine ⟨fun e c=>?_,g⟩
 simp only [List.mem_cons,List.not_mem_nil,or_false]at c
 rcases c with rfl|rfl
 ·exact d
 ·exact u
theorem Bs {l:List S} {j:Int} (h:((S.Ab l).length:Int)≤j):S.Ae (l.drop j.toNat)=0∧S.Au (l.drop j.toNat)=0∧l.drop j.toNat=[]:=by
 rw [S.Az]at h
 rw [List.drop_eq_nil_of_le om];exact ⟨rfl,rfl,rfl⟩
theorem EL.get {a:List E} {Δ:Rl} (h:∀e∈a,EOR Δ e) (j:Int) (d:0≤j) (g:j<((E.Ab a).length:Int)):∃(k o t v:Int) (s:List Nat) (b:List E) (u:Int),
  (E.Ab a)[j.toNat]?=some [.int .i64 k,.int .i64 o,.int .i64 t,.str s,.int .i32 v,.list 6 (E.Ab b)]∧(k≠0→TR Δ u (.node k o t v s b))∧(k≠0→(E.node k o t v s b).high≤5)∧(k=0→(E.node k o t v s b).nodes=0)∧(E.node k o t v s b).nodes+E.Ae (a.drop (j+1).toNat)=E.Ae (a.drop j.toNat):=by
 obtain ⟨k,o,t,v,s,b,g1,g2⟩:=E.get a j d g
 have c:=E.KM g2
 rw [show j.toNat+1=(j+1).toNat by omega]at c
 rcases h _ (List.mem_of_getElem? g2)with e|⟨⟨u,hu⟩,hh⟩
 ·obtain ⟨rfl,rfl,rfl,rfl,rfl,rfl⟩:=No.of e
  exact ⟨0,0,0,0,[],[],0,g1,fun h=>absurd rfl h,fun h=>absurd rfl h,fun _=>rfl,c⟩
 ·refine ⟨k,o,t,v,s,b,u,g1,fun _=>hu,fun _=>hh,fun h=>?_,c⟩
  have:=hu.kind;omega
theorem Es.Al2 (h:Es lo pu Γ (.node k o t b nm (.node xk xo xt xv xn xa) (.node yk yo yt yv yn ya) bo el) Γ') (c:k=1):o=0∧b=0∧No yk yo yt yv yn ya∧bo=[]∧el=[]∧Nm nm∧Γ nm=none∧1≤t∧t≤3∧T Γ t (.node xk xo xt xv xn xa)∧(E.node xk xo xt xv xn xa).high≤5∧Γ'=Γ.Gj nm (3,t,0):=by
 rcases h.inv with hv|hv|hv|hv|hv|hv|hv|hv|hv|hv|hv
 ·exact hv.2
 ·exfalso;have:=hv.1;omega
 ·exfalso;have:=hv.1;omega
 ·exfalso;have:=hv.1;omega
 ·exfalso;have:=hv.1;omega
 ·exfalso;have:=hv.1;omega
 ·exfalso;have:=hv.1;omega
 ·exfalso;have:=hv.1;omega
 ·exfalso;have:=hv.1;omega
 ·exfalso;have:=hv.1;omega
 ·exfalso;have:=hv.1;omega
theorem Es.Al3 (h:Es lo pu Γ (.node k o t b nm (.node xk xo xt xv xn xa) (.node yk yo yt yv yn ya) bo el) Γ') (c:k=2):o=0∧t=0∧b=0∧No yk yo yt yv yn ya∧bo=[]∧el=[]∧Nm nm∧Γ'=Γ∧∃u i,Γ nm=some (3,u,i)∧T Γ u (.node xk xo xt xv xn xa)∧(E.node xk xo xt xv xn xa).high≤5:=by
 rcases h.inv with hv|hv|hv|hv|hv|hv|hv|hv|hv|hv|hv
 ·exfalso;have:=hv.1;omega
 ·exact hv.2
 ·exfalso;have:=hv.1;omega
 ·exfalso;have:=hv.1;omega
 ·exfalso;have:=hv.1;omega
 ·exfalso;have:=hv.1;omega
 ·exfalso;have:=hv.1;omega
 ·exfalso;have:=hv.1;omega
 ·exfalso;have:=hv.1;omega
 ·exfalso;have:=hv.1;omega
 ·exfalso;have:=hv.1;omega
theorem Es.Air (h:Es lo pu Γ (.node k o t b nm (.node xk xo xt xv xn xa) (.node yk yo yt yv yn ya) bo el) Γ') (c:k=3):o=0∧t=0∧b=0∧bo=[]∧el=[]∧pu=0∧Nm nm∧Γ'=Γ∧∃u i,0≤i∧i≤4∧Γ nm=some (0,u,i)∧T Γ 1 (.node xk xo xt xv xn xa)∧T Γ u (.node yk yo yt yv yn ya)∧(E.node xk xo xt xv xn xa).high≤5∧(E.node yk yo yt yv yn ya).high≤5:=by
 rcases h.inv with hv|hv|hv|hv|hv|hv|hv|hv|hv|hv|hv
 ·exfalso;have:=hv.1;omega
 ·exfalso;have:=hv.1;omega
 ·exact hv.2
 ·exfalso;have:=hv.1;omega
 ·exfalso;have:=hv.1;omega
 ·exfalso;have:=hv.1;omega
 ·exfalso;have:=hv.1;omega
 ·exfalso;have:=hv.1;omega
 ·exfalso;have:=hv.1;omega
 ·exfalso;have:=hv.1;omega
 ·exfalso;have:=hv.1;omega
theorem Es.Al5 (h:Es lo pu Γ (.node k o t b nm (.node xk xo xt xv xn xa) (.node yk yo yt yv yn ya) bo el) Γ') (c:k=4):t=0∧b=0∧bo=[]∧el=[]∧pu=0∧Nm nm∧Γ'=Γ∧∃i,(i=0∨i=2)∧Γ nm=some (0,1,i)∧(o=10∨o=17∨o=18∨o=19∨o=22∨o=23)∧T Γ 1 (.node xk xo xt xv xn xa)∧T Γ 1 (.node yk yo yt yv yn ya)∧(E.node xk xo xt xv xn xa).high≤5∧(E.node yk yo yt yv yn ya).high≤5:=by
 rcases h.inv with hv|hv|hv|hv|hv|hv|hv|hv|hv|hv|hv
 ·exfalso;have:=hv.1;omega
 ·exfalso;have:=hv.1;omega
 ·exfalso;have:=hv.1;omega
 ·exact hv.2
 ·exfalso;have:=hv.1;omega
 ·exfalso;have:=hv.1;omega
 ·exfalso;have:=hv.1;omega
 ·exfalso;have:=hv.1;omega
 ·exfalso;have:=hv.1;omega
 ·exfalso;have:=hv.1;omega
 ·exfalso;have:=hv.1;omega
theorem Es.kif (h:Es lo pu Γ (.node k o t b nm (.node xk xo xt xv xn xa) (.node yk yo yt yv yn ya) bo el) Γ') (g:k=5):o=0∧t=0∧b=0∧nm=[]∧No yk yo yt yv yn ya∧T Γ 3 (.node xk xo xt xv xn xa)∧(E.node xk xo xt xv xn xa).high≤5∧Γ'=Γ∧∃d c,DG lo pu Γ bo d∧DG lo pu Γ el c:=by
 rcases h.inv with hv|hv|hv|hv|hv|hv|hv|hv|hv|hv|hv
 ·exfalso;have:=hv.1;omega
 ·exfalso;have:=hv.1;omega
 ·exfalso;have:=hv.1;omega
 ·exfalso;have:=hv.1;omega
 ·exact hv.2
 ·exfalso;have:=hv.1;omega
 ·exfalso;have:=hv.1;omega
 ·exfalso;have:=hv.1;omega
 ·exfalso;have:=hv.1;omega
 ·exfalso;have:=hv.1;omega
 ·exfalso;have:=hv.1;omega
theorem Es.Al1 (h:Es lo pu Γ (.node k o t b nm (.node xk xo xt xv xn xa) (.node yk yo yt yv yn ya) bo el) Γ') (d:k=6):o=0∧t=0∧nm=[]∧No yk yo yt yv yn ya∧el=[]∧T Γ 3 (.node xk xo xt xv xn xa)∧(E.node xk xo xt xv xn xa).high≤5∧1≤b∧b≤4∧Γ'=Γ∧∃c,DG 1 pu Γ bo c:=by
 rcases h.inv with hv|hv|hv|hv|hv|hv|hv|hv|hv|hv|hv
 ·exfalso;have:=hv.1;omega
 ·exfalso;have:=hv.1;omega
 ·exfalso;have:=hv.1;omega
 ·exfalso;have:=hv.1;omega
 ·exfalso;have:=hv.1;omega
 ·exact hv.2
 ·exfalso;have:=hv.1;omega
 ·exfalso;have:=hv.1;omega
 ·exfalso;have:=hv.1;omega
 ·exfalso;have:=hv.1;omega
 ·exfalso;have:=hv.1;omega
theorem Es.Ao7 (h:Es lo pu Γ (.node k o t b nm (.node xk xo xt xv xn xa) (.node yk yo yt yv yn ya) bo el) Γ') (c:k=12):(t=0∧b=0∧No yk yo yt yv yn ya∧bo=[]∧el=[]∧pu=0∧Nm nm∧Γ'=Γ∧∃u w i,Γ nm=some (3,u,i)∧1≤u∧u≤3∧((o=1∧u=1∧w=3)∨((o=2∨o=3)∧u=3∧w=3)∨((o=5∨o=6)∧u≠3∧w=u))∧T Γ w (.node xk xo xt xv xn xa)∧(E.node xk xo xt xv xn xa).high≤5)∨(o=4∧t=0∧b=0∧bo=[]∧el=[]∧pu=0∧Nm nm∧Γ'=Γ∧∃u i,Γ nm=some (3,u,i)∧1≤u∧u≤3∧T Γ u (.node xk xo xt xv xn xa)∧T Γ 1 (.node yk yo yt yv yn ya)∧(E.node xk xo xt xv xn xa).high≤5∧(E.node yk yo yt yv yn ya).high≤5):=by
 rcases h.inv with hv|hv|hv|hv|hv|hv|hv|hv|hv|hv|hv
 ·exfalso;have:=hv.1;omega
 ·exfalso;have:=hv.1;omega
 ·exfalso;have:=hv.1;omega
 ·exfalso;have:=hv.1;omega
 ·exfalso;have:=hv.1;omega
 ·exfalso;have:=hv.1;omega
 ·exfalso;have:=hv.1;omega
 ·exfalso;have:=hv.1;omega
 ·exfalso;have:=hv.1;omega
 ·exact .inl hv.2
 ·exact .inr hv.2
theorem Es.same (h:Es lo pu Γ (.node k o t b nm (.node xk xo xt xv xn xa) (.node yk yo yt yv yn ya) bo el) Γ') (c:k≠1):Γ'=Γ:=by
 rcases h.inv with hv|hv|hv|hv|hv|hv|hv|hv|hv|hv|hv
 ·exfalso;have:=hv.1;omega
 ·exact hv.2.2.2.2.2.2.2.2.1
 ·exact hv.2.2.2.2.2.2.2.2.1
 ·exact hv.2.2.2.2.2.2.2.1
 ·exact hv.2.2.2.2.2.2.2.2.1
 ·exact hv.2.2.2.2.2.2.2.2.2.2.1
 ·exact hv.2.2.2.2.2.2.2.2.2.2
 ·exact hv.2.2.2.2.2.2.2.2.2.2
 ·exact hv.2.2.2.2.2.2.2.2.2.2
 ·exact hv.2.2.2.2.2.2.2.2.1
 ·exact hv.2.2.2.2.2.2.2.2.1
theorem Es.kinds (h:Es lo pu Γ (.node k o t b nm (.node xk xo xt xv xn xa) (.node yk yo yt yv yn ya) bo el) Γ'):1≤k∧k≤12:=by
 rcases h.inv with hv|hv|hv|hv|hv|hv|hv|hv|hv|hv|hv<;>(have:=hv.1;omega)
theorem Es.AbT (h:Es lo pu Γ (.node k o t b nm (.node xk xo xt xv xn xa) (.node yk yo yt yv yn ya) bo el) Γ'):k=7∨k=8→lo≠0:=by
 intro c
 rcases h.inv with hv|hv|hv|hv|hv|hv|hv|hv|hv|hv|hv
 ·exfalso;have:=hv.1;omega
 ·exfalso;have:=hv.1;omega
 ·exfalso;have:=hv.1;omega
 ·exfalso;have:=hv.1;omega
 ·exfalso;have:=hv.1;omega
 ·exfalso;have:=hv.1;omega
 ·exact hv.2.2.2.2.2.2.2.2.2.1
 ·exfalso;have:=hv.1;omega
 ·exfalso;have:=hv.1;omega
 ·exfalso;have:=hv.1;omega
 ·exfalso;have:=hv.1;omega
theorem Es.pure (h:Es lo pu Γ (.node k o t b nm (.node xk xo xt xv xn xa) (.node yk yo yt yv yn ya) bo el) Γ'):3≤k→k≤4∨9≤k→pu=0:=by
 intro _ c
 rcases h.inv with hv|hv|hv|hv|hv|hv|hv|hv|hv|hv|hv
 ·exfalso;have:=hv.1;omega
 ·exfalso;have:=hv.1;omega
 ·exact hv.2.2.2.2.2.2.1
 ·exact hv.2.2.2.2.2.1
 ·exfalso;have:=hv.1;omega
 ·exfalso;have:=hv.1;omega
 ·exfalso;have:=hv.1;omega
 ·exact hv.2.2.2.2.2.2.2.2.2.1
 ·exact hv.2.2.2.2.2.2.2.2.2.1
 ·exact hv.2.2.2.2.2.2.1
 ·exact hv.2.2.2.2.2.2.1
end
theorem Vq (m:List (List Nat×List PV)) (k c:List Nat) (v:List PV):BK (Bj m k v) c=if c=k then some v else BK m c:=by
 induction m with
 |nil=>
  simp only [Bj,BK]
  by_cases h:c=k
  ·subst h;simp
  ·rw [if_neg h,if_neg (fun e=>h e.symm)]
 |cons e r ih=>
  simp only [Bj]
  by_cases h:e.1=k
  ·rw [if_pos h]
   simp only [BK]
   by_cases h':c=k
   ·subst h';simp
   ·rw [if_neg (fun e=>h' e.symm),if_neg h',if_neg (fun x=>h' (x.symm.trans h))]
  ·rw [if_neg h]
   simp only [BK,ih]
   by_cases h':e.1=c
   ·rw [if_pos h',if_pos h',if_neg (fun x=>h (h'.trans x))]
   ·rw [if_neg h',if_neg h']
section
variable {Γ:Ctx} {al fl:Int} {Ar Fs:List Row} {mp:List (List Nat×List PV)}
theorem Ck.Gj (h:Ck Γ al fl Ar Fs mp) {s:List Nat} {t:Int} (g:Γ s=none):Ck (Γ.Gj s (3,t,0)) al fl Ar Fs (Bj mp s [PV.int .i64 3,PV.int .i64 t,PV.int .i64 0]):=by
 refine ⟨fun k=>?_,h.ha,h.hf,fun k t' i d=>?_,fun i c=>?_⟩
 ·rw [Vq]
  by_cases e:k=s
  ·subst e;rw [if_pos rfl,BX];rfl
  ·rw [if_neg e,AV e];exact h.see k
 ·by_cases e:k=s
  ·subst e;rw [BX]at d;cases d
  ·rw [AV e]at d;exact h.ar k t' i d
 ·by_cases e:[104]=s
  ·rw [←e,BX]at c;cases c
  ·rw [AV e]at c;exact h.fn i c
theorem Ck.keep {lo pu:Int} {Γ':Ctx} {k o t b xk xo xt xv yk yo yt yv:Int} {nm xn yn:List Nat} {xa ya:List E} {bo el:List S} (h:Ck Γ al fl Ar Fs mp) (hs:Es lo pu Γ (.node k o t b nm (.node xk xo xt xv xn xa) (.node yk yo yt yv yn ya) bo el) Γ') (c:k≠1):Ck Γ' al fl Ar Fs mp:=by
 have:=hs.same c
 subst this;exact h
end
theorem TR.tl1 {Δ:Rl} {t:Int} {x:E} (h:TR Δ t x):TL Δ [x]:=fun e c=>by
 simp only [List.mem_cons,List.not_mem_nil,or_false]at c;subst c;exact ⟨t,h⟩
theorem TR.tl2 {Δ:Rl} {t u:Int} {x y:E} (h:TR Δ t x) (g:TR Δ u y):TL Δ [x,y]:=fun e c=>by
 simp only [List.mem_cons,List.not_mem_nil,or_false]at c
 rcases c with rfl|rfl
 ·exact ⟨t,h⟩
 ·exact ⟨u,g⟩
end Go.AM.K
end
section
namespace Go.AM.K
def PSh (k o t b:Int) (nm:List Nat) (xk xo xt xv:Int) (xn:List Nat) (xa:List E) (yk yo yt yv:Int) (yn:List Nat) (ya:List E) (bo el:List S):Prop:=∃Δ:Rl,
 (k=1∧o=0∧b=0∧No yk yo yt yv yn ya∧bo=[]∧el=[]∧Nm nm∧1≤t∧t≤3∧TR Δ t (.node xk xo xt xv xn xa)∧(E.node xk xo xt xv xn xa).high≤5)∨
 (k=2∧o=0∧t=0∧b=0∧No yk yo yt yv yn ya∧bo=[]∧el=[]∧Nm nm∧∃u,TR Δ u (.node xk xo xt xv xn xa)∧(E.node xk xo xt xv xn xa).high≤5)∨
 (k=3∧o=0∧t=0∧b=0∧bo=[]∧el=[]∧Nm nm∧∃u,TR Δ 1 (.node xk xo xt xv xn xa)∧TR Δ u (.node yk yo yt yv yn ya)∧(E.node xk xo xt xv xn xa).high≤5∧(E.node yk yo yt yv yn ya).high≤5)∨
 (k=4∧t=0∧b=0∧bo=[]∧el=[]∧Nm nm∧(o=10∨o=17∨o=18∨o=19∨o=22∨o=23)∧TR Δ 1 (.node xk xo xt xv xn xa)∧TR Δ 1 (.node yk yo yt yv yn ya)∧(E.node xk xo xt xv xn xa).high≤5∧(E.node yk yo yt yv yn ya).high≤5)∨
 (k=5∧o=0∧t=0∧b=0∧nm=[]∧No yk yo yt yv yn ya∧TR Δ 3 (.node xk xo xt xv xn xa)∧(E.node xk xo xt xv xn xa).high≤5)∨
 (k=6∧o=0∧t=0∧nm=[]∧No yk yo yt yv yn ya∧el=[]∧TR Δ 3 (.node xk xo xt xv xn xa)∧(E.node xk xo xt xv xn xa).high≤5∧1≤b∧b≤4)∨
 ((k=7∨k=8)∧o=0∧t=0∧b=0∧nm=[]∧No xk xo xt xv xn xa∧No yk yo yt yv yn ya∧bo=[]∧el=[])∨
 ((k=9∨k=10)∧o=0∧t=0∧b=0∧nm=[]∧No xk xo xt xv xn xa∧No yk yo yt yv yn ya∧bo=[]∧el=[])∨
 (k=11∧(o=1∨o=2)∧t=0∧b=0∧nm=[]∧No xk xo xt xv xn xa∧No yk yo yt yv yn ya∧bo=[]∧el=[])∨
 (k=12∧t=0∧b=0∧No yk yo yt yv yn ya∧bo=[]∧el=[]∧Nm nm∧∃u w,((o=1∧u=1∧w=3)∨((o=2∨o=3)∧u=3∧w=3)∨((o=5∨o=6)∧u≠(3:Int)∧w=u))∧TR Δ w (.node xk xo xt xv xn xa)∧(E.node xk xo xt xv xn xa).high≤5)∨
 (k=12∧o=4∧t=0∧b=0∧bo=[]∧el=[]∧Nm nm∧∃u,TR Δ u (.node xk xo xt xv xn xa)∧TR Δ 1 (.node yk yo yt yv yn ya)∧(E.node xk xo xt xv xn xa).high≤5∧(E.node yk yo yt yv yn ya).high≤5)
mutual
inductive PS:S→Prop
 |mk {k o t b:Int} {nm:List Nat} {xk xo xt xv:Int} {xn:List Nat} {xa:List E} {yk yo yt yv:Int} {yn:List Nat} {ya:List E} {bo el:List S}:PSh k o t b nm xk xo xt xv xn xa yk yo yt yv yn ya bo el→PL bo→PL el→PS (.node k o t b nm (.node xk xo xt xv xn xa) (.node yk yo yt yv yn ya) bo el)
inductive PL:List S→Prop
 |nil:PL []
 |cons {s l}:PS s→PL l→PL (s::l)
end
section
variable {k o t b xk xo xt xv yk yo yt yv:Int} {nm xn yn:List Nat} {xa ya:List E} {bo el:List S}
theorem PS.inv (h:PS (.node k o t b nm (.node xk xo xt xv xn xa) (.node yk yo yt yv yn ya) bo el)):PSh k o t b nm xk xo xt xv xn xa yk yo yt yv yn ya bo el∧PL bo∧PL el:=by
 cases h with|mk h1 h2 h3=>exact ⟨h1,h2,h3⟩
theorem PSh.of {N P:Int} {Γ O:Ctx} (h:Es N P Γ (.node k o t b nm (.node xk xo xt xv xn xa) (.node yk yo yt yv yn ya) bo el) O):PSh k o t b nm xk xo xt xv xn xa yk yo yt yv yn ya bo el:=by
 refine ⟨fun s z=>Γ s=some z,?_⟩
 rcases h.inv with hv|hv|hv|hv|hv|hv|hv|hv|hv|hv|hv
 ·obtain ⟨j,d,c,g,x,D,H,_,A,y,J,M,_⟩:=hv;exact .inl ⟨j,d,c,g,x,D,H,A,y,J,M⟩
 ·obtain ⟨j,d,c,g,x,D,H,C,_,u,_,_,A,y⟩:=hv;exact .inr (.inl ⟨j,d,c,g,x,D,H,C,u,A,y⟩)
 ·obtain ⟨j,d,c,g,x,D,_,C,_,u,_,_,_,_,A,y,J,M⟩:=hv;exact .inr (.inr (.inl ⟨j,d,c,g,x,D,C,u,A,y,J,M⟩))
 ·obtain ⟨j,d,c,g,x,_,H,_,_,_,_,C,A,y,J,M⟩:=hv;exact .inr (.inr (.inr (.inl ⟨j,d,c,g,x,H,C,A,y,J,M⟩)))
 ·obtain ⟨j,d,c,g,x,D,H,C,_⟩:=hv;exact .inr (.inr (.inr (.inr (.inl ⟨j,d,c,g,x,D,H,C⟩))))
 ·obtain ⟨j,d,c,g,x,D,H,C,A,y,_⟩:=hv;exact .inr (.inr (.inr (.inr (.inr (.inl ⟨j,d,c,g,x,D,H,C,A,y⟩)))))
 ·obtain ⟨j,d,c,g,x,D,H,C,A,_⟩:=hv;exact .inr (.inr (.inr (.inr (.inr (.inr (.inl ⟨j,d,c,g,x,D,H,C,A⟩))))))
 ·obtain ⟨j,d,c,g,x,D,H,C,A,_⟩:=hv;exact .inr (.inr (.inr (.inr (.inr (.inr (.inr (.inl ⟨j,d,c,g,x,D,H,C,A⟩)))))))
 ·obtain ⟨j,d,c,g,x,D,H,C,A,_⟩:=hv;exact .inr (.inr (.inr (.inr (.inr (.inr (.inr (.inr (.inl ⟨j,d,c,g,x,D,H,C,A⟩))))))))
 ·obtain ⟨j,d,c,g,x,D,_,C,_,u,w,_,_,_,_,A,y,J⟩:=hv;exact .inr (.inr (.inr (.inr (.inr (.inr (.inr (.inr (.inr (.inl ⟨j,d,c,g,x,D,C,u,w,A,y,J⟩)))))))))
 ·obtain ⟨j,d,c,g,x,D,_,C,_,u,_,_,_,_,A,y,J,M⟩:=hv;exact .inr (.inr (.inr (.inr (.inr (.inr (.inr (.inr (.inr (.inr ⟨j,d,c,g,x,D,C,u,A,y,J,M⟩)))))))))
end
mutual
theorem Es.ps {g u:Int} {Γ j:Ctx}:∀(s:S),Es g u Γ s j→PS s
 |.node k o t b nm (.node xk xo xt xv xn xa) (.node yk yo yt yv yn ya) bo el,h=>by
  obtain ⟨_,z,x,A,y,d,c⟩:=h.parts
  exact .mk (PSh.of h) (DG.pl' bo d) (DG.pl' el c)
theorem DG.pl' {d c:Int} {Γ g:Ctx}:∀(l:List S),DG d c Γ l g→PL l
 |[],_=>.nil
 |s::l,h=>by cases h with|cons a b=>exact .cons (Es.ps s a) (DG.pl' l b)
end
theorem DG.pl {d c:Int} {Γ g:Ctx} {l:List S} (h:DG d c Γ l g):PL l:=DG.pl' l h
theorem PL.get {l:List S} (j:Int) (h:PL (l.drop j.toNat)) (g:0≤j) (c:j<((S.Ab l).length:Int)):∃(k o t b:Int) (nm:List Nat) (xk xo xt xv:Int) (xn:List Nat) (xa:List E) (yk yo yt yv:Int) (yn:List Nat) (ya:List E) (bo el:List S),
  (S.Ab l)[j.toNat]?=some [.int .i64 k,.int .i64 o,.int .i64 t,.int .i64 b,.str nm,.int .i64 xk,.int .i64 xo,.int .i64 xt,.str xn,.int .i32 xv,.list 6 (E.Ab xa),.int .i64 yk,.int .i64 yo,.int .i64 yt,.str yn,.int .i32 yv,.list 6 (E.Ab ya),.list 19 (S.Ab bo),.list 19 (S.Ab el)]∧
  PS (.node k o t b nm (.node xk xo xt xv xn xa) (.node yk yo yt yv yn ya) bo el)∧PL (l.drop (j+1).toNat)∧
  S.Ae (l.drop j.toNat)=1+(E.node xk xo xt xv xn xa).nodes+(E.node yk yo yt yv yn ya).nodes+S.Ae bo+S.Ae el+S.Ae (l.drop (j+1).toNat)∧
  S.Au (l.drop j.toNat)=max (1+max (S.Au bo) (S.Au el)) (S.Au (l.drop (j+1).toNat)):=by
 rw [S.Az]at c
 have d:j.toNat<l.length:=by omega
 have hd:l.drop j.toNat=l[j.toNat]::l.drop (j+1).toNat:=by
  rw [show (j+1).toNat=j.toNat+1 by omega];exact List.drop_eq_getElem_cons d
 rw [hd]at h⊢
 generalize he:l[j.toNat]=s at h⊢
 obtain ⟨k,o,t,b,nm,⟨xk,xo,xt,xv,xn,xa⟩,⟨yk,yo,yt,yv,yn,ya⟩,bo,el⟩:=s
 cases h with
 |cons c h2=>
  exact ⟨k,o,t,b,nm,xk,xo,xt,xv,xn,xa,yk,yo,yt,yv,yn,ya,bo,el,by rw [S.DE,List.getElem?_eq_getElem d,he];rfl,c,h2,rfl,rfl⟩
theorem PS.parts {k o t b xk xo xt xv yk yo yt yv:Int} {nm xn yn:List Nat} {xa ya:List E} {bo el:List S} (h:PS (.node k o t b nm (.node xk xo xt xv xn xa) (.node yk yo yt yv yn ya) bo el)):∃Δ:Rl,(∀e∈[E.node xk xo xt xv xn xa,.node yk yo yt yv yn ya],EOR Δ e)∧PL bo∧PL el:=by
 obtain ⟨⟨Δ,hv⟩,D,C⟩:=h.inv
 refine ⟨Δ,?_,D,C⟩
 have key:∀{x y:E},EOR Δ x→EOR Δ y→∀e∈[x,y],EOR Δ e:=fun J H e A=>by
  simp only [List.mem_cons,List.not_mem_nil,or_false]at A
  rcases A with rfl|rfl
  ·exact J
  ·exact H
 rcases hv with hv|hv|hv|hv|hv|hv|hv|hv|hv|hv|hv
 ·obtain ⟨_,_,_,d,_,_,_,_,_,c,g⟩:=hv;exact key (.inr ⟨⟨_,c⟩,g⟩) (.inl d.eq)
 ·obtain ⟨_,_,_,_,d,_,_,_,u,c,g⟩:=hv;exact key (.inr ⟨⟨_,c⟩,g⟩) (.inl d.eq)
 ·obtain ⟨_,_,_,_,_,_,_,u,c,g,z,j⟩:=hv;exact key (.inr ⟨⟨_,c⟩,z⟩) (.inr ⟨⟨_,g⟩,j⟩)
 ·obtain ⟨_,_,_,_,_,_,_,c,g,z,j⟩:=hv;exact key (.inr ⟨⟨_,c⟩,z⟩) (.inr ⟨⟨_,g⟩,j⟩)
 ·obtain ⟨_,_,_,_,_,d,c,g⟩:=hv;exact key (.inr ⟨⟨_,c⟩,g⟩) (.inl d.eq)
 ·obtain ⟨_,_,_,_,d,_,c,g,_⟩:=hv;exact key (.inr ⟨⟨_,c⟩,g⟩) (.inl d.eq)
 ·obtain ⟨_,_,_,_,_,d,c,_⟩:=hv;exact key (.inl d.eq) (.inl c.eq)
 ·obtain ⟨_,_,_,_,_,d,c,_⟩:=hv;exact key (.inl d.eq) (.inl c.eq)
 ·obtain ⟨_,_,_,_,_,d,c,_⟩:=hv;exact key (.inl d.eq) (.inl c.eq)
 ·obtain ⟨_,_,_,d,_,_,_,u,w,_,c,g⟩:=hv;exact key (.inr ⟨⟨_,c⟩,g⟩) (.inl d.eq)
 ·obtain ⟨_,_,_,_,_,_,_,u,c,g,z,j⟩:=hv;exact key (.inr ⟨⟨_,c⟩,z⟩) (.inr ⟨⟨_,g⟩,j⟩)
end Go.AM.K
end
section
namespace Go.AM.K
def Dl (j:Int):List (List Nat×List PV):=
 ([([97],[PV.int .i64 0,PV.int .i64 1,PV.int .i64 0]),([102],[PV.int .i64 0,PV.int .i64 2,PV.int .i64 1]),([115],[PV.int .i64 0,PV.int .i64 1,PV.int .i64 2]),([112],[PV.int .i64 0,PV.int .i64 1,PV.int .i64 3]),([98],[PV.int .i64 0,PV.int .i64 3,PV.int .i64 4])]:List (List Nat×List PV)).take j.toNat
def EE (j:Int):List (List Nat×List PV):=
 Dl 5++([([110],[PV.int .i64 2,PV.int .i64 1,PV.int .i64 0]),([116],[PV.int .i64 2,PV.int .i64 2,PV.int .i64 0]),([99],[PV.int .i64 2,PV.int .i64 3,PV.int .i64 0])]:List (List Nat×List PV)).take j.toNat
def Mn:List (List Nat×List PV):=EE 3++[([104],[PV.int .i64 1,PV.int .i64 1,PV.int .i64 0])]
def HV (j:Int):List (List Nat×List PV):=
 Dl 5++([([120],[PV.int .i64 2,PV.int .i64 1,PV.int .i64 0]),([121],[PV.int .i64 2,PV.int .i64 1,PV.int .i64 0])]:List (List Nat×List PV)).take j.toNat
theorem Ty {m:List (List Nat×List PV)} {s:List Nat} (h:∀e∈m,e.1≠s):BK m s=none:=by
 induction m with
 |nil=>rfl
 |cons e r ih=>
  simp only [BK]
  rw [if_neg (h e List.mem_cons_self)]
  exact ih fun x c=>h x (List.mem_cons_of_mem _ c)
theorem Ahr {Γ:Ctx} {m:List (List Nat×List PV)} (L:List (List Nat)) (k:∀s∈L,BK m s=(Γ s).map fun z=>[PV.int .i64 z.1,PV.int .i64 z.2.1,PV.int .i64 z.2.2]) (g:∀s,s∉L→Γ s=none) (c:∀e∈m,e.1∈L) (s:List Nat):
  BK m s=(Γ s).map fun z=>[PV.int .i64 z.1,PV.int .i64 z.2.1,PV.int .i64 z.2.2]:=by
 by_cases h:s∈L
 ·exact k s h
 ·rw [g s h,Ty fun e j d=>h (by rw [←d];exact c e j)];rfl
theorem Yv {s:List Nat} (h:s∉([[97],[102],[115],[112],[98]]:List (List Nat))):aΓ s=none:=by
 simp only [List.mem_cons,List.not_mem_nil,or_false,not_or]at h
 unfold aΓ
 rw [if_neg h.1,if_neg h.2.1,if_neg h.2.2.1,if_neg h.2.2.2.1,if_neg h.2.2.2.2]
theorem Sd {Γ:Ctx} {s:List Nat} {t i:Int} (d:∀s t i,Γ s=some (0,t,i)→aΓ s=some (0,t,i)) (h:Γ s=some (0,t,i)):0≤i∧i<5∧∃(nm:List Nat) (c g:Int),Ax[i.toNat]?=some [.str nm,.int .i64 c,.int .i64 t,.int .i64 g]∧(i=0∨i=2→c≠3):=by
 have h:=d s t i h
 unfold aΓ at h
 repeat' split at h
 all_goals first|(cases h;done) |skip
 all_goals
  simp only [oI,Prod.mk.injEq,true_and]at h
  obtain ⟨rfl,rfl⟩:=h
 ·exact ⟨by decide,by decide,[97],1,8,rfl,fun _=>by decide⟩
 ·exact ⟨by decide,by decide,[102],1,4,rfl,fun h=>by omega⟩
 ·exact ⟨by decide,by decide,[115],2,8,rfl,fun _=>by decide⟩
 ·exact ⟨by decide,by decide,[112],3,4,rfl,fun h=>by omega⟩
 ·exact ⟨by decide,by decide,[98],2,4,rfl,fun h=>by omega⟩
theorem Gi {Γ:Ctx} {s n:List Nat} {z:Int×Int×Int} (h:s≠n) (g:Γ s=none):Γ.Gj n z s=none:=by rw [AV h];exact g
theorem Iq {Γ:Ctx} {n s:List Nat} {z:Int×Int×Int} {t i:Int} (c:z.1≠0) (h:Γ.Gj n z s=some (0,t,i)):Γ s=some (0,t,i):=by
 by_cases e:s=n
 ·subst e;rw [BX]at h;simp only [oI]at h;subst h;exact absurd rfl c
 ·rwa [AV e]at h
theorem Ck.Aiy {c:List Row} {fl:Int} (hf:fl=c.length):Ck fΓ 5 fl Ax c (HV 2):=by
 refine ⟨Ahr [[97],[102],[115],[112],[98],[120],[121]] (fun s hs=>by simp only [List.mem_cons,List.not_mem_nil,or_false]at hs;rcases hs with rfl|rfl|rfl|rfl|rfl|rfl|rfl<;>rfl) (fun s hs=>?_) (by decide),rfl,hf,fun s t i h=>?_,fun i h=>?_⟩
 ·simp only [List.mem_cons,List.not_mem_nil,or_false,not_or]at hs
  refine Gi hs.2.2.2.2.2.2 (Gi hs.2.2.2.2.2.1 (Yv ?_))
  simp only [List.mem_cons,List.not_mem_nil,or_false,not_or]
  exact ⟨hs.1,hs.2.1,hs.2.2.1,hs.2.2.2.1,hs.2.2.2.2.1⟩
 ·exact Sd (Γ:=fΓ) (fun s t i h=>Iq (by decide) (Iq (by decide) h)) h
 ·have e:fΓ [104]=none:=rfl
  rw [e]at h;cases h
theorem XK {s:List Nat} (hs:s∉([[97],[102],[115],[112],[98],[110],[116],[99]]:List (List Nat))):pΓ s=none:=by
 simp only [List.mem_cons,List.not_mem_nil,or_false,not_or]at hs
 refine Gi hs.2.2.2.2.2.2.2 (Gi hs.2.2.2.2.2.2.1 (Gi hs.2.2.2.2.2.1 (Yv ?_)))
 simp only [List.mem_cons,List.not_mem_nil,or_false,not_or]
 exact ⟨hs.1,hs.2.1,hs.2.2.1,hs.2.2.2.1,hs.2.2.2.2.1⟩
theorem AbE {s:List Nat} {t i:Int} (h:pΓ s=some (0,t,i)):aΓ s=some (0,t,i):=Iq (by decide) (Iq (by decide) (Iq (by decide) h))
theorem Ck.Ud {c:List Row} {fl:Int} (hf:fl=c.length):Ck (bΓ 0) 5 fl Ax c (EE 3):=by
 have e:bΓ 0=pΓ:=rfl
 rw [e]
 refine ⟨Ahr [[97],[102],[115],[112],[98],[110],[116],[99]] (fun s hs=>by simp only [List.mem_cons,List.not_mem_nil,or_false]at hs;rcases hs with rfl|rfl|rfl|rfl|rfl|rfl|rfl|rfl<;>rfl) (fun s hs=>XK hs) (by decide),rfl,hf,fun s t i h=>Sd (Γ:=pΓ) (fun s t i h=>AbE h) h,fun i h=>?_⟩
 have e:pΓ [104]=none:=rfl
 rw [e]at h;cases h
theorem Ck.AmA {k o y w:Int} {s:List Nat} {F A:List Row}:Ck (bΓ 1) 5 1 Ax [hrow AD F k o y s w A] Mn:=by
 have e:bΓ 1=pΓ.Gj [104] (1,1,0):=rfl
 rw [e]
 refine ⟨Ahr [[97],[102],[115],[112],[98],[110],[116],[99],[104]] (fun s hs=>by simp only [List.mem_cons,List.not_mem_nil,or_false]at hs;rcases hs with rfl|rfl|rfl|rfl|rfl|rfl|rfl|rfl|rfl<;>rfl) (fun s hs=>?_) (by decide),rfl,rfl,fun s t i h=>Sd (Γ:=pΓ.Gj [104] (1,1,0)) (fun s t i h=>AbE (Iq (by decide) h)) h,fun i h=>?_⟩
 ·simp only [List.mem_cons,List.not_mem_nil,or_false,not_or]at hs
  refine Gi hs.2.2.2.2.2.2.2.2 (XK ?_)
  simp only [List.mem_cons,List.not_mem_nil,or_false,not_or]
  exact ⟨hs.1,hs.2.1,hs.2.2.1,hs.2.2.2.1,hs.2.2.2.2.1,hs.2.2.2.2.2.1,hs.2.2.2.2.2.2.1,hs.2.2.2.2.2.2.2.1⟩
 ·rw [BX]at h
  simp only [oI,Prod.mk.injEq,true_and]at h
  subst h
  exact ⟨by decide,by decide,F,k,o,y,w,s,A,rfl⟩
def Hh (j:List Row):Prop:=j=[]∨∃(g:List S) (c:List E) (k:Ctx) (rk ro ry rw:Int) (d:List Nat),j=[hrow AD (S.Ab g) rk ro ry d rw (E.Ab c)]∧DG 0 1 fΓ g k∧T k 1 (.node rk ro ry rw d c)∧
 S.Au g≤2∧S.Ae g≤160∧(E.node rk ro ry rw d c).nodes≤13∧(E.node rk ro ry rw d c).high≤5
theorem Hh.mk {F A:List Row} {k o y w:Int} {s:List Nat} (h:J7 F k o y w s A):Hh [hrow AD F k o y s w A]:=by
 obtain ⟨u,l,⟨d,rfl,c,C,x⟩,hl,j,rfl,g,H,z⟩:=h
 have D:F 3=13:=rfl
 exact .inr ⟨d,j,u,k,o,y,w,s,rfl,c.loose,g,by omega,by omega,by omega,by omega⟩
theorem AeV {ρ:Env} {a b:ST} {x y z:Int} (h:a.den ρ=x) (g:b.den ρ=y) (r:bits .and .i64 x y=z):(ST.bin .and .i64 a b).den ρ=z:=by
 show bits .and .i64 (a.den ρ) (b.den ρ)=z
 rw [h,g];exact r
theorem Hh.list {c:List Row} (h:Hh c):c=[]∨∃F k o y w s A,c=[hrow AD F k o y s w A]:=by
 rcases h with h|⟨fb,fa,Γe,rk,ro,ry,rw,rs,h,_⟩
 ·exact .inl h
 ·exact .inr ⟨_,_,_,_,_,_,_,h⟩
end Go.AM.K
end
section
namespace Go.AM.K
theorem T.weak {Γ c:Ctx} {t:Int} {e:E} (h:T Γ t e) (hs:∀s z,Γ s=some z→c s=some z):T c t e:=by
 induction h with
 |num h1 h2 h3 h4 h5=>exact .num h1 h2 h3 h4 h5
 |id h1 h2=>exact .id h1 h2
 |var h1 h2 h3 h4 h5=>exact .var h1 h2 h3 h4 (hs _ _ h5)
 |un h1 _ ih=>exact .un h1 ih
 |bin h1 _ _ ih1 ih2=>exact .bin h1 ih1 ih2
 |cond _ _ _ ih1 ih2 ih3=>exact .cond ih1 ih2 ih3
 |load h1 h2 h3 h4 _ ih=>exact .load h1 h2 h3 (hs _ _ h4) ih
 |call h1 _ _ ih1 ih2=>exact .call (hs _ _ h1) ih1 ih2
theorem ZO {Γ:Ctx} {m n:List Nat} {y z:Int×Int×Int} (h:m≠n):(Γ.Gj m y).Gj n z=(Γ.Gj n z).Gj m y:=by
 funext s
 by_cases h1:s=m
 ·subst h1;rw [AV h,BX,BX]
 ·by_cases h2:s=n
  ·subst h2;rw [BX,AV h1,BX]
  ·rw [AV h2,AV h1,AV h1,AV h2]
theorem Cw {Γ:Ctx} {n:List Nat} {z:Int×Int×Int} (c:Γ n=none):∀s y,Γ s=some y→Γ.Gj n z s=some y:=fun _ _ h=>DU h c
mutual
theorem SOm.weak {k o:Int} {Γ j:Ctx} {s:S} {n:List Nat} {z:Int×Int×Int} (hv:¬Vn n) (c:Γ n=none):SOm k o Γ s j→SOm k o (Γ.Gj n z) s (j.Gj n z)∧j n=none
 |.var h0 hV h2 h3 h4 h5 h6=>by
  have d:=hV rfl
  have g:∀{m:List Nat},Vn m→m≠n:=fun u e=>hv (e▸u)
  refine ⟨?_,by rw [AV (fun e=>g d e.symm)];exact c⟩
  rw [ZO (g d)]
  exact .var h0 hV (by rw [AV (g d)];exact h2) h3 h4 (h5.weak (Cw c)) h6
 |.set d h2 h3 h4=>⟨.set d (Cw c _ _ h2) (h3.weak (Cw c)) h4,c⟩
 |.store d h2 h3 h4 h5 h6 h7 h8=>⟨.store d h2 h3 (Cw c _ _ h4) (h5.weak (Cw c)) (h6.weak (Cw c)) h7 h8,c⟩
 |.atom d h2 h3 h4 h5 h6 h7 h8=>⟨.atom d h2 (Cw c _ _ h3) h4 (h5.weak (Cw c)) (h6.weak (Cw c)) h7 h8,c⟩
 |.Zf d h2 h3 h4=>⟨.Zf (d.weak (Cw c)) h2 (Uo.weak hv c h3).1 (Uo.weak hv c h4).1,c⟩
 |.Uv d h2 h3 h4 h5=>⟨.Uv (d.weak (Cw c)) h2 h3 h4 (Uo.weak hv c h5).1,c⟩
 |.esc d h2=>⟨.esc d h2,c⟩
 |.Yu d=>⟨.Yu d,c⟩
 |.Hq d=>⟨.Hq d,c⟩
 |.Mj d h2 h3 h4 h5 h6 h7=>⟨.Mj d (Cw c _ _ h2) h3 h4 h5 (h6.weak (Cw c)) h7,c⟩
 |.Mi d h2 h3 h4 h5 h6 h7 h8=>⟨.Mi d (Cw c _ _ h2) h3 h4 (h5.weak (Cw c)) (h6.weak (Cw c)) h7 h8,c⟩
theorem Uo.weak {d k:Int} {Γ c:Ctx} {l:List S} {n:List Nat} {z:Int×Int×Int} (hv:¬Vn n) (j:Γ n=none):Uo d k Γ l c→Uo d k (Γ.Gj n z) l (c.Gj n z)∧c n=none
 |.nil=>⟨.nil,j⟩
 |.cons h g=>
  have a:=SOm.weak hv j h
  have b:=Uo.weak hv a.2 g
  ⟨.cons a.1 b.1,b.2⟩
end
theorem P3:¬Vn [113,113,57]:=by
 rintro ⟨i,hi,h⟩
 have:∀i,i<24→[113,113,57]≠vn i:=by decide
 exact this i hi h
theorem AiG {c:Int}:bΓ c [113,113,57]=none:=by
 unfold bΓ
 split<;>rfl
end Go.AM.K
end
section
namespace Go.AM.K
mutual
inductive Z6:Int→Int→Ctx→S→Prop
 |var {lo pu Γ n t x z}:Γ n=some z→1≤t→t≤3→T Γ t x→Z6 lo pu Γ (.node 1 0 t 0 n x E0 [] [])
 |thn {lo pu Γ x bo el}:T Γ 3 x→EW lo pu Γ bo→Z6 lo pu Γ (.node 5 0 0 0 [] x E0 bo el)
 |els {lo pu Γ x bo el Γ1}:T Γ 3 x→DG lo pu Γ bo Γ1→EW lo pu Γ el→Z6 lo pu Γ (.node 5 0 0 0 [] x E0 bo el)
 |Uv {lo pu Γ x b bo}:T Γ 3 x→1≤b→b≤4→EW 1 pu Γ bo→Z6 lo pu Γ (.node 6 0 0 b [] x E0 bo [])
inductive EW:Int→Int→Ctx→List S→Prop
 |head {lo pu Γ s l}:Z6 lo pu Γ s→EW lo pu Γ (s::l)
 |tail {lo pu Γ s l Γ1}:Es lo pu Γ s Γ1→EW lo pu Γ1 l→EW lo pu Γ (s::l)
end
abbrev Le (Γ c:Ctx):Prop:=∀s z,Γ s=some z→c s=some z
theorem Es.le {lo pu:Int} {Γ c:Ctx} {s:S} (h:Es lo pu Γ s c):Le Γ c:=by
 cases h with
 |var h1 _ h2=>exact Cw h2
 |_=>exact fun _ _ h=>h
theorem DG.le {lo pu:Int} {Γ c:Ctx}:∀{l:List S},DG lo pu Γ l c→Le Γ c
 |_,.nil=>fun _ _ h=>h
 |_,.cons h g=>fun s z hs=>DG.le g s z (Es.le h s z hs)
def Jd:List S→List (List Nat)
 |[]=>[]
 |.node k _ _ _ nm _ _ _ _::l=>if k=1 then nm::Jd l else Jd l
theorem DG.OV {lo pu:Int} {Γ j:Ctx}:∀{l:List S},DG lo pu Γ l j→∀n∈Jd l,Γ n=none∧∃z,j n=some z
 |_,.nil,n,h=>by cases h
 |.node k o t b nm x y bo el::l,.cons h g,n,hn=>by
  have tail:n∈Jd l→Γ n=none∧∃z,j n=some z:=fun u=>by
   obtain ⟨c,d⟩:=DG.OV g n u
   refine ⟨?_,d⟩
   cases e:Γ n with
   |none=>rfl
   |some z=>rw [Es.le h n z e]at c;cases c
  simp only [Jd]at hn
  split at hn
  ·rename_i A
   rcases List.mem_cons.1 hn with rfl|hn
   ·cases h with
    |var c _ d=>exact ⟨d,_,DG.le g _ _ BX⟩
    |esc c=>omega
    |Yu c=>omega
    |_=>omega
   ·exact tail hn
  ·exact tail hn
section
variable {lo pu:Int} {Γ:Ctx} {l:List S}
theorem EW.get (j:Int) (h:EW lo pu Γ (l.drop j.toNat)) (X:0≤j):j<(l.length:Int)∧
  ((∃(k o t b:Int) (nm:List Nat) (g A C d:Int) (y:List Nat) (u:List E) (yk H N J:Int) (D:List Nat) (M:List E) (c el:List S) (O:Ctx),
   (S.Ab l)[j.toNat]?=some [.int .i64 k,.int .i64 o,.int .i64 t,.int .i64 b,.str nm,.int .i64 g,.int .i64 A,.int .i64 C,.str y,.int .i32 d,.list 6 (E.Ab u),.int .i64 yk,.int .i64 H,.int .i64 N,.str D,.int .i32 J,.list 6 (E.Ab M),.list 19 (S.Ab c),.list 19 (S.Ab el)]∧
   Es lo pu Γ (.node k o t b nm (.node g A C d y u) (.node yk H N J D M) c el) O∧EW lo pu O (l.drop (j+1).toNat)∧
   S.Ae (l.drop j.toNat)=1+(E.node g A C d y u).nodes+(E.node yk H N J D M).nodes+S.Ae c+S.Ae el+S.Ae (l.drop (j+1).toNat)∧
   S.Au (l.drop j.toNat)=max (1+max (S.Au c) (S.Au el)) (S.Au (l.drop (j+1).toNat)))∨
  (∃(t:Int) (nm:List Nat) (g A C d:Int) (y:List Nat) (u:List E) (P Q R:Int),(S.Ab l)[j.toNat]?=some [.int .i64 1,.int .i64 0,.int .i64 t,.int .i64 0,.str nm,.int .i64 g,.int .i64 A,.int .i64 C,.str y,.int .i32 d,.list 6 (E.Ab u),.int .i64 0,.int .i64 0,.int .i64 0,.str [],.int .i32 0,.list 6 (E.Ab []),.list 19 (S.Ab []),.list 19 (S.Ab [])]∧Γ nm=some (P,Q,R)∧1≤t∧t≤3∧T Γ t (.node g A C d y u))∨
  (∃(g A C d:Int) (y:List Nat) (u:List E) (c el:List S),(S.Ab l)[j.toNat]?=some [.int .i64 5,.int .i64 0,.int .i64 0,.int .i64 0,.str [],.int .i64 g,.int .i64 A,.int .i64 C,.str y,.int .i32 d,.list 6 (E.Ab u),.int .i64 0,.int .i64 0,.int .i64 0,.str [],.int .i32 0,.list 6 (E.Ab []),.list 19 (S.Ab c),.list 19 (S.Ab el)]∧T Γ 3 (.node g A C d y u)∧(EW lo pu Γ c∨((∃O,DG lo pu Γ c O)∧EW lo pu Γ el))∧1+max (S.Au c) (S.Au el)≤S.Au (l.drop j.toNat)∧S.Ae c+S.Ae el≤S.Ae (l.drop j.toNat))∨
  (∃(b g A C d:Int) (y:List Nat) (u:List E) (c:List S),(S.Ab l)[j.toNat]?=some [.int .i64 6,.int .i64 0,.int .i64 0,.int .i64 b,.str [],.int .i64 g,.int .i64 A,.int .i64 C,.str y,.int .i32 d,.list 6 (E.Ab u),.int .i64 0,.int .i64 0,.int .i64 0,.str [],.int .i32 0,.list 6 (E.Ab []),.list 19 (S.Ab c),.list 19 (S.Ab [])]∧T Γ 3 (.node g A C d y u)∧1≤b∧b≤4∧EW 1 pu Γ c∧1+S.Au c≤S.Au (l.drop j.toNat)∧S.Ae c≤S.Ae (l.drop j.toNat))):=by
 have U:j.toNat<l.length:=by
  rcases Nat.lt_or_ge j.toNat l.length with h1|h1
  ·exact h1
  ·rw [List.drop_eq_nil_of_le h1]at h;cases h
 refine ⟨by omega,?_⟩
 have hd:l.drop j.toNat=l[j.toNat]::l.drop (j+1).toNat:=by
  rw [show (j+1).toNat=j.toNat+1 by omega];exact List.drop_eq_getElem_cons U
 have hg:(S.Ab l)[j.toNat]?=some (l[j.toNat]).enc:=by rw [S.DE,List.getElem?_eq_getElem U];rfl
 rw [hd]at h⊢
 generalize l[j.toNat]=s at h hg⊢
 cases h with
 |tail h1 h2=>
  obtain ⟨k,o,t,b,nm,⟨g,A,C,d,y,u⟩,⟨yk,H,N,J,D,M⟩,c,el⟩:=s
  exact .inl ⟨k,o,t,b,nm,g,A,C,d,y,u,yk,H,N,J,D,M,c,el,_,hg,h1,h2,rfl,rfl⟩
 |head h1=>
  refine .inr ?_
  cases h1 with
  |@var _ _ _ _ _ x z h1 h2 h3 h4=>
   obtain ⟨g,A,C,d,y,u⟩:=x
   obtain ⟨P,Q,R⟩:=z
   exact .inl ⟨_,_,g,A,C,d,y,u,P,Q,R,hg,h1,h2,h3,h4⟩
  |@thn _ _ _ x c el h1 h2=>
   obtain ⟨g,A,C,d,y,u⟩:=x
   exact .inr (.inl ⟨g,A,C,d,y,u,c,el,hg,h1,.inl h2,by simp only [S.Au,S.deep];omega,by simp only [S.Ae,S.nodes];omega⟩)
  |@els _ _ _ x c el _ h1 h2 h3=>
   obtain ⟨g,A,C,d,y,u⟩:=x
   exact .inr (.inl ⟨g,A,C,d,y,u,c,el,hg,h1,.inr ⟨⟨_,h2⟩,h3⟩,by simp only [S.Au,S.deep];omega,by simp only [S.Ae,S.nodes];omega⟩)
  |@Uv _ _ _ x b c h1 h2 h3 h4=>
   obtain ⟨g,A,C,d,y,u⟩:=x
   exact .inr (.inr ⟨b,g,A,C,d,y,u,c,hg,h1,h2,h3,h4,by simp only [S.Au,S.deep];omega,by simp only [S.Ae,S.nodes];omega⟩)
end
end Go.AM.K
end
section
namespace Go.AM.K
theorem PL.Ao8 {l:List S} (j:Int) (h:PL (l.drop j.toNat)) (O:0≤j) (M:j<(l.length:Int)):∃(k o t b:Int) (nm:List Nat) (u C J d:Int) (z:List Nat) (x:List E) (yk g H y:Int) (c:List Nat) (D:List E) (A el:List S),
  (S.Ab l)[j.toNat]?=some [.int .i64 k,.int .i64 o,.int .i64 t,.int .i64 b,.str nm,.int .i64 u,.int .i64 C,.int .i64 J,.str z,.int .i32 d,.list 6 (E.Ab x),.int .i64 yk,.int .i64 g,.int .i64 H,.str c,.int .i32 y,.list 6 (E.Ab D),.list 19 (S.Ab A),.list 19 (S.Ab el)]∧
  PL (l.drop (j+1).toNat)∧(k=1→Nm nm∧Jd (l.drop j.toNat)=nm::Jd (l.drop (j+1).toNat))∧(k≠1→Jd (l.drop j.toNat)=Jd (l.drop (j+1).toNat)):=by
 have N:j.toNat<l.length:=by omega
 have hd:l.drop j.toNat=l[j.toNat]::l.drop (j+1).toNat:=by
  rw [show (j+1).toNat=j.toNat+1 by omega];exact List.drop_eq_getElem_cons N
 have hg:(S.Ab l)[j.toNat]?=some (l[j.toNat]).enc:=by rw [S.DE,List.getElem?_eq_getElem N];rfl
 rw [hd]at h⊢
 generalize l[j.toNat]=s at h hg⊢
 obtain ⟨k,o,t,b,nm,⟨u,C,J,d,z,x⟩,⟨yk,g,H,y,c,D⟩,A,el⟩:=s
 cases h with
 |cons M h2=>
  refine ⟨k,o,t,b,nm,u,C,J,d,z,x,yk,g,H,y,c,D,A,el,hg,h2,fun e=>⟨?_,by simp only [Jd,if_pos e]⟩,fun e=>by simp only [Jd,if_neg e]⟩
  obtain ⟨⟨Γ,hv⟩,_⟩:=M.inv
  rcases hv with hv|hv|hv|hv|hv|hv|hv|hv|hv|hv|hv
  ·exact hv.2.2.2.2.2.2.1
  all_goals (exfalso;have:=hv.1;omega)
theorem Nm.ne {n:List Nat} (h:Nm n):n≠[]:=by
 intro e;subst e
 have:([]:List Nat)∉names:=by decide
 exact this h
end Go.AM.K
end
section
namespace Go.AM.K
section
variable (f t:List Nat)
mutual
def E.Cc:E→E
 |.node k o ty v s a=>.node k o ty v (if k=2∧s=f then t else s) (E.AK a)
def E.AK:List E→List E
 |[]=>[]
 |e::l=>E.Cc e::E.AK l
end
mutual
def S.Cc:S→S
 |.node k o ty b nm x y bo el=>.node k o ty b (if nm=f∧(k=1∨k=2∨k=12)then t else nm) (x.Cc f t) (y.Cc f t) (S.AK bo) (S.AK el)
def S.AK:List S→List S
 |[]=>[]
 |e::l=>S.Cc e::S.AK l
end
end
variable {f t:List Nat}
mutual
theorem E.Iy:∀e:E,(e.Cc f t).nodes=e.nodes
 |.node k o ty v s a=>by simp only [E.Cc,E.nodes,E.Dg a]
theorem E.Dg:∀l:List E,E.Ae (E.AK f t l)=E.Ae l
 |[]=>rfl
 |e::l=>by simp only [E.AK,E.Ae,E.Iy e,E.Dg l]
end
mutual
theorem E.CC:∀e:E,(e.Cc f t).high=e.high
 |.node k o ty v s a=>by simp only [E.Cc,E.high,E.Pw a]
theorem E.Pw:∀l:List E,E.B3 (E.AK f t l)=E.B3 l
 |[]=>rfl
 |e::l=>by simp only [E.AK,E.B3,E.CC e,E.Pw l]
end
mutual
theorem S.Iy:∀e:S,(e.Cc f t).nodes=e.nodes
 |.node k o ty b nm x y bo el=>by simp only [S.Cc,S.nodes,E.Iy,S.Dg bo,S.Dg el]
theorem S.Dg:∀l:List S,S.Ae (S.AK f t l)=S.Ae l
 |[]=>rfl
 |e::l=>by simp only [S.AK,S.Ae,S.Iy e,S.Dg l]
end
mutual
theorem S.AaZ:∀e:S,(e.Cc f t).deep=e.deep
 |.node k o ty b nm x y bo el=>by simp only [S.Cc,S.deep,S.Gq bo,S.Gq el]
theorem S.Gq:∀l:List S,S.Au (S.AK f t l)=S.Au l
 |[]=>rfl
 |e::l=>by simp only [S.AK,S.Au,S.AaZ e,S.Gq l]
end
theorem DA:E0.Cc f t=E0:=rfl
def rΓ (f t:List Nat) (Γ:Ctx):Ctx:=fun n=>if n=t then Γ f else if n=f then none else Γ n
structure Rn (f t:List Nat) (Γ:Ctx):Prop where
 v:∀z,Γ f=some z→z.1=3
 q:Γ t=none
theorem SV {Γ:Ctx} (h:Rn f t Γ) {n:List Nat} {z:Int×Int×Int} (c:Γ n=some z):rΓ f t Γ (if n=f then t else n)=some z:=by
 have d:n≠t:=fun e=>by subst e;rw [h.q]at c;cases c
 unfold rΓ
 by_cases e:n=f
 ·subst e;rw [if_pos rfl,if_pos rfl];exact c
 ·rw [if_neg e,if_neg d,if_neg e];exact c
theorem Mt {Γ:Ctx} (h:Rn f t Γ) {n:List Nat} {z:Int×Int×Int} (c:Γ n=some z) (d:z.1≠3):rΓ f t Γ n=some z:=by
 have g:n≠f:=fun e=>by subst e;exact d (h.v z c)
 have:=SV h c
 rwa [if_neg g]at this
theorem T.Cc {Γ:Ctx} (c:Rn f t Γ) (d:Nm t) {u:Int} {e:E} (h:T Γ u e):T (rΓ f t Γ) u (e.Cc f t):=by
 induction h with
 |num h1 h2 h3 h4 h5=>exact .num h1 h2 h3 h4 h5
 |id h1 h2=>exact .id h1 h2
 |var h1 h2 h3 h4 h5=>
  simp only [E.Cc,E.AK,true_and]
  exact .var (by split;exact d;exact h1) h2 h3 h4 (SV c h5)
 |un h1 _ ih=>exact .un h1 ih
 |bin h1 _ _ ih1 ih2=>exact .bin h1 ih1 ih2
 |cond _ _ _ ih1 ih2 ih3=>exact .cond ih1 ih2 ih3
 |load h1 h2 h3 h4 _ ih=>exact .load h1 h2 h3 (Mt c h4 (by simp)) ih
 |call h1 _ _ ih1 ih2=>exact .call (Mt c h1 (by simp)) ih1 ih2
theorem Ahs {Γ:Ctx} {n:List Nat} {z:Int×Int×Int} (h:n≠t) (d:f≠t):rΓ f t (Γ.Gj n z)=(rΓ f t Γ).Gj (if n=f then t else n) z:=by
 funext s
 by_cases e:n=f
 ·subst e
  rw [if_pos rfl]
  by_cases e2:s=t
  ·subst e2;rw [BX];unfold rΓ;rw [if_pos rfl,BX]
  ·rw [AV e2];unfold rΓ;rw [if_neg e2,if_neg e2]
   by_cases e3:s=n
   ·rw [if_pos e3,if_pos e3]
   ·rw [if_neg e3,if_neg e3,AV e3]
 ·rw [if_neg e]
  by_cases e2:s=n
  ·subst e2;rw [BX];unfold rΓ;rw [if_neg h,if_neg e,BX]
  ·rw [AV e2];unfold rΓ
   by_cases e3:s=t
   ·subst e3;rw [if_pos rfl,if_pos rfl,AV (fun c=>e c.symm)]
   ·rw [if_neg e3,if_neg e3]
    by_cases c:s=f
    ·rw [if_pos c,if_pos c]
    ·rw [if_neg c,if_neg c,AV e2]
theorem Aex {Γ:Ctx} {n:List Nat} (c:Γ n=none) (h:n≠t):rΓ f t Γ (if n=f then t else n)=none:=by
 unfold rΓ
 by_cases e:n=f
 ·subst e;rw [if_pos rfl,if_pos rfl];exact c
 ·rw [if_neg e,if_neg h,if_neg e];exact c
theorem Rn.Gj {Γ:Ctx} (d:Rn f t Γ) {n:List Nat} {u i:Int} (h:n≠t):Rn f t (Γ.Gj n (3,u,i)):=⟨fun z c=>by
 by_cases e:f=n
 ·subst e;rw [BX]at c;simp only [oI]at c;subst c;rfl
 ·rw [AV e]at c;exact d.v z c,by rw [AV (fun e=>h e.symm)];exact d.q⟩
mutual
theorem SOm.Cc {o u:Int} {Γ j:Ctx} {s:S} (c:Rn f t Γ) (d:Nm t) (hv:¬Vn t) (g:f≠t):SOm o u Γ s j→Es o u (rΓ f t Γ) (s.Cc f t) (rΓ f t j)∧Rn f t j
 |.var (n:=n) h0 hV h2 h3 h4 h5 h6=>by
  have k:n≠t:=fun e=>hv (e▸hV rfl)
  refine ⟨?_,c.Gj k⟩
  rw [Ahs k g]
  simp only [S.Cc,S.AK,DA,true_or,and_true]
  exact .var (by split;exact d;exact h0) (fun h=>by cases h) (Aex h2 k) h3 h4 (h5.Cc c d) (by rw [E.CC];exact h6)
 |.set h1 h2 h3 h4=>by
  refine ⟨?_,c⟩
  simp only [S.Cc,S.AK,DA,true_or,or_true,and_true]
  exact .set (by split;exact d;exact h1) (SV c h2) (h3.Cc c d) (by rw [E.CC];exact h4)
 |.store h1 h2 h3 h4 h5 h6 h7 h8=>by
  refine ⟨?_,c⟩
  simp only [S.Cc,S.AK]
  rw [if_neg (by intro h;have:=h.2;omega)]
  exact .store h1 h2 h3 (Mt c h4 (by simp)) (h5.Cc c d) (h6.Cc c d) (by rw [E.CC];exact h7) (by rw [E.CC];exact h8)
 |.atom h1 h2 h3 h4 h5 h6 h7 h8=>by
  refine ⟨?_,c⟩
  simp only [S.Cc,S.AK]
  rw [if_neg (by intro h;have:=h.2;omega)]
  exact .atom h1 h2 (Mt c h3 (by simp)) h4 (h5.Cc c d) (h6.Cc c d) (by rw [E.CC];exact h7) (by rw [E.CC];exact h8)
 |.Zf h1 h2 h3 h4=>by
  refine ⟨?_,c⟩
  simp only [S.Cc,DA]
  rw [if_neg (by intro h;have:=h.2;omega)]
  exact .Zf (h1.Cc c d) (by rw [E.CC];exact h2) (Uo.Cc c d hv g h3).1 (Uo.Cc c d hv g h4).1
 |.Uv h1 h2 h3 h4 h5=>by
  refine ⟨?_,c⟩
  simp only [S.Cc,S.AK,DA]
  rw [if_neg (by intro h;have:=h.2;omega)]
  exact .Uv (h1.Cc c d) (by rw [E.CC];exact h2) h3 h4 (Uo.Cc c d hv g h5).1
 |.esc h1 h2=>by
  refine ⟨?_,c⟩
  simp only [S.Cc,S.AK,DA]
  rw [if_neg (by intro h;have:=h.2;omega)]
  exact .esc h1 h2
 |.Yu h1=>by
  refine ⟨?_,c⟩
  simp only [S.Cc,S.AK,DA]
  rw [if_neg (by intro h;have:=h.2;omega)]
  exact .Yu h1
 |.Hq h1=>by
  refine ⟨?_,c⟩
  simp only [S.Cc,S.AK,DA]
  rw [if_neg (by intro h;have:=h.2;omega)]
  exact .Hq h1
 |.Mj h1 h2 h3 h4 h5 h6 h7=>by
  refine ⟨?_,c⟩
  simp only [S.Cc,S.AK,DA,or_true,and_true]
  exact .Mj (by split;exact d;exact h1) (SV c h2) h3 h4 h5 (h6.Cc c d) (by rw [E.CC];exact h7)
 |.Mi h1 h2 h3 h4 h5 h6 h7 h8=>by
  refine ⟨?_,c⟩
  simp only [S.Cc,S.AK,or_true,and_true]
  exact .Mi (by split;exact d;exact h1) (SV c h2) h3 h4 (h5.Cc c d) (h6.Cc c d) (by rw [E.CC];exact h7) (by rw [E.CC];exact h8)
theorem Uo.Cc {u y:Int} {Γ d:Ctx} {l:List S} (x:Rn f t Γ) (k:Nm t) (hv:¬Vn t) (c:f≠t):Uo u y Γ l d→DG u y (rΓ f t Γ) (S.AK f t l) (rΓ f t d)∧Rn f t d
 |.nil=>⟨.nil,x⟩
 |.cons h g=>by
  obtain ⟨a,j⟩:=SOm.Cc x k hv c h
  obtain ⟨b,o⟩:=Uo.Cc j k hv c g
  exact ⟨.cons a b,o⟩
end
theorem Aj7 {Γ:Ctx} (c:Γ f=none) (d:Γ t=none):rΓ f t Γ=Γ:=by
 funext s
 unfold rΓ
 by_cases e:s=t
 ·subst e;rw [if_pos rfl,c,d]
 ·rw [if_neg e]
  by_cases e2:s=f
  ·subst e2;rw [if_pos rfl,c]
  ·rw [if_neg e2]
theorem T.Fv {Γ:Ctx} (hf:Γ f=none) {u:Int} {e:E} (h:T Γ u e):e.Cc f t=e:=by
 induction h with
 |num=>rfl
 |id=>rfl
 |var h1 h2 h3 h4 h5=>
  simp only [E.Cc,E.AK]
  rw [if_neg]
  rintro ⟨_,e⟩
  subst e;rw [hf]at h5;cases h5
 |un h1 _ ih=>simp only [E.Cc,E.AK,ih];rw [if_neg (by intro h;have:=h.1;omega)]
 |bin h1 _ _ ih1 ih2=>simp only [E.Cc,E.AK,ih1,ih2];rw [if_neg (by intro h;have:=h.1;omega)]
 |cond _ _ _ ih1 ih2 ih3=>simp only [E.Cc,E.AK,ih1,ih2,ih3];rw [if_neg (by intro h;have:=h.1;omega)]
 |load h1 h2 h3 h4 _ ih=>simp only [E.Cc,E.AK,ih];rw [if_neg (by intro h;have:=h.1;omega)]
 |call h1 _ _ ih1 ih2=>simp only [E.Cc,E.AK,ih1,ih2];rw [if_neg (by intro h;have:=h.1;omega)]
mutual
theorem Es.UY {k o:Int} {Γ g:Ctx} {s:S} {z:Int×Int×Int} (hf:Γ f=none) (c:Γ t=some z):Es k o Γ s g→(s.Cc f t=s∧g f=none∧g t=some z)∨Z6 k o Γ (s.Cc f t)
 |.var (n:=n) h0 hV h2 h3 h4 h5 h6=>by
  simp only [S.Cc,S.AK,DA,true_or,and_true,h5.Fv hf]
  by_cases e:n=f
  ·subst e;rw [if_pos rfl];exact .inr (.var c h3 h4 h5)
  ·rw [if_neg e]
   have j:t≠n:=fun d=>by subst d;rw [h2]at c;cases c
   exact .inl ⟨rfl,by rw [AV (fun d=>e d.symm)];exact hf,by rw [AV j];exact c⟩
 |.set h1 h2 h3 h4=>by
  simp only [S.Cc,S.AK,DA,true_or,or_true,and_true,h3.Fv hf]
  rw [if_neg (by intro e;subst e;rw [hf]at h2;cases h2)]
  exact .inl ⟨rfl,hf,c⟩
 |.store h1 h2 h3 h4 h5 h6 h7 h8=>by
  simp only [S.Cc,S.AK,h5.Fv hf,h6.Fv hf]
  rw [if_neg (by intro h;have:=h.2;omega)]
  exact .inl ⟨rfl,hf,c⟩
 |.atom h1 h2 h3 h4 h5 h6 h7 h8=>by
  simp only [S.Cc,S.AK,h5.Fv hf,h6.Fv hf]
  rw [if_neg (by intro h;have:=h.2;omega)]
  exact .inl ⟨rfl,hf,c⟩
 |.Zf h1 h2 h3 h4=>by
  simp only [S.Cc,DA,h1.Fv hf]
  rw [if_neg (by intro h;have:=h.2;omega)]
  rcases DG.UY hf c h3 with ⟨e1,_,_⟩|a
  ·rw [e1]
   rcases DG.UY hf c h4 with ⟨d,_,_⟩|b
   ·rw [d];exact .inl ⟨rfl,hf,c⟩
   ·exact .inr (.els h1 h3 b)
  ·exact .inr (.thn h1 a)
 |.Uv h1 h2 h3 h4 h5=>by
  simp only [S.Cc,S.AK,DA,h1.Fv hf]
  rw [if_neg (by intro h;have:=h.2;omega)]
  rcases DG.UY hf c h5 with ⟨e1,_,_⟩|a
  ·rw [e1];exact .inl ⟨rfl,hf,c⟩
  ·exact .inr (.Uv h1 h3 h4 a)
 |.esc h1 h2=>by
  simp only [S.Cc,S.AK,DA]
  rw [if_neg (by intro h;have:=h.2;omega)]
  exact .inl ⟨rfl,hf,c⟩
 |.Yu h1=>by
  simp only [S.Cc,S.AK,DA]
  rw [if_neg (by intro h;have:=h.2;omega)]
  exact .inl ⟨rfl,hf,c⟩
 |.Hq h1=>by
  simp only [S.Cc,S.AK,DA]
  rw [if_neg (by intro h;have:=h.2;omega)]
  exact .inl ⟨rfl,hf,c⟩
 |.Mj h1 h2 h3 h4 h5 h6 h7=>by
  simp only [S.Cc,S.AK,DA,or_true,and_true,h6.Fv hf]
  rw [if_neg (by intro e;subst e;rw [hf]at h2;cases h2)]
  exact .inl ⟨rfl,hf,c⟩
 |.Mi h1 h2 h3 h4 h5 h6 h7 h8=>by
  simp only [S.Cc,S.AK,or_true,and_true,h5.Fv hf,h6.Fv hf]
  rw [if_neg (by intro e;subst e;rw [hf]at h2;cases h2)]
  exact .inl ⟨rfl,hf,c⟩
theorem DG.UY {j d:Int} {Γ c:Ctx} {l:List S} {z:Int×Int×Int} (hf:Γ f=none) (k:Γ t=some z):DG j d Γ l c→(S.AK f t l=l∧c f=none∧c t=some z)∨EW j d Γ (S.AK f t l)
 |.nil=>.inl ⟨rfl,hf,k⟩
 |.cons (s:=s) h g=>by
  rcases Es.UY hf k h with ⟨e1,h1,h2⟩|a
  ·rcases DG.UY h1 h2 g with ⟨e2,h3,h4⟩|b
   ·exact .inl ⟨by rw [S.AK,e1,e2],h3,h4⟩
   ·exact .inr (by rw [S.AK,e1];exact .tail h b)
  ·exact .inr (.head a)
end
theorem TR.Cc {Δ:Rl} {u:Int} {e:E} (c:Nm t) (h:TR Δ u e):TR (fun s z=>Δ s z∨(s=t∧Δ f z)) u (e.Cc f t):=by
 induction h with
 |num h1 h2 h3 h4 h5=>exact .num h1 h2 h3 h4 h5
 |id h1 h2=>exact .id h1 h2
 |@var s k t' i h1 h2 h3 h4 h5=>
  simp only [E.Cc,E.AK,true_and]
  by_cases e:s=f
  ·subst e;rw [if_pos rfl];exact .var c h2 h3 h4 (.inr ⟨rfl,h5⟩)
  ·rw [if_neg e];exact .var h1 h2 h3 h4 (.inl h5)
 |un h1 _ ih=>exact .un h1 ih
 |bin h1 _ _ ih1 ih2=>exact .bin h1 ih1 ih2
 |cond _ _ _ ih1 ih2 ih3=>exact .cond ih1 ih2 ih3
 |load h1 h2 h3 h4 _ ih=>exact .load h1 h2 h3 (.inl h4) ih
 |call h1 _ _ ih1 ih2=>exact .call (.inl h1) ih1 ih2
theorem No.Cc {k o ty v:Int} {s:List Nat} {a:List E} (h:No k o ty v s a):No k o ty v (if k=2∧s=f then t else s) (E.AK f t a):=by
 obtain ⟨rfl,rfl,rfl,rfl,rfl,rfl⟩:=h
 exact ⟨rfl,rfl,rfl,rfl,by rw [if_neg (by intro h;have:=h.1;omega)],rfl⟩
theorem PSh.Cc {k o b xk xo xt xv yk yo yt yv u:Int} {nm xn Z:List Nat} {xa ya:List E} {bo el:List S} (ht:Nm t) (h:PSh k o u b nm xk xo xt xv xn xa yk yo yt yv Z ya bo el):
  PSh k o u b (if nm=f∧(k=1∨k=2∨k=12)then t else nm) xk xo xt xv (if xk=2∧xn=f then t else xn) (E.AK f t xa) yk yo yt yv (if yk=2∧Z=f then t else Z) (E.AK f t ya) (S.AK f t bo) (S.AK f t el):=by
 obtain ⟨Δ,hv⟩:=h
 refine ⟨fun s z=>Δ s z∨(s=t∧Δ f z),?_⟩
 have tr:∀{w:Int} {N a2 Q P:Int} {O:List Nat} {R:List E},TR Δ w (.node N a2 Q P O R)→TR (fun s z=>Δ s z∨(s=t∧Δ f z)) w (.node N a2 Q P (if N=2∧O=f then t else O) (E.AK f t R)):=fun h=>h.Cc ht
 have hg:∀{N a2 Q P:Int} {O:List Nat} {R:List E},(E.node N a2 Q P O R).high≤5→(E.node N a2 Q P (if N=2∧O=f then t else O) (E.AK f t R)).high≤5:=fun {N a2 Q P O R} h=>by
  have:=E.CC (f:=f) (t:=t) (.node N a2 Q P O R)
  rw [E.Cc]at this;omega
 have hb:∀{l:List S},l=[]→S.AK f t l=[]:=fun h=>by subst h;rfl
 have U:Nm nm→Nm (if nm=f∧(k=1∨k=2∨k=12)then t else nm):=fun h=>by split;exact ht;exact h
 have X:k≠1→k≠2→k≠12→nm=[]→(if nm=f∧(k=1∨k=2∨k=12)then t else nm)=[]:=fun g d c h=>by rw [if_neg (by intro e;have:=e.2;omega)];exact h
 rcases hv with hv|hv|hv|hv|hv|hv|hv|hv|hv|hv|hv
 ·obtain ⟨g,d,c,j,x,D,H,C,y,J,M⟩:=hv;exact .inl ⟨g,d,c,j.Cc,hb x,hb D,U H,C,y,tr J,hg M⟩
 ·obtain ⟨g,d,c,j,x,D,H,A,u,C,y⟩:=hv;exact .inr (.inl ⟨g,d,c,j,x.Cc,hb D,hb H,U A,u,tr C,hg y⟩)
 ·obtain ⟨g,d,c,j,x,D,A,u,C,y,J,M⟩:=hv;exact .inr (.inr (.inl ⟨g,d,c,j,hb x,hb D,U A,u,tr C,tr y,hg J,hg M⟩))
 ·obtain ⟨g,d,c,j,x,H,A,C,y,J,M⟩:=hv;exact .inr (.inr (.inr (.inl ⟨g,d,c,hb j,hb x,U H,A,tr C,tr y,hg J,hg M⟩)))
 ·obtain ⟨g,d,c,j,x,D,H,A⟩:=hv;exact .inr (.inr (.inr (.inr (.inl ⟨g,d,c,j,X om om om x,D.Cc,tr H,hg A⟩))))
 ·obtain ⟨g,d,c,j,x,D,H,A,C,y⟩:=hv;exact .inr (.inr (.inr (.inr (.inr (.inl ⟨g,d,c,X om om om j,x.Cc,hb D,tr H,hg A,C,y⟩)))))
 ·obtain ⟨g,d,c,j,x,D,H,A,C⟩:=hv;exact .inr (.inr (.inr (.inr (.inr (.inr (.inl ⟨g,d,c,j,X om om om x,D.Cc,H.Cc,hb A,hb C⟩))))))
 ·obtain ⟨g,d,c,j,x,D,H,A,C⟩:=hv;exact .inr (.inr (.inr (.inr (.inr (.inr (.inr (.inl ⟨g,d,c,j,X om om om x,D.Cc,H.Cc,hb A,hb C⟩)))))))
 ·obtain ⟨g,d,c,j,x,D,H,A,C⟩:=hv;exact .inr (.inr (.inr (.inr (.inr (.inr (.inr (.inr (.inl ⟨g,d,c,j,X om om om x,D.Cc,H.Cc,hb A,hb C⟩))))))))
 ·obtain ⟨g,d,c,j,x,D,A,u,w,C,y,J⟩:=hv;exact .inr (.inr (.inr (.inr (.inr (.inr (.inr (.inr (.inr (.inl ⟨g,d,c,j.Cc,hb x,hb D,U A,u,w,C,tr y,hg J⟩)))))))))
 ·obtain ⟨g,d,c,j,x,D,A,u,C,y,J,M⟩:=hv;exact .inr (.inr (.inr (.inr (.inr (.inr (.inr (.inr (.inr (.inr ⟨g,d,c,j,hb x,hb D,U A,u,tr C,tr y,hg J,hg M⟩)))))))))
mutual
theorem PS.Cc (c:Nm t):∀(s:S),PS s→PS (s.Cc f t)
 |.node k o u b nm (.node xk xo xt xv xn xa) (.node yk yo yt yv yn ya) bo el,h=>by
  obtain ⟨g,d,j⟩:=h.inv
  exact .mk (g.Cc c) (PL.Cc c bo d) (PL.Cc c el j)
theorem PL.Cc (c:Nm t):∀(l:List S),PL l→PL (S.AK f t l)
 |[],_=>.nil
 |s::l,h=>by cases h with|cons a b=>exact .cons (PS.Cc c s a) (PL.Cc c l b)
end
end Go.AM.K
end
section
namespace Go.AM.K
mutual
def E.sm:E→Prop
 |.node _ _ _ _ _ a=>a.length≤1000∧E.IQ a
def E.IQ:List E→Prop
 |[]=>True
 |e::l=>e.sm∧E.IQ l
end
mutual
def S.sm:S→Prop
 |.node _ _ _ _ _ x y bo el=>x.sm∧y.sm∧bo.length≤200000∧el.length≤200000∧S.IQ bo∧S.IQ el
def S.IQ:List S→Prop
 |[]=>True
 |e::l=>e.sm∧S.IQ l
end
theorem E.JL:∀{l:List E},E.IQ l→∀e∈l,e.sm
 |x::l,h,e,he=>by
  simp only [E.IQ]at h
  rcases List.mem_cons.1 he with rfl|he
  ·exact h.1
  ·exact E.JL h.2 e he
theorem S.JL:∀{l:List S},S.IQ l→∀e∈l,e.sm
 |x::l,h,e,he=>by
  simp only [S.IQ]at h
  rcases List.mem_cons.1 he with rfl|he
  ·exact h.1
  ·exact S.JL h.2 e he
theorem TR.sm {Δ:Rl} {u:Int} {e:E} (h:TR Δ u e):e.sm:=by
 induction h<;>simp_all [E.sm,E.IQ]
theorem EOR.sm {Δ:Rl} {e:E} (h:EOR Δ e):e.sm:=by
 rcases h with rfl|⟨⟨_,h⟩,_⟩
 ·simp [E0,E.sm,E.IQ]
 ·exact h.sm
mutual
theorem PS.sm:∀(s:S),PS s→s.nodes≤200000→s.sm
 |.node k o u b nm (.node xk xo xt xv xn xa) (.node yk yo yt yv yn ya) bo el,h,hn=>by
  obtain ⟨Δ,c,d,g⟩:=h.parts
  simp only [S.nodes]at hn
  have:=S.len bo;have:=S.len el
  rw [S.sm]
  exact ⟨(c _ (by simp)).sm,(c _ (by simp)).sm,by omega,by omega,PL.sm bo d om,PL.sm el g om⟩
theorem PL.sm:∀(l:List S),PL l→S.Ae l≤200000→S.IQ l
 |[],_,_=>by rw [S.IQ];trivial
 |s::l,h,hn=>by
  simp only [S.Ae]at hn
  cases h with|cons a b=>rw [S.IQ];exact ⟨PS.sm s a om,PL.sm l b om⟩
end
variable {f t:List Nat}
theorem E.Acm {a:List E} (g:E.IQ a) (j:Int) (x:0≤j) (u:j<((E.Ab a).length:Int)):∃(k o y v:Int) (s:List Nat) (b:List E),
  (E.Ab a)[j.toNat]?=some [.int .i64 k,.int .i64 o,.int .i64 y,.str s,.int .i32 v,.list 6 (E.Ab b)]∧a.drop j.toNat=.node k o y v s b::a.drop (j+1).toNat∧(E.node k o y v s b).high≤E.B3 a∧E.IQ b∧((E.Ab b).length:Int)≤1000:=by
 rw [E.Az]at u
 have c:j.toNat<a.length:=by omega
 have hd:a.drop j.toNat=a[j.toNat]::a.drop (j+1).toNat:=by
  rw [show (j+1).toNat=j.toNat+1 by omega];exact List.drop_eq_getElem_cons c
 have d:=E.JL g a[j.toNat] (List.getElem_mem c)
 generalize he:a[j.toNat]=s at hd d
 obtain ⟨k,o,y,v,s,b⟩:=s
 exact ⟨k,o,y,v,s,b,by rw [E.DE,List.getElem?_eq_getElem c,he];rfl,hd,E.Ke (i:=j.toNat) (by rw [List.getElem?_eq_getElem c,he]),by simp only [E.sm]at d;exact d.2,by simp only [E.sm]at d;rw [E.Az];omega⟩
theorem S.TV:∀{l:List S} {s:S},s∈l→s.deep≤S.Au l
 |x::l,s,h=>by
  rcases List.mem_cons.1 h with rfl|h
  ·simp only [S.Au];omega
  ·have:=S.TV h;simp only [S.Au];omega
theorem S.Acm {l:List S} (Q:S.IQ l) (j:Int) (h0:0≤j) (U:j<((S.Ab l).length:Int)):∃(k o y b:Int) (nm:List Nat) (A H M x:Int) (D:List Nat) (d:List E) (yk z J C:Int) (u:List Nat) (g:List E) (c el:List S),
  (S.Ab l)[j.toNat]?=some [.int .i64 k,.int .i64 o,.int .i64 y,.int .i64 b,.str nm,.int .i64 A,.int .i64 H,.int .i64 M,.str D,.int .i32 x,.list 6 (E.Ab d),.int .i64 yk,.int .i64 z,.int .i64 J,.str u,.int .i32 C,.list 6 (E.Ab g),.list 19 (S.Ab c),.list 19 (S.Ab el)]∧
  l.drop j.toNat=.node k o y b nm (.node A H M x D d) (.node yk z J C u g) c el::l.drop (j+1).toNat∧1+max (S.Au c) (S.Au el)≤S.Au l∧E.IQ d∧((E.Ab d).length:Int)≤1000∧E.IQ g∧((E.Ab g).length:Int)≤1000∧S.IQ c∧((S.Ab c).length:Int)≤200000∧S.IQ el∧((S.Ab el).length:Int)≤200000:=by
 rw [S.Az]at U
 have N:j.toNat<l.length:=by omega
 have hd:l.drop j.toNat=l[j.toNat]::l.drop (j+1).toNat:=by
  rw [show (j+1).toNat=j.toNat+1 by omega];exact List.drop_eq_getElem_cons N
 have O:l[j.toNat]∈l:=List.getElem_mem N
 generalize he:l[j.toNat]=s at hd O
 obtain ⟨k,o,y,b,nm,⟨A,H,M,x,D,d⟩,⟨yk,z,J,C,u,g⟩,c,el⟩:=s
 refine ⟨k,o,y,b,nm,A,H,M,x,D,d,yk,z,J,C,u,g,c,el,by rw [S.DE,List.getElem?_eq_getElem N,he];rfl,hd,?_⟩
 have:=S.TV O
 have P:=S.JL Q _ O
 simp only [S.deep]at this
 simp only [S.sm,E.sm]at P
 rw [E.Az,E.Az,S.Az,S.Az]
 obtain ⟨⟨a1,a2⟩,⟨a3,R⟩,a5,a6,X,Z⟩:=P
 exact ⟨by omega,a2,by omega,R,by omega,X,by omega,Z,by omega⟩
abbrev E.rd (f t:List Nat) (a:List E) (j:Int):List Row:=E.Ab (E.AK f t (a.drop j.toNat))
abbrev S.rd (f t:List Nat) (l:List S) (j:Int):List Row:=S.Ab (S.AK f t (l.drop j.toNat))
theorem E.Jl {a:List E} {j:Int} (h:((E.Ab a).length:Int)≤j):E.rd f t a j=[]:=by
 rw [E.Az]at h;rw [E.rd,List.drop_eq_nil_of_le om];rfl
theorem S.Jl {l:List S} {j:Int} (h:((S.Ab l).length:Int)≤j):S.rd f t l j=[]:=by
 rw [S.Az]at h;rw [S.rd,List.drop_eq_nil_of_le om];rfl
theorem E.Fa {a:List E} {j k o y v:Int} {s c:List Nat} {b:List E} (hd:a.drop j.toNat=.node k o y v s b::a.drop (j+1).toNat) (hs:c=if k=2∧s=f then t else s):
  E.rd f t a j=[.int .i64 k,.int .i64 o,.int .i64 y,.str c,.int .i32 v,.list 6 (E.Ab (E.AK f t b))]::E.rd f t a (j+1):=by
 subst hs;rw [E.rd,hd];rfl
theorem S.Fa {l:List S} {j k o y b z H N A yk C M P:Int} {nm g x u c d:List Nat} {O J:List E} {D el:List S}
  (hd:l.drop j.toNat=.node k o y b nm (.node z H N A x O) (.node yk C M P u J) D el::l.drop (j+1).toNat)
  (U:g=if nm=f∧(k=1∨k=2∨k=12)then t else nm) (Q:c=if z=2∧x=f then t else x) (R:d=if yk=2∧u=f then t else u):
  S.rd f t l j=AZ k o y b g z H N c A (E.Ab (E.AK f t O)) yk C M d P (E.Ab (E.AK f t J)) (S.Ab (S.AK f t D)) (S.Ab (S.AK f t el))::S.rd f t l (j+1):=by
 subst U Q R;rw [S.rd,hd];rfl
theorem Abi {W V d:List Row} {r:Row} {e:List Row} (c:W=V++[r]) (hd:d=r::e):W++e=V++d:=by
 subst c hd;simp
theorem XH {W V d:List Row} {r:Row} {e:List Row} (c:W=V++[r]) (hd:d=r::e) (g:e=[]):W=V++d:=by
 subst c hd g;rfl
theorem Abh {W d:List Row} {r:Row} {e:List Row} (c:W=[r]) (hd:d=r::e):W++e=d:=by
 subst c hd;rfl
theorem XG {W d:List Row} {r:Row} {e:List Row} (c:W=[r]) (hd:d=r::e) (g:e=[]):W=d:=by
 subst c hd g;rfl
end Go.AM.K
end
