/- Part 21 of the proof of TypesRenames. -/
import Derived.Test.YtbmofjdmgjpfoaaGreatDoorE3
import Derived.Test.YtbmofjdmgjpfoaaGreatDoorE4
import Derived.Test.YtbmofjdmgjpfoaaGreatDoorE11
import Derived.Shelf.LaysM
import Derived.Shelf.Strconv.Itoa3
import Derived.Shelf.Strconv.Itoa4
import Derived.Test.YtbmofjdmgjpfoaaGreatDoorProg
import Derived.Lib.ItoaMem
import Derived.Lib.LaidTab
import Derived.Sort.Grow
import Derived.Deep.Draws
import Derived.WideKeyArgs
import Derived.ChangeSlices
import Derived.ChangeSame
set_option linter.all false
section
namespace Go.Proofs
open Go.Shelf
def Tryz.Rt:Go.Shelf.Ren:=⟨fun|171=>60|243=>78|246=>101|283=>121|284=>122|285=>123|286=>124|129=>133|317=>132|318=>134|319=>135|320=>136|337=>144|338=>145|n=>n,fun|3=>3|9=>9|2=>2|4=>4|171=>160|0=>0|53=>161|37=>22|5=>5|173=>164|212=>173|51=>174|20=>20|213=>175|46=>140|232=>183|233=>184|n=>n,fun|17=>0|18=>1|19=>2|n=>n⟩
theorem Tryz.Acd:Go.Proofs.LaysM.n171 Tryz.prog Tryz.Rt:={
 mixed:=by kernel_rfl
 f129:=Tryz.func133.trans (congrArg some (by kernel_rfl))
 f171:=Tryz.func60.trans (congrArg some (by kernel_rfl))
 f243:=Tryz.func78.trans (congrArg some (by kernel_rfl))
 f246:=Tryz.func101.trans (congrArg some (by kernel_rfl))
 f283:=Tryz.func121.trans (congrArg some (by kernel_rfl))
 f284:=Tryz.func122.trans (congrArg some (by kernel_rfl))
 f285:=Tryz.func123.trans (congrArg some (by kernel_rfl))
 f286:=Tryz.func124.trans (congrArg some (by kernel_rfl))
 f317:=Tryz.func132.trans (congrArg some (by kernel_rfl))
 f318:=Tryz.func134.trans (congrArg some (by kernel_rfl))
 f319:=Tryz.func135.trans (congrArg some (by kernel_rfl))
 f320:=Tryz.func136.trans (congrArg some (by kernel_rfl))
 f337:=Tryz.func144.trans (congrArg some (by kernel_rfl))
 f338:=Tryz.func145.trans (congrArg some (by kernel_rfl))
 t0:=Tryz.underlying0
 a0:=Tryz.isAgg0
 z0:=Tryz.sizeOf0
 v0:=Tryz.zeroValue0
 t2:=Tryz.underlying2
 a2:=Tryz.isAgg2
 z2:=Tryz.sizeOf2
 v2:=Tryz.zeroValue2
 t3:=Tryz.underlying3
 a3:=Tryz.isAgg3
 z3:=Tryz.sizeOf3
 v3:=Tryz.zeroValue3
 t4:=Tryz.underlying4
 a4:=Tryz.isAgg4
 z4:=Tryz.sizeOf4
 v4:=Tryz.zeroValue4
 t5:=Tryz.underlying5
 a5:=Tryz.isAgg5
 z5:=Tryz.sizeOf5
 v5:=Tryz.zeroValue5
 t9:=Tryz.underlying9
 a9:=Tryz.isAgg9
 z9:=Tryz.sizeOf9
 v9:=Tryz.zeroValue9
 t20:=Tryz.underlying20
 a20:=Tryz.isAgg20
 z20:=Tryz.sizeOf20
 v20:=Tryz.zeroValue20
 t37:=Tryz.underlying22
 a37:=Tryz.isAgg22
 z37:=Tryz.sizeOf22
 v37:=Tryz.zeroValue22
 t46:=Tryz.underlying140
 a46:=Tryz.isAgg140
 z46:=Tryz.sizeOf140
 v46:=Tryz.zeroValue140
 t51:=Tryz.underlying174
 a51:=Tryz.isAgg174
 z51:=Tryz.sizeOf174
 v51:=Tryz.zeroValue174
 t53:=Tryz.underlying161
 a53:=Tryz.isAgg161
 z53:=Tryz.sizeOf161
 v53:=Tryz.zeroValue161
 t171:=Tryz.underlying160
 a171:=Tryz.isAgg160
 z171:=Tryz.sizeOf160
 v171:=Tryz.zeroValue160
 t173:=Tryz.underlying164
 a173:=Tryz.isAgg164
 z173:=Tryz.sizeOf164
 v173:=Tryz.zeroValue164
 t212:=Tryz.underlying173
 a212:=Tryz.isAgg173
 z212:=Tryz.sizeOf173
 v212:=Tryz.zeroValue173
 t213:=Tryz.underlying175
 a213:=Tryz.isAgg175
 z213:=Tryz.sizeOf175
 t232:=Tryz.underlying183
 a232:=Tryz.isAgg183
 z232:=Tryz.sizeOf183
 v232:=Tryz.zeroValue183
 t233:=Tryz.underlying184
 a233:=Tryz.isAgg184
 z233:=Tryz.sizeOf184
 v233:=Tryz.zeroValue184
 g17:=by kernel_rfl
 g18:=by kernel_rfl
 g19:=by kernel_rfl
 i0:=by kernel_rfl
 i2:=by kernel_rfl
 i3:=by kernel_rfl
 i4:=by kernel_rfl
 i5:=by kernel_rfl
 i9:=by kernel_rfl
 i20:=by kernel_rfl
 i37:=by kernel_rfl
 i46:=by kernel_rfl
 i51:=by kernel_rfl
 i53:=by kernel_rfl
 i171:=by kernel_rfl
 i173:=by kernel_rfl
 i212:=by kernel_rfl
 i232:=by kernel_rfl
 i233:=by kernel_rfl
 m17:=by kernel_rfl
 m18:=by kernel_rfl
 m19:=by kernel_rfl}
open Go.Lib Go.Sort in
theorem Tryz.strconv_Itoa (n:Int) (h0: -9223372036854775808≤n) (h1:n≤9223372036854775807) (w:World) (htab:Lib.TabIs Tryz.prog w "internal/strconv.uint64pow10" .u64 Lib.pow10Tab):
  Calls Tryz.prog 60 #[.int .i64 n] w fun e w'=>e=.returned (.string ⟨(Lib.itoa n).toArray⟩)∧∃k os,w'=grow (w.drewN k) os:=Any.strconv_Itoa Tryz.Acd n h0 h1 w htab
def Tryz.Rr:Go.Shelf.Ren:=⟨fun|173=>142|246=>101|283=>121|284=>122|285=>123|286=>124|129=>133|317=>132|318=>134|319=>135|320=>136|337=>144|338=>145|n=>n,fun|2=>2|3=>3|9=>9|4=>4|171=>160|0=>0|53=>161|37=>22|5=>5|173=>164|212=>173|51=>174|20=>20|213=>175|46=>140|232=>183|233=>184|n=>n,fun|17=>0|18=>1|19=>2|n=>n⟩
theorem Tryz.Acb:Go.Proofs.LaysM.n173 Tryz.prog Tryz.Rr:={
 mixed:=by kernel_rfl
 f129:=Tryz.func133.trans (congrArg some (by kernel_rfl))
 f173:=Tryz.func142.trans (congrArg some (by kernel_rfl))
 f246:=Tryz.func101.trans (congrArg some (by kernel_rfl))
 f283:=Tryz.func121.trans (congrArg some (by kernel_rfl))
 f284:=Tryz.func122.trans (congrArg some (by kernel_rfl))
 f285:=Tryz.func123.trans (congrArg some (by kernel_rfl))
 f286:=Tryz.func124.trans (congrArg some (by kernel_rfl))
 f317:=Tryz.func132.trans (congrArg some (by kernel_rfl))
 f318:=Tryz.func134.trans (congrArg some (by kernel_rfl))
 f319:=Tryz.func135.trans (congrArg some (by kernel_rfl))
 f320:=Tryz.func136.trans (congrArg some (by kernel_rfl))
 f337:=Tryz.func144.trans (congrArg some (by kernel_rfl))
 f338:=Tryz.func145.trans (congrArg some (by kernel_rfl))
 t0:=Tryz.underlying0
 a0:=Tryz.isAgg0
 z0:=Tryz.sizeOf0
 v0:=Tryz.zeroValue0
 t2:=Tryz.underlying2
 a2:=Tryz.isAgg2
 z2:=Tryz.sizeOf2
 v2:=Tryz.zeroValue2
 t3:=Tryz.underlying3
 a3:=Tryz.isAgg3
 z3:=Tryz.sizeOf3
 v3:=Tryz.zeroValue3
 t4:=Tryz.underlying4
 a4:=Tryz.isAgg4
 z4:=Tryz.sizeOf4
 v4:=Tryz.zeroValue4
 t5:=Tryz.underlying5
 a5:=Tryz.isAgg5
 z5:=Tryz.sizeOf5
 v5:=Tryz.zeroValue5
 t9:=Tryz.underlying9
 a9:=Tryz.isAgg9
 z9:=Tryz.sizeOf9
 v9:=Tryz.zeroValue9
 t20:=Tryz.underlying20
 a20:=Tryz.isAgg20
 z20:=Tryz.sizeOf20
 v20:=Tryz.zeroValue20
 t37:=Tryz.underlying22
 a37:=Tryz.isAgg22
 z37:=Tryz.sizeOf22
 v37:=Tryz.zeroValue22
 t46:=Tryz.underlying140
 a46:=Tryz.isAgg140
 z46:=Tryz.sizeOf140
 v46:=Tryz.zeroValue140
 t51:=Tryz.underlying174
 a51:=Tryz.isAgg174
 z51:=Tryz.sizeOf174
 v51:=Tryz.zeroValue174
 t53:=Tryz.underlying161
 a53:=Tryz.isAgg161
 z53:=Tryz.sizeOf161
 v53:=Tryz.zeroValue161
 t171:=Tryz.underlying160
 a171:=Tryz.isAgg160
 z171:=Tryz.sizeOf160
 v171:=Tryz.zeroValue160
 t173:=Tryz.underlying164
 a173:=Tryz.isAgg164
 z173:=Tryz.sizeOf164
 v173:=Tryz.zeroValue164
 t212:=Tryz.underlying173
 a212:=Tryz.isAgg173
 z212:=Tryz.sizeOf173
 v212:=Tryz.zeroValue173
 t213:=Tryz.underlying175
 a213:=Tryz.isAgg175
 z213:=Tryz.sizeOf175
 t232:=Tryz.underlying183
 a232:=Tryz.isAgg183
 z232:=Tryz.sizeOf183
 v232:=Tryz.zeroValue183
 t233:=Tryz.underlying184
 a233:=Tryz.isAgg184
 z233:=Tryz.sizeOf184
 v233:=Tryz.zeroValue184
 g17:=by kernel_rfl
 g18:=by kernel_rfl
 g19:=by kernel_rfl
 i0:=by kernel_rfl
 i2:=by kernel_rfl
 i3:=by kernel_rfl
 i4:=by kernel_rfl
 i5:=by kernel_rfl
 i9:=by kernel_rfl
 i20:=by kernel_rfl
 i37:=by kernel_rfl
 i46:=by kernel_rfl
 i51:=by kernel_rfl
 i53:=by kernel_rfl
 i171:=by kernel_rfl
 i173:=by kernel_rfl
 i212:=by kernel_rfl
 i232:=by kernel_rfl
 i233:=by kernel_rfl
 m17:=by kernel_rfl
 m18:=by kernel_rfl
 m19:=by kernel_rfl}
open Go.Lib Go.Sort in
theorem Tryz.strconv_FormatInt_10 (n:Int) (h0: -9223372036854775808≤n) (h1:n≤9223372036854775807) (w:World) (htab:Lib.TabIs Tryz.prog w "internal/strconv.uint64pow10" .u64 Lib.pow10Tab):
  Calls Tryz.prog 142 #[.int .i64 n,.int .i64 10] w fun e w'=>e=.returned (.string ⟨(Lib.itoa n).toArray⟩)∧∃k os,w'=grow (w.drewN k) os:=Any.strconv_FormatInt_10 Tryz.Acb n h0 h1 w htab
end Go.Proofs
end
section
namespace Go.AM
theorem PK (n:Int) (k: -9223372036854775808≤n) (d:n≤9223372036854775807):1≤(Lib.itoa n).length∧(Lib.itoa n).length≤21:=by
 have c:∀u:Nat,u<18446744073709551616→1≤(Lib.decDigits u).length∧(Lib.decDigits u).length≤20:=fun u g=>by
  rw [Lib.decDigits_length]
  by_cases hz:u<10
  ·rw [Lib.nDigits_small hz];omega
  ·have d:=Lib.numDigits_eq u (by omega) g
   have j:=Lib.nDigits_big hz
   split at d<;>omega
 unfold Lib.itoa
 split
 ·have:=c n.natAbs (by omega)
  rw [lC];omega
 ·have:=c n.toNat (by omega)
  omega
theorem LP {Γ:An} {v:Env} (g:Γ.AG v) {t:ST} (h:XZ Γ t=true): -9223372036854775808≤t.den v∧t.den v≤9223372036854775807:=by
 have j:∀n:Int,-9223372036854775808≤IntKind.i64.wrap n∧IntKind.i64.wrap n≤9223372036854775807:=fun n=>by
  unfold IntKind.wrap
  simp [IntKind.signed,IntKind.bits]
  split<;>omega
 have tests:(Dv (Cf Γ.tests .geq t (.lit (.negSucc 9223372036854775807)))&&Dv (Cf Γ.tests .leq t (.lit (.ofNat 9223372036854775807))))=true→-9223372036854775808≤t.den v∧t.den v≤9223372036854775807:=fun h=>by
  rw [aT]at h
  have get:∀{o:Option Bool},Dv o=true→o=some true:=fun {o} h=>by
   unfold Dv at h
   split at h
   ·rfl
   ·cases h
  have d:=g.tests _ (Ds (get h.1))
  have c:=g.tests _ (Ds (get h.2))
  have d:decide (t.den v≥-9223372036854775808)=true:=d
  have c:decide (t.den v≤9223372036854775807)=true:=c
  exact ⟨of_decide_eq_true d,of_decide_eq_true c⟩
 unfold XZ at h
 split at h
 ·rename_i n
  simp only [inK,Ix,cond_true,aT,Rv,decide_eq_true_eq]at h
  have d:Int.negSucc (modulus .i64/2-1)= -9223372036854775808:=by decide
  have c:Int.ofNat (modulus .i64/2-1)=9223372036854775807:=by decide
  rw [d,c]at h
  exact h
 ·rename_i k a
  rw [Dt.1 h]
  exact j _
 ·rename_i k a b
  rw [Dt.1 h]
  exact j _
 ·exact tests h
theorem T2 {P:Program} {ρ:Env} {Γ:An} (z:Γ.AG ρ) {f:FuncId} (hf:Ky P f)
  (y:∀(n:Int) (w:World),-9223372036854775808≤n→n≤9223372036854775807→(∀g o,ρ.AS g=some o→w.heap[g]?=some o)→
   Calls P f #[.int .i64 n] w fun e w'=>e=.returned (.string ⟨(Lib.itoa n).toArray⟩)∧∃k os,w'=Sort.grow (w.drewN k) os):CF P ρ f (Nw Γ):=by
 intro args h r J c
 refine ⟨hf,fun μ w d H hv=>?_⟩
 unfold Nw at c
 split at c
 ·rename_i n
  obtain ⟨D,c⟩:=Ao c
  simp only [oI,Prod.mk.injEq]at c
  obtain ⟨rfl,rfl⟩:=c
  simp only [A7]at hv
  obtain ⟨v,rest,A,x,rfl⟩:=hv
  have x:=Ag.int x
  obtain rfl:d=#[v]:=by rw [←Array.toList_inj];simpa using A
  subst x
  obtain ⟨u,j⟩:=LP z D
  refine (y _ w u j fun g o e=>(H.AS.AS g o e).1).mono fun e w' C=>?_
  obtain ⟨rfl,k,os,rfl⟩:=C
  refine ⟨μ,Av.idle H (fun r c=>?_) ?_ rfl rfl,?_⟩
  ·show (w.heap++os)[r]?=_
   rw [Array.getElem?_append_left c]
  ·show w.heap.size≤(w.heap++os).size
   simp
  ·show Ag ρ μ (.anyStr 21) _
   simp only [Ag]
   have:=PK _ u j
   exact ⟨_,rfl,by simpa [ByteArray.size]using this.1,by simpa [ByteArray.size]using this.2⟩
 ·cases c
theorem Ru {P:Program} {ρ:Env} {Γ:An} (D:Γ.AG ρ) {f:FuncId} (hf:Ky P f)
  (C:∀(n:Int) (w:World),-9223372036854775808≤n→n≤9223372036854775807→(∀g o,ρ.AS g=some o→w.heap[g]?=some o)→
   Calls P f #[.int .i64 n,.int .i64 10] w fun e w'=>e=.returned (.string ⟨(Lib.itoa n).toArray⟩)∧∃k os,w'=Sort.grow (w.drewN k) os):CF P ρ f (Nv Γ):=by
 intro args h r Q c
 refine ⟨hf,fun μ w d H hv=>?_⟩
 unfold Nv at c
 split at c
 ·rename_i n
  obtain ⟨O,c⟩:=Ao c
  simp only [oI,Prod.mk.injEq]at c
  obtain ⟨rfl,rfl⟩:=c
  simp only [A7]at hv
  obtain ⟨v,rest,J,x,z,A,M,y,rfl⟩:=hv
  have x:=Ag.int x
  have y:z=.int .i64 10:=Ag.int y
  subst M
  obtain rfl:d=#[v,z]:=by rw [←Array.toList_inj];simpa using J
  subst x y
  obtain ⟨u,j⟩:=LP D O
  refine (C _ w u j fun g o e=>(H.AS.AS g o e).1).mono fun e w' N=>?_
  obtain ⟨rfl,k,os,rfl⟩:=N
  refine ⟨μ,Av.idle H (fun r c=>?_) ?_ rfl rfl,?_⟩
  ·show (w.heap++os)[r]?=_
   rw [Array.getElem?_append_left c]
  ·show w.heap.size≤(w.heap++os).size
   simp
  ·show Ag ρ μ (.anyStr 21) _
   simp only [Ag]
   have:=PK _ u j
   exact ⟨_,rfl,by simpa [ByteArray.size]using this.1,by simpa [ByteArray.size]using this.2⟩
 ·cases c
end Go.AM
end
section
namespace Go.AM
open Go.ChangeShapes Go.WideShapes
theorem IY.Afw {Bb:Nat→Option Obj} {a:Array Value}:∀(c:List Int) (δ:Nat),(∀i,i<c.length→a[δ+i]?=some (.int .u8 (c.getD i 0)))→BR Bb 1 a δ (c.map fun z=>[PV.int .u8 z])
 |[],_,_=>trivial
 |z::c,δ,h=>by
  simp only [List.map_cons,BR,AQ,List.length_singleton,true_and,and_true]
  refine ⟨⟨_,by simpa using h 0 (by simp),rfl⟩,IY.Afw c (δ+1) fun i d=>?_⟩
  have:=h (i+1) (by simp;omega)
  rw [show δ+1+i=δ+(i+1) by omega,this];simp
section
variable {H:Type} {enc:TypeId×Value→H} {P:Program}
theorem AbJ {t D:TypeId} {f0:Field} {r:Reach} {b0:Nat} (hs:P.underlying t=some (.struct #[f0])) (hC:P.cellsOf t=1) (ho:f0.offset=0) (Z:P.cellsOf f0.type=1)
  (M:P.underlying f0.type=some (.slice D)) (he:P.underlying D=some (.int .u8)) (hc:P.cellsOf D=1) (hb:P.bytesOf D=1) {w:World} {v:Value} {d:DataW H} {p:List MemPlace}
  (hv:Value.okWide P w r b0 t v) (h:DataW.Trod enc P w 0 (fun _=>true) true t v d p) (O:(d.weights P t).all (·≤reachBytes)=true):
  ∃(u:Value) (B:List (List PV)),v=.agg #[u]∧IG (fun g=>w.heap[g]?) (.list 1 B) u∧Dy B∧(B.length:Int)≤140737488355328:=by
 obtain ⟨cs,rfl,U⟩:=okWide_struct hs hv
 obtain ⟨c0,rfl⟩:∃c0,cs=#[c0]:=by
  obtain ⟨l⟩:=cs
  match l,U.trans hC with
  |[c0],_=>exact ⟨c0,rfl⟩
 obtain ⟨fuel,hf⟩:=h
 obtain ⟨y0,n,j,_,C⟩:=trod_struct1 hs hf
 simp only [Prod.mk.injEq]at j
 obtain ⟨rfl,rfl⟩:=j
 rw [ho,Z]at C
 have C:DataW.trod enc P w 0 (fun _=>true) true n f0.type [c0]=some y0:=by simpa [Value.cells]using C
 rcases open_ints M he hc C with ⟨e,_⟩|⟨a,len,cap,zs,e,_,hl,_,hz,hy,hcell,hwf⟩
 ·simp only [List.cons.injEq,and_true]at e
  subst e
  refine ⟨_,[],rfl,?_,fun i x j=>by simp at j,by simp⟩
  simp only [IG]
  exact ⟨0,by simp,.inl ⟨trivial,none,rfl⟩⟩
 ·simp only [List.cons.injEq,and_true]at e
  subst e
  simp only [if_true]at hz
  have ag:len≤140737488355328:=by
   simp only [DataW.weights,hs,DataW.weightsEach,List.map_cons,List.map_nil,hy,M,hb,List.cons_append,List.all_cons,aT,decide_eq_true_eq]at O
   have:=O.1
   simp only [lits,List.length_map,lT',List.length_drop,reachBytes]at this
   omega
  have A:(zs.take len).length=len:=by rw [lT'];omega
  refine ⟨_,(zs.take len).map fun z=>[PV.int .u8 z],rfl,?_,fun i x j=>?_,?_⟩
  ·simp only [IG,List.length_map,A]
   refine ⟨cap,hl,?_⟩
   by_cases hz0:len=0
   ·subst hz0
    exact .inl ⟨by simp,some a,rfl⟩
   ·have o:=hcell 0 (by omega)
    rw [show a.add 0=a from rfl]at o
    unfold World.cell? at o
    split at o
    ·rename_i c e fr hg
     have k:a.spot=none:=by
      cases k:a.spot with
      |none=>rfl
      |some s=>rw [k]at o;simp at o
     obtain ⟨bk,J,sp⟩:=a
     simp only at k hg
     subst k
     refine .inr ⟨bk,J,c,e,rfl,⟨fr,hg⟩,IY.Afw _ _ fun i X=>?_⟩
     have Q:i<len:=by rw [A]at X;exact X
     have y:=hcell i (by omega)
     rw [add_plain]at y
     unfold World.cell? at y
     simp only [hg]at y
     have y:c[J+i]?=some (.int .u8 (zs.getD i 0)):=by simpa using y
     rw [y]
     simp [List.getD,List.getElem?_take,Q]
    ·cases o
  ·simp only [List.getElem?_map,Option.map_eq_some_iff]at j
   obtain ⟨z,R,rfl⟩:=j
   have N:=hwf z (List.mem_of_mem_take (List.mem_of_getElem? R))
   simp only [Lit.wf,aT,decide_eq_true_eq]at N
   refine ⟨z,?_,?_,rfl⟩
   ·have:=N;simp [IntKind.min,IntKind.max,IntKind.signed,IntKind.bits]at this;omega
   ·have:=N;simp [IntKind.min,IntKind.max,IntKind.signed,IntKind.bits]at this;omega
  ·rw [List.length_map,A];omega
end
theorem Afh {a b:Array Value} (hs:b.size=a.size) (d:∀j:Nat,¬False→b[j]?=a[j]?):b=a:=by
 apply Array.ext hs
 intro i c g
 have:=d i (fun h=>h)
 rw [Array.getElem?_eq_getElem c,Array.getElem?_eq_getElem g]at this
 exact Option.some.inj this
theorem Kept.sameAt {W w':World} (h:Kept W w') {p:MemPlace} (g:p.block<W.heap.size):W.sameAt w' p:=by
 obtain ⟨⟨_,_,c⟩,_,_⟩:=h
 have c:=c p.block g
 cases p with
 |cell b off=>
  show w'.cell? ⟨b,off,none⟩=W.cell? ⟨b,off,none⟩
  unfold World.cell?
  simp only [MemPlace.block]at c g
  cases e:W.heap[b]? with
  |none=>rw [e]at c;cases e':w'.heap[b]? with
   |none=>rfl
   |some o'=>rw [e']at c;cases c
  |some o=>
   rw [e]at c
   cases e':w'.heap[b]? with
   |none=>rw [e']at c;cases o<;>simp at c
   |some o'=>
    rw [e']at c
    cases o<;>cases o'<;>simp only [oI,reduceCtorEq]at c⊢
    all_goals try rfl
    obtain ⟨_,_,_,d⟩:=c
    simpa using d off (fun h=>h)
 |map b=>
  show w'.heap[b]?=W.heap[b]?
  simp only [MemPlace.block]at c g
  cases e:W.heap[b]? with
  |none=>rw [e]at c;cases e':w'.heap[b]? with
   |none=>rfl
   |some o'=>rw [e']at c;cases c
  |some o=>
   rw [e]at c
   cases e':w'.heap[b]? with
   |none=>rw [e']at c;cases o<;>simp at c
   |some o'=>
    rw [e']at c
    cases o<;>cases o'<;>simp only [oI,reduceCtorEq,false_or]at c⊢
    all_goals try exact c
    ·obtain ⟨j,k,hs,d⟩:=c
     rw [j,k,Afh hs d]
    ·rw [c.1,c.2]
theorem Av.Ace {ρ:Env} {T:Nat→Option Obj} {j:Ap} {d:Nat} {w w':World} {c:Ak} (g:Av ρ ⟨fun _=>none,T⟩ (empty d) w j c w'):Kept w w':=
 Kept.of_same (fun r k=>(g.kept r k (by rintro ⟨_,_,_,_,e⟩;cases e)).1) g.size g.os g.output
theorem Sa {P:Program} {ρ:Env} {g:FuncId} {args:List Aa} (h:Holds P ρ g ⟨args,[],.bool (.lit true),[]⟩) {c:Array Value} (w:World) (hv:A7 ρ ⟨fun _=>none,fun g=>w.heap[g]?⟩ args c.toList) (x:∀g o,ρ.AS g=some o→w.heap[g]?=some o):
  Calls P g c w fun e w'=>e=.returned (.bool true)∧Kept w w':=by
 refine (h.2 _ w c (NN 0 w x (fun _ _ h=>h) (An.AG.none ρ)) hv).mono fun e w' d=>?_
 obtain ⟨k,j,d⟩:=d
 refine ⟨?_,j.Ace⟩
 cases e
 case returned u=>
  have d:Ag ρ k (.bool (.lit true)) u:=d
  simp only [Ag]at d
  subst d
  rfl
 all_goals exact d.elim
theorem Sv {P:Program} {ρ:Env} {g:FuncId} (x:Holds P ρ g ⟨[],[],.bool (.lit true),[]⟩):CF P ρ g ZR:=by
 intro args h r z d
 unfold ZR at d
 split at d
 ·simp only [oI,Prod.mk.injEq]at d
  obtain ⟨rfl,rfl⟩:=d
  refine ⟨x.1,fun μ w k H hv=>?_⟩
  refine (x.2 _ w k (Zq 0 w fun g o e=>(H.AS.AS g o e).1) hv).mono fun e w' c=>?_
  obtain ⟨y,j,c⟩:=c
  refine ⟨μ,Av.idle H (fun r d=>(j.kept r d (by rintro ⟨_,_,_,_,e⟩;cases e)).1) j.size j.os j.output,?_⟩
  cases e
  case returned u=>
   have c:Ag ρ y yes u:=c
   simp only [yes,Ag]at c
   subst c
   show Ag ρ μ yes _
   simp only [yes,Ag]
  all_goals exact c.elim
 ·cases d
end Go.AM
end
