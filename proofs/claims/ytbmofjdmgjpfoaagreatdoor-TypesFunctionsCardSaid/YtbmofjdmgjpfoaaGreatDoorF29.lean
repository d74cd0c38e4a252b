/- Part 29 of TypesFunctions. -/
import Derived.Test.YtbmofjdmgjpfoaaGreatDoorF3
import Derived.Test.YtbmofjdmgjpfoaaGreatDoorF4
import Derived.Test.YtbmofjdmgjpfoaaGreatDoorF17
import Derived.Shelf.LaysM
import Derived.Shelf.Strconv.Itoa3
import Derived.Shelf.Strconv.Itoa4
import Derived.Test.YtbmofjdmgjpfoaaGreatDoorProg
import Derived.Lib.ItoaMem
import Derived.Lib.LaidTab
import Derived.Sort.Grow
import Derived.Deep.Draws
import Derived.WideKeyArgs
import Derived.ChangeSlices
import Derived.ChangeSame
set_option linter.all false
namespace Go.Proofs
section
open Go.Shelf
def Tryz.laysM171_ren:Go.Shelf.Ren:=⟨fun|171=>60|243=>78|246=>101|283=>121|284=>122|285=>123|286=>124|129=>133|317=>132|318=>134|319=>135|320=>136|337=>144|338=>145|n=>n,fun|3=>3|9=>9|2=>2|4=>4|171=>160|0=>0|53=>161|37=>22|5=>5|173=>164|212=>173|51=>174|20=>20|213=>175|46=>140|232=>183|233=>184|n=>n,fun|17=>0|18=>1|19=>2|n=>n⟩
theorem Tryz.laysM171:Go.Proofs.LaysM.n171 Tryz.prog Tryz.laysM171_ren:={
 mixed:=by kernel_rfl
 f129:=Tryz.func133.trans (congrArg some (by kernel_rfl))
 f171:=Tryz.func60.trans (congrArg some (by kernel_rfl))
 f243:=Tryz.func78.trans (congrArg some (by kernel_rfl))
 f246:=Tryz.func101.trans (congrArg some (by kernel_rfl))
 f283:=Tryz.func121.trans (congrArg some (by kernel_rfl))
 f284:=Tryz.func122.trans (congrArg some (by kernel_rfl))
 f285:=Tryz.func123.trans (congrArg some (by kernel_rfl))
 f286:=Tryz.func124.trans (congrArg some (by kernel_rfl))
 f317:=Tryz.func132.trans (congrArg some (by kernel_rfl))
 f318:=Tryz.func134.trans (congrArg some (by kernel_rfl))
 f319:=Tryz.func135.trans (congrArg some (by kernel_rfl))
 f320:=Tryz.func136.trans (congrArg some (by kernel_rfl))
 f337:=Tryz.func144.trans (congrArg some (by kernel_rfl))
 f338:=Tryz.func145.trans (congrArg some (by kernel_rfl))
 t0:=Tryz.underlying0
 a0:=Tryz.isAgg0
 z0:=Tryz.sizeOf0
 v0:=Tryz.zeroValue0
 t2:=Tryz.underlying2
 a2:=Tryz.isAgg2
 z2:=Tryz.sizeOf2
 v2:=Tryz.zeroValue2
 t3:=Tryz.underlying3
 a3:=Tryz.isAgg3
 z3:=Tryz.sizeOf3
 v3:=Tryz.zeroValue3
 t4:=Tryz.underlying4
 a4:=Tryz.isAgg4
 z4:=Tryz.sizeOf4
 v4:=Tryz.zeroValue4
 t5:=Tryz.underlying5
 a5:=Tryz.isAgg5
 z5:=Tryz.sizeOf5
 v5:=Tryz.zeroValue5
 t9:=Tryz.underlying9
 a9:=Tryz.isAgg9
 z9:=Tryz.sizeOf9
 v9:=Tryz.zeroValue9
 t20:=Tryz.underlying20
 a20:=Tryz.isAgg20
 z20:=Tryz.sizeOf20
 v20:=Tryz.zeroValue20
 t37:=Tryz.underlying22
 a37:=Tryz.isAgg22
 z37:=Tryz.sizeOf22
 v37:=Tryz.zeroValue22
 t46:=Tryz.underlying140
 a46:=Tryz.isAgg140
 z46:=Tryz.sizeOf140
 v46:=Tryz.zeroValue140
 t51:=Tryz.underlying174
 a51:=Tryz.isAgg174
 z51:=Tryz.sizeOf174
 v51:=Tryz.zeroValue174
 t53:=Tryz.underlying161
 a53:=Tryz.isAgg161
 z53:=Tryz.sizeOf161
 v53:=Tryz.zeroValue161
 t171:=Tryz.underlying160
 a171:=Tryz.isAgg160
 z171:=Tryz.sizeOf160
 v171:=Tryz.zeroValue160
 t173:=Tryz.underlying164
 a173:=Tryz.isAgg164
 z173:=Tryz.sizeOf164
 v173:=Tryz.zeroValue164
 t212:=Tryz.underlying173
 a212:=Tryz.isAgg173
 z212:=Tryz.sizeOf173
 v212:=Tryz.zeroValue173
 t213:=Tryz.underlying175
 a213:=Tryz.isAgg175
 z213:=Tryz.sizeOf175
 t232:=Tryz.underlying183
 a232:=Tryz.isAgg183
 z232:=Tryz.sizeOf183
 v232:=Tryz.zeroValue183
 t233:=Tryz.underlying184
 a233:=Tryz.isAgg184
 z233:=Tryz.sizeOf184
 v233:=Tryz.zeroValue184
 g17:=by kernel_rfl
 g18:=by kernel_rfl
 g19:=by kernel_rfl
 i0:=by kernel_rfl
 i2:=by kernel_rfl
 i3:=by kernel_rfl
 i4:=by kernel_rfl
 i5:=by kernel_rfl
 i9:=by kernel_rfl
 i20:=by kernel_rfl
 i37:=by kernel_rfl
 i46:=by kernel_rfl
 i51:=by kernel_rfl
 i53:=by kernel_rfl
 i171:=by kernel_rfl
 i173:=by kernel_rfl
 i212:=by kernel_rfl
 i232:=by kernel_rfl
 i233:=by kernel_rfl
 m17:=by kernel_rfl
 m18:=by kernel_rfl
 m19:=by kernel_rfl}
open Go.Lib Go.Sort in
theorem Tryz.strconv_Itoa (n:Int) (h0: -9223372036854775808<=n) (h1:n<=9223372036854775807) (w:World) (htab:Lib.TabIs Tryz.prog w "internal/strconv.uint64pow10" .u64 Lib.pow10Tab):
  Calls Tryz.prog 60 #[.int .i64 n] w fun e w'=>e=.returned (.string ⟨(Lib.itoa n).toArray⟩)/\∃k os,w'=grow (w.drewN k) os:=Any.strconv_Itoa Tryz.laysM171 n h0 h1 w htab
def Tryz.laysM173_ren:Go.Shelf.Ren:=⟨fun|173=>142|246=>101|283=>121|284=>122|285=>123|286=>124|129=>133|317=>132|318=>134|319=>135|320=>136|337=>144|338=>145|n=>n,fun|2=>2|3=>3|9=>9|4=>4|171=>160|0=>0|53=>161|37=>22|5=>5|173=>164|212=>173|51=>174|20=>20|213=>175|46=>140|232=>183|233=>184|n=>n,fun|17=>0|18=>1|19=>2|n=>n⟩
theorem Tryz.laysM173:Go.Proofs.LaysM.n173 Tryz.prog Tryz.laysM173_ren:={
 mixed:=by kernel_rfl
 f129:=Tryz.func133.trans (congrArg some (by kernel_rfl))
 f173:=Tryz.func142.trans (congrArg some (by kernel_rfl))
 f246:=Tryz.func101.trans (congrArg some (by kernel_rfl))
 f283:=Tryz.func121.trans (congrArg some (by kernel_rfl))
 f284:=Tryz.func122.trans (congrArg some (by kernel_rfl))
 f285:=Tryz.func123.trans (congrArg some (by kernel_rfl))
 f286:=Tryz.func124.trans (congrArg some (by kernel_rfl))
 f317:=Tryz.func132.trans (congrArg some (by kernel_rfl))
 f318:=Tryz.func134.trans (congrArg some (by kernel_rfl))
 f319:=Tryz.func135.trans (congrArg some (by kernel_rfl))
 f320:=Tryz.func136.trans (congrArg some (by kernel_rfl))
 f337:=Tryz.func144.trans (congrArg some (by kernel_rfl))
 f338:=Tryz.func145.trans (congrArg some (by kernel_rfl))
 t0:=Tryz.underlying0
 a0:=Tryz.isAgg0
 z0:=Tryz.sizeOf0
 v0:=Tryz.zeroValue0
 t2:=Tryz.underlying2
 a2:=Tryz.isAgg2
 z2:=Tryz.sizeOf2
 v2:=Tryz.zeroValue2
 t3:=Tryz.underlying3
 a3:=Tryz.isAgg3
 z3:=Tryz.sizeOf3
 v3:=Tryz.zeroValue3
 t4:=Tryz.underlying4
 a4:=Tryz.isAgg4
 z4:=Tryz.sizeOf4
 v4:=Tryz.zeroValue4
 t5:=Tryz.underlying5
 a5:=Tryz.isAgg5
 z5:=Tryz.sizeOf5
 v5:=Tryz.zeroValue5
 t9:=Tryz.underlying9
 a9:=Tryz.isAgg9
 z9:=Tryz.sizeOf9
 v9:=Tryz.zeroValue9
 t20:=Tryz.underlying20
 a20:=Tryz.isAgg20
 z20:=Tryz.sizeOf20
 v20:=Tryz.zeroValue20
 t37:=Tryz.underlying22
 a37:=Tryz.isAgg22
 z37:=Tryz.sizeOf22
 v37:=Tryz.zeroValue22
 t46:=Tryz.underlying140
 a46:=Tryz.isAgg140
 z46:=Tryz.sizeOf140
 v46:=Tryz.zeroValue140
 t51:=Tryz.underlying174
 a51:=Tryz.isAgg174
 z51:=Tryz.sizeOf174
 v51:=Tryz.zeroValue174
 t53:=Tryz.underlying161
 a53:=Tryz.isAgg161
 z53:=Tryz.sizeOf161
 v53:=Tryz.zeroValue161
 t171:=Tryz.underlying160
 a171:=Tryz.isAgg160
 z171:=Tryz.sizeOf160
 v171:=Tryz.zeroValue160
 t173:=Tryz.underlying164
 a173:=Tryz.isAgg164
 z173:=Tryz.sizeOf164
 v173:=Tryz.zeroValue164
 t212:=Tryz.underlying173
 a212:=Tryz.isAgg173
 z212:=Tryz.sizeOf173
 v212:=Tryz.zeroValue173
 t213:=Tryz.underlying175
 a213:=Tryz.isAgg175
 z213:=Tryz.sizeOf175
 t232:=Tryz.underlying183
 a232:=Tryz.isAgg183
 z232:=Tryz.sizeOf183
 v232:=Tryz.zeroValue183
 t233:=Tryz.underlying184
 a233:=Tryz.isAgg184
 z233:=Tryz.sizeOf184
 v233:=Tryz.zeroValue184
 g17:=by kernel_rfl
 g18:=by kernel_rfl
 g19:=by kernel_rfl
 i0:=by kernel_rfl
 i2:=by kernel_rfl
 i3:=by kernel_rfl
 i4:=by kernel_rfl
 i5:=by kernel_rfl
 i9:=by kernel_rfl
 i20:=by kernel_rfl
 i37:=by kernel_rfl
 i46:=by kernel_rfl
 i51:=by kernel_rfl
 i53:=by kernel_rfl
 i171:=by kernel_rfl
 i173:=by kernel_rfl
 i212:=by kernel_rfl
 i232:=by kernel_rfl
 i233:=by kernel_rfl
 m17:=by kernel_rfl
 m18:=by kernel_rfl
 m19:=by kernel_rfl}
open Go.Lib Go.Sort in
theorem Tryz.strconv_FormatInt_10 (n:Int) (h0: -9223372036854775808<=n) (h1:n<=9223372036854775807) (w:World) (htab:Lib.TabIs Tryz.prog w "internal/strconv.uint64pow10" .u64 Lib.pow10Tab):
  Calls Tryz.prog 142 #[.int .i64 n,.int .i64 10] w fun e w'=>e=.returned (.string ⟨(Lib.itoa n).toArray⟩)/\∃k os,w'=grow (w.drewN k) os:=Any.strconv_FormatInt_10 Tryz.laysM173 n h0 h1 w htab
end
end Go.Proofs
namespace Go.AM
section
theorem OW (n:Int) (x: -9223372036854775808<=n) (q:n<=9223372036854775807):1<=(Lib.itoa n).length/\(Lib.itoa n).length<=21:=by
 have j:∀u:Nat,u<18446744073709551616->1<=(Lib.decDigits u).length/\(Lib.decDigits u).length<=20:=fun u v=>by
  rw [Lib.decDigits_length]
  by_cases hz:u<10
  ·rw [Lib.nDigits_small hz];omega
  ·have q:=Lib.numDigits_eq u (by omega) v
   have z:=Lib.nDigits_big hz
   split at q<;>omega
 unfold Lib.itoa
 split
 ·have:=j n.natAbs (by omega)
  rw [lC];omega
 ·have:=j n.toNat (by omega)
  omega
theorem Lc {Γ:Ao} {v:Env} (hΓ:Γ.AB v) {t:ST} (h:Wx Γ t=true): -9223372036854775808<=t.den v/\t.den v<=9223372036854775807:=by
 have x:∀n:Int,-9223372036854775808<=IntKind.i64.wrap n/\IntKind.i64.wrap n<=9223372036854775807:=fun n=>by
  unfold IntKind.wrap
  simp [IntKind.signed,IntKind.bits]
  split<;>omega
 have tests:(Dh (BS Γ.tests .geq t (.lit (.negSucc 9223372036854775807)))&&Dh (BS Γ.tests .leq t (.lit (.ofNat 9223372036854775807))))=true->-9223372036854775808<=t.den v/\t.den v<=9223372036854775807:=fun h=>by
  rw [aT]at h
  have get:∀{o:Option Bool},Dh o=true->o=some true:=fun {o} h=>by
   unfold Dh at h
   split at h
   ·rfl
   ·cases h
  have j:=hΓ.tests _ (De (get h.1))
  have q:=hΓ.tests _ (De (get h.2))
  have j:decide (t.den v>=-9223372036854775808)=true:=j
  have q:decide (t.den v<=9223372036854775807)=true:=q
  exact ⟨of_decide_eq_true j,of_decide_eq_true q⟩
 unfold Wx at h
 split at h
 ·rename_i n
  simp only [inK,HT,cond_true,aT,QF,decide_eq_true_eq]at h
  have j:Int.negSucc (modulus .i64/2-1)= -9223372036854775808:=by decide
  have q:Int.ofNat (modulus .i64/2-1)=9223372036854775807:=by decide
  rw [j,q]at h
  exact h
 ·rename_i k a
  rw [Df.1 h]
  exact x _
 ·rename_i k a b
  rw [Df.1 h]
  exact x _
 ·exact tests h
theorem S8 {P:Program} {ρ:Env} {Γ:Ao} (hΓ:Γ.AB ρ) {f:FuncId} (hf:JQ P f)
  (C:∀(n:Int) (w:World),-9223372036854775808<=n->n<=9223372036854775807->(∀g o,ρ.AJ g=some o->w.heap[g]?=some o)->
   Calls P f #[.int .i64 n] w fun e w'=>e=.returned (.string ⟨(Lib.itoa n).toArray⟩)/\∃k os,w'=Sort.grow (w.drewN k) os):Cv P ρ f (MN Γ):=by
 intro args h r M j
 refine ⟨hf,fun μ w q H B=>?_⟩
 unfold MN at j
 split at j
 ·rename_i n
  obtain ⟨I,j⟩:=Ap j
  simp only [oI,Prod.mk.injEq]at j
  obtain ⟨rfl,rfl⟩:=j
  simp only [A4]at B
  obtain ⟨v,rest,J,A,rfl⟩:=B
  have A:=Ah.int A
  obtain rfl:q=#[v]:=by rw [<-Array.toList_inj];simpa using J
  subst A
  obtain ⟨x,z⟩:=Lc hΓ I
  refine (C _ w x z fun g o e=>(H.AJ.AJ g o e).1).mono fun e w' L=>?_
  obtain ⟨rfl,k,os,rfl⟩:=L
  refine ⟨μ,Av.idle H (fun r j=>?_) ?_ rfl rfl,?_⟩
  ·show (w.heap++os)[r]?=_
   rw [Array.getElem?_append_left j]
  ·show w.heap.size<=(w.heap++os).size
   simp
  ·show Ah ρ μ (.anyStr 21) _
   simp only [Ah]
   have:=OW _ x z
   exact ⟨_,rfl,by simpa [ByteArray.size]using this.1,by simpa [ByteArray.size]using this.2⟩
 ·cases j
theorem QE {P:Program} {ρ:Env} {Γ:Ao} (hΓ:Γ.AB ρ) {f:FuncId} (hf:JQ P f)
  (L:∀(n:Int) (w:World),-9223372036854775808<=n->n<=9223372036854775807->(∀g o,ρ.AJ g=some o->w.heap[g]?=some o)->
   Calls P f #[.int .i64 n,.int .i64 10] w fun e w'=>e=.returned (.string ⟨(Lib.itoa n).toArray⟩)/\∃k os,w'=Sort.grow (w.drewN k) os):Cv P ρ f (MM Γ):=by
 intro args h r R j
 refine ⟨hf,fun μ w q H I=>?_⟩
 unfold MM at j
 split at j
 ·rename_i n
  obtain ⟨M,j⟩:=Ap j
  simp only [oI,Prod.mk.injEq]at j
  obtain ⟨rfl,rfl⟩:=j
  simp only [A4]at I
  obtain ⟨v,rest,O,B,C,J,N,A,rfl⟩:=I
  have B:=Ah.int B
  have A:C=.int .i64 10:=Ah.int A
  subst N
  obtain rfl:q=#[v,C]:=by rw [<-Array.toList_inj];simpa using O
  subst B A
  obtain ⟨x,z⟩:=Lc hΓ M
  refine (L _ w x z fun g o e=>(H.AJ.AJ g o e).1).mono fun e w' Q=>?_
  obtain ⟨rfl,k,os,rfl⟩:=Q
  refine ⟨μ,Av.idle H (fun r j=>?_) ?_ rfl rfl,?_⟩
  ·show (w.heap++os)[r]?=_
   rw [Array.getElem?_append_left j]
  ·show w.heap.size<=(w.heap++os).size
   simp
  ·show Ah ρ μ (.anyStr 21) _
   simp only [Ah]
   have:=OW _ x z
   exact ⟨_,rfl,by simpa [ByteArray.size]using this.1,by simpa [ByteArray.size]using this.2⟩
 ·cases j
end
section
open Go.ChangeShapes Go.WideShapes
theorem Iv.AdK {AQ:Nat->Option Obj} {a:Array Value}:∀(j:List Int) (δ:Nat),(∀i,i<j.length->a[δ+i]?=some (.int .u8 (j.getD i 0)))->BF AQ 1 a δ (j.map fun z=>[PV.int .u8 z])
 |[],_,_=>trivial
 |z::j,δ,h=>by
  simp only [List.map_cons,BF,AG,List.length_singleton,true_and,and_true]
  refine ⟨⟨_,by simpa using h 0 (by simp),rfl⟩,Iv.AdK j (δ+1) fun i q=>?_⟩
  have:=h (i+1) (by simp;omega)
  rw [show δ+1+i=δ+(i+1) by omega,this];simp
section
variable {H:Type} {enc:TypeId×Value->H} {P:Program}
theorem AaJ {t J:TypeId} {f0:Field} {r:Reach} {b0:Nat} (hs:P.underlying t=some (.struct #[f0])) (Z:P.cellsOf t=1) (ho:f0.offset=0) (X:P.cellsOf f0.type=1)
  (M:P.underlying f0.type=some (.slice J)) (he:P.underlying J=some (.int .u8)) (hc:P.cellsOf J=1) (hb:P.bytesOf J=1) {w:World} {v:Value} {d:DataW H} {p:List MemPlace}
  (hv:Value.okWide P w r b0 t v) (h:DataW.Trod enc P w 0 (fun _=>true) true t v d p) (Q:(d.weights P t).all (·<=reachBytes)=true):
  ∃(u:Value) (B:List (List PV)),v=.agg #[u]/\Ij (fun g=>w.heap[g]?) (.list 1 B) u/\Dl B/\(B.length:Int)<=140737488355328:=by
 obtain ⟨cs,rfl,O⟩:=okWide_struct hs hv
 obtain ⟨c0,rfl⟩:∃c0,cs=#[c0]:=by
  obtain ⟨l⟩:=cs
  match l,O.trans Z with
  |[c0],_=>exact ⟨c0,rfl⟩
 obtain ⟨fuel,hf⟩:=h
 obtain ⟨y0,n,j,_,I⟩:=trod_struct1 hs hf
 simp only [Prod.mk.injEq]at j
 obtain ⟨rfl,rfl⟩:=j
 rw [ho,X]at I
 have I:DataW.trod enc P w 0 (fun _=>true) true n f0.type [c0]=some y0:=by simpa [Value.cells]using I
 rcases open_ints M he hc I with ⟨e,_⟩|⟨a,len,cap,zs,e,_,hl,_,hz,hy,hcell,hwf⟩
 ·simp only [List.cons.injEq,and_true]at e
  subst e
  refine ⟨_,[],rfl,?_,fun i x j=>by simp at j,by simp⟩
  simp only [Ij]
  exact ⟨0,by simp,.inl ⟨trivial,none,rfl⟩⟩
 ·simp only [List.cons.injEq,and_true]at e
  subst e
  simp only [if_true]at hz
  have ad:len<=140737488355328:=by
   simp only [DataW.weights,hs,DataW.weightsEach,List.map_cons,List.map_nil,hy,M,hb,List.cons_append,List.all_cons,aT,decide_eq_true_eq]at Q
   have:=Q.1
   simp only [lits,List.length_map,lT',List.length_drop,reachBytes]at this
   omega
  have C:(zs.take len).length=len:=by rw [lT'];omega
  refine ⟨_,(zs.take len).map fun z=>[PV.int .u8 z],rfl,?_,fun i x j=>?_,?_⟩
  ·simp only [Ij,List.length_map,C]
   refine ⟨cap,hl,?_⟩
   by_cases hz0:len=0
   ·subst hz0
    exact .inl ⟨by simp,some a,rfl⟩
   ·have k0:=hcell 0 (by omega)
    rw [show a.add 0=a from rfl]at k0
    unfold World.cell? at k0
    split at k0
    ·rename_i c e fr hg
     have q:a.spot=none:=by
      cases q:a.spot with
      |none=>rfl
      |some s=>rw [q]at k0;simp at k0
     obtain ⟨Y,L,sp⟩:=a
     simp only at q hg
     subst q
     refine .inr ⟨Y,L,c,e,rfl,⟨fr,hg⟩,Iv.AdK _ _ fun i V=>?_⟩
     have R:i<len:=by rw [C]at V;exact V
     have A:=hcell i (by omega)
     rw [add_plain]at A
     unfold World.cell? at A
     simp only [hg]at A
     have A:c[L+i]?=some (.int .u8 (zs.getD i 0)):=by simpa using A
     rw [A]
     simp [List.getD,List.getElem?_take,R]
    ·cases k0
  ·simp only [List.getElem?_map,Option.map_eq_some_iff]at j
   obtain ⟨z,U,rfl⟩:=j
   have N:=hwf z (List.mem_of_mem_take (List.mem_of_getElem? U))
   simp only [Lit.wf,aT,decide_eq_true_eq]at N
   refine ⟨z,?_,?_,rfl⟩
   ·have:=N;simp [IntKind.min,IntKind.max,IntKind.signed,IntKind.bits]at this;omega
   ·have:=N;simp [IntKind.min,IntKind.max,IntKind.signed,IntKind.bits]at this;omega
  ·rw [List.length_map,C];omega
end
theorem Ad2 {a b:Array Value} (hs:b.size=a.size) (q:∀j:Nat,¬False->b[j]?=a[j]?):b=a:=by
 apply Array.ext hs
 intro i v x
 have:=q i (fun h=>h)
 rw [Array.getElem?_eq_getElem v,Array.getElem?_eq_getElem x]at this
 exact Option.some.inj this
theorem Kept.sameAt {W w':World} (h:Kept W w') {p:MemPlace} (v:p.block<W.heap.size):W.sameAt w' p:=by
 obtain ⟨⟨_,_,j⟩,_,_⟩:=h
 have j:=j p.block v
 cases p with
 |cell b off=>
  show w'.cell? ⟨b,off,none⟩=W.cell? ⟨b,off,none⟩
  unfold World.cell?
  simp only [MemPlace.block]at j v
  cases e:W.heap[b]? with
  |none=>rw [e]at j;cases e':w'.heap[b]? with
   |none=>rfl
   |some o'=>rw [e']at j;cases j
  |some o=>
   rw [e]at j
   cases e':w'.heap[b]? with
   |none=>rw [e']at j;cases o<;>simp at j
   |some o'=>
    rw [e']at j
    cases o<;>cases o'<;>simp only [oI,reduceCtorEq]at j⊢
    all_goals try rfl
    obtain ⟨_,_,_,q⟩:=j
    simpa using q off (fun h=>h)
 |map b=>
  show w'.heap[b]?=W.heap[b]?
  simp only [MemPlace.block]at j v
  cases e:W.heap[b]? with
  |none=>rw [e]at j;cases e':w'.heap[b]? with
   |none=>rfl
   |some o'=>rw [e']at j;cases j
  |some o=>
   rw [e]at j
   cases e':w'.heap[b]? with
   |none=>rw [e']at j;cases o<;>simp at j
   |some o'=>
    rw [e']at j
    cases o<;>cases o'<;>simp only [oI,reduceCtorEq,false_or]at j⊢
    all_goals try exact j
    ·obtain ⟨x,z,hs,q⟩:=j
     rw [x,z,Ad2 hs q]
    ·rw [j.1,j.2]
theorem Av.Abi {ρ:Env} {T:Nat->Option Obj} {q:As} {d:Nat} {w w':World} {v:Al} (g:Av ρ ⟨fun _=>none,T⟩ (empty d) w q v w'):Kept w w':=
 Kept.of_same (fun r j=>(g.kept r j (by rintro ⟨_,_,_,_,e⟩;cases e)).1) g.size g.os g.output
theorem Rx {P:Program} {ρ:Env} {g:FuncId} {args:List Ab} (h:Holds P ρ g ⟨args,[],.bool (.lit true),[]⟩) {j:Array Value} (w:World) (v:A4 ρ ⟨fun _=>none,fun g=>w.heap[g]?⟩ args j.toList) (x:∀g o,ρ.AJ g=some o->w.heap[g]?=some o):
  Calls P g j w fun e w'=>e=.returned (.bool true)/\Kept w w':=by
 refine (h.2 _ w j (Nr 0 w x (fun _ _ h=>h) (Ao.AB.none ρ)) v).mono fun e w' q=>?_
 obtain ⟨A,z,q⟩:=q
 refine ⟨?_,z.Abi⟩
 cases e
 case returned u=>
  have q:Ah ρ A (.bool (.lit true)) u:=q
  simp only [Ah]at q
  subst q
  rfl
 all_goals exact q.elim
theorem RM {P:Program} {ρ:Env} {g:FuncId} (z:Holds P ρ g ⟨[],[],.bool (.lit true),[]⟩):Cv P ρ g Yz:=by
 intro args h r C j
 unfold Yz at j
 split at j
 ·simp only [oI,Prod.mk.injEq]at j
  obtain ⟨rfl,rfl⟩:=j
  refine ⟨z.1,fun μ w v H A=>?_⟩
  refine (z.2 _ w v (XL 0 w fun g o e=>(H.AJ.AJ g o e).1) A).mono fun e w' q=>?_
  obtain ⟨B,x,q⟩:=q
  refine ⟨μ,Av.idle H (fun r j=>(x.kept r j (by rintro ⟨_,_,_,_,e⟩;cases e)).1) x.size x.os x.output,?_⟩
  cases e
  case returned u=>
   have q:Ah ρ B yes u:=q
   simp only [yes,Ah]at q
   subst q
   show Ah ρ μ yes _
   simp only [yes,Ah]
  all_goals exact q.elim
 ·cases j
end
end Go.AM
