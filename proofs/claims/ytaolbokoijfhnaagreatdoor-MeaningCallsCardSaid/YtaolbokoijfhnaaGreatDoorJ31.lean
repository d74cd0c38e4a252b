/- Part 31 of MeaningCalls. -/
import Derived.Test.YtaolbokoijfhnaaGreatDoorJ3
import Derived.Test.YtaolbokoijfhnaaGreatDoorJ4
import Derived.Test.YtaolbokoijfhnaaGreatDoorJ16
import Derived.Shelf.LaysM
import Derived.Shelf.Strconv.Itoa3
import Derived.Shelf.Strconv.Itoa4
import Derived.Test.YtaolbokoijfhnaaGreatDoorProg
import Derived.Lib.ItoaMem
import Derived.Lib.LaidTab
import Derived.Sort.Grow
import Derived.Deep.Draws
import Derived.WideKeyArgs
import Derived.ChangeSlices
import Derived.ChangeSame
import Derived.OpenShut
set_option linter.all false
namespace Go.Proofs
section
open Go.Shelf
def Tryz.QO:Go.Shelf.Ren:=⟨fun|171=>101|243=>124|246=>151|283=>175|284=>176|285=>177|286=>178|129=>191|317=>190|318=>192|319=>193|320=>194|337=>204|338=>205|n=>n,fun|3=>3|9=>9|2=>2|4=>4|171=>242|0=>0|53=>163|37=>22|5=>5|173=>244|212=>255|51=>162|20=>20|213=>256|46=>192|232=>273|233=>274|n=>n,fun|17=>0|18=>1|19=>2|n=>n⟩
theorem Tryz.AbF:Go.Proofs.LaysM.n171 Tryz.prog Tryz.QO:={
 mixed:=by kernel_rfl
 f129:=Tryz.func191.trans (congrArg some (by kernel_rfl))
 f171:=Tryz.func101.trans (congrArg some (by kernel_rfl))
 f243:=Tryz.func124.trans (congrArg some (by kernel_rfl))
 f246:=Tryz.func151.trans (congrArg some (by kernel_rfl))
 f283:=Tryz.func175.trans (congrArg some (by kernel_rfl))
 f284:=Tryz.func176.trans (congrArg some (by kernel_rfl))
 f285:=Tryz.func177.trans (congrArg some (by kernel_rfl))
 f286:=Tryz.func178.trans (congrArg some (by kernel_rfl))
 f317:=Tryz.func190.trans (congrArg some (by kernel_rfl))
 f318:=Tryz.func192.trans (congrArg some (by kernel_rfl))
 f319:=Tryz.func193.trans (congrArg some (by kernel_rfl))
 f320:=Tryz.func194.trans (congrArg some (by kernel_rfl))
 f337:=Tryz.func204.trans (congrArg some (by kernel_rfl))
 f338:=Tryz.func205.trans (congrArg some (by kernel_rfl))
 t0:=Tryz.underlying0
 a0:=Tryz.isAgg0
 z0:=Tryz.sizeOf0
 v0:=Tryz.zeroValue0
 t2:=Tryz.underlying2
 a2:=Tryz.isAgg2
 z2:=Tryz.sizeOf2
 v2:=Tryz.zeroValue2
 t3:=Tryz.underlying3
 a3:=Tryz.isAgg3
 z3:=Tryz.sizeOf3
 v3:=Tryz.zeroValue3
 t4:=Tryz.underlying4
 a4:=Tryz.isAgg4
 z4:=Tryz.sizeOf4
 v4:=Tryz.zeroValue4
 t5:=Tryz.underlying5
 a5:=Tryz.isAgg5
 z5:=Tryz.sizeOf5
 v5:=Tryz.zeroValue5
 t9:=Tryz.underlying9
 a9:=Tryz.isAgg9
 z9:=Tryz.sizeOf9
 v9:=Tryz.zeroValue9
 t20:=Tryz.underlying20
 a20:=Tryz.isAgg20
 z20:=Tryz.sizeOf20
 v20:=Tryz.zeroValue20
 t37:=Tryz.underlying22
 a37:=Tryz.isAgg22
 z37:=Tryz.sizeOf22
 v37:=Tryz.zeroValue22
 t46:=Tryz.underlying192
 a46:=Tryz.isAgg192
 z46:=Tryz.sizeOf192
 v46:=Tryz.zeroValue192
 t51:=Tryz.underlying162
 a51:=Tryz.isAgg162
 z51:=Tryz.sizeOf162
 v51:=Tryz.zeroValue162
 t53:=Tryz.underlying163
 a53:=Tryz.isAgg163
 z53:=Tryz.sizeOf163
 v53:=Tryz.zeroValue163
 t171:=Tryz.underlying242
 a171:=Tryz.isAgg242
 z171:=Tryz.sizeOf242
 v171:=Tryz.zeroValue242
 t173:=Tryz.underlying244
 a173:=Tryz.isAgg244
 z173:=Tryz.sizeOf244
 v173:=Tryz.zeroValue244
 t212:=Tryz.underlying255
 a212:=Tryz.isAgg255
 z212:=Tryz.sizeOf255
 v212:=Tryz.zeroValue255
 t213:=Tryz.underlying256
 a213:=Tryz.isAgg256
 z213:=Tryz.sizeOf256
 t232:=Tryz.underlying273
 a232:=Tryz.isAgg273
 z232:=Tryz.sizeOf273
 v232:=Tryz.zeroValue273
 t233:=Tryz.underlying274
 a233:=Tryz.isAgg274
 z233:=Tryz.sizeOf274
 v233:=Tryz.zeroValue274
 g17:=by kernel_rfl
 g18:=by kernel_rfl
 g19:=by kernel_rfl
 i0:=by kernel_rfl
 i2:=by kernel_rfl
 i3:=by kernel_rfl
 i4:=by kernel_rfl
 i5:=by kernel_rfl
 i9:=by kernel_rfl
 i20:=by kernel_rfl
 i37:=by kernel_rfl
 i46:=by kernel_rfl
 i51:=by kernel_rfl
 i53:=by kernel_rfl
 i171:=by kernel_rfl
 i173:=by kernel_rfl
 i212:=by kernel_rfl
 i232:=by kernel_rfl
 i233:=by kernel_rfl
 m17:=by kernel_rfl
 m18:=by kernel_rfl
 m19:=by kernel_rfl}
open Go.Lib Go.Sort in
theorem Tryz.strconv_Itoa (n:Int) (h0: -9223372036854775808<=n) (h1:n<=9223372036854775807) (w:World) (htab:Lib.TabIs Tryz.prog w "internal/strconv.uint64pow10" .u64 Lib.pow10Tab):
  Calls Tryz.prog 101 #[.int .i64 n] w fun e w'=>e=.returned (.string ⟨(Lib.itoa n).toArray⟩)/\∃k os,w'=grow (w.drewN k) os:=Any.strconv_Itoa Tryz.AbF n h0 h1 w htab
def Tryz.QN:Go.Shelf.Ren:=⟨fun|173=>200|246=>151|283=>175|284=>176|285=>177|286=>178|129=>191|317=>190|318=>192|319=>193|320=>194|337=>204|338=>205|n=>n,fun|2=>2|3=>3|9=>9|4=>4|171=>242|0=>0|53=>163|37=>22|5=>5|173=>244|212=>255|51=>162|20=>20|213=>256|46=>192|232=>273|233=>274|n=>n,fun|17=>0|18=>1|19=>2|n=>n⟩
theorem Tryz.AbE:Go.Proofs.LaysM.n173 Tryz.prog Tryz.QN:={
 mixed:=by kernel_rfl
 f129:=Tryz.func191.trans (congrArg some (by kernel_rfl))
 f173:=Tryz.func200.trans (congrArg some (by kernel_rfl))
 f246:=Tryz.func151.trans (congrArg some (by kernel_rfl))
 f283:=Tryz.func175.trans (congrArg some (by kernel_rfl))
 f284:=Tryz.func176.trans (congrArg some (by kernel_rfl))
 f285:=Tryz.func177.trans (congrArg some (by kernel_rfl))
 f286:=Tryz.func178.trans (congrArg some (by kernel_rfl))
 f317:=Tryz.func190.trans (congrArg some (by kernel_rfl))
 f318:=Tryz.func192.trans (congrArg some (by kernel_rfl))
 f319:=Tryz.func193.trans (congrArg some (by kernel_rfl))
 f320:=Tryz.func194.trans (congrArg some (by kernel_rfl))
 f337:=Tryz.func204.trans (congrArg some (by kernel_rfl))
 f338:=Tryz.func205.trans (congrArg some (by kernel_rfl))
 t0:=Tryz.underlying0
 a0:=Tryz.isAgg0
 z0:=Tryz.sizeOf0
 v0:=Tryz.zeroValue0
 t2:=Tryz.underlying2
 a2:=Tryz.isAgg2
 z2:=Tryz.sizeOf2
 v2:=Tryz.zeroValue2
 t3:=Tryz.underlying3
 a3:=Tryz.isAgg3
 z3:=Tryz.sizeOf3
 v3:=Tryz.zeroValue3
 t4:=Tryz.underlying4
 a4:=Tryz.isAgg4
 z4:=Tryz.sizeOf4
 v4:=Tryz.zeroValue4
 t5:=Tryz.underlying5
 a5:=Tryz.isAgg5
 z5:=Tryz.sizeOf5
 v5:=Tryz.zeroValue5
 t9:=Tryz.underlying9
 a9:=Tryz.isAgg9
 z9:=Tryz.sizeOf9
 v9:=Tryz.zeroValue9
 t20:=Tryz.underlying20
 a20:=Tryz.isAgg20
 z20:=Tryz.sizeOf20
 v20:=Tryz.zeroValue20
 t37:=Tryz.underlying22
 a37:=Tryz.isAgg22
 z37:=Tryz.sizeOf22
 v37:=Tryz.zeroValue22
 t46:=Tryz.underlying192
 a46:=Tryz.isAgg192
 z46:=Tryz.sizeOf192
 v46:=Tryz.zeroValue192
 t51:=Tryz.underlying162
 a51:=Tryz.isAgg162
 z51:=Tryz.sizeOf162
 v51:=Tryz.zeroValue162
 t53:=Tryz.underlying163
 a53:=Tryz.isAgg163
 z53:=Tryz.sizeOf163
 v53:=Tryz.zeroValue163
 t171:=Tryz.underlying242
 a171:=Tryz.isAgg242
 z171:=Tryz.sizeOf242
 v171:=Tryz.zeroValue242
 t173:=Tryz.underlying244
 a173:=Tryz.isAgg244
 z173:=Tryz.sizeOf244
 v173:=Tryz.zeroValue244
 t212:=Tryz.underlying255
 a212:=Tryz.isAgg255
 z212:=Tryz.sizeOf255
 v212:=Tryz.zeroValue255
 t213:=Tryz.underlying256
 a213:=Tryz.isAgg256
 z213:=Tryz.sizeOf256
 t232:=Tryz.underlying273
 a232:=Tryz.isAgg273
 z232:=Tryz.sizeOf273
 v232:=Tryz.zeroValue273
 t233:=Tryz.underlying274
 a233:=Tryz.isAgg274
 z233:=Tryz.sizeOf274
 v233:=Tryz.zeroValue274
 g17:=by kernel_rfl
 g18:=by kernel_rfl
 g19:=by kernel_rfl
 i0:=by kernel_rfl
 i2:=by kernel_rfl
 i3:=by kernel_rfl
 i4:=by kernel_rfl
 i5:=by kernel_rfl
 i9:=by kernel_rfl
 i20:=by kernel_rfl
 i37:=by kernel_rfl
 i46:=by kernel_rfl
 i51:=by kernel_rfl
 i53:=by kernel_rfl
 i171:=by kernel_rfl
 i173:=by kernel_rfl
 i212:=by kernel_rfl
 i232:=by kernel_rfl
 i233:=by kernel_rfl
 m17:=by kernel_rfl
 m18:=by kernel_rfl
 m19:=by kernel_rfl}
open Go.Lib Go.Sort in
theorem Tryz.strconv_FormatInt_10 (n:Int) (h0: -9223372036854775808<=n) (h1:n<=9223372036854775807) (w:World) (htab:Lib.TabIs Tryz.prog w "internal/strconv.uint64pow10" .u64 Lib.pow10Tab):
  Calls Tryz.prog 200 #[.int .i64 n,.int .i64 10] w fun e w'=>e=.returned (.string ⟨(Lib.itoa n).toArray⟩)/\∃k os,w'=grow (w.drewN k) os:=Any.strconv_FormatInt_10 Tryz.AbE n h0 h1 w htab
end
end Go.Proofs
namespace Go.AM
section
theorem OZ (n:Int) (z: -9223372036854775808<=n) (q:n<=9223372036854775807):1<=(Lib.itoa n).length/\(Lib.itoa n).length<=21:=by
 have j:∀u:Nat,u<18446744073709551616->1<=(Lib.decDigits u).length/\(Lib.decDigits u).length<=20:=fun u v=>by
  rw [Lib.decDigits_length]
  by_cases hz:u<10
  ·rw [Lib.nDigits_small hz];omega
  ·have q:=Lib.numDigits_eq u (by omega) v
   have x:=Lib.nDigits_big hz
   split at q<;>omega
 unfold Lib.itoa
 split
 ·have:=j n.natAbs (by omega)
  rw [lC];omega
 ·have:=j n.toNat (by omega)
  omega
theorem Lg {Γ:Ap} {v:Env} (hΓ:Γ.AG v) {t:ST} (h:WG Γ t=true): -9223372036854775808<=t.den v/\t.den v<=9223372036854775807:=by
 have x:∀n:Int,-9223372036854775808<=IntKind.i64.wrap n/\IntKind.i64.wrap n<=9223372036854775807:=fun n=>by
  unfold IntKind.wrap
  simp [IntKind.signed,IntKind.bits]
  split<;>omega
 have tests:(CN (BS Γ.tests .geq t (.lit (.negSucc 9223372036854775807)))&&CN (BS Γ.tests .leq t (.lit (.ofNat 9223372036854775807))))=true->-9223372036854775808<=t.den v/\t.den v<=9223372036854775807:=fun h=>by
  rw [aT]at h
  have get:∀{o:Option Bool},CN o=true->o=some true:=fun {o} h=>by
   unfold CN at h
   split at h
   ·rfl
   ·cases h
  have q:=hΓ.tests _ (Dh (get h.1))
  have j:=hΓ.tests _ (Dh (get h.2))
  have q:decide (t.den v>=-9223372036854775808)=true:=q
  have j:decide (t.den v<=9223372036854775807)=true:=j
  exact ⟨of_decide_eq_true q,of_decide_eq_true j⟩
 unfold WG at h
 split at h
 ·rename_i n
  simp only [inK,HX,cond_true,aT,QT,decide_eq_true_eq]at h
  have q:Int.negSucc (modulus .i64/2-1)= -9223372036854775808:=by decide
  have j:Int.ofNat (modulus .i64/2-1)=9223372036854775807:=by decide
  rw [q,j]at h
  exact h
 ·rename_i k a
  rw [Di.1 h]
  exact x _
 ·rename_i k a b
  rw [Di.1 h]
  exact x _
 ·exact tests h
theorem SO {P:Program} {ρ:Env} {Γ:Ap} (hΓ:Γ.AG ρ) {f:FuncId} (hf:JW P f)
  (C:∀(n:Int) (w:World),-9223372036854775808<=n->n<=9223372036854775807->(∀g o,ρ.AO g=some o->w.heap[g]?=some o)->
   Calls P f #[.int .i64 n] w fun e w'=>e=.returned (.string ⟨(Lib.itoa n).toArray⟩)/\∃k os,w'=Sort.grow (w.drewN k) os):Cw P ρ f (MG Γ):=by
 intro args h r M j
 refine ⟨hf,fun μ w q H B=>?_⟩
 unfold MG at j
 split at j
 ·rename_i n
  obtain ⟨I,j⟩:=Aq j
  simp only [oI,Prod.mk.injEq]at j
  obtain ⟨rfl,rfl⟩:=j
  simp only [A6]at B
  obtain ⟨v,rest,J,A,rfl⟩:=B
  have A:=Ag.int A
  obtain rfl:q=#[v]:=by rw [<-Array.toList_inj];simpa using J
  subst A
  obtain ⟨z,x⟩:=Lg hΓ I
  refine (C _ w z x fun g o e=>(H.AO.AO g o e).1).mono fun e w' L=>?_
  obtain ⟨rfl,k,os,rfl⟩:=L
  refine ⟨μ,Av.idle H (fun r j=>?_) ?_ rfl rfl,?_⟩
  ·show (w.heap++os)[r]?=_
   rw [Array.getElem?_append_left j]
  ·show w.heap.size<=(w.heap++os).size
   simp
  ·show Ag ρ μ (.anyStr 21) _
   simp only [Ag]
   have:=OZ _ z x
   exact ⟨_,rfl,by simpa [ByteArray.size]using this.1,by simpa [ByteArray.size]using this.2⟩
 ·cases j
theorem QS {P:Program} {ρ:Env} {Γ:Ap} (hΓ:Γ.AG ρ) {f:FuncId} (hf:JW P f)
  (L:∀(n:Int) (w:World),-9223372036854775808<=n->n<=9223372036854775807->(∀g o,ρ.AO g=some o->w.heap[g]?=some o)->
   Calls P f #[.int .i64 n,.int .i64 10] w fun e w'=>e=.returned (.string ⟨(Lib.itoa n).toArray⟩)/\∃k os,w'=Sort.grow (w.drewN k) os):Cw P ρ f (MF Γ):=by
 intro args h r R j
 refine ⟨hf,fun μ w q H I=>?_⟩
 unfold MF at j
 split at j
 ·rename_i n
  obtain ⟨M,j⟩:=Aq j
  simp only [oI,Prod.mk.injEq]at j
  obtain ⟨rfl,rfl⟩:=j
  simp only [A6]at I
  obtain ⟨v,rest,N,A,C,J,O,B,rfl⟩:=I
  have A:=Ag.int A
  have B:C=.int .i64 10:=Ag.int B
  subst O
  obtain rfl:q=#[v,C]:=by rw [<-Array.toList_inj];simpa using N
  subst A B
  obtain ⟨z,x⟩:=Lg hΓ M
  refine (L _ w z x fun g o e=>(H.AO.AO g o e).1).mono fun e w' Q=>?_
  obtain ⟨rfl,k,os,rfl⟩:=Q
  refine ⟨μ,Av.idle H (fun r j=>?_) ?_ rfl rfl,?_⟩
  ·show (w.heap++os)[r]?=_
   rw [Array.getElem?_append_left j]
  ·show w.heap.size<=(w.heap++os).size
   simp
  ·show Ag ρ μ (.anyStr 21) _
   simp only [Ag]
   have:=OZ _ z x
   exact ⟨_,rfl,by simpa [ByteArray.size]using this.1,by simpa [ByteArray.size]using this.2⟩
 ·cases j
end
section
open Go.ChangeShapes Go.WideShapes
theorem I2.Ael {AU:Nat->Option Obj} {a:Array Value}:∀(j:List Int) (δ:Nat),(∀i,i<j.length->a[δ+i]?=some (.int .u8 (j.getD i 0)))->BG AU 1 a δ (j.map fun z=>[PV.int .u8 z])
 |[],_,_=>trivial
 |z::j,δ,h=>by
  simp only [List.map_cons,BG,AK,List.length_singleton,true_and,and_true]
  refine ⟨⟨_,by simpa using h 0 (by simp),rfl⟩,I2.Ael j (δ+1) fun i q=>?_⟩
  have:=h (i+1) (by simp;omega)
  rw [show δ+1+i=δ+(i+1) by omega,this];simp
section
variable {H:Type} {enc:TypeId×Value->H} {P:Program}
theorem OK {t J:TypeId} {f0:Field} {c0:Value} (hs:P.underlying t=some (.struct #[f0])) (Z:f0.offset=0) (V:P.cellsOf f0.type=1)
  (L:P.underlying f0.type=some (.slice J)) (he:P.underlying J=some (.int .u8)) (hc:P.cellsOf J=1) (hb:P.bytesOf J=1) {w:World} {d:DataW H} {p:List MemPlace}
  (h:DataW.Trod enc P w 0 (fun _=>true) true t (.agg #[c0]) d p) (U:(d.weights P t).all (·<=reachBytes)=true):
  ∃B:List (List PV),GQ (fun g=>w.heap[g]?) (.list 1 B) c0/\BV B/\(B.length:Int)<=140737488355328:=by
 obtain ⟨fuel,hf⟩:=h
 obtain ⟨y0,n,j,_,I⟩:=trod_struct1 hs hf
 simp only [Prod.mk.injEq]at j
 obtain ⟨rfl,rfl⟩:=j
 rw [Z,V]at I
 have I:DataW.trod enc P w 0 (fun _=>true) true n f0.type [c0]=some y0:=by simpa [Value.cells]using I
 rcases open_ints L he hc I with ⟨e,_⟩|⟨a,len,cap,zs,e,_,hl,_,hz,hy,hcell,hwf⟩
 ·simp only [List.cons.injEq,and_true]at e
  subst e
  refine ⟨[],?_,fun i x j=>by simp at j,by simp⟩
  simp only [GQ]
  exact ⟨0,by simp,.inl ⟨trivial,none,rfl⟩⟩
 ·simp only [List.cons.injEq,and_true]at e
  subst e
  simp only [if_true]at hz
  have Y:len<=140737488355328:=by
   simp only [DataW.weights,hs,DataW.weightsEach,List.map_cons,List.map_nil,hy,L,hb,List.cons_append,List.all_cons,aT,decide_eq_true_eq]at U
   have:=U.1
   simp only [lits,List.length_map,lT',List.length_drop,reachBytes]at this
   omega
  have C:(zs.take len).length=len:=by rw [lT'];omega
  refine ⟨(zs.take len).map fun z=>[PV.int .u8 z],?_,fun i x j=>?_,?_⟩
  ·simp only [GQ,List.length_map,C]
   refine ⟨cap,hl,?_⟩
   by_cases hz0:len=0
   ·subst hz0
    exact .inl ⟨by simp,some a,rfl⟩
   ·have v:=hcell 0 (by omega)
    rw [show a.add 0=a from rfl]at v
    unfold World.cell? at v
    split at v
    ·rename_i c e fr N
     have q:a.spot=none:=by
      cases q:a.spot with
      |none=>rfl
      |some s=>rw [q]at v;simp at v
     obtain ⟨bk,M,sp⟩:=a
     simp only at q N
     subst q
     refine .inr ⟨bk,M,c,e,rfl,⟨fr,N⟩,I2.Ael _ _ fun i X=>?_⟩
     have Q:i<len:=by rw [C]at X;exact X
     have A:=hcell i (by omega)
     rw [add_plain]at A
     unfold World.cell? at A
     simp only [N]at A
     have A:c[M+i]?=some (.int .u8 (zs.getD i 0)):=by simpa using A
     rw [A]
     simp [List.getD,List.getElem?_take,Q]
    ·cases v
  ·simp only [List.getElem?_map,Option.map_eq_some_iff]at j
   obtain ⟨z,R,rfl⟩:=j
   have O:=hwf z (List.mem_of_mem_take (List.mem_of_getElem? R))
   simp only [Lit.wf,aT,decide_eq_true_eq]at O
   refine ⟨z,?_,?_,rfl⟩
   ·have:=O;simp [IntKind.min,IntKind.max,IntKind.signed,IntKind.bits]at this;omega
   ·have:=O;simp [IntKind.min,IntKind.max,IntKind.signed,IntKind.bits]at this;omega
  ·rw [List.length_map,C];omega
theorem XE {t ts z:TypeId} {f0:Field} {r:Reach} {X:Nat} (ha:P.underlying t=some (.array 2 ts)) (N:P.cellsOf t=2) (hs:P.underlying ts=some (.struct #[f0])) (J:P.cellsOf ts=1) (M:f0.offset=0) (B:P.cellsOf f0.type=1)
  (A:P.underlying f0.type=some (.slice z)) (R:P.underlying z=some (.int .u8)) (hc:P.cellsOf z=1) (hb:P.bytesOf z=1) {w:World} {v:Value} {d:DataW H} {p:List MemPlace}
  (U:Value.okWide P w r X t v) (h:DataW.Trod enc P w 0 (fun _=>true) true t v d p) (I:(d.weights P t).all (·<=reachBytes)=true):
  ∃(j u1:Value) (q x:List (List PV)),v=.agg #[j,u1]/\(GQ (fun g=>w.heap[g]?) (.list 1 q) j/\BV q/\(q.length:Int)<=140737488355328)/\
   (GQ (fun g=>w.heap[g]?) (.list 1 x) u1/\BV x/\(x.length:Int)<=140737488355328):=by
 simp only [Value.okWide,ha]at U
 obtain ⟨cs,rfl,L,_⟩:=U
 obtain ⟨j,u1,rfl⟩:∃j u1,cs=#[j,u1]:=by
  obtain ⟨l⟩:=cs
  match l,L.trans N with
  |[j,u1],_=>exact ⟨j,u1,rfl⟩
 obtain ⟨fuel,hf⟩:=h
 obtain ⟨xs,m,_,Q,_,C,O⟩:=DataW.trod_array ha hf
 match xs,C with
 |[x0,x1],_=>
  simp only [Prod.mk.injEq]at Q
  obtain ⟨rfl,rfl⟩:=Q
  have V:DataW.trod enc P w 0 (fun _=>true) true m ts [j]=some x0:=by have:=O 0 (by decide);rw [J]at this;simpa [Value.cells]using this
  have Z:DataW.trod enc P w 0 (fun _=>true) true m ts [u1]=some x1:=by have:=O 1 (by decide);rw [J]at this;simpa [Value.cells]using this
  simp only [List.map_cons,List.map_nil,DataW.weights,ha,DataW.weightsAll,List.append_nil,List.all_append,aT]at I
  obtain ⟨q,Y⟩:=OK (c0:=j) hs M B A R hc hb ⟨m,V⟩ I.1
  obtain ⟨x,g1⟩:=OK (c0:=u1) hs M B A R hc hb ⟨m,Z⟩ I.2
  exact ⟨j,u1,q,x,rfl,Y,g1⟩
end
theorem AdY {a b:Array Value} (hs:b.size=a.size) (q:∀j:Nat,¬False->b[j]?=a[j]?):b=a:=by
 apply Array.ext hs
 intro i x v
 have:=q i (fun h=>h)
 rw [Array.getElem?_eq_getElem x,Array.getElem?_eq_getElem v]at this
 exact Option.some.inj this
theorem Kept.sameAt {W w':World} (h:Kept W w') {p:MemPlace} (q:p.block<W.heap.size):W.sameAt w' p:=by
 obtain ⟨⟨_,_,j⟩,_,_⟩:=h
 have j:=j p.block q
 cases p with
 |cell b off=>
  show w'.cell? ⟨b,off,none⟩=W.cell? ⟨b,off,none⟩
  unfold World.cell?
  simp only [MemPlace.block]at j q
  cases e:W.heap[b]? with
  |none=>rw [e]at j;cases e':w'.heap[b]? with
   |none=>rfl
   |some o'=>rw [e']at j;cases j
  |some o=>
   rw [e]at j
   cases e':w'.heap[b]? with
   |none=>rw [e']at j;cases o<;>simp at j
   |some o'=>
    rw [e']at j
    cases o<;>cases o'<;>simp only [oI,reduceCtorEq]at j⊢
    all_goals try rfl
    obtain ⟨_,_,_,v⟩:=j
    simpa using v off (fun h=>h)
 |map b=>
  show w'.heap[b]?=W.heap[b]?
  simp only [MemPlace.block]at j q
  cases e:W.heap[b]? with
  |none=>rw [e]at j;cases e':w'.heap[b]? with
   |none=>rfl
   |some o'=>rw [e']at j;cases j
  |some o=>
   rw [e]at j
   cases e':w'.heap[b]? with
   |none=>rw [e']at j;cases o<;>simp at j
   |some o'=>
    rw [e']at j
    cases o<;>cases o'<;>simp only [oI,reduceCtorEq,false_or]at j⊢
    all_goals try exact j
    ·obtain ⟨z,x,hs,v⟩:=j
     rw [z,x,AdY hs v]
    ·rw [j.1,j.2]
theorem Av.AbG {ρ:Env} {T:Nat->Option Obj} {v:As} {d:Nat} {w w':World} {q:Ak} (g:Av ρ ⟨fun _=>none,T⟩ (empty d) w v q w'):Kept w w':=
 Kept.of_same (fun r j=>(g.kept r j (by rintro ⟨_,_,_,_,e⟩;cases e)).1) g.size g.os g.output
theorem RD {P:Program} {ρ:Env} {g:FuncId} {args:List Aa} (h:Holds P ρ g ⟨args,[],.bool (.lit true),[]⟩) {j:Array Value} (w:World) (v:A6 ρ ⟨fun _=>none,fun g=>w.heap[g]?⟩ args j.toList) (x:∀g o,ρ.AO g=some o->w.heap[g]?=some o):
  Calls P g j w fun e w'=>e=.returned (.bool true)/\Kept w w':=by
 refine (h.2 _ w j (Nh 0 w x (fun _ _ h=>h) (Ap.AG.none ρ)) v).mono fun e w' q=>?_
 obtain ⟨z,A,q⟩:=q
 refine ⟨?_,A.AbG⟩
 cases e
 case returned u=>
  have q:Ag ρ z (.bool (.lit true)) u:=q
  simp only [Ag]at q
  subst q
  rfl
 all_goals exact q.elim
theorem RZ {P:Program} {ρ:Env} {g:FuncId} (z:Holds P ρ g ⟨[],[],.bool (.lit true),[]⟩):Cw P ρ g YO:=by
 intro args h r C j
 unfold YO at j
 split at j
 ·simp only [oI,Prod.mk.injEq]at j
  obtain ⟨rfl,rfl⟩:=j
  refine ⟨z.1,fun μ w x H A=>?_⟩
  refine (z.2 _ w x (Yk 0 w fun g o e=>(H.AO.AO g o e).1) A).mono fun e w' q=>?_
  obtain ⟨B,v,q⟩:=q
  refine ⟨μ,Av.idle H (fun r j=>(v.kept r j (by rintro ⟨_,_,_,_,e⟩;cases e)).1) v.size v.os v.output,?_⟩
  cases e
  case returned u=>
   have q:Ag ρ B yes u:=q
   simp only [yes,Ag]at q
   subst q
   show Ag ρ μ yes _
   simp only [yes,Ag]
  all_goals exact q.elim
 ·cases j
end
end Go.AM
