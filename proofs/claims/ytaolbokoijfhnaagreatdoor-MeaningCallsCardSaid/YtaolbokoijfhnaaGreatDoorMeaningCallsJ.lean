/- MeaningCalls returns true at every input and leaves its arguments as they were; the tables that the library reads are tied to the program's text. No condition. -/
import Derived.Test.YtaolbokoijfhnaaGreatDoorJ30
import Derived.Test.YtaolbokoijfhnaaGreatDoorJ31
import Derived.Test.YtaolbokoijfhnaaGreatDoorJ32
import Derived.Test.YtaolbokoijfhnaaGreatDoorCards
import Derived.Test.YtaolbokoijfhnaaGreatDoorTie
import Derived.WalkKit
import Derived.ProofKit
import Derived.LaidMore
import Derived.OpenShut
import Derived.Stop.Joined
import Derived.Stop.LaidErr
import Derived.WideKeyPair
import Derived.WideKeyArr2
import Derived.Lib.LaidTab
import Derived.SevenTiedAt
set_option linter.all false
namespace Go.Proofs.YtaolbokoijfhnaaGreatDoor.meaningCalls
open Go.ChangeShapes Go.WideShapes Go.ChangeAt Go.RowKit Go.AM Go.WideMaps Go.WideElems
theorem own:ownKnob Tryz.prog.godebug=none:=by kernel_rfl
theorem AbM:Tryz.prog.globalNamed "internal/strconv.uint64pow10" =some 0:=by kernel_rfl
def laid:List (String×DataW Unit):=Rows.meaningCallsRow.laid
theorem Aci (os:Os) (args:Array Value):laidMetH Tryz.prog laid ((World.doorLaid Tryz.prog 24 os).forCall (fun _ _=>0) ⟨#[],args,[]⟩).memory:=
 laidMetH_of_parts3 (fuel:=8) (laidMet_of_run' 8 (by kernel_rfl) (by kernel_rfl)) (by kernel_rfl) (by kernel_rfl)
theorem Sb {W:World} (h:laidMetH Tryz.prog laid W):Lib.TabIs Tryz.prog W "internal/strconv.uint64pow10" .u64 Lib.pow10Tab:=by
 rw [MakeChecks.laidMetH_plain _ _ _ (by kernel_rfl)]at h
 obtain ⟨t,e,n,h1,h2,h3,h4,h5⟩:∃t e n,(Tryz.prog.globals[0]?).map (·.type)=some t/\Tryz.prog.underlying t=some (.array n e)/\Tryz.prog.underlying e=some (.int .u64)/\Tryz.prog.cellsOf e=1/\Tryz.prog.cellsOf t=n:=⟨255,163,20,by kernel_rfl,by kernel_rfl,by kernel_rfl,by kernel_rfl,by kernel_rfl⟩
 exact Lib.tabIs_of_head AbM h1 h2 h3 h4 h5 (rest:=[]) (laidMet.tail (laidMet.tail h))
set_option maxRecDepth 100000 in
theorem walk {u0 u1:Value} {B0 B1:List (List PV)} (a1:Int) (w1:(Lit.int .u8 a1).wf=true) (a2:Int) (w2:(Lit.int .u8 a2).wf=true) {w:World} (hu0:GQ (fun g=>w.heap[g]?) (.list 1 B0) u0) (hB0:BV B0) (hl0:(B0.length:Int)<=140737488355328) (hu1:GQ (fun g=>w.heap[g]?) (.list 1 B1) u1) (hB1:BV B1) (hl1:(B1.length:Int)<=140737488355328) (htab:Lib.TabIs Tryz.prog w "internal/strconv.uint64pow10" .u64 Lib.pow10Tab):Calls Tryz.prog 8 #[.agg #[u0,u1],.int .u8 a1,.int .u8 a2] w fun e w'=>e=.returned (.bool true)/\Kept w w':=by
 obtain ⟨⟨alt,v⟩,he,hG⟩:=Am.calls hB0 hB1 hl0 hl1 (RU w1) (RU w2)
 have he:(alt,v)=(1,(⟨[],[],[],[]⟩:Aj)):=he
 obtain ⟨rfl,rfl⟩:=Prod.mk.inj he
 obtain ⟨n,o,hm,ho⟩:=hG (fun o=>o=(1,(⟨[],[],[],[]⟩:Aj))) rfl
 subst ho
 obtain ⟨A,hA,_,hH⟩:=Am.good (Am.AdW htab) n 204 Am.TQ rfl _ _ _ hm rfl
 cases hA
 refine RD hH w ?_ (Am.Sa w)
 refine ⟨_,_,rfl,⟨_,rfl,_,_,rfl,⟨rfl,hu0,rfl,fun e=>by cases e⟩,_,_,rfl,⟨rfl,hu1,rfl,fun e=>by cases e⟩,rfl⟩,_,_,rfl,rfl,_,_,rfl,rfl,rfl⟩
set_option maxRecDepth 100000 in
theorem lifted (os:Os) (started:os.Started) (H:Type) (enc:TypeId×Value->H):
  ReturnsInHanded {} Tryz.checked os 8 .any (fun w args=>(Rows.meaningCallsSpec.pre enc Tryz.prog Tryz.f8 [] false w args/\laidMetH Tryz.prog laid w)/\sizedMet enc Tryz.prog Tryz.f8 (OpenSpec.ofChange Rows.meaningCallsSpec) false w args) (Rows.meaningCallsSpec.post enc Tryz.prog Tryz.f8 false true false false):=by
 refine returnsInHanded_of_change_and (C:=Tryz.checked) (X:=fun w _=>laidMetH Tryz.prog laid w) (fun _ _ _ hh h=>h.of_heap hh) own started (by kernel_rfl) Tryz.func8
  (ChangeSpec.witness_shaped (enc:=enc) (C:=Tryz.checked) (os:=os) (X:=fun w _=>laidMetH Tryz.prog laid w) false (World.doorLaid Tryz.prog 24 os) #[.agg #[.slice none 0 0,.slice none 0 0],.int .u8 0,.int .u8 0] 8 rfl (World.shaped_of_RefB (by kernel_rfl) (by kernel_rfl)) (by kernel_rfl) (by kernel_rfl) (by kernel_rfl) (Aci os _)) ?_
 intro W base args ds gs before hval0 hW _ hsz hL _
 have hval:∀(j:Nat) t v,Tryz.f8.params[j]?=some t->args[j]?=some v->Value.okWide Tryz.prog W .any base t v:=hval0
 have hW':=hW
 obtain ⟨p,q,hA0,hV,rfl,hfz,hnd⟩:=hW
 have hA:DataW.TrodAll enc Tryz.prog W 0 (fun _=>true) true Tryz.f8.params.toList args.toList ds p:=hA0
 have hsz:(DataW.weightsEach Tryz.prog (Tryz.f8.params.toList++[]) (ds++gs)).all (·<=reachBytes)=true:=hsz
 rw [Tryz.params8]at hA hval hsz
 obtain ⟨v0,vs0,d0,ds0,p0,q0,hargs,rfl,rfl,h0,r0⟩:=trodAll_cons hA
 obtain ⟨v1,vs1,d1,ds1,p1,q1,rfl,rfl,rfl,h1,r1⟩:=trodAll_cons r0
 obtain ⟨v2,vs2,d2,ds2,p2,q2,rfl,rfl,rfl,h2,r2⟩:=trodAll_cons r1
 obtain ⟨rfl,rfl,rfl⟩:=trodAll_nil r2
 obtain rfl:args=#[v0,v1,v2]:=by cases args;simp_all
 obtain ⟨rfl,rfl⟩:=trodVars_none hV
 obtain ⟨a1,rfl,rfl,rfl,w1⟩:=open_int Tryz.underlying5 (hval 1 5 v1 rfl rfl) h1
 obtain ⟨a2,rfl,rfl,rfl,w2⟩:=open_int Tryz.underlying5 (hval 2 5 v2 rfl rfl) h2
 have hsz:(d0.weights Tryz.prog 71).all (·<=reachBytes)=true:=by
  simp only [List.append_nil,List.cons_append,List.nil_append,DataW.weightsEach,List.all_append,Bool.and_eq_true]at hsz
  first|exact hsz.1|exact hsz
 obtain ⟨u0,u1,B0,B1,rfl,⟨hu0,hB0,hl0⟩,⟨hu1,hB1,hl1⟩⟩:=XE Tryz.underlying71 (by kernel_rfl) Tryz.underlying24 (by kernel_rfl) rfl (by kernel_rfl) Tryz.underlying22 Tryz.underlying5 (by kernel_rfl) (by kernel_rfl) (hval 0 71 v0 rfl rfl) h0 hsz
 clear hA0 hval0
 have hlt:=hW'.lt
 simp only [List.append_nil]at hW' hlt
 refine (walk a1 w1 a2 w2 hu0 hB0 hl0 hu1 hB1 hl1 (Sb hL)).mono fun e W' ⟨he,hg⟩=>?_
 subst he
 exact ⟨_,rfl,Q3 (pv:=[]) hW' (fun _ _ _=>(trodAll_cons_mk (shut_bool Tryz.underlying4 _) trodAll_mk0)) (fun sp hsp=>(trodAll_cons_mk (Trod_stays (by kernel_rfl) (by kernel_rfl) (of_decide_eq_true (by kernel_rfl)) h0 (fun p hp=>hg.sameAt (hlt p (by simp [hp]))) (fun p hp=>hsp p (by simp [hp]))) (trodAll_cons_mk (shut_int Tryz.underlying5 w1) (trodAll_cons_mk (shut_int Tryz.underlying5 w2) trodAll_mk0)))) (fun _ _=>rfl) (by simp)
  hg (ok_one (by kernel_rfl) rfl (okWide_bool_mk Tryz.underlying4 _))⟩
theorem over:Rows.meaningCallsRow.holds Tryz.pinned (OpenSpec.ofChange Rows.meaningCallsSpec):=
 OpenClaim.holds_of_wide 8 Tryz.f8 rfl rfl rfl rfl rfl rfl rfl ⟨rfl,rfl,rfl,rfl,rfl⟩ rfl rfl rfl rfl rfl (by kernel_rfl) Tryz.func8 (by kernel_rfl)
  (of_decide_eq_true (by kernel_rfl)) (by unfold Func.isWrapper;first|(rw [if_pos (by decide+kernel)];kernel_rfl) |(rw [if_neg (by decide+kernel)];exact ⟨rfl,rfl⟩))
  (fun os started H enc _=>lifted os started H enc)
theorem card_holds:Rows.MeaningCallsCardSaid:=
 Claim7.holds_tied_plain_at .later [] [.data,.data,.data] true (true, "97e52d9f763ed9dd5f969f9f1825251f8f95690ead6a9e0b26418fedfcf75207") true
  over (fun _ h=>by cases h) (by kernel_rfl) (fun _ h=>by cases h) meaningCalls_row_tie rfl ⟨rfl,rfl⟩ (by kernel_rfl) rfl
  (fun f fn hf hfn=>by
   obtain rfl:f=8:=Option.some.inj ((show Tryz.prog.funcNamed "warpwright/warpwrightlaw08.MeaningCalls" =some 8 by kernel_rfl).symm.trans hf) |>.symm
   obtain rfl:fn=Tryz.f8:=(Option.some.inj (Tryz.func8.symm.trans hfn)).symm
   exact ⟨by kernel_rfl,fun j t ht=>by
    rw [Tryz.params8]at ht
    have hm:=Array.mem_of_getElem? ht
    simp only [List.mem_toArray,List.mem_cons,List.not_mem_nil,or_false]at hm
    rcases hm with rfl|rfl|rfl<;>(show Tryz.prog.wantsStandIn _=false)<;>kernel_rfl⟩)
  (by kernel_rfl)
end Go.Proofs.YtaolbokoijfhnaaGreatDoor.meaningCalls
