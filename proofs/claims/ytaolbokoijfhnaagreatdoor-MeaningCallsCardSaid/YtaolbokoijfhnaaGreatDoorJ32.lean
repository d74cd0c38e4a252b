/- Part 32 of MeaningCalls. -/
import Derived.Test.YtaolbokoijfhnaaGreatDoorJ5
import Derived.Test.YtaolbokoijfhnaaGreatDoorJ31
set_option linter.all false
namespace Go.Proofs.YtaolbokoijfhnaaGreatDoor.Am
section
open Go.AM
set_option maxRecDepth 100000
theorem AbM:Tryz.prog.globalNamed "internal/strconv.uint64pow10" =some 0:=by kernel_rfl
def EM (w:World):Nat->Option Obj:=fun b=>if b=0 then w.heap[b]? else none
theorem Sa (w:World):∀g o,EM w g=some o->w.heap[g]?=some o:=fun g o h=>by
 unfold EM at h
 split at h
 ·exact h
 ·cases h
theorem Sc {w w':World} (h:Lib.TabIs Tryz.prog w "internal/strconv.uint64pow10" .u64 Lib.pow10Tab) (j:∀g o,EM w g=some o->w'.heap[g]?=some o):Lib.TabIs Tryz.prog w' "internal/strconv.uint64pow10" .u64 Lib.pow10Tab:=by
 unfold Lib.TabIs World.var? at h⊢
 rw [AbM]at h⊢
 simp only [Option.bind_some]at h⊢
 cases e:w.heap[0]? with
 |none=>rw [e]at h;cases h
 |some o=>rw [show w'.heap[0]?=some o from j 0 o (by simp [EM,e])];rw [e]at h;exact h
theorem AdC {Γ:Ap} {ρ:Env} {q:World} (hΓ:Γ.AG ρ) (z:ρ.AO=EM q) (j:Lib.TabIs Tryz.prog q "internal/strconv.uint64pow10" .u64 Lib.pow10Tab):Cw Tryz.prog ρ 101 (MG Γ):=
 SO hΓ ⟨_,Tryz.func101,by kernel_rfl,by kernel_rfl⟩ fun n w v A x=>Tryz.strconv_Itoa n v A w (Sc j (z▸x))
theorem Ahw {Γ:Ap} {ρ:Env} {q:World} (hΓ:Γ.AG ρ) (z:ρ.AO=EM q) (j:Lib.TabIs Tryz.prog q "internal/strconv.uint64pow10" .u64 Lib.pow10Tab):Cw Tryz.prog ρ 200 (MF Γ):=
 QS hΓ ⟨_,Tryz.func200,by kernel_rfl,by kernel_rfl⟩ fun n w v A x=>Tryz.strconv_FormatInt_10 n v A w (Sc j (z▸x))
def OI (Γ:Ap):List (Nat×Bk):=[(101,MG Γ),(200,MF Γ)]
theorem S9 {Γ:Ap} {ρ:Env} {q:World} (hΓ:Γ.AG ρ) (v:ρ.AO=EM q) (j:Lib.TabIs Tryz.prog q "internal/strconv.uint64pow10" .u64 Lib.pow10Tab):∀x∈OI Γ,Cw Tryz.prog ρ x.1 x.2:=
 all_cons (p:=fun x:Nat×Bk=>Cw Tryz.prog ρ x.1 x.2) (AdC hΓ v j) (all_cons (p:=fun x:Nat×Bk=>Cw Tryz.prog ρ x.1 x.2) (Ahw hΓ v j) (all_nil))
theorem AaM {q:World} (j:Lib.TabIs Tryz.prog q "internal/strconv.uint64pow10" .u64 Lib.pow10Tab) (f:Nat):NC Tryz.prog (EM q) f (Hs TG OI 100000 100 6 f):=OO mixed YR (fun _ _ v hΓ=>S9 hΓ v j) 100000 100 6 f
theorem MD {q:World} (j:Lib.TabIs Tryz.prog q "internal/strconv.uint64pow10" .u64 Lib.pow10Tab) {ρ:Env} (z:ρ.AO=EM q) {f:Nat} {x:BO} {ks:List (Nat×BO)} (v:∀y∈ks,Holds Tryz.prog ρ y.1 y.2) (h:Hs TG OI 100000 100 6 f {} ks (.call x) []=true):Holds Tryz.prog ρ f x:=
 AaM j f {} ks (.call x) [] ρ z (Ap.AG.none ρ) v (fun _ h=>by cases h) h
def Bk0:Block:=(.cells [(.int .i64 (.lit (.ofNat 1))),(.int .i64 (.lit (.ofNat 0))),(.int .i64 (.lit (.ofNat 1))),(.int .i64 (.lit (.ofNat 0))),(.str [120]),(.int .i64 (.lit (.ofNat 3))),(.int .i64 (.lit (.ofNat 1))),(.int .i64 (.lit (.ofNat 0))),(.str []),(.int .i32 (.lit (.ofNat 0))),.nilSlice,(.int .i64 (.lit (.ofNat 0))),(.int .i64 (.lit (.ofNat 0))),(.int .i64 (.lit (.ofNat 0))),(.str []),(.int .i32 (.lit (.ofNat 0))),.nilSlice,.nilSlice,.nilSlice,(.int .i64 (.lit (.ofNat 3))),(.int .i64 (.lit (.ofNat 0))),(.int .i64 (.lit (.ofNat 0))),(.int .i64 (.lit (.ofNat 0))),(.str [97]),(.int .i64 (.lit (.ofNat 2))),(.int .i64 (.lit (.ofNat 0))),(.int .i64 (.lit (.ofNat 0))),(.str [120]),(.int .i32 (.lit (.ofNat 0))),.nilSlice,(.int .i64 (.lit (.ofNat 1))),(.int .i64 (.lit (.ofNat 0))),(.int .i64 (.lit (.ofNat 1))),(.str []),(.int .i32 (.lit (.ofNat 5))),.nilSlice,.nilSlice,.nilSlice,(.int .i64 (.lit (.ofNat 10))),(.int .i64 (.lit (.ofNat 0))),(.int .i64 (.lit (.ofNat 0))),(.int .i64 (.lit (.ofNat 0))),(.str []),(.int .i64 (.lit (.ofNat 0))),(.int .i64 (.lit (.ofNat 0))),(.int .i64 (.lit (.ofNat 0))),(.str []),(.int .i32 (.lit (.ofNat 0))),.nilSlice,(.int .i64 (.lit (.ofNat 0))),(.int .i64 (.lit (.ofNat 0))),(.int .i64 (.lit (.ofNat 0))),(.str []),(.int .i32 (.lit (.ofNat 0))),.nilSlice,.nilSlice,.nilSlice,(.int .i64 (.lit (.ofNat 3))),(.int .i64 (.lit (.ofNat 0))),(.int .i64 (.lit (.ofNat 0))),(.int .i64 (.lit (.ofNat 0))),(.str [97]),(.int .i64 (.lit (.ofNat 2))),(.int .i64 (.lit (.ofNat 0))),(.int .i64 (.lit (.ofNat 0))),(.str [120]),(.int .i32 (.lit (.ofNat 0))),.nilSlice,(.int .i64 (.lit (.ofNat 5))),(.int .i64 (.lit (.ofNat 10))),(.int .i64 (.lit (.ofNat 0))),(.str []),(.int .i32 (.lit (.ofNat 0))),(.slice 2 0 2 2),.nilSlice,.nilSlice])
def Bk1:Block:=(.cells [(.int .i64 (.lit (.ofNat 7))),(.int .i64 (.lit (.ofNat 0))),(.int .i64 (.lit (.ofNat 0))),(.str [97]),(.int .i32 (.lit (.ofNat 0))),(.slice 3 0 1 1),(.int .i64 (.lit (.ofNat 1))),(.int .i64 (.lit (.ofNat 0))),(.int .i64 (.lit (.ofNat 1))),(.str []),(.int .i32 (.lit (.ofNat 1))),.nilSlice])
def AkR:BO:=⟨[(.agg [(.str [107]),(.int .i64 (.lit (.ofNat 2))),(.int .i64 (.lit (.ofNat 1))),(.slice 0 0 1 1),.nilSlice,.nilSlice,(.slice 1 0 4 4)])],[(.cells [(.str [97]),(.int .i64 (.lit (.ofNat 1))),(.int .i64 (.lit (.ofNat 1))),(.int .i64 (.lit (.ofNat 4)))]),Bk0,Bk1,(.cells [(.int .i64 (.lit (.ofNat 2))),(.int .i64 (.lit (.ofNat 0))),(.int .i64 (.lit (.ofNat 0))),(.str [120]),(.int .i32 (.lit (.ofNat 0))),.nilSlice])],(.int .i64 (.lit (.ofNat 0))),[some (.cells [(.str [97]),(.int .i64 (.lit (.ofNat 1))),(.int .i64 (.lit (.ofNat 1))),(.int .i64 (.lit (.ofNat 4)))]),some Bk0,some Bk1,some (.cells [(.int .i64 (.lit (.ofNat 2))),(.int .i64 (.lit (.ofNat 0))),(.int .i64 (.lit (.ofNat 0))),(.str [120]),(.int .i32 (.lit (.ofNat 0))),.nilSlice])]⟩
def AkQ:BO:=⟨[(.agg [(.str []),(.int .i64 (.lit (.ofNat 0))),(.int .i64 (.lit (.ofNat 0))),.nilSlice,.nilSlice,.nilSlice,.nilSlice])],[],(.int .i64 (.lit (.ofNat 1))),[]⟩
theorem AbY:Hs TG OI 100000 100 6 12 {} [] (.call AkR) []=true:=by kernel_rfl
theorem AbX:Hs TG OI 100000 100 6 12 {} [] (.call AkQ) []=true:=by kernel_rfl
def Ao8:List (Nat×BO):=[(12,AkR),(12,AkQ)]
theorem Ahy:Hs TG OI 100000 100 6 17 {} Ao8 (.call ⟨[],[],.bool (.lit true),[]⟩) []=true:=by kernel_rfl
theorem AbW {v:World} (j:Lib.TabIs Tryz.prog v "internal/strconv.uint64pow10" .u64 Lib.pow10Tab) {ρ:Env} (q:ρ.AO=EM v):Holds Tryz.prog ρ 17 ⟨[],[],.bool (.lit true),[]⟩:=
 MD j q (all_cons (p:=fun y:Nat×BO=>Holds Tryz.prog ρ y.1 y.2) (MD j q (fun _ h=>by cases h) AbY)<|all_cons (p:=fun y:Nat×BO=>Holds Tryz.prog ρ y.1 y.2) (MD j q (fun _ h=>by cases h) AbX)<|all_nil) Ahy
theorem AdW {v:World} (j:Lib.TabIs Tryz.prog v "internal/strconv.uint64pow10" .u64 Lib.pow10Tab):NH (EM v):=fun Γ ρ q hΓ=>
 all_cons (p:=fun x:Nat×Bk=>Cw Tryz.prog ρ x.1 x.2) (RZ (AbW j q)) (S9 hΓ q j)
end
end Go.Proofs.YtaolbokoijfhnaaGreatDoor.Am
