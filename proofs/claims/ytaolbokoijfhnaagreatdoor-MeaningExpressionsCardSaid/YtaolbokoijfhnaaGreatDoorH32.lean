/- Part 32 of MeaningExpressions. -/
import Derived.Test.YtaolbokoijfhnaaGreatDoorH5
import Derived.Test.YtaolbokoijfhnaaGreatDoorH31
set_option linter.all false
namespace Go.Proofs.YtaolbokoijfhnaaGreatDoor.Am
section
open Go.AM
set_option maxRecDepth 100000
theorem Ac0:Tryz.prog.globalNamed "internal/strconv.uint64pow10" =some 0:=by kernel_rfl
def ET (w:World):Nat->Option Obj:=fun b=>if b=0 then w.heap[b]? else none
theorem Sv (w:World):∀g o,ET w g=some o->w.heap[g]?=some o:=fun g o h=>by
 unfold ET at h
 split at h
 ·exact h
 ·cases h
theorem Sx {w w':World} (h:Lib.TabIs Tryz.prog w "internal/strconv.uint64pow10" .u64 Lib.pow10Tab) (j:∀g o,ET w g=some o->w'.heap[g]?=some o):Lib.TabIs Tryz.prog w' "internal/strconv.uint64pow10" .u64 Lib.pow10Tab:=by
 unfold Lib.TabIs World.var? at h⊢
 rw [Ac0]at h⊢
 simp only [Option.bind_some]at h⊢
 cases e:w.heap[0]? with
 |none=>rw [e]at h;cases h
 |some o=>rw [show w'.heap[0]?=some o from j 0 o (by simp [ET,e])];rw [e]at h;exact h
theorem Aeq {Γ:Ao} {ρ:Env} {q:World} (hΓ:Γ.AI ρ) (z:ρ.AQ=ET q) (j:Lib.TabIs Tryz.prog q "internal/strconv.uint64pow10" .u64 Lib.pow10Tab):Cy Tryz.prog ρ 101 (MQ Γ):=
 Tk hΓ ⟨_,Tryz.func101,by kernel_rfl,by kernel_rfl⟩ fun n w v A x=>Tryz.strconv_Itoa n v A w (Sx j (z▸x))
theorem Aij {Γ:Ao} {ρ:Env} {q:World} (hΓ:Γ.AI ρ) (z:ρ.AQ=ET q) (j:Lib.TabIs Tryz.prog q "internal/strconv.uint64pow10" .u64 Lib.pow10Tab):Cy Tryz.prog ρ 200 (MP Γ):=
 Rk hΓ ⟨_,Tryz.func200,by kernel_rfl,by kernel_rfl⟩ fun n w v A x=>Tryz.strconv_FormatInt_10 n v A w (Sx j (z▸x))
def OT (Γ:Ao):List (Nat×Bm):=[(101,MQ Γ),(200,MP Γ)]
theorem SW {Γ:Ao} {ρ:Env} {q:World} (hΓ:Γ.AI ρ) (v:ρ.AQ=ET q) (j:Lib.TabIs Tryz.prog q "internal/strconv.uint64pow10" .u64 Lib.pow10Tab):∀x∈OT Γ,Cy Tryz.prog ρ x.1 x.2:=
 all_cons (p:=fun x:Nat×Bm=>Cy Tryz.prog ρ x.1 x.2) (Aeq hΓ v j) (all_cons (p:=fun x:Nat×Bm=>Cy Tryz.prog ρ x.1 x.2) (Aij hΓ v j) (all_nil))
theorem Abs {q:World} (j:Lib.TabIs Tryz.prog q "internal/strconv.uint64pow10" .u64 Lib.pow10Tab) (f:Nat):NQ Tryz.prog (ET q) f (H8 Ug OT 100000 100 6 f):=OW mixed Zu (fun _ _ v hΓ=>SW hΓ v j) 100000 100 6 f
theorem MN {q:World} (j:Lib.TabIs Tryz.prog q "internal/strconv.uint64pow10" .u64 Lib.pow10Tab) {ρ:Env} (z:ρ.AQ=ET q) {f:Nat} {x:BR} {ks:List (Nat×BR)} (v:∀y∈ks,Holds Tryz.prog ρ y.1 y.2) (h:H8 Ug OT 100000 100 6 f {} ks (.call x) []=true):Holds Tryz.prog ρ f x:=
 Abs j f {} ks (.call x) [] ρ z (Ao.AI.none ρ) v (fun _ h=>by cases h) h
def Bk0:Block:=(.cells [(.int .i64 (.lit (.ofNat 1))),(.int .i64 (.lit (.ofNat 0))),(.int .i64 (.lit (.ofNat 1))),(.int .i64 (.lit (.ofNat 0))),(.str [120]),(.int .i64 (.lit (.ofNat 3))),(.int .i64 (.lit (.ofNat 1))),(.int .i64 (.lit (.ofNat 0))),(.str []),(.int .i32 (.lit (.ofNat 0))),.nilSlice,(.int .i64 (.lit (.ofNat 0))),(.int .i64 (.lit (.ofNat 0))),(.int .i64 (.lit (.ofNat 0))),(.str []),(.int .i32 (.lit (.ofNat 0))),.nilSlice,.nilSlice,.nilSlice,(.int .i64 (.lit (.ofNat 3))),(.int .i64 (.lit (.ofNat 0))),(.int .i64 (.lit (.ofNat 0))),(.int .i64 (.lit (.ofNat 0))),(.str [97]),(.int .i64 (.lit (.ofNat 2))),(.int .i64 (.lit (.ofNat 0))),(.int .i64 (.lit (.ofNat 0))),(.str [120]),(.int .i32 (.lit (.ofNat 0))),.nilSlice,(.int .i64 (.lit (.ofNat 1))),(.int .i64 (.lit (.ofNat 0))),(.int .i64 (.lit (.ofNat 1))),(.str []),(.int .i32 (.lit (.ofNat 5))),.nilSlice,.nilSlice,.nilSlice,(.int .i64 (.lit (.ofNat 10))),(.int .i64 (.lit (.ofNat 0))),(.int .i64 (.lit (.ofNat 0))),(.int .i64 (.lit (.ofNat 0))),(.str []),(.int .i64 (.lit (.ofNat 0))),(.int .i64 (.lit (.ofNat 0))),(.int .i64 (.lit (.ofNat 0))),(.str []),(.int .i32 (.lit (.ofNat 0))),.nilSlice,(.int .i64 (.lit (.ofNat 0))),(.int .i64 (.lit (.ofNat 0))),(.int .i64 (.lit (.ofNat 0))),(.str []),(.int .i32 (.lit (.ofNat 0))),.nilSlice,.nilSlice,.nilSlice,(.int .i64 (.lit (.ofNat 3))),(.int .i64 (.lit (.ofNat 0))),(.int .i64 (.lit (.ofNat 0))),(.int .i64 (.lit (.ofNat 0))),(.str [97]),(.int .i64 (.lit (.ofNat 2))),(.int .i64 (.lit (.ofNat 0))),(.int .i64 (.lit (.ofNat 0))),(.str [120]),(.int .i32 (.lit (.ofNat 0))),.nilSlice,(.int .i64 (.lit (.ofNat 5))),(.int .i64 (.lit (.ofNat 10))),(.int .i64 (.lit (.ofNat 0))),(.str []),(.int .i32 (.lit (.ofNat 0))),(.slice 2 0 2 2),.nilSlice,.nilSlice])
def Bk1:Block:=(.cells [(.int .i64 (.lit (.ofNat 7))),(.int .i64 (.lit (.ofNat 0))),(.int .i64 (.lit (.ofNat 0))),(.str [97]),(.int .i32 (.lit (.ofNat 0))),(.slice 3 0 1 1),(.int .i64 (.lit (.ofNat 1))),(.int .i64 (.lit (.ofNat 0))),(.int .i64 (.lit (.ofNat 1))),(.str []),(.int .i32 (.lit (.ofNat 1))),.nilSlice])
def Al6:BR:=⟨[(.agg [(.str [107]),(.int .i64 (.lit (.ofNat 2))),(.int .i64 (.lit (.ofNat 1))),(.slice 0 0 1 1),.nilSlice,.nilSlice,(.slice 1 0 4 4)])],[(.cells [(.str [97]),(.int .i64 (.lit (.ofNat 1))),(.int .i64 (.lit (.ofNat 1))),(.int .i64 (.lit (.ofNat 4)))]),Bk0,Bk1,(.cells [(.int .i64 (.lit (.ofNat 2))),(.int .i64 (.lit (.ofNat 0))),(.int .i64 (.lit (.ofNat 0))),(.str [120]),(.int .i32 (.lit (.ofNat 0))),.nilSlice])],(.int .i64 (.lit (.ofNat 0))),[some (.cells [(.str [97]),(.int .i64 (.lit (.ofNat 1))),(.int .i64 (.lit (.ofNat 1))),(.int .i64 (.lit (.ofNat 4)))]),some Bk0,some Bk1,some (.cells [(.int .i64 (.lit (.ofNat 2))),(.int .i64 (.lit (.ofNat 0))),(.int .i64 (.lit (.ofNat 0))),(.str [120]),(.int .i32 (.lit (.ofNat 0))),.nilSlice])]⟩
def Al5:BR:=⟨[(.agg [(.str []),(.int .i64 (.lit (.ofNat 0))),(.int .i64 (.lit (.ofNat 0))),.nilSlice,.nilSlice,.nilSlice,.nilSlice])],[],(.int .i64 (.lit (.ofNat 1))),[]⟩
theorem AcC:H8 Ug OT 100000 100 6 12 {} [] (.call Al6) []=true:=by kernel_rfl
theorem AcB:H8 Ug OT 100000 100 6 12 {} [] (.call Al5) []=true:=by kernel_rfl
def Aps:List (Nat×BR):=[(12,Al6),(12,Al5)]
theorem Ail:H8 Ug OT 100000 100 6 17 {} Aps (.call ⟨[],[],.bool (.lit true),[]⟩) []=true:=by kernel_rfl
theorem AcA {v:World} (j:Lib.TabIs Tryz.prog v "internal/strconv.uint64pow10" .u64 Lib.pow10Tab) {ρ:Env} (q:ρ.AQ=ET v):Holds Tryz.prog ρ 17 ⟨[],[],.bool (.lit true),[]⟩:=
 MN j q (all_cons (p:=fun y:Nat×BR=>Holds Tryz.prog ρ y.1 y.2) (MN j q (fun _ h=>by cases h) AcC)<|all_cons (p:=fun y:Nat×BR=>Holds Tryz.prog ρ y.1 y.2) (MN j q (fun _ h=>by cases h) AcB)<|all_nil) Ail
theorem AeA {v:World} (j:Lib.TabIs Tryz.prog v "internal/strconv.uint64pow10" .u64 Lib.pow10Tab):NU (ET v):=fun Γ ρ q hΓ=>
 all_cons (p:=fun x:Nat×Bm=>Cy Tryz.prog ρ x.1 x.2) (Su (AcA j q)) (SW hΓ q j)
end
end Go.Proofs.YtaolbokoijfhnaaGreatDoor.Am
