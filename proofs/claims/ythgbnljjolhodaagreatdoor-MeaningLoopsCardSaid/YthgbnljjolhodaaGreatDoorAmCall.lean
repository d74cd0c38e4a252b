/- The abstract machine's calls are the model's: deferred calls, recovering, calls within calls. -/
import Derived.Test.YthgbnljjolhodaaGreatDoorAmFun
set_option linter.all false
namespace Go.AM

section
variable {P : Program} {Γ : Facts} {ρ : Env} {μ : Where} {tm : Tr AVal} {a : Act} {w : World} {h : Heap} {pl : List Held} {call : CallF} {dcall : DCallF} {fuel : Nat}

/-! ### A function that is being left -/

def MdRel (ρ : Env) (μ : Where) : AMode → FrameMode → Prop
  | .returning, u => u = .returning
  | .panicking v, u => ∃ x, u = .panicking (panicOf x) ∧ VRel ρ μ v x

theorem MdRel.mono {μ' : Where} (hl : μ.le μ') {m : AMode} {u : FrameMode} (hm : MdRel ρ μ m u) : MdRel ρ μ' m u := by
  cases m with
  | returning => exact hm
  | panicking v => obtain ⟨x, e, hv⟩ := hm; exact ⟨x, e, hv.mono hl⟩

theorem MdRel.settle {m : AMode} {u : FrameMode} (hm : MdRel ρ μ m u) : settle u = u := by
  cases m with
  | returning => have hm : u = .returning := hm; subst hm; rfl
  | panicking v => obtain ⟨x, rfl, hv⟩ := hm; rfl

theorem MdRel.ne_run {m : AMode} {u : FrameMode} (hm : MdRel ρ μ m u) : u ≠ .run := by
  cases m with
  | returning => have hm : u = .returning := hm; subst hm; simp
  | panicking v => obtain ⟨x, rfl, hv⟩ := hm; simp

/-- a deferred call's outcome -/
def DEnd (ρ : Env) (μ : Where) (h : Heap) (w : World) (m' : AMode) (h' : Heap) (e : Ending) (u' : FrameMode) (w' : World) : Prop :=
  ∃ μ', Grows ρ μ h w μ' h' w' ∧ MdRel ρ μ' m' (Go.settle u') ∧ ∃ v, e = .returned v

def SoundD (P : Program) (ρ : Env) (dcall : DCallF) : Prop :=
  ∀ g args m h m' h', dcall g args m h = some (m', h') → FnOk P g ∧ ∀ μ w (vargs : Array Value) u, HRel ρ μ h w → VsRel ρ μ args vargs.toList → MdRel ρ μ m u → CallsD P g vargs u w (DEnd ρ μ h w m' h')

theorem leaveA_cons (d : FuncId × List AVal) (ds : List (FuncId × List AVal)) (m : AMode) (h : Heap) : leaveA dcall (d :: ds) m h = bnd (dcall d.1 d.2 m h) fun r => leaveA dcall ds r.1 r.2 := rfl

theorem leave_sound (hd : SoundD P ρ dcall) {fn : Func} {tmps : Array Value} {R : Ending → World → Prop} : ∀ (ds : List (FuncId × List AVal)) {cs : List Deferred} {μ : Where} {m : AMode} {u : FrameMode} {h : Heap} {w : World} {r : AMode × Heap},
    leaveA dcall ds m h = some r → DefsRel ρ μ ds cs → HRel ρ μ h w → MdRel ρ μ m u → (∀ μ' w' u', Grows ρ μ h w μ' r.2 w' → MdRel ρ μ' r.1 u' → Leaves P fn tmps R [] u' w') → Leaves P fn tmps R cs u w
  | [], cs, μ, m, u, h, w, r, hx, hcs, H, hm, hR => by
    have hx : some (m, h) = some r := hx
    simp only [Option.some.injEq] at hx
    subst hx
    have hcs : cs = [] := hcs
    subst hcs
    exact hR μ w u (Grows.refl H) hm
  | d :: ds, cs, μ, m, u, h, w, r, hx, hcs, H, hm, hR => by
    rw [leaveA_cons] at hx
    obtain ⟨⟨m1, h1⟩, h2, hx⟩ := bnd_some hx
    obtain ⟨c, rest, rfl, ⟨cap, ht, hvs⟩, hrest⟩ := hcs
    obtain ⟨hf, hcall⟩ := hd _ _ _ _ _ _ h2
    refine ⟨hm.ne_run, .func d.1, cap, d.1, c.args ++ cap, ht, ?_, ?_⟩
    · rw [ht]
      simp only [invoke]
      exact run_callFunc_ok hf _
    · refine CallsD.mono (hcall μ w (c.args ++ cap) u H hvs hm) fun e u' w' he => ?_
      obtain ⟨μ', g, hm', v, rfl⟩ := he
      exact leave_sound hd ds hx (hrest.mono g.le) g.rel hm' fun μ'' w'' u'' g' hm'' => hR μ'' w'' u'' (g.trans g') hm''

theorem compFun_spec {fn : Func} {F : IFun} (hc : compFun P pl fn = some F) : ∃ c, fn.body = some c ∧ compCode P pl fn.ntmps c = some F.body ∧ allSome (fn.results.toList.map (compRes P)) = some F.results := by
  unfold compFun at hc
  split at hc
  · cases hc
  · rename_i c hb
    split at hc
    · rename_i body results h1 h2
      simp only [Option.some.injEq] at hc
      subst hc
      exact ⟨c, hb, h1, h2⟩
    · cases hc

theorem start_rel {F : IFun} {args : List AVal} {vargs : Array Value} (H : HRel ρ μ h w) (hv : VsRel ρ μ args vargs.toList) (n : Nat) : FRel ρ μ n (startF F args h) { tmps := vargs ++ Array.replicate (n - vargs.size) undef, defers := [] } w :=
  ⟨args_rel hv _, by simp; omega, H, rfl⟩

/-- A FUNCTION'S BODY -/
theorem body_sound (hΓ : Γ.Hold ρ) (hc : SoundCall P ρ call) (hd : SoundD P ρ dcall) (hmix : P.follows .mixedOrders = true) {g : FuncId} {fn : Func} (hf : P.funcs[g]? = some fn) {F : IFun} (hcomp : compFun P pl fn = some F) (hL : ∀ c, fn.body = some c → LoopsOk P ρ fn.ntmps Γ.loops 0 c) {args : List AVal} {r : CRes} {h' : Heap}
    (hx : bodyA Γ call dcall fuel F args h = some (r, h')) {vargs : Array Value} (H : HRel ρ μ h w) (hv : VsRel ρ μ args vargs.toList) : Calls P g vargs w fun e w' => ∃ μ', Grows ρ μ h w μ' h' w' ∧ EndRel ρ μ' r e := by
  obtain ⟨c, hb, hcc, hcr⟩ := compFun_spec hcomp
  unfold bodyA at hx
  obtain ⟨x, hx1, hx⟩ := bnd_some hx
  obtain ⟨m, hx2, hx⟩ := bnd_some hx
  obtain ⟨y, hx3, hx⟩ := bnd_some hx
  refine calls_of_wp_defers hf hb (execK_sound hΓ hc hmix c (hL c hb) hcc hx1 (start_rel H hv fn.ntmps) ?_)
  intro μ' a' w' e F' g' he
  have g' : Grows ρ μ h w μ' x.2.h w' := g'
  have fin : ∀ u, MdRel ρ μ' m u → Leaves P fn a'.tmps (fun e w' => ∃ μ', Grows ρ μ h w μ' h' w' ∧ EndRel ρ μ' r e) a'.defers u w' := fun u hm => by
    refine leave_sound hd x.2.df hx3 F'.defs F'.heap hm fun μ'' w'' u'' g2 hm2 => ?_
    unfold leftA at hx
    split at hx
    · rename_i e1
      obtain ⟨vs, hvs, hx⟩ := bnd_some hx
      simp only [Option.some.injEq, Prod.mk.injEq] at hx
      obtain ⟨rfl, rfl⟩ := hx
      rw [e1] at hm2
      have hm2 : u'' = .returning := hm2
      subst hm2
      obtain ⟨v, h1, h2⟩ := results_sound g2.rel (F'.tmps.mono g2.le) hcr hvs
      exact ⟨v, h1, μ'', g'.trans g2, h2⟩
    · rename_i v e1
      simp only [Option.some.injEq, Prod.mk.injEq] at hx
      obtain ⟨rfl, rfl⟩ := hx
      rw [e1] at hm2
      obtain ⟨z, rfl, hz⟩ := hm2
      exact ⟨μ'', g'.trans g2, z, rfl, hz⟩
  obtain ⟨x1, x2⟩ := x
  cases x1 with
  | normal =>
    have he : e = .normal := he
    subst he
    simp only [modeOf, Option.some.injEq] at hx2
    subst hx2
    exact fin .returning rfl
  | ret =>
    have he : e = .ret := he
    subst he
    simp only [modeOf, Option.some.injEq] at hx2
    subst hx2
    exact fin .returning rfl
  | exit i => cases hx2
  | panic v =>
    obtain ⟨z, rfl, hz⟩ := he
    simp only [modeOf, Option.some.injEq] at hx2
    subst hx2
    exact fin _ ⟨z, rfl, hz⟩

/-! ### A deferred function -/

/-- of a deferred function's end -/
theorem defer_end {m m' : AMode} {r : AExit × Fr} {h' : Heap} (hx : deferEnd m r = some (m', h')) : m' = m ∧ h' = r.2.h ∧ r.2.df = [] ∧ (r.1 = .normal ∨ r.1 = .ret) := by
  unfold deferEnd at hx
  split at hx
  · rename_i e1 e2
    simp only [Option.some.injEq, Prod.mk.injEq] at hx
    exact ⟨hx.1.symm, hx.2.symm, e2, .inl e1⟩
  · rename_i e1 e2
    simp only [Option.some.injEq, Prod.mk.injEq] at hx
    exact ⟨hx.1.symm, hx.2.symm, e2, .inr e1⟩
  · cases hx

theorem defer_plain (hΓ : Γ.Hold ρ) (h0 : Γ.loops = []) (hc : SoundCall P ρ call) (hmix : P.follows .mixedOrders = true) {g : FuncId} {fn : Func} (hf : P.funcs[g]? = some fn) {F : IFun} (hcomp : compFun P pl fn = some F) (hres : F.results = []) {args : List AVal} {m m' : AMode} {h' : Heap} {x : AExit × Fr}
    (hx1 : exec Γ call fuel F.body (startF F args h) = some x) (hx : deferEnd m x = some (m', h')) {vargs : Array Value} {u : FrameMode} (H : HRel ρ μ h w) (hv : VsRel ρ μ args vargs.toList) (hm : MdRel ρ μ m u) : CallsD P g vargs u w (DEnd ρ μ h w m' h') := by
  obtain ⟨c, hb, hcc, hcr⟩ := compFun_spec hcomp
  obtain ⟨rfl, rfl, hdf, hex⟩ := defer_end hx
  refine CallsD.mono (callsD_of_wp (R := fun e w' => ∃ μ', Grows ρ μ h w μ' x.2.h w' ∧ ∃ v, e = .returned v) hf hb (exec_sound hΓ h0 hc hmix c hcc hx1 (start_rel H hv fn.ntmps) ?_)) fun e u' w' he => ?_
  · intro μ' a' w' e F' g' he
    have g' : Grows ρ μ h w μ' x.2.h w' := g'
    have hds := F'.defs
    rw [hdf] at hds
    have hds : a'.defers = [] := hds
    rw [hres] at hcr
    obtain ⟨v, h1, _⟩ := results_sound (vs := []) F'.heap F'.tmps hcr rfl
    have fin : a'.defers = [] ∧ ∃ v, (results fn a'.tmps).run P w' = .ok v w' ∧ ∃ μ', Grows ρ μ h w μ' x.2.h w' ∧ ∃ v', Ending.returned v = .returned v' := ⟨hds, v, h1, μ', g', v, rfl⟩
    rcases hex with hex | hex <;> rw [hex] at he
    · have he : e = .normal := he
      subst he
      exact fin
    · have he : e = .ret := he
      subst he
      exact fin
  · obtain ⟨rfl, μ', g', hv'⟩ := he
    exact ⟨μ', g', by rw [hm.settle]; exact hm.mono g'.le, hv'⟩

/-! ### Recovering -/

theorem recover_run {o : Oper} (hc : compOp P pl o = some (.m .recover)) : (execOp a.eval o).run P w = .ok .recover w := by
  cases hop : o.op <;> simp only [compOp, hop, reduceCtorEq, Option.some.injEq] at hc
  case call c =>
    unfold compCall at hc
    split at hc
    · split at hc
      · split at hc
        · simp at hc
        · split at hc
          · split at hc <;> simp at hc
          · split at hc
            · split at hc <;> simp at hc
            · cases hc
      · cases hc
    · simp at hc
    · cases hc
    · rename_i b hb
      split at hc
      · split at hc <;> simp at hc
      · exfalso
        unfold compApp at hc
        split at hc <;> first | cases hc | skip
        all_goals (split at hc <;> first | (cases hc; done) | (split at hc <;> simp at hc))
      · exfalso
        split at hc <;> first | (cases hc; done) | (obtain ⟨_, _, e⟩ := Option.map_eq_some_iff.1 hc; cases e)
      · simp at hc
      · simp at hc
      · rename_i e1
        have ea : c.args = #[] := by rw [← Array.toList_inj]; simpa using e1
        simp [execOp, hop, resolve, hb, ea, invoke, builtin]
      · simp at hc
      · exfalso
        split at hc
        · split at hc <;> simp at hc
        · cases hc
      · cases hc
  case convert s d x =>
    rcases compConv_spec hc with ⟨k0, k, hs, hd, e⟩ | ⟨hs, hd, e⟩ | ⟨t, n, hs, hd, hn, e⟩ | ⟨u, n, hs, hd, hn, e⟩ <;> cases e
  case typeAssert x xt t ok =>
    obtain ⟨d, i, z, hu, hd, hi, hz, e⟩ := compAssert_spec hc
    cases e
  case defer c =>
    obtain ⟨cal, args, tys⟩ := c
    cases cal <;> simp at hc
  case makeFunc fn x c => cases fn <;> simp at hc
  case binOp op t x y yt => obtain ⟨_, _, e⟩ := Option.map_eq_some_iff.1 hc; cases e
  case slice t x lo hi mx =>
    exfalso
    split at hc
    · simp at hc
    · obtain ⟨_, _, e⟩ := Option.map_eq_some_iff.1 hc; cases e
    · split at hc
      · obtain ⟨_, _, e⟩ := Option.map_eq_some_iff.1 hc; cases e
      · cases hc
    · cases hc
  case build t parts =>
    exfalso
    split at hc
    · split at hc
      · obtain ⟨_, _, e⟩ := Option.map_eq_some_iff.1 hc; cases e
      · cases hc
    · obtain ⟨_, _, hc⟩ := Option.bind_eq_some_iff.1 hc
      obtain ⟨_, _, e⟩ := Option.map_eq_some_iff.1 hc; cases e
    · cases hc
  case fieldAddr t x f =>
    exfalso
    split at hc
    · obtain ⟨_, _, hc⟩ := Option.bind_eq_some_iff.1 hc
      split at hc <;> simp at hc
    · cases hc
  case field t x f =>
    exfalso
    split at hc
    · obtain ⟨_, _, hc⟩ := Option.bind_eq_some_iff.1 hc
      obtain ⟨_, _, e⟩ := Option.map_eq_some_iff.1 hc; cases e
    · cases hc
  all_goals
    exfalso
    first
      | (cases hc; done)
      | (split at hc <;> first | (cases hc; done) | (simp at hc; done) | (obtain ⟨_, _, e⟩ := Option.map_eq_some_iff.1 hc; cases e; done) | (split at hc <;> first | (cases hc; done) | (simp at hc; done) | (obtain ⟨_, _, e⟩ := Option.map_eq_some_iff.1 hc; cases e; done) | (split at hc <;> first | (cases hc; done) | (simp at hc; done) | (obtain ⟨_, _, e⟩ := Option.map_eq_some_iff.1 hc; cases e; done))))
      | (obtain ⟨_, _, e⟩ := Option.map_eq_some_iff.1 hc; cases e; done)

/-- steps in a deferred function, behind its 'recover' -/
theorem seqS_sound (hΓ : Γ.Hold ρ) (hc : SoundCall P ρ call) {nt : Nat} {ops : Array Oper} {cs : List Frame} {Q : Exit → Act → List Frame → World → Prop} : ∀ (l : List Oper) (steps : List Step) (k : Nat) {μ : Where} {a : Act} {w : World} {f : Fr} {r : RRes}, (∀ j, l[j]? = ops[k + j]?) → allSome (l.map fun o => stepOf P pl nt ops o 0) = some steps →
    seqA Γ call steps f = some r → FRel ρ μ nt f a w → Lands ρ nt μ f.h w (fun e a' w' => Q e a' cs w') (exitOf r) → wpOpsS P ops Q (List.range' k l.length) a cs w
  | [], steps, k, μ, a, w, f, r, hl, hs, hr, F, L => by
    simp only [List.map_nil, allSome, Option.some.injEq] at hs
    subst hs
    have hr : some (RRes.go f) = some r := hr
    simp only [Option.some.injEq] at hr
    subst hr
    exact L μ a w .normal F (Grows.refl F.heap) rfl
  | o :: l, steps, k, μ, a, w, f, r, hl, hs, hr, F, L => by
    have hs' := allSome_spec hs
    cases steps with
    | nil => simp at hs'
    | cons s steps =>
      simp only [List.map_cons, List.cons.injEq] at hs'
      obtain ⟨h1, h2⟩ := hs'
      have hs2 : allSome (l.map fun o => stepOf P pl nt ops o 0) = some steps := by
        rw [h2]
        clear h2 hr hs
        induction steps with
        | nil => rfl
        | cons x r ih => simp only [List.map_cons, allSome, ih, Option.map_some]
      rw [seqA_cons] at hr
      obtain ⟨x, hx, hr⟩ := bnd_some hr
      have ho : ops[k]? = some o := by simpa using (hl 0).symm
      have hl' : ∀ j, l[j]? = ops[k + 1 + j]? := fun j => by simpa [Nat.add_assoc, Nat.add_comm 1 j] using hl (j + 1)
      rw [List.length_cons, List.range'_succ]
      have hst : StepTo ρ nt μ f.h a w (fun a' w' => wpOpsS P ops Q (List.range' (k + 1) l.length) a' cs w') (fun e a' w' => Q e a' cs w') x := by
        cases x with
        | go f' => exact fun μ' a' w' F' g => seqS_sound hΓ hc l steps (k + 1) hl' hs2 hr F' (L.grow g)
        | panic v f' =>
          simp only [goes, Option.some.injEq] at hr
          subst hr
          exact fun μ' u w' F' g hv => L μ' a w' _ F' g ⟨u, rfl, hv⟩
      have hcore := step_core hΓ hc F (stepOf_spec h1) hx hst
      unfold wpOpsS
      rw [ho]
      simp only
      split
      · rename_i hw
        rw [if_pos hw] at hcore
        unfold Oper.wp at hcore
        split
        · rename_i w' hrun
          rw [hrun] at hcore
          exact hcore.elim
        · exact hcore
      · rename_i hw
        rw [if_neg hw] at hcore
        exact hcore

/-- what a deferred function gets by recovering -/
theorem recoverD_rel {m : AMode} {c₀ : Frame} {cs : List Frame} (hm : MdRel ρ μ m c₀.mode) :
    ∃ v u', (match recoverD (c₀ :: cs) with | some (v, cs') => (v, cs') | none => (.nilIface, c₀ :: cs)) = (v, { c₀ with mode := u' } :: cs) ∧ settle u' = .returning ∧ VRel ρ μ (recovered m) v := by
  cases m with
  | returning =>
    have hm : c₀.mode = .returning := hm
    refine ⟨.nilIface, c₀.mode, ?_, by rw [hm]; rfl, by simp only [recovered, VRel]⟩
    have e : recoverD (c₀ :: cs) = none := by simp [recoverD, hm]
    rw [e]
  | panicking v =>
    obtain ⟨x, hx, hv⟩ := hm
    refine ⟨x, .panicking [{ v := x, recovered := true }], ?_, rfl, hv⟩
    simp [recoverD, hx, panicOf]

theorem defer_recover (hΓ : Γ.Hold ρ) (h0 : Γ.loops = []) (hc : SoundCall P ρ call) (hmix : P.follows .mixedOrders = true) {g : FuncId} {fn : Func} (hf : P.funcs[g]? = some fn) {F : IFun} (hcomp : compFun P pl fn = some F) (hres : F.results = []) {dst : Option Nat} {bk : Nat} {steps : List Step} {rest : IC}
    (hbody : F.body = .seq (.region false (⟨dst, none, .m .recover, bk⟩ :: steps)) rest) {args : List AVal} {m m' : AMode} {h' : Heap} {r : RRes} {x : AExit × Fr}
    (hr : seqA Γ call steps ⟨putD (startF F args h).tm dst (recovered m), h, []⟩ = some r) (hx1 : (andThen (exitOf r) fun f => exec Γ call fuel rest f) = some x) (hx : deferEnd .returning x = some (m', h')) {vargs : Array Value} {u : FrameMode} (H : HRel ρ μ h w) (hv : VsRel ρ μ args vargs.toList) (hm : MdRel ρ μ m u) :
    CallsD P g vargs u w (DEnd ρ μ h w m' h') := by
  obtain ⟨c, hb, hcc, hcr⟩ := compFun_spec hcomp
  obtain ⟨rfl, rfl, hdf, hex⟩ := defer_end hx
  rw [hbody] at hcc
  cases c <;> simp only [compCode, reduceCtorEq, Option.some.injEq] at hcc
  case region => obtain ⟨_, _, e⟩ := Option.map_eq_some_iff.1 hcc; cases e
  case cond => split at hcc <;> simp at hcc
  case block => obtain ⟨_, _, e⟩ := Option.map_eq_some_iff.1 hcc; cases e
  case loop => obtain ⟨_, _, e⟩ := Option.map_eq_some_iff.1 hcc; cases e
  case seq c1 c2 =>
    split at hcc
    case h_2 => cases hcc
    rename_i i1 i2 h1 h2
    simp only [Option.some.injEq, IC.seq.injEq] at hcc
    obtain ⟨rfl, rfl⟩ := hcc
    cases c1 <;> simp only [compCode, reduceCtorEq, Option.some.injEq] at h1
    case seq => split at h1 <;> simp at h1
    case cond => split at h1 <;> simp at h1
    case block => obtain ⟨_, _, e⟩ := Option.map_eq_some_iff.1 h1; cases e
    case loop => obtain ⟨_, _, e⟩ := Option.map_eq_some_iff.1 h1; cases e
    case region id ops draw =>
      obtain ⟨st, hst, e⟩ := Option.map_eq_some_iff.1 h1
      simp only [IC.region.injEq] at e
      obtain ⟨rfl, rfl⟩ := e
      simp only [compRegion, Bool.false_eq_true, if_false] at hst
      have hst' := allSome_spec hst
      generalize hol : ops.toList = ol at hst hst'
      cases ol with
      | nil => simp at hst'
      | cons o l =>
        simp only [List.map_cons, List.cons.injEq] at hst'
        obtain ⟨k1, k2⟩ := hst'
        have hs2 : allSome (l.map fun o => stepOf P pl fn.ntmps ops o 0) = some steps := by
          rw [k2]
          clear k2 hr hst hbody h1
          induction steps with
          | nil => rfl
          | cons x r ih => simp only [List.map_cons, allSome, ih, Option.map_some]
        have hso := stepOf_spec k1
        have hlist : ∀ j : Nat, (o :: l)[j]? = ops[j]? := fun j => by rw [← hol, Array.getElem?_toList]
        have ho : ops[0]? = some o := by simpa using (hlist 0).symm
        have hsz : ops.size = l.length + 1 := by
          have := congrArg List.length hol
          simpa using this
        refine callsD_of_wpS hf hb fun c₀ cs hu => wpS_seq (wpS_region ?_)
        rw [List.range_eq_range', hsz, List.range'_succ]
        have F0 := start_rel (F := F) H hv fn.ntmps
        unfold wpOpsS
        rw [ho]
        simp only
        rw [wanted_sound F0.tmps hso.guard (fun d b e => Nat.lt_of_lt_of_le (hso.seen d b e) F0.size) (b := true) rfl]
        simp only [if_true]
        rw [recover_run hso.op]
        simp only
        obtain ⟨v, u', hrec, hset, hvr⟩ := recoverD_rel (c₀ := c₀) (cs := cs) (m := m) (ρ := ρ) (μ := μ) (by rw [hu]; exact hm)
        have F1 : FRel ρ μ fn.ntmps ⟨putD (startF F args h).tm dst (recovered m), h, []⟩ (Act.put { tmps := vargs ++ Array.replicate (fn.ntmps - vargs.size) undef, defers := [] } o.dst v) w := by
          have := F0.put (d := o.dst) μ.le_refl F0.heap hso.small hvr
          rw [← hso.dst] at this ⊢
          exact this
        have main : wpOpsS P ops (Exit.thenS (c2.wpS P (bodyPostS P fn c₀ cs (DEnd ρ μ h w .returning x.2.h))) (bodyPostS P fn c₀ cs (DEnd ρ μ h w .returning x.2.h))) (List.range' 1 l.length)
            (Act.put { tmps := vargs ++ Array.replicate (fn.ntmps - vargs.size) undef, defers := [] } o.dst v) ({ c₀ with mode := u' } :: cs) w := by
          refine seqS_sound hΓ hc l steps 1 (fun j => by have := hlist (j + 1); simpa [Nat.add_comm 1 j] using this) hs2 hr F1 ?_
          intro μ1 a1 w1 e1 F2 g1 he1
          have g1 : Grows ρ μ h w μ1 (exitOf r).2.h w1 := g1
          cases r with
          | panic v f' =>
            exfalso
            have hx1 : some (AExit.panic v, f') = some x := hx1
            simp only [Option.some.injEq] at hx1
            subst hx1
            rcases hex with hex | hex <;> cases hex
          | go f' =>
          have he1 : e1 = .normal := he1
          subst he1
          have hx1 : exec Γ call fuel i2 f' = some x := hx1
          refine wpS_of_wp (exec_sound hΓ h0 hc hmix c2 h2 hx1 F2 ?_)
          intro μ' a'' w' e F' g' he
          have g' : Grows ρ μ h w μ' x.2.h w' := g1.trans g'
          have hds := F'.defs
          rw [hdf] at hds
          have hds : a''.defers = [] := hds
          rw [hres] at hcr
          obtain ⟨vr, r1, _⟩ := results_sound (vs := []) F'.heap F'.tmps hcr rfl
          have fin : a''.defers = [] ∧ ∃ u2, ({ c₀ with mode := u' } :: cs : List Frame) = { c₀ with mode := u2 } :: cs ∧ ∃ v, (results fn a''.tmps).run P w' = .ok v w' ∧ DEnd ρ μ h w .returning x.2.h (.returned v) u2 w' :=
            ⟨hds, u', rfl, vr, r1, μ', g', by rw [hset]; rfl, vr, rfl⟩
          rcases hex with hex | hex <;> rw [hex] at he
          · have he : e = .normal := he
            subst he
            exact fin
          · have he : e = .ret := he
            subst he
            exact fin
        cases hrd : recoverD (c₀ :: cs) with
        | none =>
          rw [hrd] at hrec
          simp only [Prod.mk.injEq] at hrec
          obtain ⟨rfl, hcs⟩ := hrec
          simp only
          rw [hcs]
          exact main
        | some p =>
          obtain ⟨pv, pcs⟩ := p
          rw [hrd] at hrec
          simp only [Prod.mk.injEq] at hrec
          obtain ⟨rfl, rfl⟩ := hrec
          exact main

/-! ### Calls within calls -/

/-- the table of functions is the program's -/
def TabOk (P : Program) (pl : List Held) (tab : FuncId → Option IFun) : Prop :=
  ∀ g F, tab g = some F → ∃ fn, P.funcs[g]? = some fn ∧ compFun P pl fn = some F ∧ (fn.name == "runtime.NumGoroutine") = false

theorem FnOk.of_comp {g : FuncId} {fn : Func} {F : IFun} (hf : P.funcs[g]? = some fn) (hcomp : compFun P pl fn = some F) (hn : (fn.name == "runtime.NumGoroutine") = false) : FnOk P g := by
  obtain ⟨c, hb, _⟩ := compFun_spec hcomp
  exact ⟨fn, hf, by rw [hb]; rfl, hn⟩

theorem soundD_of (hΓ : Γ.Hold ρ) (h0 : Γ.loops = []) (hc : SoundCall P ρ call) (hmix : P.follows .mixedOrders = true) {tab : FuncId → Option IFun} (ht : TabOk P pl tab) : SoundD P ρ fun f args m h => bnd (tab f) fun F => deferA Γ call fuel F args m h := by
  intro g args m h m' h' hx
  obtain ⟨F, hF, hx⟩ := bnd_some hx
  obtain ⟨fn, hf, hcomp, hn⟩ := ht g F hF
  refine ⟨FnOk.of_comp hf hcomp hn, fun μ w vargs u H hv hm => ?_⟩
  unfold deferA at hx
  split at hx
  · rename_i dst bk steps rest hbody hres
    obtain ⟨r, hr, hx3⟩ := bnd_some hx
    obtain ⟨x, hx1, hx4⟩ := bnd_some hx3
    exact defer_recover hΓ h0 hc hmix hf hcomp hres hbody hr hx1 hx4 H hv hm
  · rename_i hres _
    obtain ⟨x, hx1, hx2⟩ := bnd_some hx
    exact defer_plain hΓ h0 hc hmix hf hcomp hres hx1 hx2 H hv hm
  · cases hx

/-- what an oracle gives, the function gives -/
def SoundO (P : Program) (ρ : Env) (f : FuncId) (o : OracleF) : Prop :=
  ∀ args h r h', o args h = some (r, h') → FnOk P f ∧ ∀ μ w (vargs : Array Value), HRel ρ μ h w → VsRel ρ μ args vargs.toList →
    Calls P f vargs w fun e w' => ∃ μ', Grows ρ μ h w μ' h' w' ∧ EndRel ρ μ' r e

/-- CALLS: what the abstract machine's calls give, the model's give -/
theorem callN_sound (hΓ : Γ.Hold ρ) (h0 : Γ.loops = []) (hmix : P.follows .mixedOrders = true) {tab : FuncId → Option IFun} (ht : TabOk P pl tab) {orc : FuncId → Option OracleF} (horc : ∀ f o, orc f = some o → SoundO P ρ f o) : ∀ d : Nat, SoundCall P ρ (callN Γ orc tab fuel d)
  | 0 => fun g args h r h' hx => by cases hx
  | d + 1 => fun g args h r h' hx => by
    have ih := callN_sound hΓ h0 hmix ht horc d
    have hx : orElseO (orc g) args h (fun _ => bnd (tab g) fun F => bodyA Γ (callN Γ orc tab fuel d) (fun f args m h => bnd (tab f) fun F => deferA Γ (callN Γ orc tab fuel d) fuel F args m h) fuel F args h) = some (r, h') := hx
    have tabd : (bnd (tab g) fun F => bodyA Γ (callN Γ orc tab fuel d) (fun f args m h => bnd (tab f) fun F => deferA Γ (callN Γ orc tab fuel d) fuel F args m h) fuel F args h) = some (r, h') → FnOk P g ∧ ∀ μ w (vargs : Array Value), HRel ρ μ h w → VsRel ρ μ args vargs.toList →
        Calls P g vargs w fun e w' => ∃ μ', Grows ρ μ h w μ' h' w' ∧ EndRel ρ μ' r e := fun hx => by
      obtain ⟨F, hF, hx⟩ := bnd_some hx
      obtain ⟨fn, hf, hcomp, hn⟩ := ht g F hF
      exact ⟨FnOk.of_comp hf hcomp hn, fun μ w vargs H hv => body_sound hΓ ih (soundD_of hΓ h0 ih hmix ht) hmix hf hcomp (fun c _ => by rw [h0]; exact LoopsOk.none) hx H hv⟩
    unfold orElseO at hx
    split at hx
    · rename_i o ho
      split at hx
      · rename_i r' hr'
        simp only [Option.some.injEq] at hx
        subst hx
        exact horc g o ho args h r h' hr'
      · exact tabd hx
    · exact tabd hx

theorem Facts.Hold.bare {Γ : Facts} {ρ : Env} (h : Γ.Hold ρ) : Γ.bare.Hold ρ := ⟨h.nums, h.tests, h.strs, h.cats, h.slen, h.llen, h.elems, h.defs, h.looks, h.ups, h.bumps, h.mdefs⟩

/-- A FUNCTION WHOSE LOOPS ARE KNOWN -/
theorem topN_sound (hΓ : Γ.Hold ρ) (hmix : P.follows .mixedOrders = true) {tab : FuncId → Option IFun} (ht : TabOk P pl tab) {orc : FuncId → Option OracleF} (horc : ∀ f o, orc f = some o → SoundO P ρ f o) (d : Nat) {g : FuncId}
    (hL : ∀ fn c, P.funcs[g]? = some fn → fn.body = some c → LoopsOk P ρ fn.ntmps Γ.loops 0 c) : SoundO P ρ g (topN Γ orc tab fuel d g) := by
  intro args h r h' hx
  unfold topN at hx
  obtain ⟨F, hF, hx⟩ := bnd_some hx
  obtain ⟨fn, hf, hcomp, hn⟩ := ht g F hF
  have ih := callN_sound hΓ.bare rfl hmix ht horc d (fuel := fuel)
  exact ⟨FnOk.of_comp hf hcomp hn, fun μ w vargs H hv => body_sound hΓ ih (soundD_of hΓ.bare rfl ih hmix ht) hmix hf hcomp (fun c hc => hL fn c hf hc) hx H hv⟩

end
end Go.AM
