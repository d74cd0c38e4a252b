/- The abstract machine's steps: guards, the three kinds of outcome, regions that keep their order. -/
import Derived.Test.YthgbnljjolhodaaGreatDoorAmMut4
set_option linter.all false
namespace Go.AM

def DefsRel (ρ : Env) (μ : Where) : List (FuncId × List AVal) → List Deferred → Prop
  | [], ds => ds = []
  | d :: r, ds => ∃ c rest, ds = c :: rest ∧ DefRel ρ μ d c ∧ DefsRel ρ μ r rest

theorem DefRel.mono {ρ : Env} {μ μ' : Where} (h : μ.le μ') {d : FuncId × List AVal} {c : Deferred} (hd : DefRel ρ μ d c) : DefRel ρ μ' d c :=
  let ⟨cap, h1, h2⟩ := hd
  ⟨cap, h1, h2.mono h⟩

theorem DefsRel.mono {ρ : Env} {μ μ' : Where} (h : μ.le μ') : ∀ {l : List (FuncId × List AVal)} {ds : List Deferred}, DefsRel ρ μ l ds → DefsRel ρ μ' l ds
  | [], _, e => e
  | _ :: _, _, e => let ⟨c, rest, e1, e2, e3⟩ := e; ⟨c, rest, e1, e2.mono h, DefsRel.mono h e3⟩

/-- a frame of the abstract machine and the model's -/
structure FRel (ρ : Env) (μ : Where) (nt : Nat) (f : Fr) (a : Act) (w : World) : Prop where
  tmps : TRel ρ μ f.tm a
  size : nt ≤ a.tmps.size
  heap : HRel ρ μ f.h w
  defs : DefsRel ρ μ f.df a.defers

/-- what a call's outcome stands for -/
def EndRel (ρ : Env) (μ : Where) : CRes → Ending → Prop
  | .ret v, .returned u => VRel ρ μ v u
  | .panic v, .panicked chain => ∃ u, chain = [{ v := u, recovered := false }] ∧ VRel ρ μ v u
  | _, _ => False

/-- a calling function that tells the truth -/
def SoundCall (P : Program) (ρ : Env) (call : CallF) : Prop :=
  ∀ g args h r h', call g args h = some (r, h') → FnOk P g ∧ ∀ μ w (vargs : Array Value), HRel ρ μ h w → VsRel ρ μ args vargs.toList →
    Calls P g vargs w fun e w' => ∃ μ', Grows ρ μ h w μ' h' w' ∧ EndRel ρ μ' r e

section
variable {P : Program} {Γ : Facts} {ρ : Env} {μ : Where} {tm : Tr AVal} {a : Act} {w : World} {h : Heap} {pl : List Held} {nt : Nat} {ops : Array Oper} {call : CallF}

/-! ### Guards -/

theorem wanted_sound (hT : TRel ρ μ tm a) {o : Oper} {g : Option (Nat × Bool)} (hg : guardOf ops o.guard = some g) (hs : ∀ d b, g = some (d, b) → d < a.tmps.size) {b : Bool} (hb : wantedA tm g = some b) : Region.wanted o (yielded ops a.tmps) = b := by
  unfold Region.wanted
  cases hog : o.guard with
  | none =>
    rw [hog] at hg
    simp only [guardOf, Option.some.injEq] at hg
    subst hg
    simp only [wantedA, Option.some.injEq] at hb
    simp [← hb]
  | some jw =>
    obtain ⟨j, want⟩ := jw
    rw [hog] at hg
    simp only [guardOf] at hg
    split at hg
    · rename_i d hd
      simp only [Option.some.injEq] at hg
      subst hg
      simp only [wantedA] at hb
      have hlt := hs d want rfl
      have hv := hT d
      unfold wantedV at hb
      split at hb
      · rename_i bb e1
        simp only [Option.some.injEq] at hb
        subst hb
        rw [e1] at hv
        have hv := VRel.bool hv
        simp only [SB.den] at hv
        rw [Array.getD_eq_getD_getElem?, Array.getElem?_eq_getElem hlt, Option.getD_some] at hv
        have hy : yielded ops a.tmps j = some bb := by
          unfold yielded
          rw [hd]
          simp [hlt, hv]
        simp only [hy]
        cases want <;> cases bb <;> rfl
      · cases hb
    · cases hg

/-- of a compiled step: what it comes from -/
structure StepOf (P : Program) (pl : List Held) (nt : Nat) (ops : Array Oper) (o : Oper) (s : Step) : Prop where
  op : compOp P pl o = some s.op
  guard : guardOf ops o.guard = some s.guard
  dst : s.dst = o.dst
  small : ∀ d, o.dst = some d → d < nt
  seen : ∀ d b, s.guard = some (d, b) → d < nt

theorem stepOf_spec {o : Oper} {b : Nat} {s : Step} (h : stepOf P pl nt ops o b = some s) : StepOf P pl nt ops o s := by
  unfold stepOf at h
  split at h
  · rename_i op g e1 e2
    split at h
    · rename_i hd
      simp only [Option.some.injEq] at h
      subst h
      rw [Bool.and_eq_true] at hd
      refine ⟨e1, e2, rfl, fun d hdd => ?_, fun d b hdd => ?_⟩
      · have := hd.1
        rw [hdd] at this
        simp only [Option.all_some] at this
        exact Nat.lt_of_lt_of_le (Nat.lt_succ_self d) (ble_iff.1 this)
      · have := hd.2
        simp only at hdd
        rw [hdd] at this
        simp only [Option.all_some] at this
        exact Nat.lt_of_lt_of_le (Nat.lt_succ_self d) (ble_iff.1 this)
    · cases h
  · cases h

/-! ### What a changing operation comes to -/

inductive MOut where
  | val (v : AVal) (h : Heap)
  | panic (v : AVal) (h : Heap)
  | defer (g : FuncId) (args : List AVal)

def outA (call : CallF) (h : Heap) (r : MRes) : Option MOut :=
  match r with
  | .val v h => some (.val v h)
  | .call g args => match call g args h with
    | some (.ret v, h) => some (.val v h)
    | some (.panic v, h) => some (.panic v h)
    | none => none
  | .panic v => some (.panic v h)
  | .defer g args => some (.defer g args)

noncomputable def outF (f : Fr) (d : Option Nat) (o : MOut) : RRes :=
  match o with
  | .val v h => goWith f d v h
  | .panic v h => .panic v ⟨f.tm, h, f.df⟩
  | .defer g args => .go ⟨putD f.tm d .any, f.h, (g, args) :: f.df⟩

theorem mutA_out {f : Fr} {d : Option Nat} {r : MRes} {x : RRes} (hx : mutA call f d r = some x) : ∃ o, outA call f.h r = some o ∧ x = outF f d o := by
  unfold mutA at hx
  split at hx
  · simp only [Option.some.injEq] at hx
    exact ⟨_, rfl, hx.symm⟩
  · rename_i g args
    obtain ⟨r, hr, hx⟩ := bnd_some hx
    simp only [Option.some.injEq] at hx
    subst hx
    obtain ⟨c, h'⟩ := r
    cases c with
    | ret v => exact ⟨.val v h', by simp [outA, hr], rfl⟩
    | panic v => exact ⟨.panic v h', by simp [outA, hr], rfl⟩
  · simp only [Option.some.injEq] at hx
    exact ⟨_, rfl, hx.symm⟩
  · simp only [Option.some.injEq] at hx
    exact ⟨_, rfl, hx.symm⟩

/-- one panic, not recovered -/
def panicOf (u : Value) : List PanicEntry := [{ v := u, recovered := false }]

/-- what is needed behind an outcome -/
def OutTo (ρ : Env) (μ : Where) (h : Heap) (a : Act) (w : World) (d : Option Tmp) (K : Act → World → Prop) (Q : Exit → Act → World → Prop) : MOut → Prop
  | .val v h' => ∀ μ' u w', Grows ρ μ h w μ' h' w' → VRel ρ μ' v u → K (a.put d u) w'
  | .panic v h' => ∀ μ' u w', Grows ρ μ h w μ' h' w' → VRel ρ μ' v u → Q (.panic (panicOf u)) a w'
  | .defer g args => ∀ x, DefRel ρ μ (g, args) x → K ({ a with defers := x :: a.defers }.put d undef) w

theorem mut_core (hc : SoundCall P ρ call) (H : HRel ρ μ h w) {o : Oper} {res : MRes} (hd : Does P ρ μ h a o w res) {out : MOut} (ho : outA call h res = some out) {K : Act → World → Prop} {Q : Exit → Act → World → Prop}
    (hK : OutTo ρ μ h a w o.dst K Q out) : o.wp P a w K Q := by
  unfold Oper.wp
  cases res with
  | val v h' =>
    simp only [outA, Option.some.injEq] at ho
    subst ho
    obtain ⟨nx, u, w', μ', hrun, hn, hg, hv⟩ := hd
    rw [hrun]
    rcases hn with rfl | ⟨rfl, rfl⟩
    · exact hK μ' u w' hg hv
    · exact hK μ' undef w' hg hv
  | call g args =>
    simp only [outA] at ho
    split at ho
    · rename_i v h' hcall
      simp only [Option.some.injEq] at ho
      subst ho
      obtain ⟨hf, hcs⟩ := hc _ _ _ _ _ hcall
      obtain ⟨vargs, hrun, hvs⟩ := hd hf
      rw [hrun]
      refine Calls.mono (hcs μ w vargs H hvs) fun e w' he => ?_
      obtain ⟨μ', hg, hE⟩ := he
      cases e with
      | returned u => exact hK μ' u w' hg hE
      | panicked c => exact hE.elim
      | outgrown => exact hE.elim
    · rename_i v h' hcall
      simp only [Option.some.injEq] at ho
      subst ho
      obtain ⟨hf, hcs⟩ := hc _ _ _ _ _ hcall
      obtain ⟨vargs, hrun, hvs⟩ := hd hf
      rw [hrun]
      refine Calls.mono (hcs μ w vargs H hvs) fun e w' he => ?_
      obtain ⟨μ', hg, hE⟩ := he
      cases e with
      | returned u => exact hE.elim
      | panicked c =>
        obtain ⟨u, rfl, hv⟩ := hE
        exact hK μ' u w' hg hv
      | outgrown => exact hE.elim
    · cases ho
  | panic v =>
    simp only [outA, Option.some.injEq] at ho
    subst ho
    obtain ⟨u, hrun, hv⟩ := hd
    rw [hrun]
    exact hK μ u w (Grows.refl H) hv
  | defer g args =>
    simp only [outA, Option.some.injEq] at ho
    subst ho
    obtain ⟨d, hrun, hdr⟩ := hd
    rw [hrun]
    exact hK d hdr

/-! ### Where a run lands -/

def ExRel (ρ : Env) (μ : Where) : AExit → Exit → Prop
  | .normal, e => e = .normal
  | .exit i, e => e = .exit i
  | .ret, e => e = .ret
  | .panic v, e => ∃ u, e = .panic (panicOf u) ∧ VRel ρ μ v u

/-- all that a run's end may be allows `Q` -/
def Lands (ρ : Env) (nt : Nat) (μ : Where) (h : Heap) (w : World) (Q : Exit → Act → World → Prop) (r : AExit × Fr) : Prop :=
  ∀ μ' a' w' e, FRel ρ μ' nt r.2 a' w' → Grows ρ μ h w μ' r.2.h w' → ExRel ρ μ' r.1 e → Q e a' w'

theorem Lands.grow {μ' : Where} {h' : Heap} {w' : World} {Q : Exit → Act → World → Prop} {r : AExit × Fr} (hl : Lands ρ nt μ h w Q r) (g : Grows ρ μ h w μ' h' w') : Lands ρ nt μ' h' w' Q r :=
  fun _ _ _ _ hf hg he => hl _ _ _ _ hf (g.trans hg) he

/-! ### One step of a region that keeps its order -/

theorem wpOp_some {Q : Exit → Act → World → Prop} {i : Nat} {o : Oper} {K : Act → World → Prop} (ho : ops[i]? = some o)
    (h : if Region.wanted o (yielded ops a.tmps) then o.wp P a w K Q else K (a.put o.dst undef) w) : wpOp P ops Q i K a w := by
  unfold wpOp
  rw [ho]
  simp only
  split
  · rename_i hw
    rw [if_pos hw] at h
    exact .inl h
  · rename_i hw
    rw [if_neg hw] at h
    exact h

theorem FRel.put {μ' : Where} {f : Fr} {h' : Heap} {w' : World} (F : FRel ρ μ nt f a w) (hle : μ.le μ') (H : HRel ρ μ' h' w') {d : Option Tmp} (hd : ∀ t, d = some t → t < nt) {v : AVal} {u : Value} (hv : VRel ρ μ' v u) : FRel ρ μ' nt ⟨putD f.tm d v, h', f.df⟩ (a.put d u) w' :=
  ⟨(F.tmps.mono hle).put (fun t e => Nat.lt_of_lt_of_le (hd t e) F.size) hv, by rw [Act.size_put]; exact F.size, H, by
    have : (a.put d u).defers = a.defers := by cases d <;> rfl
    rw [this]; exact F.defs.mono hle⟩

/-- what is needed behind a step -/
def StepTo (ρ : Env) (nt : Nat) (μ : Where) (h : Heap) (a : Act) (w : World) (K : Act → World → Prop) (Q : Exit → Act → World → Prop) : RRes → Prop
  | .go f' => ∀ μ' a' w', FRel ρ μ' nt f' a' w' → Grows ρ μ h w μ' f'.h w' → K a' w'
  | .panic v f' => ∀ μ' u w', FRel ρ μ' nt f' a w' → Grows ρ μ h w μ' f'.h w' → VRel ρ μ' v u → Q (.panic (panicOf u)) a w'

theorem step_core (hΓ : Γ.Hold ρ) (hc : SoundCall P ρ call) {f : Fr} (F : FRel ρ μ nt f a w) {o : Oper} {s : Step} (hs : StepOf P pl nt ops o s) {r : RRes} (hr : stepA Γ call s f = some r) {K : Act → World → Prop} {Q : Exit → Act → World → Prop}
    (hK : StepTo ρ nt μ f.h a w K Q r) : if Region.wanted o (yielded ops a.tmps) then o.wp P a w K Q else K (a.put o.dst undef) w := by
  unfold stepA at hr
  obtain ⟨b, hb, hr⟩ := bnd_some hr
  rw [wanted_sound F.tmps hs.guard (fun d b e => Nat.lt_of_lt_of_le (hs.seen d b e) F.size) hb]
  cases b with
  | false =>
    simp only [cond_false, Option.some.injEq] at hr
    subst hr
    simp only [Bool.false_eq_true, if_false]
    have hK : ∀ μ' a' w', FRel ρ μ' nt (⟨putD f.tm s.dst .any, f.h, f.df⟩ : Fr) a' w' → Grows ρ μ f.h w μ' f.h w' → K a' w' := hK
    rw [hs.dst] at hK
    exact hK μ _ w (F.put μ.le_refl F.heap hs.small trivial) (Grows.refl F.heap)
  | true =>
    simp only [cond_true] at hr
    simp only [if_true]
    have hop := hs.op
    unfold runOp at hr
    split at hr
    · rename_i q e1
      rw [e1] at hop
      obtain ⟨v, hv, hr⟩ := bnd_some hr
      simp only [Option.some.injEq] at hr
      subst hr
      obtain ⟨u, hrun, hvr⟩ := pure_sound (w := w) hΓ F.tmps hop hv
      unfold Oper.wp
      rw [hrun]
      have hK : ∀ μ' a' w', FRel ρ μ' nt (⟨putD f.tm s.dst v, f.h, f.df⟩ : Fr) a' w' → Grows ρ μ f.h w μ' f.h w' → K a' w' := hK
      rw [hs.dst] at hK
      exact hK μ _ w (F.put μ.le_refl F.heap hs.small hvr) (Grows.refl F.heap)
    · rename_i q e1
      rw [e1] at hop
      obtain ⟨v, hv, hr⟩ := bnd_some hr
      simp only [Option.some.injEq] at hr
      subst hr
      obtain ⟨u, hrun, hvr⟩ := read_sound hΓ F.heap F.tmps hop hv
      unfold Oper.wp
      rw [hrun]
      have hK : ∀ μ' a' w', FRel ρ μ' nt (⟨putD f.tm s.dst v, f.h, f.df⟩ : Fr) a' w' → Grows ρ μ f.h w μ' f.h w' → K a' w' := hK
      rw [hs.dst] at hK
      exact hK μ _ w (F.put μ.le_refl F.heap hs.small hvr) (Grows.refl F.heap)
    · rename_i q e1
      rw [e1] at hop
      obtain ⟨⟨B, v⟩, hv, hr⟩ := bnd_some hr
      simp only [Option.some.injEq] at hr
      subst hr
      obtain ⟨ob, u, hrun, m, hB, hvr⟩ := new_sound (w := w) F.tmps hop hv
      have hg := Grows.add F.heap B ob (0, m) hB
      unfold Oper.wp
      rw [hrun]
      have hK : ∀ μ' a' w', FRel ρ μ' nt (⟨putD f.tm s.dst v, f.h.add B, f.df⟩ : Fr) a' w' → Grows ρ μ f.h w μ' (f.h.add B) w' → K a' w' := hK
      rw [hs.dst] at hK
      exact hK _ _ _ (F.put hg.le hg.rel hs.small (hvr _ hg.le (Where.put_same _ _ _))) hg
    · rename_i q e1
      rw [e1] at hop
      obtain ⟨res, hres, hr⟩ := bnd_some hr
      obtain ⟨out, hout, rfl⟩ := mutA_out hr
      refine mut_core hc F.heap (other_sound F.heap F.tmps hop hres) hout ?_
      cases out with
      | val v h' =>
        have hK : ∀ μ' a' w', FRel ρ μ' nt (⟨putD f.tm s.dst v, h', f.df⟩ : Fr) a' w' → Grows ρ μ f.h w μ' h' w' → K a' w' := hK
        rw [hs.dst] at hK
        exact fun μ' u w' hg hv => hK μ' _ w' (F.put hg.le hg.rel hs.small hv) hg
      | panic v h' => exact fun μ' u w' hg hv => hK μ' u w' ⟨F.tmps.mono hg.le, F.size, hg.rel, F.defs.mono hg.le⟩ hg hv
      | defer g args =>
        have hK : ∀ μ' a' w', FRel ρ μ' nt (⟨putD f.tm s.dst .any, f.h, (g, args) :: f.df⟩ : Fr) a' w' → Grows ρ μ f.h w μ' f.h w' → K a' w' := hK
        rw [hs.dst] at hK
        refine fun d hd => hK μ _ w ?_ (Grows.refl F.heap)
        have F' : FRel ρ μ nt ⟨f.tm, f.h, (g, args) :: f.df⟩ { a with defers := d :: a.defers } w := ⟨F.tmps, F.size, F.heap, d, a.defers, rfl, hd, F.defs⟩
        exact F'.put μ.le_refl F.heap hs.small trivial

theorem step_sound (hΓ : Γ.Hold ρ) (hc : SoundCall P ρ call) {f : Fr} (F : FRel ρ μ nt f a w) {o : Oper} {s : Step} {i : Nat} (ho : ops[i]? = some o) (hs : StepOf P pl nt ops o s) {r : RRes} (hr : stepA Γ call s f = some r) {K : Act → World → Prop} {Q : Exit → Act → World → Prop}
    (hK : StepTo ρ nt μ f.h a w K Q r) : wpOp P ops Q i K a w :=
  wpOp_some ho (step_core hΓ hc F hs hr hK)

/-! ### A region that keeps its order -/

theorem allSome_spec {α : Type} : ∀ {l : List (Option α)} {r : List α}, allSome l = some r → l = r.map some
  | [], r, h => by simp only [allSome, Option.some.injEq] at h; subst h; rfl
  | some a :: l, r, h => by
    simp only [allSome] at h
    obtain ⟨r', hr', e⟩ := Option.map_eq_some_iff.1 h
    subst e
    simp [allSome_spec hr']
  | none :: l, r, h => by simp [allSome] at h

theorem seqA_cons (s : Step) (r : List Step) (f : Fr) : seqA Γ call (s :: r) f = bnd (stepA Γ call s f) fun x => goes x fun f' => seqA Γ call r f' := rfl

theorem seq_sound (hΓ : Γ.Hold ρ) (hc : SoundCall P ρ call) {Q : Exit → Act → World → Prop} : ∀ (l : List Oper) (steps : List Step) (k : Nat) {μ : Where} {a : Act} {w : World} {f : Fr} {r : RRes}, (∀ j, l[j]? = ops[k + j]?) → allSome (l.map fun o => stepOf P pl nt ops o 0) = some steps →
    seqA Γ call steps f = some r → FRel ρ μ nt f a w → Lands ρ nt μ f.h w Q (exitOf r) → wpOps P ops Q (List.range' k l.length) a w
  | [], steps, k, μ, a, w, f, r, hl, hs, hr, F, L => by
    simp only [List.map_nil, allSome, Option.some.injEq] at hs
    subst hs
    have hr : some (RRes.go f) = some r := hr
    simp only [Option.some.injEq] at hr
    subst hr
    exact L μ a w .normal F (Grows.refl F.heap) rfl
  | o :: l, steps, k, μ, a, w, f, r, hl, hs, hr, F, L => by
    have hs' := allSome_spec hs
    cases steps with
    | nil => simp at hs'
    | cons s steps =>
      simp only [List.map_cons, List.cons.injEq] at hs'
      obtain ⟨h1, h2⟩ := hs'
      have hs2 : allSome (l.map fun o => stepOf P pl nt ops o 0) = some steps := by
        rw [h2]
        clear h2 hr hs
        induction steps with
        | nil => rfl
        | cons x r ih => simp only [List.map_cons, allSome, ih, Option.map_some]
      rw [seqA_cons] at hr
      obtain ⟨x, hx, hr⟩ := bnd_some hr
      have ho : ops[k]? = some o := by simpa using (hl 0).symm
      rw [List.length_cons, List.range'_succ, wpOps_cons]
      refine step_sound hΓ hc F ho (stepOf_spec h1) hx ?_
      cases x with
      | go f' => exact fun μ' a' w' F' g => seq_sound hΓ hc l steps (k + 1) (fun j => by simpa [Nat.add_assoc, Nat.add_comm 1 j] using hl (j + 1)) hs2 hr F' (L.grow g)
      | panic v f' =>
        simp only [goes, Option.some.injEq] at hr
        subst hr
        exact fun μ' u w' F' g hv => L μ' a w' _ F' g ⟨u, rfl, hv⟩

end
end Go.AM
