/- The abstract machine's code: sequences, branches, blocks, loops. -/
import Derived.Test.YthgbnljjolhodaaGreatDoorAmPiece
import Derived.LoopN
set_option linter.all false
namespace Go.AM

section
variable {P : Program} {Γ : Facts} {ρ : Env} {pl : List Held} {nt : Nat} {call : CallF} {fuel : Nat}

theorem execK_region (d : Bool) (l : List Step) (k : Nat) (f : Fr) : execK Γ call fuel (.region d l) k f = regionA Γ call d l f := rfl
theorem execK_seq (a b : IC) (k : Nat) (f : Fr) : execK Γ call fuel (.seq a b) k f = bnd (execK Γ call fuel a k f) fun r => andThen r fun f' => execK Γ call fuel b k f' := rfl
theorem execK_cond (c : Opd) (a b : IC) (k : Nat) (f : Fr) : execK Γ call fuel (.cond c a b) k f = condA (ev f.tm c) (execK Γ call fuel a k f) (execK Γ call fuel b k f) := rfl
theorem execK_block (id : Nat) (b : IC) (k : Nat) (f : Fr) : execK Γ call fuel (.block id b) k f = bnd (execK Γ call fuel b id f) fun r => some (leaveBlock id r) := rfl
theorem execK_loop (b : IC) (k : Nat) (f : Fr) : execK Γ call fuel (.loop b) k f = iter (fun f => loopL Γ k f Γ.loops) (fun f => execK Γ call fuel b k f) fuel f := rfl

/-- the loops of a piece of code, each with the block around it -/
def loopsOf : Nat → Code → List (Nat × Code)
  | k, .seq a b => loopsOf k a ++ loopsOf k b
  | k, .cond _ a b => loopsOf k a ++ loopsOf k b
  | _, .block id b => loopsOf id b
  | k, .loop b => (k, b) :: loopsOf k b
  | _, _ => []

/-- the rounds of a loop lead from these pieces to those -/
def LHolds (P : Program) (ρ : Env) (nt : Nat) (x : Code) (k : LoopK) : Prop :=
  ∃ n, ∀ μ a w (Q : Exit → Act → World → Prop), FRel ρ μ nt ⟨tmL k.tms .nil, heapOf k.pre (empty 0), k.df⟩ a w →
    (∀ μ' a' w', FRel ρ μ' nt ⟨tmL k.tms' .nil, heapP k.post (empty 0), k.df⟩ a' w' → Grows ρ μ (heapOf k.pre (empty 0)) w μ' (heapP k.post (empty 0)) w' → Q (.exit k.id) a' w') → Code.rounds P x Q n a w

/-- the loops that are known are the code's -/
def LoopsOk (P : Program) (ρ : Env) (nt : Nat) (l : List LoopK) (cur : Nat) (c : Code) : Prop := ∀ y ∈ loopsOf cur c, ∀ k ∈ l, k.id = y.1 → LHolds P ρ nt y.2 k

theorem LoopsOk.none {P : Program} {ρ : Env} {nt cur : Nat} {c : Code} : LoopsOk P ρ nt [] cur c := fun _ _ k hk => by cases hk

theorem tmL_get : ∀ (l : List (Nat × AVal)) (t : Tr AVal) (n : Nat) (v : AVal), (tmL l t).get n = some v → (n, v) ∈ l ∨ t.get n = some v
  | [], t, n, v, e => .inr e
  | x :: l, t, n, v, e => by
    have e : (tmL l (t.set x.1 (some x.2))).get n = some v := e
    rcases tmL_get l _ n v e with k | k
    · exact .inl (List.mem_cons_of_mem _ k)
    · rw [Tr.get_set] at k
      split at k
      · rename_i hb
        simp only [Option.some.injEq] at k
        subst k
        rw [hb]
        exact .inl (List.mem_cons_self)
      · exact .inr k

theorem eqTms_mem {σ : List Nat} {t : Tr AVal} : ∀ {l : List (Nat × AVal)}, eqTms Γ σ t l = true → ∀ i v, (i, v) ∈ l → eqArg Γ σ v (orAny (t.get i)) = true
  | [], _, b, B, hm => by simp at hm
  | x :: l, hf, b, B, hm => by
    have hf : (eqArg Γ σ x.2 (orAny (t.get x.1)) && eqTms Γ σ t l) = true := hf
    rw [Bool.and_eq_true] at hf
    rcases List.mem_cons.1 hm with e | hm
    · subst e
      exact hf.1
    · exact eqTms_mem hf.2 b B hm

/-- temporaries that are known by a list, renamed -/
theorem renTms_get {σ : List Nat} : ∀ {l : List (Nat × AVal)} {t t' u : Tr AVal}, renTms σ l t = some t' → (∀ n v, t.get n = some v → ∃ p, u.get n = some p ∧ renA σ p = some v) → ∀ n v, t'.get n = some v → ∃ p, (tmL l u).get n = some p ∧ renA σ p = some v
  | [], t, t', u, h, ht, n, v, e => by
    have h : some t = some t' := h
    simp only [Option.some.injEq] at h
    subst h
    exact ht n v e
  | x :: l, t, t', u, h, ht, n, v, e => by
    have h : (bnd (renA σ x.2) fun v => renTms σ l (Tr.set t x.1 (some v))) = some t' := h
    obtain ⟨y, hy, h⟩ := bnd_some h
    refine renTms_get (u := u.set x.1 (some x.2)) h (fun m z hz => ?_) n v e
    rw [Tr.get_set] at hz
    by_cases hm : m = x.1
    · rw [if_pos hm] at hz
      simp only [Option.some.injEq] at hz
      subst hz
      exact ⟨x.2, by rw [Tr.get_set, if_pos hm], hy⟩
    · rw [if_neg hm] at hz
      obtain ⟨p, k1, k2⟩ := ht m z hz
      exact ⟨p, by rw [Tr.get_set, if_neg hm]; exact k1, k2⟩

theorem eqDf_rel {μ μ' : Where} {σ : List Nat} (hΓ : Γ.Hold ρ) (R : Ren μ' μ σ) {p q : List (FuncId × List AVal)} (h : eqDf Γ σ p q = true) {ds : List Deferred} (hd : DefsRel ρ μ q ds) : DefsRel ρ μ' p ds := by
  unfold eqDf at h
  split at h
  · exact hd
  · rw [Bool.and_eq_true] at h
    obtain ⟨c, rest, e1, ⟨cap, e2, e3⟩, e4⟩ := hd
    exact ⟨c, rest, e1, ⟨cap, by rw [e2, nbeq_iff.1 h.1], eqArgs_rel hΓ R h.2 e3⟩, e4⟩
  · cases h

theorem renDf_rel {μ μ' : Where} {σ : List Nat} (R : Ren μ' μ σ) {p q : List (FuncId × List AVal)} (h : renDf σ p = some q) {ds : List Deferred} (hd : DefsRel ρ μ' p ds) : DefsRel ρ μ q ds := by
  unfold renDf at h
  split at h
  · simp only [Option.some.injEq] at h
    subst h
    exact hd
  · obtain ⟨l, hl, h⟩ := bnd_some h
    simp only [Option.some.injEq] at h
    subst h
    obtain ⟨c, rest, e1, ⟨cap, e2, e3⟩, e4⟩ := hd
    exact ⟨c, rest, e1, ⟨cap, e2, renL_vs R hl e3⟩, e4⟩
  · cases h

/-- A KNOWN LOOP -/
theorem loopOne_sound {x : Code} {k : LoopK} (hk : LHolds P ρ nt x k) {f : Fr} {r : AExit × Fr} (hr : loopOne Γ k f = some r) (hΓ : Γ.Hold ρ) :
    ∃ n, ∀ {μ : Where} {a : Act} {w : World} {Q : Exit → Act → World → Prop}, FRel ρ μ nt f a w → Lands ρ nt μ f.h w Q r → Code.rounds P x Q n a w := by
  obtain ⟨n, hk⟩ := hk
  refine ⟨n, fun {μ a w Q} F L => ?_⟩
  unfold loopOne at hr
  obtain ⟨hfit, hr⟩ := cond_some hr
  generalize zipBs f.h k.pre 0 (zipDf k.df f.df (zipTms f.tm k.tms [])) = σ at hfit hr
  unfold fitsL at hfit
  rw [Bool.and_eq_true, Bool.and_eq_true, Bool.and_eq_true, Bool.and_eq_true, Bool.and_eq_true] at hfit
  obtain ⟨hdf, hlen, hple, hnd, htms, hbs⟩ := hfit
  have hlen := nbeq_iff.1 hlen
  rw [nlen_eq, blen_eq] at hlen
  have hple := ble_iff.1 hple
  rw [blen_eq, olen_eq] at hple
  unfold applyL at hr
  obtain ⟨h1, hput, hr⟩ := bnd_some hr
  obtain ⟨tm, htm, hr⟩ := bnd_some hr
  obtain ⟨df, hrd, hr⟩ := bnd_some hr
  simp only [Option.some.injEq] at hr
  subst hr
  rw [blen_eq] at hput htm hrd
  rw [olen_eq] at hput
  have H := F.heap
  have FF : Fits Γ f.h σ k.pre k.post.length := ⟨hlen, hple, nodupN_iff hnd, hbs⟩
  refine hk (whereP μ σ) a w Q ⟨fun t => ?_, F.size, Fits.before hΓ FF H, eqDf_rel hΓ Fits.ren hdf F.defs⟩ fun μ' a' w' F' g' => ?_
  · show VRel ρ (whereP μ σ) (orAny ((tmL k.tms .nil).get t)) _
    cases hg : (tmL k.tms .nil).get t with
    | none => trivial
    | some v =>
      rcases tmL_get _ _ _ _ hg with q | q
      · exact eqArg_rel hΓ Fits.ren (eqTms_mem htms t v q) (F.tmps t)
      · cases q
  · obtain ⟨μ'', g'', R1⟩ := FF.after H hput g'
    refine L μ'' a' w' (.exit k.id) ⟨fun t => ?_, F'.size, g''.rel, ?_⟩ g'' rfl
    · show VRel ρ μ'' (orAny (tm.get t)) _
      cases hg : tm.get t with
      | none => trivial
      | some v =>
        obtain ⟨p, k1, k2⟩ := renTms_get (u := .nil) htm (fun n v e => by cases e) t v hg
        have := F'.tmps t
        rw [k1] at this
        exact renA_rel R1 k2 this
    · exact renDf_rel R1 hrd F'.defs

theorem loopL_sound {x : Code} {cur : Nat} {f : Fr} {r : AExit × Fr} (hΓ : Γ.Hold ρ) : ∀ {l : List LoopK}, (∀ k ∈ l, k.id = cur → LHolds P ρ nt x k) → loopL Γ cur f l = some r →
    ∃ n, ∀ {μ : Where} {a : Act} {w : World} {Q : Exit → Act → World → Prop}, FRel ρ μ nt f a w → Lands ρ nt μ f.h w Q r → Code.rounds P x Q n a w
  | [], _, h => by cases h
  | k :: l, hl, h => by
    have h : (bif Nat.beq k.id cur then (match loopOne Γ k f with | some x => some x | none => loopL Γ cur f l) else loopL Γ cur f l) = some r := h
    have rest : loopL Γ cur f l = some r → ∃ n, ∀ {μ : Where} {a : Act} {w : World} {Q : Exit → Act → World → Prop}, FRel ρ μ nt f a w → Lands ρ nt μ f.h w Q r → Code.rounds P x Q n a w := loopL_sound hΓ fun y hy => hl y (List.mem_cons_of_mem _ hy)
    rw [cond_beq] at h
    split at h
    · rename_i e
      split at h
      · rename_i y hy
        simp only [Option.some.injEq] at h
        subst h
        exact loopOne_sound (hl k List.mem_cons_self e) hy hΓ
      · exact rest h
    · exact rest h

/-- behind a first part -/
theorem lands_then {μ : Where} {h : Heap} {w : World} {r1 r : AExit × Fr} {k : Fr → Option (AExit × Fr)} (hk : andThen r1 k = some r) {K : Act → World → Prop} {Q : Exit → Act → World → Prop} (L : Lands ρ nt μ h w Q r)
    (hK : ∀ f', r1 = (.normal, f') → k f' = some r → ∀ μ' a' w', FRel ρ μ' nt f' a' w' → Grows ρ μ h w μ' f'.h w' → K a' w') : Lands ρ nt μ h w (Exit.then K Q) r1 := by
  intro μ' a' w' e F g he
  obtain ⟨x, f'⟩ := r1
  cases x with
  | normal =>
    have he : e = .normal := he
    subst he
    exact hK f' rfl hk μ' a' w' F g
  | exit i =>
    have hk : some (AExit.exit i, f') = some r := hk
    simp only [Option.some.injEq] at hk
    subst hk
    have h1 := L μ' a' w' e F g he
    have he : e = .exit i := he
    subst he
    exact h1
  | ret =>
    have hk : some (AExit.ret, f') = some r := hk
    simp only [Option.some.injEq] at hk
    subst hk
    have h1 := L μ' a' w' e F g he
    have he : e = .ret := he
    subst he
    exact h1
  | panic v =>
    have hk : some (AExit.panic v, f') = some r := hk
    simp only [Option.some.injEq] at hk
    subst hk
    have h1 := L μ' a' w' e F g he
    obtain ⟨u, rfl, _⟩ := he
    exact h1

theorem lands_block {μ : Where} {h : Heap} {w : World} {id : Nat} {r : AExit × Fr} {Q : Exit → Act → World → Prop} (L : Lands ρ nt μ h w Q (leaveBlock id r)) : Lands ρ nt μ h w (Exit.inBlock id Q) r := by
  intro μ' a' w' e F g he
  obtain ⟨x, f'⟩ := r
  cases x with
  | normal =>
    have h1 := L μ' a' w' e F g he
    have he : e = .normal := he
    subst he
    exact h1
  | ret =>
    have h1 := L μ' a' w' e F g he
    have he : e = .ret := he
    subst he
    exact h1
  | panic v =>
    have h1 := L μ' a' w' e F g he
    obtain ⟨u, rfl, _⟩ := he
    exact h1
  | exit i =>
    have he : e = .exit i := he
    subst he
    unfold leaveBlock at L
    simp only at L
    show if i = id then Q .normal a' w' else Q (.exit i) a' w'
    rw [cond_beq] at L
    by_cases hi : i = id
    · rw [if_pos hi] at L
      rw [if_pos hi]
      exact L μ' a' w' .normal F g rfl
    · rw [if_neg hi] at L
      rw [if_neg hi]
      exact L μ' a' w' (.exit i) F g rfl

/-- rounds, one after the other -/
theorem rounds_of_iter {x : Code} {cur : Nat} {body : Fr → Option (AExit × Fr)} (hΓ : Γ.Hold ρ) (hL : ∀ k ∈ Γ.loops, k.id = cur → LHolds P ρ nt x k)
    (hb : ∀ {μ : Where} {f : Fr} {a : Act} {w : World} {r : AExit × Fr} {Q : Exit → Act → World → Prop}, body f = some r → FRel ρ μ nt f a w → Lands ρ nt μ f.h w Q r → x.wp P Q a w) :
    ∀ (n : Nat) {f : Fr} {r : AExit × Fr}, iter (fun f => loopL Γ cur f Γ.loops) body n f = some r → ∃ m, ∀ {μ : Where} {a : Act} {w : World} {Q : Exit → Act → World → Prop}, FRel ρ μ nt f a w → Lands ρ nt μ f.h w Q r → Code.rounds P x Q m a w
  | 0, f, r, hx => by cases hx
  | n + 1, f, r, hx => by
    have hx : (match loopL Γ cur f Γ.loops with
      | some r => some r
      | none => bnd (body f) fun r => andThen r fun f' => iter (fun f => loopL Γ cur f Γ.loops) body n f') = some r := hx
    split at hx
    · rename_i y hy
      simp only [Option.some.injEq] at hx
      subst hx
      exact loopL_sound hΓ hL hy
    · obtain ⟨r1, hr1, hx⟩ := bnd_some hx
      obtain ⟨e1, f1⟩ := r1
      cases e1 with
      | normal =>
        obtain ⟨m, hm⟩ := rounds_of_iter hΓ hL hb n hx
        refine ⟨m + 1, fun {μ a w Q} F L => ?_⟩
        rw [rounds_succ]
        refine hb hr1 F (lands_then hx L fun f' e hk μ' a' w' F' g => ?_)
        simp only [Prod.mk.injEq, true_and] at e
        subst e
        exact hm F' (L.grow g)
      | _ =>
        refine ⟨1, fun {μ a w Q} F L => ?_⟩
        rw [rounds_succ]
        exact hb hr1 F (lands_then hx L fun f' e hk => by simp at e)

/-- CODE: what the abstract machine does, the model's does -/
theorem execK_sound (hΓ : Γ.Hold ρ) (hc : SoundCall P ρ call) (hmix : P.follows .mixedOrders = true) : ∀ (c : Code) {cur : Nat} (_ : LoopsOk P ρ nt Γ.loops cur c) {ic : IC} {μ : Where} {f : Fr} {a : Act} {w : World} {r : AExit × Fr} {Q : Exit → Act → World → Prop},
    compCode P pl nt c = some ic → execK Γ call fuel ic cur f = some r → FRel ρ μ nt f a w → Lands ρ nt μ f.h w Q r → c.wp P Q a w := by
  intro c
  induction c with
  | skip =>
    intro cur hL ic μ f a w r Q hcomp hx F L
    simp only [compCode, Option.some.injEq] at hcomp
    subst hcomp
    have hx : some (AExit.normal, f) = some r := hx
    simp only [Option.some.injEq] at hx
    subst hx
    exact wp_skip (L μ a w .normal F (Grows.refl F.heap) rfl)
  | exit id =>
    intro cur hL ic μ f a w r Q hcomp hx F L
    simp only [compCode, Option.some.injEq] at hcomp
    subst hcomp
    have hx : some (AExit.exit id, f) = some r := hx
    simp only [Option.some.injEq] at hx
    subst hx
    exact wp_exit (L μ a w (.exit id) F (Grows.refl F.heap) rfl)
  | ret =>
    intro cur hL ic μ f a w r Q hcomp hx F L
    simp only [compCode, Option.some.injEq] at hcomp
    subst hcomp
    have hx : some (AExit.ret, f) = some r := hx
    simp only [Option.some.injEq] at hx
    subst hx
    exact wp_ret (L μ a w .ret F (Grows.refl F.heap) rfl)
  | region id ops draw =>
    intro cur hL ic μ f a w r Q hcomp hx F L
    simp only [compCode] at hcomp
    obtain ⟨steps, hs, e⟩ := Option.map_eq_some_iff.1 hcomp
    subst e
    rw [execK_region] at hx
    unfold regionA at hx
    obtain ⟨x, hx2, e⟩ := bnd_some hx
    simp only [Option.some.injEq] at e
    subst e
    clear hx
    have L := settle_lands hΓ L
    cases draw with
    | true =>
      simp only [compRegion, if_true] at hs
      exact draw_sound hΓ hc hmix hs hx2 F L
    | false =>
      simp only [compRegion, Bool.false_eq_true, if_false] at hs
      refine wp_region ?_
      rw [List.range_eq_range', ← Array.length_toList]
      exact seq_sound hΓ hc ops.toList steps 0 (fun j => by simp) hs hx2 F L
  | seq x y ihx ihy =>
    intro cur hL ic μ f a w r Q hcomp hx F L
    simp only [compCode] at hcomp
    split at hcomp
    · rename_i i1 i2 h1 h2
      simp only [Option.some.injEq] at hcomp
      subst hcomp
      rw [execK_seq] at hx
      obtain ⟨r1, hr1, hx⟩ := bnd_some hx
      have hLx : LoopsOk P ρ nt Γ.loops cur x := fun y hy => hL y (List.mem_append_left _ hy)
      have hLy : LoopsOk P ρ nt Γ.loops cur y := fun z hz => hL z (List.mem_append_right _ hz)
      exact wp_seq (ihx hLx h1 hr1 F (lands_then hx L fun f' _ hk μ' a' w' F' g => ihy hLy h2 hk F' (L.grow g)))
    · cases hcomp
  | cond c x y ihx ihy =>
    intro cur hL ic μ f a w r Q hcomp hx F L
    simp only [compCode] at hcomp
    split at hcomp
    · rename_i i1 i2 h1 h2
      simp only [Option.some.injEq] at hcomp
      subst hcomp
      rw [execK_cond] at hx
      have hv := ev_sound F.tmps c
      unfold condA at hx
      split at hx
      · rename_i b e1
        rw [e1] at hv
        have hv := VRel.bool hv
        simp only [SB.den] at hv
        refine wp_cond hv ?_
        cases b with
        | true => exact ihx (fun y hy => hL y (List.mem_append_left _ hy)) h1 hx F L
        | false => exact ihy (fun y hy => hL y (List.mem_append_right _ hy)) h2 hx F L
      · cases hx
    · cases hcomp
  | block id x ih =>
    intro cur hL ic μ f a w r Q hcomp hx F L
    simp only [compCode] at hcomp
    obtain ⟨i1, h1, e⟩ := Option.map_eq_some_iff.1 hcomp
    subst e
    rw [execK_block] at hx
    obtain ⟨r1, hr1, hx⟩ := bnd_some hx
    simp only [Option.some.injEq] at hx
    subst hx
    exact wp_block (ih hL h1 hr1 F (lands_block L))
  | loop x ih =>
    intro cur hL ic μ f a w r Q hcomp hx F L
    simp only [compCode] at hcomp
    obtain ⟨i1, h1, e⟩ := Option.map_eq_some_iff.1 hcomp
    subst e
    rw [execK_loop] at hx
    have hLx : LoopsOk P ρ nt Γ.loops cur x := fun y hy => hL y (List.mem_cons_of_mem _ hy)
    have hLk : ∀ k ∈ Γ.loops, k.id = cur → LHolds P ρ nt x k := fun k hk e => hL (cur, x) List.mem_cons_self k hk e
    obtain ⟨m, key⟩ := rounds_of_iter hΓ hLk (fun hr1 F L => ih hLx h1 hr1 F L) fuel hx
    exact wp_loop_rounds m (key F L)
  | refuse why =>
    intro cur hL ic μ f a w r Q hcomp hx F L
    simp only [compCode, Option.some.injEq] at hcomp
    subst hcomp
    rw [execK_cond] at hx
    cases hx
  | _ =>
    intro cur hL ic μ f a w r Q hcomp
    simp [compCode] at hcomp

/-- code whose loops are not known -/
theorem exec_sound (hΓ : Γ.Hold ρ) (h0 : Γ.loops = []) (hc : SoundCall P ρ call) (hmix : P.follows .mixedOrders = true) (c : Code) {ic : IC} {μ : Where} {f : Fr} {a : Act} {w : World} {r : AExit × Fr} {Q : Exit → Act → World → Prop} (h1 : compCode P pl nt c = some ic) (h2 : exec Γ call fuel ic f = some r) (F : FRel ρ μ nt f a w) (L : Lands ρ nt μ f.h w Q r) : c.wp P Q a w :=
  execK_sound hΓ hc hmix c (cur := 0) (by rw [h0]; exact LoopsOk.none) h1 h2 F L

end
end Go.AM
