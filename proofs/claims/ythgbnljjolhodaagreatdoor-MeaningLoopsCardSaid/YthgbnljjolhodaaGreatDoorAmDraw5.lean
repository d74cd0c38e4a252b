/- Regions that draw their order: the whole of it. -/
import Derived.Test.YthgbnljjolhodaaGreatDoorAmDraw4
set_option linter.all false
namespace Go.AM

/-- memory with the blocks that were made early -/
noncomputable def addE : List Item → Nat → Heap → Heap
  | [], _, h => h
  | x :: r, id, h => match x.e with
    | some (_, some B) => putB (addE r (id + 1) h) id (some B)
    | _ => addE r (id + 1) h

theorem addE_get : ∀ {q : List Item} {id : Nat} {h : Heap} {b : Nat}, (addE q id h).get b = extH q id h.get b
  | [], _, _, _ => rfl
  | x :: r, id, h, b => by
    have ih := addE_get (q := r) (id := id + 1) (h := h) (b := b)
    simp only [addE, extH]
    cases hx : x.e with
    | none => exact ih
    | some u =>
      obtain ⟨v, B⟩ := u
      cases B with
      | none => exact ih
      | some B =>
        simp only
        rw [putB_get]
        simp only
        rw [ih]

theorem addE_fx : ∀ {q : List Item} {id : Nat} {h : Heap}, (addE q id h).fx = h.fx
  | [], _, _ => rfl
  | x :: r, id, h => by
    simp only [addE]
    split
    · rw [putB_fx]; exact addE_fx
    · exact addE_fx

theorem addE_next : ∀ {q : List Item} {id : Nat} {h : Heap}, (addE q id h).next = h.next
  | [], _, _ => rfl
  | x :: r, id, h => by
    simp only [addE]
    split
    · rw [putB_next]; exact addE_next
    · exact addE_next

theorem forget_get : ∀ {l : List Step} {tm : Tr AVal} {t : Nat}, (forget l tm).get t = none ∨ ((forget l tm).get t = tm.get t ∧ ∀ s ∈ l, s.dst ≠ some t)
  | [], tm, t => .inr ⟨rfl, fun _ h => (by cases h)⟩
  | s :: r, tm, t => by
    have e0 : forget (s :: r) tm = forget r (match s.dst with | some d => Tr.set tm d none | none => tm) := rfl
    rw [e0]
    rcases forget_get (l := r) (tm := match s.dst with | some d => Tr.set tm d none | none => tm) (t := t) with h | ⟨h1, h2⟩
    · exact .inl h
    · cases hd : s.dst with
      | none =>
        rw [hd] at h1
        refine .inr ⟨h1, fun z hz => ?_⟩
        simp only [List.mem_cons] at hz
        rcases hz with rfl | hz
        · rw [hd]; simp
        · exact h2 z hz
      | some d =>
        rw [hd] at h1
        simp only [Tr.get_set] at h1
        by_cases e3 : t = d
        · rw [if_pos e3] at h1
          exact .inl h1
        · rw [if_neg e3] at h1
          refine .inr ⟨h1, fun z hz => ?_⟩
          simp only [List.mem_cons] at hz
          rcases hz with rfl | hz
          · rw [hd]
            intro e2
            exact e3 (Option.some.inj e2).symm
          · exact h2 z hz

section
variable {P : Program} {Γ : Facts} {ρ : Env} {μ : Where} {tm : Tr AVal} {a : Act} {w : World} {h : Heap} {pl : List Held} {nt : Nat} {ops : Array Oper} {call : CallF} {all : List Step} {W : Nat → Nat → Bool} {before : List Nat}
  {res : RRes} {μ0 : Where} {h0 : Heap} {w0 : World}

theorem DInv.part {q : List Item} {id : Nat} {f : Fr} {hs : List Heap} {listed : Array Bool} (D : DInv P Γ ρ call pl nt ops W all res μ0 h0 w0 q id f hs listed μ tm h a w) : ∀ b B, f.h.get b = some B → h.get b = some B := fun b B hB => by
  rw [D.mem b, extH_other]
  · exact hB
  · intro k x v B' hk hx e
    have := D.free k (List.getElem?_eq_some_iff.1 hk).1
    rw [← e, hB] at this
    cases this

theorem lands_panic {x : Item} {r : List Item} {id : Nat} {f : Fr} {hs : List Heap} {listed : Array Bool} (D : DInv P Γ ρ call pl nt ops W all res μ0 h0 w0 (x :: r) id f hs listed μ tm h a w) {v : AVal} {h' : Heap} {μ' : Where} {w' : World} (hg : Grows ρ μ f.h w μ' h' w')
    (hres : res = .panic v ⟨forget all f.tm, h', f.df⟩) {Q : Exit → Act → World → Prop} (L : Lands ρ nt μ0 h0 w0 Q (exitOf res)) {u : Value} (hv : VRel ρ μ' v u) : Q (.panic (panicOf u)) a w' := by
  subst hres
  refine L μ' a w' _ ⟨fun t => ?_, D.size, hg.rel, D.defs.mono hg.le⟩ ((D.grows.trans (Grows.sub D.grows.rel D.next.symm D.fx.symm D.part)).trans hg) ⟨u, rfl, hv⟩
  show VRel ρ μ' (orAny ((forget all f.tm).get t)) _
  rcases forget_get (l := all) (tm := f.tm) (t := t) with h1 | ⟨h1, h2⟩
  · rw [h1]; trivial
  · rw [h1]
    have h3 := (D.tr t).mono hg.le
    rw [D.tmps t, extT_none] at h3
    · exact h3
    · exact fun z hz _ => h2 z.s (D.sub z hz)

/-- A CHANGE at its turn -/
theorem DInv.change {x : Item} {r : List Item} {id : Nat} {f : Fr} {hs : List Heap} {listed : Array Bool} (D : DInv P Γ ρ call pl nt ops (waits before) all res μ0 h0 w0 (x :: r) id f hs listed μ tm h a w)
    (hc : SoundCall P ρ call) (hv : validD ops before = true) (hx : x.e = none) (hm : isMut x.s.op = true) (hr : x.i ∈ Region.ready .any ops listed) {K : Act → World → Prop} {Q : Exit → Act → World → Prop} (L : Lands ρ nt μ0 h0 w0 Q (exitOf res))
    (hK : ∀ f' μ' tm' h' a' w', DInv P Γ ρ call pl nt ops (waits before) all res μ0 h0 w0 r (id + 1) f' (f.h :: hs) (listed.setIfInBounds x.i true) μ' tm' h' a' w' → K a' w') : wpOp P ops Q x.i K a w := by
  have hO := okD_cons (x := x.pair) (r := r.map Item.pair) D.ok
  obtain ⟨o, ho, hs'⟩ := D.src x (by simp)
  have hxl := D.lt (x := x) (by simp)
  have hre := edges_ready hr
  have hrun := D.run
  simp only [List.map_cons, drawA_cons] at hrun
  obtain ⟨_, hrun⟩ := cond_some hrun
  obtain ⟨xr, hst, hrun⟩ := bnd_some hrun
  have hstD := hst
  rw [stepD_mut hm] at hst
  rw [hm] at hrun
  have hnames : ∀ t ∈ x.s.names, tm.get t = f.tm.get t := fun t hn => by
    rw [D.tmps t]
    simp only [extT, hx]
    refine extT_none fun z hz hze hzd => ?_
    have h1 := (hO.apart z.pair (List.mem_map_of_mem hz)).writes t hzd hn
    have h2 := D.clo.1 hx z hz hze
    simp only [Item.pair] at h1
    rw [h1] at h2
    cases h2
  have hwant : wantedA tm x.s.guard = wantedA f.tm x.s.guard := by
    unfold wantedA
    cases hg : x.s.guard with
    | none => rfl
    | some g =>
      dsimp only
      rw [hnames g.1 (by simp [Step.names, hg])]
  have Hf : HRel ρ μ f.h w := D.grows.rel.drop _ D.next.symm D.fx.symm D.part
  have hhi := D.high
  simp only [List.length_cons] at hhi
  have hput : ∀ (a1 : Act) (u : Value), (a1.put x.s.dst u).defers = a1.defers := fun a1 u => by cases x.s.dst <;> rfl
  have fin : ∀ (v : AVal) (u : Value) (μ' : Where) (h1 : Heap) (w' : World) (df' : List (FuncId × List AVal)) (a1 : Act), xr = .go ⟨putD f.tm x.s.dst v, h1, df'⟩ → a1.tmps = a.tmps → DefsRel ρ μ' df' a1.defers → Grows ρ μ f.h w μ' h1 w' → VRel ρ μ' v u → K (a1.put x.s.dst u) w' := fun v u μ' h1 w' df' a1 hxr ha hdf g hvr => by
    subst hxr
    have hrun : drawA Γ call all (r.map (·.s)) (id + 1) ⟨putD f.tm x.s.dst v, h1, df'⟩ (f.h :: hs) = some res := hrun
    have hblk : ∀ k z, r[k]? = some z → ∀ v' B, z.e = some (v', some B) → h.get (id + 1 + k) = some B := fun k z hz v' B he => by
      rw [D.mem]
      have := extH_at (r := x :: r) (id := id) (g := f.h.get) (k := k + 1) (by simpa using hz) he
      rw [show id + 1 + k = id + (k + 1) from by omega]; exact this
    have hfree : ∀ k, k < r.length → f.h.get (id + 1 + k) = none := fun k hk => by
      have := D.free (k + 1) (by simp; omega)
      rw [show id + 1 + k = id + (k + 1) from by omega]; exact this
    have hunb : ∀ k z, r[k]? = some z → (∀ v' B, z.e ≠ some (v', some B)) → μ (id + 1 + k) = none := fun k z hz he => by
      have := D.unb (k + 1) z (by simpa using hz) he
      rw [show id + 1 + k = id + (k + 1) from by omega]; exact this
    have hunder : Grows ρ μ h w μ' (addE r (id + 1) h1) w' := by
      refine Grows.under D.grows.rel D.next.symm D.part g addE_next addE_fx D.fx.symm fun b B hb => ?_
      rw [addE_get] at hb
      rcases extH_cases hb with hb | ⟨k, z, v', hz, he, rfl⟩
      · exact .inl hb
      · exact .inr ⟨hblk k z hz v' B he, hfree k (List.getElem?_eq_some_iff.1 hz).1⟩
    have ht1 : TRel ρ μ' tm a1 := fun t => by rw [ha]; exact (D.tr t).mono g.le
    refine hK _ μ' (putD tm x.s.dst v) (addE r (id + 1) h1) _ _ ⟨hO.rest, fun z hz => D.src z (by simp [hz]), fun z hz => D.sub z (by simp [hz]), D.clo.2, fun z hz => D.flo z (by simp [hz]), hrun, ?_, fun t => ?_, ht1.put (fun t e => ?_) hvr, by rw [Act.size_put, ha]; exact D.size, fun b => addE_get, addE_next, D.grows.trans hunder, ?_, ?_, fun k hk => ?_, fun k z hz he => ?_, by rw [hput]; exact hdf, by simp [D.lsize], fun i hi => ?_, closed_set D.closed hre, (linD_cons D.lin).2, addE_fx⟩
    · rcases D.fut.2 with ⟨g', hg', hf⟩ | hf
      · rw [hstD] at hg'
        simp only [Option.some.injEq, RRes.go.injEq] at hg'
        subst hg'
        exact hf
      · exact futs_none hf
    · rw [putD_get, D.tmps t]
      simp only [extT, hx]
      by_cases hd : x.s.dst = some t
      · rw [if_pos hd, extT_none, putD_get, if_pos hd]
        intro z hz _ hzd
        exact (hO.apart z.pair (List.mem_map_of_mem hz)).dst t hd hzd
      · rw [if_neg hd]
        exact extT_congr (by rw [putD_get, if_neg hd])
    · rw [hs'.dst] at e
      rw [ha]
      exact Nat.lt_of_lt_of_le (hs'.small t e) D.size
    · have := D.low; omega
    · show id + 1 + r.length ≤ h1.next
      have := g.next; omega
    · show h1.get (id + 1 + k) = none
      cases hb : h1.get (id + 1 + k) with
      | none => rfl
      | some B =>
        exfalso
        obtain ⟨s, δ, hmu, _⟩ := g.rel.blk _ _ hb
        have hold := g.old (id + 1 + k) (by omega)
        have hmu0 := hmu
        rw [hold] at hmu0
        have hz : r[k]? = some r[k] := List.getElem?_eq_getElem hk
        have hne : ¬ ∀ v' B, (r[k]).e ≠ some (v', some B) := fun hno => by
          rw [hunb k _ hz hno] at hmu0
          cases hmu0
        have hne : ∃ v' B', (r[k]).e = some (v', some B') := Classical.byContradiction fun hno => hne fun v' B' e => hno ⟨v', B', e⟩
        obtain ⟨v', B', he⟩ := hne
        have hh := hblk k _ hz v' B' he
        have hno : ¬ Owned μ f.h s := fun ⟨c, C, δ', hc', hmc⟩ => by
          have := D.grows.rel.inj _ _ _ _ _ _ _ (D.part c C hc') hh hmc hmu0
          subst this
          rw [hfree k hk] at hc'
          cases hc'
        exact (g.kept s (D.grows.rel.lt hh hmu0) hno).2 ⟨_, B, δ, hb, hmu⟩
    · rw [g.old _ (by have := (List.getElem?_eq_some_iff.1 hz).1; omega)]
      exact hunb k z hz he
    · by_cases e : x.i = i
      · subst e
        rw [getD_set_self (by rw [D.lsize]; exact hxl)]
        constructor
        · intro e2; cases e2
        · rintro ⟨z, hz, e1, _⟩
          exact absurd e1.symm (hO.apart z.pair (List.mem_map_of_mem hz)).ne
      · rw [getD_set_ne true e, D.lst i hi]
        constructor
        · rintro ⟨z, hz, e1, e2⟩
          simp only [List.mem_cons] at hz
          rcases hz with rfl | hz
          · exact absurd e1 e
          · exact ⟨z, hz, e1, e2⟩
        · rintro ⟨z, hz, e1, e2⟩
          exact ⟨z, by simp [hz], e1, e2⟩
  refine wpOp_some ho ?_
  unfold stepA at hst
  obtain ⟨b, hb, hst⟩ := bnd_some hst
  rw [← hwant] at hb
  rw [wanted_sound D.tr hs'.guard (fun d b e => Nat.lt_of_lt_of_le (hs'.seen d b e) D.size) hb]
  cases b with
  | false =>
    simp only [cond_false, Option.some.injEq] at hst
    simp only [Bool.false_eq_true, if_false]
    rw [← hs'.dst]
    exact fin .any undef μ f.h w f.df a hst.symm rfl D.defs (Grows.refl Hf) trivial
  | true =>
    simp only [cond_true] at hst
    simp only [if_true]
    have hop := hs'.op
    unfold runOp at hst
    split at hst
    · rename_i q e1; rw [e1] at hm; cases hm
    · rename_i q e1; rw [e1] at hm; cases hm
    · rename_i q e1; rw [e1] at hm; cases hm
    · rename_i q e1
      rw [e1] at hop
      obtain ⟨resm, hresm, hst⟩ := bnd_some hst
      obtain ⟨out, hout, hxr⟩ := mutA_out hst
      have hag : Agree tm f.tm q.opds := agree_of_names fun t hn => hnames t (by
        unfold Step.names
        rw [e1]
        split
        · exact List.mem_cons_of_mem _ hn
        · exact hn)
      rw [← otherA_congr hag] at hresm
      refine mut_core hc Hf (other_sound Hf D.tr hop hresm) hout ?_
      rw [← hs'.dst]
      cases out with
      | val v h' => exact fun μ' u w' hg hvr => fin v u μ' h' w' f.df a hxr rfl (D.defs.mono hg.le) hg hvr
      | panic v h' =>
        intro μ' u w' hg hvr
        have hxr : xr = .panic v ⟨f.tm, h', f.df⟩ := hxr
        subst hxr
        simp only [goesD] at hrun
        obtain ⟨_, hrun⟩ := cond_some hrun
        simp only [Option.some.injEq] at hrun
        exact lands_panic D hg hrun.symm L hvr
      | defer g args =>
        intro d hd
        exact fin .any undef μ f.h w ((g, args) :: f.df) { a with defers := d :: a.defers } hxr rfl ⟨d, a.defers, rfl, hd, D.defs⟩ (Grows.refl Hf) trivial

/-- how many have not come up -/
def left (q : List Item) : Nat := q.countP fun x => x.e.isNone

/-- WHATEVER THE ORDER -/
theorem draw_main (hΓ : Γ.Hold ρ) (hc : SoundCall P ρ call) (hv : validD ops before = true) {Q : Exit → Act → World → Prop} (L : Lands ρ nt μ0 h0 w0 Q (exitOf res)) :
    ∀ (n : Nat) (q : List Item) {id : Nat} {f : Fr} {hs : List Heap} {listed : Array Bool} {μ : Where} {tm : Tr AVal} {h : Heap} {a : Act} {w : World}, left q = n →
      DInv P Γ ρ call pl nt ops (waits before) all res μ0 h0 w0 q id f hs listed μ tm h a w → wpAny P .any ops Q n listed a w := by
  intro n
  induction n with
  | zero =>
    intro q
    induction q with
    | nil =>
      intro id f hs listed μ tm h a w _ D
      have hrun : some (RRes.go f) = some res := D.run
      simp only [Option.some.injEq] at hrun
      refine ⟨?_, ?_⟩
      · apply List.eq_nil_iff_forall_not_mem.2
        intro j hj
        obtain ⟨h1, o, ho, _⟩ := mem_ready.1 hj
        obtain ⟨x, hx, _⟩ := (D.lst j (Array.getElem?_eq_some_iff.1 ho).1).1 h1
        cases hx
      · have hg := D.grows.trans (Grows.sub D.grows.rel D.next.symm D.fx.symm D.part)
        rw [← hrun] at L
        refine L μ a w .normal ⟨fun t => ?_, D.size, hg.rel, D.defs⟩ hg rfl
        have := D.tr t
        rw [D.tmps t] at this
        exact this
    | cons x r ih =>
      intro id f hs listed μ tm h a w hl D
      cases hx : x.e with
      | none => simp [left, hx] at hl
      | some u =>
        obtain ⟨f', D'⟩ := D.skip hx
        exact ih (by simpa [left, hx] using hl) D'
  | succ n ihn =>
    intro q
    induction q with
    | nil => intro id f hs listed μ tm h a w hl _; simp [left] at hl
    | cons x r ih =>
      intro id f hs listed μ tm h a w hl D
      cases hx : x.e with
      | some u =>
        obtain ⟨f', D'⟩ := D.skip hx
        exact ih (by simpa [left, hx] using hl) D'
      | none =>
        have hxl := D.lt (x := x) (by simp)
        obtain ⟨o, ho, _⟩ := D.src x (by simp)
        have hlin := linD_cons (i := x.i) (r := r.map (·.i)) D.lin
        have hxr : x.i ∈ Region.ready .any ops listed := by
          refine ready_of_edges ho ((D.lst x.i hxl).2 ⟨x, by simp, rfl, hx⟩) fun e he => ?_
          obtain ⟨h1, h2⟩ := hlin.1 e he
          cases hle : listed.getD e true with
          | false =>
            exfalso
            obtain ⟨z, hz, e1, _⟩ := (D.lst e (by omega)).1 hle
            simp only [List.mem_cons] at hz
            rcases hz with rfl | hz
            · omega
            · exact h2 (e1 ▸ List.mem_map_of_mem hz)
          | true =>
            have : e < listed.size := by rw [D.lsize]; omega
            simp [this] at hle ⊢
            exact hle
        refine ⟨fun hnil => ?_, fun j hj => ?_⟩
        · rw [hnil] at hxr; cases hxr
        · obtain ⟨h1, oj, hoj, _⟩ := mem_ready.1 hj
          obtain ⟨y, hy, rfl, hye⟩ := (D.lst j (Array.getElem?_eq_some_iff.1 hoj).1).1 h1
          cases hm : isMut y.s.op with
          | false =>
            obtain ⟨pre, post, hq⟩ := List.append_of_mem hy
            rw [hq] at D hl
            refine D.comesUp hΓ hv hye hm hj fun u μ' tm' h' a' w' D' => ihn _ ?_ D'
            simp only [left, List.countP_append, List.countP_cons, hye, Option.isNone_none, if_true] at hl ⊢
            simp only [Option.isNone_some, Bool.false_eq_true, if_false]
            omega
          | true =>
            have hyx : y = x := by
              simp only [List.mem_cons] at hy
              rcases hy with hy | hy
              · exact hy
              · exfalso
                have h2 := ((okD_cons (x := x.pair) (r := r.map Item.pair) D.ok).apart y.pair (List.mem_map_of_mem hy)).chg hm
                have h3 := D.apart hv (x := x) (by simp) hx (Array.getElem?_eq_some_iff.1 hoj).1 (edges_ready hj)
                simp only [Item.pair] at h2
                rw [h2] at h3
                cases h3
            subst hyx
            refine D.change hc hv hye hm hj L fun f' μ' tm' h' a' w' D' => ihn _ ?_ D'
            simpa [left, hx] using hl

theorem slen_eq : ∀ l : List Step, slen l = l.length
  | [] => rfl
  | _ :: r => by show slen r + 1 = _; rw [slen_eq r]; rfl

theorem clo_none : ∀ {l : List Item}, (∀ x ∈ l, x.e = none) → Clo W l
  | [], _ => trivial
  | x :: r, h => ⟨fun _ z hz he => absurd (h z (by simp [hz])) he, clo_none fun z hz => h z (by simp [hz])⟩

theorem extH_none : ∀ {l : List Item} {id : Nat} {g : Nat → Option Block} {b : Nat}, (∀ x ∈ l, x.e = none) → extH l id g b = g b
  | [], _, _, _, _ => rfl
  | x :: r, id, g, b, h => by
    simp only [extH, h x (by simp)]
    exact extH_none fun z hz => h z (by simp [hz])

/-- A REGION THAT DRAWS ITS ORDER -/
theorem draw_sound (hΓ : Γ.Hold ρ) (hc : SoundCall P ρ call) (hmix : P.follows .mixedOrders = true) {steps : List Step} (hcomp : compDraw P pl nt ops = some steps) {f : Fr} {r : RRes} (hr : drawA Γ call steps steps f.h.next (reserved (slen steps) f) [] = some r)
    (F : FRel ρ μ nt f a w) {Q : Exit → Act → World → Prop} (L : Lands ρ nt μ f.h w Q (exitOf r)) {rid : Nat} : (Code.region rid ops true).wp P Q a w := by
  unfold compDraw at hcomp
  simp only at hcomp
  split at hcomp
  · cases hcomp
  · rename_i iops _
    split at hcomp
    · rename_i st hst
      split at hcomp
      · rename_i hok
        simp only [Option.some.injEq] at hcomp
        subst hcomp
        generalize hord : orderOf (Region.before ops) ops.size ((List.range ops.size).filter fun i => (iops[i]?.map isMut).getD false) [] = order at hst hok
        generalize hbk : (fun i => backOf (Region.before ops) ((List.range ops.size).filter fun i => (iops[i]?.map isMut).getD false) order i) = bk at hst
        have hst2 := allSome_spec hst
        unfold drawOk at hok
        simp only [Bool.and_eq_true] at hok
        obtain ⟨⟨hlen, hsz⟩, hall, hlt, hlin, hval, hokd⟩ := hok
        have hlen := nbeq_iff.1 hlen
        have hsz := nbeq_iff.1 hsz
        refine wp_region_any hmix ?_
        have hq : ∀ (l : List Nat) (m : List Step), l.length = m.length → ((l.zip m).map fun x => (⟨x.1, x.2, none⟩ : Item)).map Item.pair = l.zip m ∧ ((l.zip m).map fun x => (⟨x.1, x.2, none⟩ : Item)).map (·.s) = m ∧ ((l.zip m).map fun x => (⟨x.1, x.2, none⟩ : Item)).map (·.i) = l := fun l m h => by
          refine ⟨?_, ?_, ?_⟩
          · rw [List.map_map]; exact List.map_id'' (fun _ => rfl) _
          · rw [List.map_map]; exact List.map_snd_zip (by omega)
          · rw [List.map_map]; exact List.map_fst_zip (by omega)
        obtain ⟨q1, q2, q3⟩ := hq order st hlen
        generalize hqq : ((order.zip st).map fun x => (⟨x.1, x.2, none⟩ : Item)) = q at q1 q2 q3
        have hnone : ∀ x ∈ q, x.e = none := fun x hx => by
          rw [← hqq] at hx
          obtain ⟨z, _, rfl⟩ := List.mem_map.1 hx
          rfl
        have hqlen : q.length = ops.size := by
          have := congrArg List.length q3
          rw [List.length_map] at this
          omega
        have hleft : left q = ops.size := by
          rw [← hqlen]
          unfold left
          rw [List.countP_eq_length]
          intro x hx
          rw [hnone x hx]; rfl
        have hreps : ∀ i d, (Array.replicate ops.size false).getD i d = true → d = true ∧ ops.size ≤ i := fun i d h => by
          rcases Nat.lt_or_ge i ops.size with h' | h'
          · simp [h'] at h
          · simp [Array.getElem?_eq_none, h'] at h
            exact ⟨h, h'⟩
        refine draw_main (all := st) (pl := pl) hΓ hc hval (L.grow (Grows.drew F.heap)) ops.size q (id := f.h.next) (f := reserved (slen st) f) (hs := []) (μ := μ) (tm := f.tm) (h := (reserved (slen st) f).h) hleft ?_
        have hres : (reserved (slen st) f).h.next = f.h.next + st.length := by
          show f.h.next + slen st = _
          rw [slen_eq]
        refine ⟨by rw [q1]; exact hokd, fun x hx => ?_, fun x hx => ?_, clo_none hnone, fun x hx he => absurd (hnone x hx) he, by rw [q2]; exact hr, futs_none hnone, fun t => (extT_none fun z hz he => absurd (hnone z hz) he).symm, F.tmps, F.size, fun b => (extH_none hnone).symm, rfl, Grows.reserve F.heap.drew _, Nat.le_refl _, ?_, fun k hk => ?_, fun k x hk he => ?_, F.defs, by simp, fun i hi => ?_, fun j hj => ?_, by rw [q3]; exact hlin, rfl⟩
        · have hx1 : x.pair ∈ order.zip st := by rw [← q1]; exact List.mem_map_of_mem hx
          obtain ⟨k, hk⟩ := List.mem_iff_getElem?.1 hx1
          rw [List.getElem?_zip_eq_some] at hk
          obtain ⟨k1, k2⟩ := hk
          have k3 : (st.map some)[k]? = some (some x.s) := by rw [List.getElem?_map, k2]; rfl
          rw [← hst2, List.getElem?_map, k1] at k3
          simp only [Option.map_some, Option.some.injEq] at k3
          obtain ⟨o, ho, k4⟩ := Option.bind_eq_some_iff.1 k3
          exact ⟨o, ho, stepOf_spec k4⟩
        · rw [← q2]; exact List.mem_map_of_mem hx
        · rw [hres]; omega
        · show f.h.get _ = none
          cases hb : f.h.get (f.h.next + k) with
          | none => rfl
          | some B =>
            have := F.heap.next_lt hb
            omega
        · exact F.heap.fresh _ (Nat.le_add_right _ _)
        · constructor
          · intro _
            have h1 := List.all_eq_true.1 hall i (List.mem_range.2 hi)
            have h2 := any_beq.1 h1
            rw [← q3] at h2
            obtain ⟨x, hx, e⟩ := List.mem_map.1 h2
            exact ⟨x, hx, e, hnone x hx⟩
          · intro _
            simp [hi]
        · exact absurd (hreps j false hj).1 (by simp)
      · cases hcomp
    · cases hcomp

end
end Go.AM
