/- Regions that draw their order: whatever the order, the machine's own order tells the outcome. -/
import Derived.Test.YthgbnljjolhodaaGreatDoorAmDraw3
set_option linter.all false
namespace Go.AM

section
variable {P : Program} {Γ : Facts} {ρ : Env} {μ : Where} {tm : Tr AVal} {a : Act} {w : World} {h : Heap} {pl : List Held} {nt : Nat} {ops : Array Oper} {call : CallF} {all : List Step} {W : Nat → Nat → Bool} {before : List Nat}
  {res : RRes} {μ0 : Where} {h0 : Heap} {w0 : World}

/-- what holds while such a region runs -/
structure DInv (P : Program) (Γ : Facts) (ρ : Env) (call : CallF) (pl : List Held) (nt : Nat) (ops : Array Oper) (W : Nat → Nat → Bool) (all : List Step) (res : RRes) (μ0 : Where) (h0 : Heap) (w0 : World)
    (q : List Item) (id : Nat) (f : Fr) (hs : List Heap) (listed : Array Bool) (μ : Where) (tm : Tr AVal) (h : Heap) (a : Act) (w : World) : Prop where
  ok : okD W (q.map Item.pair) = true
  src : ∀ x ∈ q, ∃ o, ops[x.i]? = some o ∧ StepOf P pl nt ops o x.s
  sub : ∀ x ∈ q, x.s ∈ all
  clo : Clo W q
  flo : ∀ x ∈ q, x.e ≠ none → isMut x.s.op = false
  run : drawA Γ call all (q.map (·.s)) id f hs = some res
  fut : Futs Γ call q id f
  tmps : ∀ t, tm.get t = extT q f.tm.get t
  tr : TRel ρ μ tm a
  size : nt ≤ a.tmps.size
  mem : ∀ b, h.get b = extH q id f.h.get b
  next : h.next = f.h.next
  grows : Grows ρ μ0 h0 w0 μ h w
  low : h0.next ≤ id
  high : id + q.length ≤ f.h.next
  free : ∀ k, k < q.length → f.h.get (id + k) = none
  unb : ∀ k x, q[k]? = some x → (∀ v B, x.e ≠ some (v, some B)) → μ (id + k) = none
  defs : DefsRel ρ μ f.df a.defers
  lsize : listed.size = ops.size
  lst : ∀ i, i < ops.size → (listed.getD i true = false ↔ ∃ x ∈ q, x.i = i ∧ x.e = none)
  closed : ∀ j, listed.getD j false = true → ∀ e ∈ edgesOf ops j, listed.getD e false = true
  lin : linD ops (q.map (·.i)) = true
  fx : h.fx = f.h.fx

theorem putB_fx (h : Heap) (id : Nat) (b : Option Block) : (putB h id b).fx = h.fx := by cases b <;> rfl

theorem linD_cons {i : Nat} {r : List Nat} (h : linD ops (i :: r) = true) : (∀ e ∈ edgesOf ops i, e < i ∧ e ∉ r) ∧ linD ops r = true := by
  simp only [linD, Bool.and_eq_true, List.all_eq_true] at h
  refine ⟨fun e he => ?_, h.2⟩
  have h1 := h.1 e he
  refine ⟨ble_iff.1 h1.1, fun hr => ?_⟩
  have : r.any (Nat.beq e) = true := any_beq.2 hr
  rw [this] at h1; simp at h1

/-- the first has come up already -/
theorem DInv.skip {x : Item} {r : List Item} {id : Nat} {f : Fr} {hs : List Heap} {listed : Array Bool} (D : DInv P Γ ρ call pl nt ops W all res μ0 h0 w0 (x :: r) id f hs listed μ tm h a w) {u : AVal × Option Block} (hx : x.e = some u) :
    ∃ f', DInv P Γ ρ call pl nt ops W all res μ0 h0 w0 r (id + 1) f' hs listed μ tm h a w := by
  have hO := okD_cons (x := x.pair) (r := r.map Item.pair) D.ok
  have hm := D.flo x (by simp) (by rw [hx]; simp)
  have hu := D.fut.1 u hx
  have hst := stepD_of_flo (call := call) hm hu
  have hrun := D.run
  simp only [List.map_cons, drawA_cons] at hrun
  obtain ⟨_, hrun⟩ := cond_some hrun
  rw [hst] at hrun
  have hrun : drawA Γ call all (r.map (·.s)) (id + 1) ⟨putD f.tm x.s.dst u.1, putB f.h id u.2, f.df⟩ (bif isMut x.s.op then f.h :: hs else hs) = some res := hrun
  rw [hm] at hrun
  have hget : ∀ b, b ≠ id → (putB f.h id u.2).get b = f.h.get b := fun b hb => by
    rw [putB_get]
    split
    · rw [if_neg hb]
    · rfl
  have hid := D.high
  simp only [List.length_cons] at hid
  refine ⟨_, ⟨hO.rest, fun z hz => D.src z (by simp [hz]), fun z hz => D.sub z (by simp [hz]), D.clo.2, fun z hz => D.flo z (by simp [hz]), hrun, ?_, fun t => ?_, D.tr, D.size, fun b => ?_, ?_, D.grows, ?_, ?_, fun k hk => ?_, fun k z hz he => ?_, D.defs, D.lsize, fun i hi => ?_, D.closed, (linD_cons D.lin).2, by rw [D.fx]; exact (putB_fx _ _ _).symm⟩⟩
  · rcases D.fut.2 with ⟨g, hg, hf⟩ | hf
    · rw [hst] at hg
      simp only [Option.some.injEq, RRes.go.injEq] at hg
      subst hg
      exact hf
    · exact futs_none hf
  · rw [D.tmps t]
    simp only [extT, hx]
    by_cases hd : x.s.dst = some t
    · rw [if_pos hd, extT_none, putD_get, if_pos hd]
      intro z hz _ hzd
      exact (hO.apart z.pair (List.mem_map_of_mem hz)).dst t hd hzd
    · rw [if_neg hd]
      exact extT_congr (by rw [putD_get, if_neg hd])
  · rw [D.mem b]
    obtain ⟨v, B⟩ := u
    simp only [extH, hx]
    cases B with
    | none => simp only; exact extH_congr rfl
    | some B =>
      simp only
      by_cases hb : b = id
      · rw [if_pos hb, extH_below (by omega), putB_get]
        simp [hb]
      · rw [if_neg hb]
        exact extH_congr (hget b hb).symm
  · rw [D.next]; exact (putB_next _ _ _).symm
  · have := D.low; omega
  · show id + 1 + r.length ≤ (putB f.h id u.2).next
    rw [putB_next]; omega
  · show (putB f.h id u.2).get (id + 1 + k) = none
    rw [hget _ (by omega)]
    have := D.free (k + 1) (by simp; omega)
    rw [show id + 1 + k = id + (k + 1) from by omega]; exact this
  · have := D.unb (k + 1) z (by simpa using hz) he
    rw [show id + 1 + k = id + (k + 1) from by omega]; exact this
  · rw [D.lst i hi]
    constructor
    · rintro ⟨z, hz, e1, e2⟩
      simp only [List.mem_cons] at hz
      rcases hz with rfl | hz
      · rw [hx] at e2; cases e2
      · exact ⟨z, hz, e1, e2⟩
    · rintro ⟨z, hz, e1, e2⟩
      exact ⟨z, by simp [hz], e1, e2⟩

theorem okD_mid : ∀ {pre : List Item} {y : Item} {post : List Item}, okD W ((pre ++ y :: post).map Item.pair) = true → (∀ x ∈ pre, Apart W x.pair y.pair) ∧ ∀ z ∈ post, Apart W y.pair z.pair
  | [], y, post, h => ⟨fun _ hx => (by cases hx), fun z hz => (okD_cons (x := y.pair) (r := post.map Item.pair) h).apart z.pair (List.mem_map_of_mem hz)⟩
  | x :: pre, y, post, h => by
    have hO := okD_cons (x := x.pair) (r := (pre ++ y :: post).map Item.pair) h
    obtain ⟨h1, h2⟩ := okD_mid (pre := pre) hO.rest
    refine ⟨fun z hz => ?_, h2⟩
    simp only [List.mem_cons] at hz
    rcases hz with rfl | hz
    · exact hO.apart y.pair (List.mem_map_of_mem (by simp))
    · exact h1 z hz

theorem extT_mid {g : Nat → Option AVal} {u : AVal × Option Block} {y : Item} {post : List Item} (hy : y.e = none) {t : Nat} : ∀ {pre : List Item}, (∀ x ∈ pre, x.e ≠ none → x.s.dst = some t → y.s.dst ≠ some t) →
    extT (pre ++ { y with e := some u } :: post) g t = if y.s.dst = some t then some u.1 else extT (pre ++ y :: post) g t
  | [], _ => by simp [extT, hy]
  | x :: pre, h => by
    have ih := extT_mid (g := g) (u := u) (y := y) (post := post) hy (t := t) (pre := pre) fun z hz => h z (by simp [hz])
    simp only [List.cons_append, extT]
    cases hx : x.e with
    | none => exact ih
    | some v =>
      simp only
      rw [ih]
      by_cases h1 : x.s.dst = some t
      · rw [if_pos h1, if_pos h1, if_neg (h x (by simp) (by rw [hx]; simp) h1)]
      · rw [if_neg h1, if_neg h1]

theorem extH_mid {g : Nat → Option Block} {v : AVal} {oB : Option Block} {y : Item} {post : List Item} (hy : y.e = none) {b : Nat} : ∀ {pre : List Item} {id : Nat},
    extH (pre ++ { y with e := some (v, oB) } :: post) id g b = match oB with | some B => if b = id + pre.length then some B else extH (pre ++ y :: post) id g b | none => extH (pre ++ y :: post) id g b
  | [], id => by cases oB <;> simp [extH, hy]
  | x :: pre, id => by
    have ih := extH_mid (g := g) (v := v) (oB := oB) (y := y) (post := post) hy (b := b) (pre := pre) (id := id + 1)
    simp only [List.cons_append, extH, List.length_cons]
    rw [ih]
    cases oB with
    | none => rfl
    | some B =>
      simp only
      rw [show id + 1 + pre.length = id + (pre.length + 1) from by omega]
      by_cases hb : b = id + (pre.length + 1)
      · rw [if_pos hb, if_pos hb]
        split
        · rw [if_neg (by omega)]
        · rfl
      · rw [if_neg hb, if_neg hb]

theorem clo_mid {y : Item} {post : List Item} {u : AVal × Option Block} : ∀ {pre : List Item}, Clo W (pre ++ y :: post) → (∀ x ∈ pre, x.e = none → W x.i y.i = false) → Clo W (pre ++ { y with e := some u } :: post)
  | [], h, _ => ⟨fun e => (by cases e), h.2⟩
  | x :: pre, h, hW => by
    refine ⟨fun he z hz hze => ?_, clo_mid h.2 fun z hz => hW z (by simp [hz])⟩
    have hz : z ∈ pre ++ { y with e := some u } :: post := hz
    simp only [List.mem_append, List.mem_cons] at hz
    rcases hz with hz | rfl | hz
    · exact h.1 he z (by simp [hz]) hze
    · exact hW x (by simp) he
    · exact h.1 he z (by simp [hz]) hze

theorem DInv.lt {q : List Item} {id : Nat} {f : Fr} {hs : List Heap} {listed : Array Bool} (D : DInv P Γ ρ call pl nt ops W all res μ0 h0 w0 q id f hs listed μ tm h a w) {x : Item} (hx : x ∈ q) : x.i < ops.size := by
  obtain ⟨o, ho, _⟩ := D.src x hx
  exact (Array.getElem?_eq_some_iff.1 ho).1

theorem getD_off {listed : Array Bool} {i : Nat} (h : listed.getD i true = false) : listed.getD i false = false := by
  rcases Nat.lt_or_ge i listed.size with h' | h'
  · simp [h'] at h ⊢; exact h
  · simp [Array.getElem?_eq_none h'] at h

/-- one that has not come up: nothing that waits for it is listed or ready -/
theorem DInv.apart {q : List Item} {id : Nat} {f : Fr} {hs : List Heap} {listed : Array Bool} (D : DInv P Γ ρ call pl nt ops (waits before) all res μ0 h0 w0 q id f hs listed μ tm h a w) (hv : validD ops before = true) {x : Item} (hx : x ∈ q) (he : x.e = none)
    {j : Nat} (hj : j < ops.size) (hr : ∀ e ∈ edgesOf ops j, listed.getD e false = true) : waits before x.i j = false := by
  cases hw : waits before x.i j with
  | false => rfl
  | true =>
    have h1 := waits_listed hv D.closed (j + 1) j (by omega) hj hr x.i (D.lt hx) hw
    have h2 := getD_off ((D.lst x.i (D.lt hx)).2 ⟨x, hx, rfl, he⟩)
    rw [h1] at h2
    cases h2

theorem closed_set {listed : Array Bool} (hc : ∀ j, listed.getD j false = true → ∀ e ∈ edgesOf ops j, listed.getD e false = true) {i : Nat} (hi : ∀ e ∈ edgesOf ops i, listed.getD e false = true) :
    ∀ j, (listed.setIfInBounds i true).getD j false = true → ∀ e ∈ edgesOf ops j, (listed.setIfInBounds i true).getD e false = true := fun j hj e he => by
  refine getD_set_true ?_
  by_cases hij : i = j
  · exact hi e (hij ▸ he)
  · rw [getD_set_ne false hij] at hj
    exact hc j hj e he

theorem getD_set_self {listed : Array Bool} {i : Nat} (h : i < listed.size) : (listed.setIfInBounds i true).getD i true = true := by
  simp [h]

theorem getElem?_mid {y : Item} {pre post : List Item} {z : Item} (k : Nat) : (pre ++ z :: post)[k]? = if k = pre.length then some z else (pre ++ y :: post)[k]? := by
  by_cases hk : k = pre.length
  · subst hk
    simp
  · rw [if_neg hk]
    by_cases hlt : k < pre.length
    · rw [List.getElem?_append_left hlt, List.getElem?_append_left hlt]
    · rw [List.getElem?_append_right (by omega), List.getElem?_append_right (by omega)]
      have : k - pre.length = (k - pre.length - 1) + 1 := by omega
      rw [this, List.getElem?_cons_succ, List.getElem?_cons_succ]

/-- A STEP THAT COMES UP before the machine's own order would have it -/
theorem DInv.comesUp {pre : List Item} {y : Item} {post : List Item} {id : Nat} {f : Fr} {hs : List Heap} {listed : Array Bool} (D : DInv P Γ ρ call pl nt ops (waits before) all res μ0 h0 w0 (pre ++ y :: post) id f hs listed μ tm h a w)
    (hΓ : Γ.Hold ρ) (hv : validD ops before = true) (hy : y.e = none) (hm : isMut y.s.op = false) (hr : y.i ∈ Region.ready .any ops listed) {K : Act → World → Prop} {Q : Exit → Act → World → Prop}
    (hK : ∀ u μ' tm' h' a' w', DInv P Γ ρ call pl nt ops (waits before) all res μ0 h0 w0 (pre ++ { y with e := some u } :: post) id f hs (listed.setIfInBounds y.i true) μ' tm' h' a' w' → K a' w') : wpOp P ops Q y.i K a w := by
  have hyq : y ∈ pre ++ y :: post := by simp
  obtain ⟨o, ho, hs'⟩ := D.src y hyq
  have hyl := D.lt hyq
  have hre := edges_ready hr
  have hW : ∀ x ∈ pre ++ y :: post, x.e = none → waits before x.i y.i = false := fun x hx he => D.apart hv hx he hyl hre
  obtain ⟨hA1, hA2⟩ := okD_mid D.ok
  have hyk : (pre ++ y :: post)[pre.length]? = some y := by simp
  have hμy : μ (id + pre.length) = none := D.unb _ _ hyk fun v B e => by rw [hy] at e; cases e
  have hhi := D.high
  simp only [List.length_append, List.length_cons] at hhi
  obtain ⟨u, hu, hfut⟩ := early (Γ := Γ) (call := call) (all := all) (W := waits before) (μ := μ) (tm := tm) (h := h) (res := res) (y := y) (post := post) hy hm
    (fun q hq hk hh v hv' => readA_heap D.tr (by rw [← hq]; exact hs'.op) hh hv') pre D.ok D.clo D.flo (fun x hx he => hW x (by simp [hx]) he) D.run D.fut (fun t _ => D.tmps t)
    (.inl fun b B hb hB => by
      rw [D.mem b]
      rw [extH_other]
      · exact hB
      · intro k x v B' hk hx e
        have hlt := (List.getElem?_eq_some_iff.1 hk).1
        have := D.free k hlt
        rw [← e, hB] at this
        cases this)
    (fun k x v B hk hx => by
      rw [D.mem]
      exact extH_at (by rw [List.getElem?_append_left (List.getElem?_eq_some_iff.1 hk).1]; exact hk) hx)
    (fun k x hk hx => D.unb k x (by rw [List.getElem?_append_left (List.getElem?_eq_some_iff.1 hk).1]; exact hk) fun v B e => by rw [hx] at e; cases e)
  -- what holds afterwards, but for memory
  have fin : ∀ (μ' : Where) (h' : Heap) (w' : World) (v : Value), μ.le μ' → VRel ρ μ' u.1 v → Grows ρ μ0 h0 w0 μ' h' w' → h'.next = h.next → (∀ b, h'.get b = extH (pre ++ { y with e := some u } :: post) id f.h.get b) → (∀ b, b ≠ id + pre.length → μ' b = μ b) → (u.2 = none → μ' = μ) →
      DInv P Γ ρ call pl nt ops (waits before) all res μ0 h0 w0 (pre ++ { y with e := some u } :: post) id f hs (listed.setIfInBounds y.i true) μ' (putD tm y.s.dst u.1) h' (a.put y.s.dst v) w' := fun μ' h' w' v hle hv' hg hn hmem hμ hμ2 => by
    have hmem' : ∀ {x : Item}, x ∈ pre ++ { y with e := some u } :: post → x ∈ pre ++ y :: post ∨ x = { y with e := some u } := fun {x} hx => by
      simp only [List.mem_append, List.mem_cons] at hx ⊢
      rcases hx with hx | rfl | hx
      · exact .inl (.inl hx)
      · exact .inr rfl
      · exact .inl (.inr (.inr hx))
    have hpair : (pre ++ { y with e := some u } :: post).map Item.pair = (pre ++ y :: post).map Item.pair := by simp [Item.pair]
    have hstep : (pre ++ { y with e := some u } :: post).map (·.s) = (pre ++ y :: post).map (·.s) := by simp
    have hidx : (pre ++ { y with e := some u } :: post).map (·.i) = (pre ++ y :: post).map (·.i) := by simp
    refine ⟨by rw [hpair]; exact D.ok, fun x hx => ?_, fun x hx => ?_, clo_mid D.clo fun x hx he => hW x (by simp [hx]) he, fun x hx he => ?_, by rw [hstep]; exact D.run, hfut, fun t => ?_, (D.tr.mono hle).put (fun t e => ?_) hv', by rw [Act.size_put]; exact D.size, hmem, by rw [hn]; exact D.next, hg, D.low, ?_, fun k hk => ?_, fun k x hk hx => ?_, ?_, by simp [D.lsize], fun i hi => ?_, closed_set D.closed hre, by rw [hidx]; exact D.lin, by rw [hg.fx, ← D.grows.fx]; exact D.fx⟩
    · rcases hmem' hx with hx | rfl
      · exact D.src x hx
      · exact D.src y hyq
    · rcases hmem' hx with hx | rfl
      · exact D.sub x hx
      · exact D.sub y hyq
    · rcases hmem' hx with hx | rfl
      · exact D.flo x hx he
      · exact hm
    · rw [extT_mid hy, putD_get, D.tmps t]
      intro x hx _ hd
      exact (hA1 x hx).dst t hd
    · rw [hs'.dst] at e
      exact Nat.lt_of_lt_of_le (hs'.small t e) D.size
    · have := D.high
      simp only [List.length_append, List.length_cons] at this ⊢
      exact this
    · refine D.free k ?_
      simp only [List.length_append, List.length_cons] at hk ⊢
      exact hk
    · rw [getElem?_mid (y := y)] at hk
      split at hk
      · rename_i e
        simp only [Option.some.injEq] at hk
        subst hk
        have hu2 : u.2 = none := by
          obtain ⟨v1, B1⟩ := u
          cases B1 with
          | none => rfl
          | some B1 => exact absurd rfl (hx v1 B1)
        rw [hμ2 hu2, e]
        exact hμy
      · rename_i e
        rw [hμ _ (by omega)]
        exact D.unb k x hk hx
    · have : (a.put y.s.dst v).defers = a.defers := by cases y.s.dst <;> rfl
      rw [this]
      exact D.defs.mono hle
    · by_cases e : y.i = i
      · subst e
        rw [getD_set_self (by rw [D.lsize]; exact hyl)]
        constructor
        · intro e2; cases e2
        · rintro ⟨x, hx, e1, e2⟩
          exfalso
          simp only [List.mem_append, List.mem_cons] at hx
          rcases hx with hx | rfl | hx
          · exact (hA1 x hx).ne e1
          · cases e2
          · exact (hA2 x hx).ne e1.symm
      · rw [getD_set_ne true e, D.lst i hi]
        constructor
        · rintro ⟨x, hx, e1, e2⟩
          simp only [List.mem_append, List.mem_cons] at hx
          rcases hx with hx | rfl | hx
          · exact ⟨x, by simp [hx], e1, e2⟩
          · exact absurd e1 e
          · exact ⟨x, by simp [hx], e1, e2⟩
        · rintro ⟨x, hx, e1, e2⟩
          rcases hmem' hx with hx | rfl
          · exact ⟨x, hx, e1, e2⟩
          · cases e2
  refine flo_sound hΓ D.tr D.size D.grows.rel ho hs' hu (fun hn v hv' => ?_) (fun B hB ob m v hBr hv' => ?_)
  · refine hK u μ (putD tm y.s.dst u.1) h _ _ (fin μ h w v μ.le_refl hv' D.grows rfl (fun b => ?_) (fun _ _ => rfl) fun _ => rfl)
    obtain ⟨u1, u2⟩ := u
    simp only at hn
    subst hn
    rw [extH_mid hy, D.mem b]
  · have hlow := D.low
    have hg := D.grows.addAt (id := id + pre.length) (by omega) hμy (by rw [D.next]; omega) B ob (0, m) hBr
    have hle : μ.le (μ.put (id + pre.length) (w.heap.size, 0, m)) := Where.le_put hμy
    refine hK u _ _ _ _ _ (fin _ _ _ v hle (hv' _ hle (Where.put_same _ _ _)) hg (putB_next _ _ _) (fun b => ?_) (fun b hb => Where.put_other _ _ hb) fun e => by rw [hB] at e; cases e)
    obtain ⟨u1, u2⟩ := u
    simp only at hB
    subst hB
    rw [extH_mid hy, putB_get, D.mem b]

end
end Go.AM
