/- Regions that draw their order: memory with blocks that were made early; what is kept while such a region runs. -/
import Derived.Test.YthgbnljjolhodaaGreatDoorAmDraw2
set_option linter.all false
namespace Go.AM

section
variable {ρ : Env} {μ μ' μ0 : Where} {h h' h0 h1 : Heap} {w w' w0 : World}

/-- less is known -/
theorem Grows.sub (H : HRel ρ μ h w) (hn : h'.next = h.next) (hfx : h'.fx = h.fx) (hs : ∀ b B, h'.get b = some B → h.get b = some B) : Grows ρ μ h w μ h' w :=
  ⟨μ.le_refl, H.drop _ hn hfx hs, Nat.le_refl _, fun r _ ho => ⟨rfl, fun ⟨c, B, δ, hc, hm⟩ => ho ⟨c, B, δ, hs c B hc, hm⟩⟩, rfl, rfl, Nat.le_of_eq hn.symm, fun _ _ => rfl, fun _ _ h => .inl h, hfx⟩

/-- what changes a part of memory leaves the rest as it is -/
theorem Grows.under (H : HRel ρ μ h w) (hn : h0.next = h.next) (hs : ∀ b B, h0.get b = some B → h.get b = some B) (g : Grows ρ μ h0 w μ' h1 w') (hn' : h'.next = h1.next) (hfx : h'.fx = h1.fx) (hfx0 : h0.fx = h.fx)
    (hh : ∀ b B, h'.get b = some B → h1.get b = some B ∨ (h.get b = some B ∧ h0.get b = none)) : Grows ρ μ h w μ' h' w' := by
  have un : ∀ {b B r δ}, h.get b = some B → h0.get b = none → μ b = some (r, δ) → ¬ Owned μ h0 r := fun {b B r δ} hb h0b hm ⟨c, C, δ', hc, hmc⟩ => by
    have := H.inj _ _ _ _ _ _ _ (hs c C hc) hb hmc hm
    subst this
    rw [h0b] at hc
    cases hc
  have old : ∀ {b B}, h.get b = some B → h0.get b = none → ∃ r δ, μ b = some (r, δ) ∧ μ' b = some (r, δ) ∧ w'.heap[r]? = w.heap[r]? ∧ ¬ Owned μ' h1 r ∧ BRel ρ μ B w.heap[r]? δ := fun {b B} hb h0b => by
    obtain ⟨r, δ, hm, hB⟩ := H.blk b B hb
    obtain ⟨k1, k2⟩ := g.kept r (H.lt hb hm) (un hb h0b hm)
    exact ⟨r, δ, hm, g.le.to _ _ hm, k1, k2, hB⟩
  have hkept : ∀ r, r < w.heap.size → ¬ Owned μ h r → w'.heap[r]? = w.heap[r]? ∧ ¬ Owned μ' h' r := fun r hr ho => by
    have hno : ¬ Owned μ h0 r := fun ⟨c, C, δ, hc, hm⟩ => ho ⟨c, C, δ, hs c C hc, hm⟩
    obtain ⟨k1, k2⟩ := g.kept r hr hno
    refine ⟨k1, ?_⟩
    rintro ⟨b, B, δ, hb, hm⟩
    rcases hh b B hb with h1b | ⟨hb', h0b⟩
    · exact k2 ⟨b, B, δ, h1b, hm⟩
    · obtain ⟨r', δ', hm1, hm1', _⟩ := old hb' h0b
      rw [hm1'] at hm
      simp only [Option.some.injEq, Prod.mk.injEq] at hm
      obtain ⟨rfl, _⟩ := hm
      exact ho ⟨b, B, δ', hb', hm1⟩
  have hicy : ∀ k o, μ'.ice k = some o → μ.ice k = some o ∨ Owned μ h k ∨ w.heap.size ≤ k := fun k o hk => by
    rcases g.icy k o hk with h1 | ⟨c, C, δ, hc, hm⟩ | h1
    · exact .inl h1
    · exact .inr (.inl ⟨c, C, δ, hs c C hc, hm⟩)
    · exact .inr (.inr h1)
  have hfirm : Firm ρ μ' h' w' := by
    refine ⟨fun k o hk => ?_, fun k o hk => ?_, hfx ▸ g.rel.tabs.facts⟩
    · obtain ⟨q1, q2⟩ := H.tabs.tabs k o hk
      obtain ⟨q3, q4⟩ := hkept k (Array.getElem?_eq_some_iff.1 q1).1 q2
      exact ⟨q3.trans q1, q4⟩
    · obtain ⟨q1, q2⟩ := g.rel.tabs.ice k o hk
      refine ⟨q1, ?_⟩
      rintro ⟨b, B, δ, hb, hm⟩
      rcases hh b B hb with h1b | ⟨hb', h0b⟩
      · exact q2 ⟨b, B, δ, h1b, hm⟩
      · obtain ⟨r', δ', hm1, hm1', _⟩ := old hb' h0b
        rw [hm1'] at hm
        simp only [Option.some.injEq, Prod.mk.injEq] at hm
        obtain ⟨rfl, _⟩ := hm
        rcases g.icy _ o hk with i1 | i1 | i1
        · exact (H.tabs.ice _ o i1).2 ⟨b, B, δ', hb', hm1⟩
        · exact un hb' h0b hm1 i1
        · have := H.lt hb' hm1; omega
  refine ⟨g.le, ⟨fun b hb => g.rel.fresh b (by omega), fun b B hb => ?_, fun b c B C r δ δ' hb hc mb mc => ?_, hfirm⟩, g.size, hkept, g.os, g.output, by have := g.next; omega, fun b hb => g.old b (by omega), hicy, by rw [hfx, g.fx, hfx0]⟩
  · rcases hh b B hb with h1b | ⟨hb', h0b⟩
    · exact g.rel.blk b B h1b
    · obtain ⟨r, δ, _, hm', hk, _, hB⟩ := old hb' h0b
      exact ⟨r, δ, hm', by rw [hk]; exact hB.mono g.le⟩
  · rcases hh b B hb with h1b | ⟨hb', h0b⟩ <;> rcases hh c C hc with h1c | ⟨hc', h0c⟩
    · exact g.rel.inj _ _ _ _ _ _ _ h1b h1c mb mc
    · obtain ⟨r', δ2, _, hm', _, hno, _⟩ := old hc' h0c
      rw [hm'] at mc
      simp only [Option.some.injEq, Prod.mk.injEq] at mc
      obtain ⟨rfl, _⟩ := mc
      exact absurd ⟨b, B, δ, h1b, mb⟩ hno
    · obtain ⟨r', δ2, _, hm', _, hno, _⟩ := old hb' h0b
      rw [hm'] at mb
      simp only [Option.some.injEq, Prod.mk.injEq] at mb
      obtain ⟨rfl, _⟩ := mb
      exact absurd ⟨c, C, δ', h1c, mc⟩ hno
    · obtain ⟨r1, δ1, hm1, hm1', _⟩ := old hb' h0b
      obtain ⟨r2, δ2, hm2, hm2', _⟩ := old hc' h0c
      rw [hm1'] at mb
      rw [hm2'] at mc
      simp only [Option.some.injEq, Prod.mk.injEq] at mb mc
      obtain ⟨rfl, rfl⟩ := mb
      obtain ⟨rfl, rfl⟩ := mc
      exact H.inj _ _ _ _ _ _ _ hb' hc' hm1 hm2

/-- a new block under a number that was kept for it -/
theorem Grows.addAt (g : Grows ρ μ0 h0 w0 μ h w) {id : Nat} (hlo : h0.next ≤ id) (hid : μ id = none) (hhi : id < h.next) (B : Block) (o : Obj) (δ : Nat × Nat)
    (hB : ∀ μ' : Where, μ.le μ' → BRel ρ μ' B (some o) δ) : Grows ρ μ0 h0 w0 (μ.put id (w.heap.size, δ)) (putB h id (some B)) (w.alloc o) := by
  have H := g.rel
  have hle : μ.le (μ.put id (w.heap.size, δ)) := Where.le_put hid
  have hat : ∀ b B' r δ', (putB h id (some B)).get b = some B' → μ.put id (w.heap.size, δ) b = some (r, δ') → (b = id ∧ r = w.heap.size) ∨ (h.get b = some B' ∧ μ b = some (r, δ') ∧ r < w.heap.size) := fun b B' r δ' hb hm => by
    rw [putB_get] at hb
    by_cases e : b = id
    · subst e
      rw [Where.put_same] at hm
      simp only [Option.some.injEq, Prod.mk.injEq] at hm
      exact .inl ⟨rfl, hm.1.symm⟩
    · simp only [if_neg e] at hb
      rw [Where.put_other _ _ e] at hm
      exact .inr ⟨hb, hm, H.lt hb hm⟩
  have hsz : (w.alloc o).heap.size = w.heap.size + 1 := by show (w.heap.push o).size = _; simp
  refine ⟨Where.le_trans g.le hle, ⟨fun b hb => ?_, fun b B' hb => ?_, fun b b' B1 B2 r δ1 δ2 h1 h2 m1 m2 => ?_, H.tabs_of (fun r hr ho => ⟨World.heap_alloc_lt _ _ hr, ?_⟩)⟩, by have := g.size; omega, fun r hr ho => ?_, g.os, g.output, by rw [putB_next]; exact g.next, fun b hb => ?_, fun k o hk => g.icy k o hk, g.fx⟩
  · rw [putB_next] at hb
    rw [Where.put_other _ _ (by omega)]
    exact H.fresh b hb
  · rw [putB_get] at hb
    by_cases e : b = id
    · subst e
      simp only [if_true, Option.some.injEq] at hb
      subst hb
      exact ⟨_, _, Where.put_same _ _ _, by rw [World.heap_alloc_new]; exact hB _ hle⟩
    · simp only [if_neg e] at hb
      obtain ⟨r, δ', hm, hr⟩ := H.blk b B' hb
      exact ⟨r, δ', by rw [Where.put_other _ _ e]; exact hm, by rw [World.heap_alloc_lt _ _ (H.lt hb hm)]; exact hr.mono hle⟩
  · rcases hat _ _ _ _ h1 m1 with ⟨e1, e2⟩ | ⟨g1, n1, l1⟩ <;> rcases hat _ _ _ _ h2 m2 with ⟨e3, e4⟩ | ⟨g2, n2, l2⟩
    · rw [e1, e3]
    · omega
    · omega
    · exact H.inj _ _ _ _ _ _ _ g1 g2 n1 n2
  · rintro ⟨b, B', δ', hb, hm⟩
    rcases hat _ _ _ _ hb hm with ⟨_, e⟩ | ⟨g1, n1, _⟩
    · omega
    · exact ho ⟨b, B', δ', g1, n1⟩
  · obtain ⟨k1, k2⟩ := g.kept r hr ho
    have := g.size
    refine ⟨by rw [World.heap_alloc_lt _ _ (by omega)]; exact k1, ?_⟩
    rintro ⟨b, B', δ', hb, hm⟩
    rcases hat _ _ _ _ hb hm with ⟨_, e⟩ | ⟨g1, n1, _⟩
    · omega
    · exact k2 ⟨b, B', δ', g1, n1⟩
  · rw [Where.put_other _ _ (by omega)]
    exact g.old b hb

/-- numbers are kept -/
theorem Grows.reserve (H : HRel ρ μ h w) (n : Nat) : Grows ρ μ h w μ ⟨h.tab, h.next + n, h.fx⟩ w :=
  ⟨μ.le_refl, ⟨fun b hb => H.fresh b (by have : h.next + n ≤ b := hb; omega), H.blk, H.inj, H.tabs.of (fun _ _ ho => ⟨rfl, ho⟩) rfl rfl⟩, Nat.le_refl _, fun _ _ ho => ⟨rfl, ho⟩, rfl, rfl, Nat.le_add_right _ _, fun _ _ => rfl, fun _ _ h => .inl h, rfl⟩
end

section
variable {P : Program} {Γ : Facts} {ρ : Env} {μ : Where} {tm : Tr AVal} {a : Act} {w : World} {h : Heap} {pl : List Held} {nt : Nat} {ops : Array Oper} {call : CallF}

/-- a step that changes nothing that was there -/
theorem flo_sound (hΓ : Γ.Hold ρ) (hT : TRel ρ μ tm a) (hsz : nt ≤ a.tmps.size) (H : HRel ρ μ h w) {o : Oper} {s : Step} {i : Nat} (ho : ops[i]? = some o) (hs : StepOf P pl nt ops o s) {id : Nat} {u : AVal × Option Block}
    (hu : floS Γ tm h id s = some u) {K : Act → World → Prop} {Q : Exit → Act → World → Prop} (hK : u.2 = none → ∀ v, VRel ρ μ u.1 v → K (a.put s.dst v) w)
    (hK2 : ∀ B, u.2 = some B → ∀ ob m v, (∀ μ' : Where, μ.le μ' → BRel ρ μ' B (some ob) (0, m)) → (∀ μ' : Where, μ.le μ' → μ' id = some (w.heap.size, 0, m) → VRel ρ μ' u.1 v) → K (a.put s.dst v) (w.alloc ob)) : wpOp P ops Q i K a w := by
  refine wpOp_some ho ?_
  unfold floS at hu
  obtain ⟨b, hb, hu⟩ := bnd_some hu
  rw [wanted_sound hT hs.guard (fun d b e => Nat.lt_of_lt_of_le (hs.seen d b e) hsz) hb]
  rw [hs.dst] at hK hK2
  cases b with
  | false =>
    simp only [cond_false, Option.some.injEq] at hu
    subst hu
    simp only [Bool.false_eq_true, if_false]
    exact hK rfl _ trivial
  | true =>
    simp only [cond_true] at hu
    simp only [if_true]
    have hop := hs.op
    unfold floA at hu
    split at hu
    · rename_i q e1
      rw [e1] at hop
      obtain ⟨v, hv, hu⟩ := bnd_some hu
      simp only [Option.some.injEq] at hu
      subst hu
      obtain ⟨v', hrun, hvr⟩ := pure_sound (w := w) hΓ hT hop hv
      unfold Oper.wp
      rw [hrun]
      exact hK rfl _ hvr
    · rename_i q e1
      rw [e1] at hop
      obtain ⟨v, hv, hu⟩ := bnd_some hu
      simp only [Option.some.injEq] at hu
      subst hu
      obtain ⟨v', hrun, hvr⟩ := read_sound hΓ H hT hop hv
      unfold Oper.wp
      rw [hrun]
      exact hK rfl _ hvr
    · rename_i q e1
      rw [e1] at hop
      obtain ⟨⟨B, v⟩, hv, hu⟩ := bnd_some hu
      simp only [Option.some.injEq] at hu
      subst hu
      obtain ⟨ob, v', hrun, m, hB, hvr⟩ := new_sound (w := w) hT hop hv
      unfold Oper.wp
      rw [hrun]
      exact hK2 B rfl ob m v' hB hvr
    · cases hu

/-! ### Who waits for whom -/

theorem edges_ready {listed : Array Bool} {j : Nat} (hj : j ∈ Region.ready .any ops listed) : ∀ e ∈ edgesOf ops j, listed.getD e false = true := fun e he => by
  obtain ⟨_, o, ho, hall⟩ := mem_ready.1 hj
  unfold edgesOf at he
  rw [ho] at he
  simp only [List.mem_map, List.mem_filter] at he
  obtain ⟨x, ⟨hx, hb⟩, rfl⟩ := he
  exact hall x (Array.mem_toList_iff.1 hx) hb

theorem ready_of_edges {listed : Array Bool} {j : Nat} {o : Oper} (ho : ops[j]? = some o) (hl : listed.getD j true = false) (h : ∀ e ∈ edgesOf ops j, listed.getD e false = true) : j ∈ Region.ready .any ops listed :=
  mem_ready.2 ⟨hl, o, ho, fun e he hb => h e.on (by
    unfold edgesOf
    rw [ho]
    simp only [List.mem_map, List.mem_filter]
    exact ⟨e, ⟨Array.mem_toList_iff.2 he, hb⟩, rfl⟩)⟩

theorem waits_listed {before : List Nat} (hv : validD ops before = true) {listed : Array Bool} (hc : ∀ j, listed.getD j false = true → ∀ e ∈ edgesOf ops j, listed.getD e false = true) :
    ∀ (n j : Nat), j < n → j < ops.size → (∀ e ∈ edgesOf ops j, listed.getD e false = true) → ∀ i, i < ops.size → waits before i j = true → listed.getD i false = true
  | 0, _, hj, _, _, _, _, _ => by omega
  | n + 1, j, hj, hjs, hl, i, hi, hw => by
    unfold validD at hv
    have h1 := List.all_eq_true.1 hv j (List.mem_range.2 hjs)
    have h2 := List.all_eq_true.1 h1 i (List.mem_range.2 hi)
    rw [hw] at h2
    simp only [Bool.not_true, Bool.false_or, List.any_eq_true, Bool.and_eq_true, Bool.or_eq_true] at h2
    obtain ⟨e, he, hlt, h3⟩ := h2
    have hlt : e < j := ble_iff.1 hlt
    have hel := hl e he
    rcases h3 with h3 | h3
    · rw [← nbeq_iff.1 h3]; exact hel
    · exact waits_listed hv hc n e (by omega) (by omega) (hc e hel) i hi h3
end
end Go.AM
