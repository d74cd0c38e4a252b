/- Comparisons by the abstract machine; parts of slices and strings. -/
import Derived.Test.YthgbnljjolhodaaGreatDoorAmEq
set_option linter.all false
namespace Go.AM

section
variable {P : Program} {Γ : Facts} {ρ : Env} {μ : Where} {tm : Tr AVal} {a : Act} {w : World}

/-! 'equalIn', case by case -/
section
variable {t e kt : TypeId} (d : Nat)
theorem eqIn_ptr_nil (hu : P.underlying t = some (.pointer e)) (q : Option Addr) : (Op.equalIn (d + 1) t (.pointer none) (.pointer q)).run P w = .ok q.isNone w := by
  simp only [Op.equalIn, Sem.run_bind, run_underlying hu, Result.andThen_ok, Sem.run_pure]
theorem eqIn_ptr_some (hu : P.underlying t = some (.pointer e)) (q : Addr) : (Op.equalIn (d + 1) t (.pointer (some q)) (.pointer none)).run P w = .ok false w := by
  simp only [Op.equalIn, Sem.run_bind, run_underlying hu, Result.andThen_ok, Sem.run_pure]
theorem eqIn_ptr_same (hu : P.underlying t = some (.pointer e)) {n : Nat} (hn : sizeT P e = some n) (q : Addr) : (Op.equalIn (d + 1) t (.pointer (some q)) (.pointer (some q))).run P w = .ok true w := by
  have hs := run_sizeT (w := w) hn
  by_cases h : n = 0 <;> simp [Op.equalIn, run_underlying hu, hs, sameAddr, h]
theorem eqIn_slice_nil (hu : P.underlying t = some (.slice e)) (q : Option Addr) (n m : Nat) : (Op.equalIn (d + 1) t (.slice none 0 0) (.slice q n m)).run P w = .ok q.isNone w := by
  simp only [Op.equalIn, Sem.run_bind, run_underlying hu, Result.andThen_ok, Sem.run_pure]
theorem eqIn_slice_some (hu : P.underlying t = some (.slice e)) (q : Addr) (n m : Nat) : (Op.equalIn (d + 1) t (.slice (some q) n m) (.slice none 0 0)).run P w = .ok false w := by
  simp only [Op.equalIn, Sem.run_bind, run_underlying hu, Result.andThen_ok, Sem.run_pure]
theorem eqIn_map_nil (hu : P.underlying t = some (.map kt e)) (q : Option Nat) : (Op.equalIn (d + 1) t (.map none) (.map q)).run P w = .ok q.isNone w := by
  simp only [Op.equalIn, Sem.run_bind, run_underlying hu, Result.andThen_ok, Sem.run_pure]
theorem eqIn_map_some (hu : P.underlying t = some (.map kt e)) (q : Nat) : (Op.equalIn (d + 1) t (.map (some q)) (.map none)).run P w = .ok false w := by
  simp only [Op.equalIn, Sem.run_bind, run_underlying hu, Result.andThen_ok, Sem.run_pure]
variable {ps rs : Array TypeId} {va : Bool}
theorem eqIn_func_nil (hu : P.underlying t = some (.func ps rs va)) : (Op.equalIn (d + 1) t .nilFunc .nilFunc).run P w = .ok true w := by
  simp only [Op.equalIn, Sem.run_bind, run_underlying hu, Result.andThen_ok, Sem.run_pure]
theorem eqIn_func_l (hu : P.underlying t = some (.func ps rs va)) (f : Fn) (x y : Array Value) : (Op.equalIn (d + 1) t (.func f x y) .nilFunc).run P w = .ok false w := by
  simp only [Op.equalIn, Sem.run_bind, run_underlying hu, Result.andThen_ok, Sem.run_pure]
theorem eqIn_func_r (hu : P.underlying t = some (.func ps rs va)) (f : Fn) (x y : Array Value) : (Op.equalIn (d + 1) t .nilFunc (.func f x y)).run P w = .ok false w := by
  simp only [Op.equalIn, Sem.run_bind, run_underlying hu, Result.andThen_ok, Sem.run_pure]
variable {ms : Array (String × TypeId)}
theorem eqIn_iface_nil (hu : P.underlying t = some (.interface ms)) : (Op.equalIn (d + 1) t .nilIface .nilIface).run P w = .ok true w := by
  simp only [Op.equalIn, Sem.run_bind, run_underlying hu, Result.andThen_ok, Sem.run_pure]
theorem eqIn_iface_l (hu : P.underlying t = some (.interface ms)) (u : TypeId) (v : Value) : (Op.equalIn (d + 1) t (.iface u v) .nilIface).run P w = .ok false w := by
  simp only [Op.equalIn, Sem.run_bind, run_underlying hu, Result.andThen_ok, Sem.run_pure]
theorem eqIn_iface_r (hu : P.underlying t = some (.interface ms)) (u : TypeId) (v : Value) : (Op.equalIn (d + 1) t .nilIface (.iface u v)).run P w = .ok false w := by
  simp only [Op.equalIn, Sem.run_bind, run_underlying hu, Result.andThen_ok, Sem.run_pure]
theorem eqIn_iface_ne (hu : P.underlying t = some (.interface ms)) {u u' : TypeId} (h : u ≠ u') (v v' : Value) : (Op.equalIn (d + 1) t (.iface u v) (.iface u' v')).run P w = .ok false w := by
  simp only [Op.equalIn, Sem.run_bind, run_underlying hu, Result.andThen_ok]
  rw [if_pos h]
  rfl
theorem eqIn_iface_eq (hu : P.underlying t = some (.interface ms)) {u : TypeId} {i : TypeInfo} (hi : P.info? u = some i) (hc : i.comparable = true) (v v' : Value) : (Op.equalIn (d + 1) t (.iface u v) (.iface u v')).run P w = (Op.equalIn d u v v').run P w := by
  simp only [Op.equalIn, Sem.run_bind, run_underlying hu, Result.andThen_ok, ne_eq, not_true_eq_false, if_false, typeInfo, run_program, hi, Sem.run_pure, hc, Bool.not_true, Bool.false_eq_true]
theorem guardIn_iface (hu : P.underlying t = some (.interface ms)) : (Op.eqGuardIn (d + 1) t .nilIface .nilIface).run P w = .ok (!ms.isEmpty) w := by
  simp only [Op.eqGuardIn, Sem.run_bind, run_underlying hu, Result.andThen_ok, Sem.run_pure]
end

/-- '==' and '!=' of two values that are neither integers nor strings nor numbers of another kind -/
theorem run_binOp_eq (neg : Bool) (t : TypeId) (u v : Value) (b : Bool) (hc : ∀ s, u ≠ .string s) (hi : ∀ k n, u ≠ .int k n) (hf : ∀ k n, u ≠ .float k n) (hx : ∀ k n m, u ≠ .complex k n m)
    (h : (Op.equalIn 10000 t u v).run P w = .ok b w) : (binOp (if neg then .neq else .eql) t u v).run P w = .ok (.bool (if neg then !b else b)) w := by
  cases neg
  · simp only [Bool.false_eq_true, if_false]
    unfold binOp
    cases u <;> first | (exact absurd rfl (hc _)) | (exact absurd rfl (hi _ _)) | (exact absurd rfl (hf _ _)) | (exact absurd rfl (hx _ _ _)) | (simp [Op.equal, Op.maxDepth, h])
  · simp only [if_true]
    unfold binOp
    cases u <;> first | (exact absurd rfl (hc _)) | (exact absurd rfl (hi _ _)) | (exact absurd rfl (hf _ _)) | (exact absurd rfl (hx _ _ _)) | (simp [Op.equal, Op.maxDepth, h])

theorem gives_eqs {o : Oper} {neg : Bool} {t yt : TypeId} {x y : Operand} (ho : o.op = .binOp (if neg then .neq else .eql) t x y yt) {b : Bool} {v : AVal} (hv : v = .bool (.lit (bif neg then !b else b)))
    (hg : (eqGuard (if neg then .neq else .eql) t x y (a.eval x) (a.eval y)).run P w = .ok () w)
    (hc : ∀ s, a.eval x ≠ .string s) (hi : ∀ k n, a.eval x ≠ .int k n) (hf : ∀ k n, a.eval x ≠ .float k n) (hx : ∀ k n m, a.eval x ≠ .complex k n m)
    (h : (Op.equalIn 10000 t (a.eval x) (a.eval y)).run P w = .ok b w) : Gives P ρ μ a o w v := by
  refine ⟨.bool (if neg then !b else b), ?_, ?_⟩
  · simp only [execOp, ho, Sem.run_bind, hg, Result.andThen_ok, run_binOp_eq neg t _ _ b hc hi hf hx h]
    simp
  · subst hv
    simp only [VRel, SB.den]
    cases neg <;> rfl

theorem lookL_mem {t : Nat} : ∀ {l : List Held} {r : Held}, lookL t l = some r → r ∈ l ∧ r.t = t
  | [], r, h => by have h : none = some r := h; cases h
  | x :: l, r, h => by
    have h : (bif Nat.beq x.t t then some x else lookL t l) = some r := h
    cases e : Nat.beq x.t t with
    | true =>
      rw [e] at h
      simp only [cond_true, Option.some.injEq] at h
      subst h
      exact ⟨List.mem_cons_self, nbeq_iff.1 e⟩
    | false =>
      rw [e] at h
      exact ⟨List.mem_cons_of_mem _ (lookL_mem h).1, (lookL_mem h).2⟩

theorem sameLeaves_eq : ∀ {x y : List (Nat × LK)}, sameLeaves x y = true → x = y
  | [], [], _ => rfl
  | [], _ :: _, h => by simp [sameLeaves] at h
  | _ :: _, [], h => by simp [sameLeaves] at h
  | (a, k) :: x, (b, j) :: y, h => by
    simp only [sameLeaves, Bool.and_eq_true] at h
    rw [nbeq_iff.1 h.1.1, sameLeaves_eq h.2]
    have := nbeq_iff.1 h.1.2
    cases k <;> cases j <;> first | rfl | (simp [LK.no] at this)

theorem heldOk_spec {pl : List Held} (h : heldOk P pl = true) {x : Held} (hm : x ∈ pl) :
    leaves P 6 x.t = some x.offs ∧ (∃ i, P.info? x.t = some i ∧ i.comparable = true) ∧ isAggT P x.t = x.agg := by
  unfold heldOk at h
  have := List.all_eq_true.1 h _ hm
  simp only [Bool.and_eq_true] at this
  obtain ⟨⟨h1, h2⟩, h3⟩ := this
  refine ⟨?_, ?_, ?_⟩
  · split at h1
    · rename_i l' e
      rw [e, sameLeaves_eq h1]
    · cases h1
  · cases e : P.info? x.t with
    | none => rw [e] at h2; simp at h2
    | some i => rw [e] at h2; exact ⟨i, rfl, by simpa using h2⟩
  · rw [beq_eq] at h3; simpa using h3

/-- two whole values of a type with leaves -/
theorem eq_whole (hΓ : Γ.Hold ρ) {t : TypeId} {l : List (Nat × LK)} (hl : leaves P 6 t = some l) {x y : AVal} {u v : Value} {cs ds : List AVal} (hx : VRel ρ μ x u) (hy : VRel ρ μ y v) (hcx : x.cells = some cs) (hcy : y.cells = some ds)
    {b : Bool} (h : eqLeaves Γ cs ds l = some b) (hb : Both P u.cells v.cells 0 t u v) {k : Nat} (hk : 6 ≤ k) :
    (Op.equalIn k t u v).run P w = .ok b w :=
  leaves_sound hΓ (hx.cells hcx) (hy.cells hcy) 6 t l hl k 0 u v b hk hb (by
    have : shifted 0 l = l := by unfold shifted; simp
    rw [this]; exact h)

theorem gives_eq_plain {o : Oper} {neg : Bool} {t yt : TypeId} {x y : Operand} (ho : o.op = .binOp (if neg then .neq else .eql) t x y yt) (hΓ : Γ.Hold ρ) (hT : TRel ρ μ tm a) {l : List (Nat × LK)}
    (hu : (∃ fs, P.underlying t = some (.struct fs)) ∨ ∃ k e, P.underlying t = some (.array k e)) (hl : leaves P 6 t = some l) (hgd : P.eqGuardType P.depth t = false) {v : AVal}
    (h : eqsV Γ neg (.plain l) (ev tm (opd x)) (ev tm (opd y)) = some v) : Gives P ρ μ a o w v := by
  unfold eqsV at h
  obtain ⟨b, hb, h⟩ := bnd_some h
  simp only [Option.some.injEq] at h
  have hb : eqPlain Γ l (ev tm (opd x)) (ev tm (opd y)) = some b := hb
  have hx := ev_sound hT x
  have hy := ev_sound hT y
  unfold eqPlain at hb
  split at hb
  · rename_i xs ys e1 e2
    rw [e1] at hx
    rw [e2] at hy
    have hx2 := hx
    have hy2 := hy
    obtain ⟨X, eX, hX⟩ := hx.agg
    obtain ⟨Y, eY, hY⟩ := hy.agg
    have hboth : Both P (a.eval x).cells (a.eval y).cells 0 t (a.eval x) (a.eval y) := by
      rw [eX, eY]
      refine ⟨fun n hn => ⟨X, Y, rfl, rfl, Win.whole _ _, Win.whole _ _⟩, fun h => ?_⟩
      exfalso
      unfold aggT at h
      rcases hu with ⟨fs, hu⟩ | ⟨k, e, hu⟩ <;> rw [hu] at h <;> cases ei : P.info? t <;> rw [ei] at h <;> simp at h
    refine gives_eqs ho h.symm ?_ (by simp [eX]) (by simp [eX]) (by simp [eX]) (by simp [eX]) (eq_whole hΓ hl hx2 hy2 rfl rfl hb hboth (by omega))
    rw [eX, eY]
    exact run_eqGuard_agg w _ t x y X Y hgd
  · cases hb

theorem gives_eq_iface {o : Oper} {neg nils : Bool} {t yt : TypeId} {x y : Operand} (ho : o.op = .binOp (if neg then .neq else .eql) t x y yt) (hΓ : Γ.Hold ρ) (hT : TRel ρ μ tm a) {pl : List Held}
    {ms : Array (String × TypeId)} (hu : P.underlying t = some (.interface ms)) (hpl : heldOk P pl = true) (hn : nils = (ms.isEmpty || isNilConst x || isNilConst y)) {v : AVal}
    (h : eqsV Γ neg (.iface nils pl) (ev tm (opd x)) (ev tm (opd y)) = some v) : Gives P ρ μ a o w v := by
  unfold eqsV at h
  obtain ⟨b, hb, h⟩ := bnd_some h
  simp only [Option.some.injEq] at h
  have hb : eqIface Γ nils pl (ev tm (opd x)) (ev tm (opd y)) = some b := hb
  have hx := ev_sound hT x
  have hy := ev_sound hT y
  unfold eqIface at hb
  split at hb
  · rename_i d p d' q e1 e2
    rw [e1] at hx
    rw [e2] at hy
    obtain ⟨u, eX, hX⟩ := hx.iface
    obtain ⟨u', eY, hY⟩ := hy.iface
    refine gives_eqs ho h.symm ?_ (by simp [eX]) (by simp [eX]) (by simp [eX]) (by simp [eX]) ?_
    · rw [eX, eY]; cases neg <;> simp [eqGuard]
    · rw [eX, eY]
      unfold eqHeld at hb
      cases ed : Nat.beq d d' with
      | false =>
        rw [ed] at hb
        simp only [cond_false, Option.some.injEq] at hb
        have hne : d ≠ d' := fun e => by rw [nbeq_iff.2 e] at ed; cases ed
        rw [← hb]
        exact eqIn_iface_ne 9999 hu hne _ _
      | true =>
        rw [ed] at hb
        simp only [cond_true] at hb
        obtain ⟨hd, hl, hb⟩ := bnd_some hb
        unfold eqShape at hb
        obtain ⟨hsh, hb⟩ := cond_some hb
        obtain ⟨cs, hcs, hb⟩ := bnd_some hb
        obtain ⟨ds, hds, hb⟩ := bnd_some hb
        have := nbeq_iff.1 ed
        subst this
        obtain ⟨hmem, hdt⟩ := lookL_mem hl
        obtain ⟨hlv, ⟨i, hi, hcmp⟩, hag⟩ := heldOk_spec hpl hmem
        rw [hdt] at hlv hi hag
        rw [Bool.and_eq_true, beq_eq, beq_eq, beq_iff_eq, beq_iff_eq] at hsh
        refine (eqIn_iface_eq 9999 hu hi hcmp _ _).trans ?_
        have hboth : Both P u.cells u'.cells 0 d u u' := by
          refine ⟨fun n hn => ?_, fun h1 => ?_⟩
          · have ha : isAggT P d = true := by unfold isAggT; rw [hn]
            rw [← hag, ha] at hsh
            cases p <;> simp [isAggV] at hsh
            cases q <;> simp [isAggV] at hsh
            obtain ⟨U, rfl, _⟩ := hX.agg
            obtain ⟨V, rfl, _⟩ := hY.agg
            exact ⟨U, V, rfl, rfl, Win.whole _ _, Win.whole _ _⟩
          · have ha : isAggT P d = false := by unfold isAggT; rw [h1]
            rw [← hag, ha] at hsh
            have hone : ∀ {z : AVal} {v : Value} {zs : List AVal}, z.cells = some zs → isAggV z = false → VRel ρ μ z v → v.cells[0]? = some v := fun {z v zs} hz hza hv => by
              have h1 := hv.oneCell (by cases z <;> first | rfl | (simp [AVal.cells] at hz; done) | (simp [isAggV] at hza; done))
              cases v <;> first | rfl | (simp [Value.oneCell'] at h1)
            exact ⟨hone hcs hsh.1 hX, hone hds hsh.2 hY⟩
        exact eq_whole hΓ hlv hX hY hcs hds hb hboth (by omega)
  · rename_i e1 e2
    rw [e1] at hx
    rw [e2] at hy
    have eX : a.eval x = .nilIface := by simpa only [VRel] using hx
    have eY : a.eval y = .nilIface := by simpa only [VRel] using hy
    obtain ⟨hnils, hb⟩ := cond_some hb
    simp only [Option.some.injEq] at hb
    subst hb
    refine gives_eqs ho h.symm ?_ (by simp [eX]) (by simp [eX]) (by simp [eX]) (by simp [eX]) ?_
    · rw [eX, eY]
      subst hn
      have hgI : (Op.eqGuardIn Op.maxDepth t .nilIface .nilIface).run P w = .ok (!ms.isEmpty) w := guardIn_iface 9999 hu
      simp only [Bool.or_eq_true] at hnils
      rcases hnils with (hms | hcx) | hcy
      · rw [hms] at hgI
        cases neg <;> cases x <;> cases y <;> simp [eqGuard, hgI]
      · have : ∃ c, x = .const c := by
          cases x <;> simp [isNilConst] at hcx
          exact ⟨_, rfl⟩
        obtain ⟨c, rfl⟩ := this
        cases neg <;> simp [eqGuard]
      · have : ∃ c, y = .const c := by
          cases y <;> simp [isNilConst] at hcy
          exact ⟨_, rfl⟩
        obtain ⟨c, rfl⟩ := this
        cases neg <;> cases x <;> simp [eqGuard]
    · rw [eX, eY]; exact eqIn_iface_nil 9999 hu
  · rename_i d p e1 e2
    rw [e1] at hx
    rw [e2] at hy
    have eX : a.eval x = .nilIface := by simpa only [VRel] using hx
    obtain ⟨u, eY, _⟩ := hy.iface
    simp only [Option.some.injEq] at hb
    subst hb
    refine gives_eqs ho h.symm ?_ (by simp [eX]) (by simp [eX]) (by simp [eX]) (by simp [eX]) ?_
    · rw [eX, eY]; cases neg <;> simp [eqGuard]
    · rw [eX, eY]; exact eqIn_iface_r 9999 hu _ _
  · rename_i d p e1 e2
    rw [e1] at hx
    rw [e2] at hy
    have eY : a.eval y = .nilIface := by simpa only [VRel] using hy
    obtain ⟨u, eX, _⟩ := hx.iface
    simp only [Option.some.injEq] at hb
    subst hb
    refine gives_eqs ho h.symm ?_ (by simp [eX]) (by simp [eX]) (by simp [eX]) (by simp [eX]) ?_
    · rw [eX, eY]; cases neg <;> simp [eqGuard]
    · rw [eX, eY]; exact eqIn_iface_l 9999 hu _ _
  · cases hb

theorem gives_eq_ptr {o : Oper} {neg : Bool} {t yt e : TypeId} {x y : Operand} (ho : o.op = .binOp (if neg then .neq else .eql) t x y yt) (hT : TRel ρ μ tm a) (hu : P.underlying t = some (.pointer e)) {n : Nat} (hn : sizeT P e = some n) {v : AVal}
    (h : eqsV Γ neg .ptr (ev tm (opd x)) (ev tm (opd y)) = some v) : Gives P ρ μ a o w v := by
  unfold eqsV at h
  obtain ⟨b, hb, h⟩ := bnd_some h
  simp only [Option.some.injEq] at h
  have hb : eqPtr (ev tm (opd x)) (ev tm (opd y)) = some b := hb
  have hx := ev_sound hT x
  have hy := ev_sound hT y
  unfold eqPtr at hb
  split at hb
  · rename_i e1 e2
    rw [e1] at hx
    rw [e2] at hy
    have eX : a.eval x = .pointer none := by simpa only [VRel] using hx
    have eY : a.eval y = .pointer none := by simpa only [VRel] using hy
    simp only [Option.some.injEq] at hb
    subst hb
    refine gives_eqs ho h.symm ?_ (by simp [eX]) (by simp [eX]) (by simp [eX]) (by simp [eX]) ?_
    · rw [eX, eY]; cases neg <;> simp [eqGuard]
    · rw [eX, eY]; exact eqIn_ptr_nil 9999 hu none
  · rename_i bb off e1 e2
    rw [e1] at hx
    rw [e2] at hy
    have eX : a.eval x = .pointer none := by simpa only [VRel] using hx
    obtain ⟨r, δ, _, _, eY⟩ := hy.ptr
    simp only [Option.some.injEq] at hb
    subst hb
    refine gives_eqs ho h.symm ?_ (by simp [eX]) (by simp [eX]) (by simp [eX]) (by simp [eX]) ?_
    · rw [eX, eY]; cases neg <;> simp [eqGuard]
    · rw [eX, eY]; exact eqIn_ptr_nil 9999 hu _
  · rename_i bb off e1 e2
    rw [e1] at hx
    rw [e2] at hy
    have eY : a.eval y = .pointer none := by simpa only [VRel] using hy
    obtain ⟨r, δ, _, _, eX⟩ := hx.ptr
    simp only [Option.some.injEq] at hb
    subst hb
    refine gives_eqs ho h.symm ?_ (by simp [eX]) (by simp [eX]) (by simp [eX]) (by simp [eX]) ?_
    · rw [eX, eY]; cases neg <;> simp [eqGuard]
    · rw [eX, eY]; exact eqIn_ptr_some 9999 hu _
  · rename_i b1 o1 b2 o2 e1 e2
    rw [e1] at hx
    rw [e2] at hy
    obtain ⟨hc, hbb⟩ := cond_some hb
    rw [Bool.and_eq_true] at hc
    have h1 := nbeq_iff.1 hc.1
    have h2 := nbeq_iff.1 hc.2
    subst h1 h2
    obtain ⟨r, δ, m, hm, eX⟩ := hx.ptr
    obtain ⟨r', δ', m', hm', eY⟩ := hy.ptr
    rw [hm] at hm'
    simp only [Option.some.injEq, Prod.mk.injEq] at hm'
    obtain ⟨rfl, rfl, rfl⟩ := hm'
    have hbb : true = b := by simpa using hbb
    subst hbb
    refine gives_eqs ho h.symm ?_ (by simp [eX]) (by simp [eX]) (by simp [eX]) (by simp [eX]) ?_
    · rw [eX, eY]; cases neg <;> simp [eqGuard]
    · rw [eX, eY]; exact eqIn_ptr_same 9999 hu hn _
  · cases hb

theorem gives_eq_slice {o : Oper} {neg : Bool} {t yt e : TypeId} {x y : Operand} (ho : o.op = .binOp (if neg then .neq else .eql) t x y yt) (hT : TRel ρ μ tm a) (hu : P.underlying t = some (.slice e)) {v : AVal}
    (h : eqsV Γ neg .slice (ev tm (opd x)) (ev tm (opd y)) = some v) : Gives P ρ μ a o w v := by
  unfold eqsV at h
  obtain ⟨b, hb, h⟩ := bnd_some h
  simp only [Option.some.injEq] at h
  have hb : eqSlice (ev tm (opd x)) (ev tm (opd y)) = some b := hb
  have hx := ev_sound hT x
  have hy := ev_sound hT y
  unfold eqSlice at hb
  split at hb
  · rename_i e1 e2
    rw [e1] at hx
    rw [e2] at hy
    have eX : a.eval x = .slice none 0 0 := by simpa only [VRel] using hx
    have eY : a.eval y = .slice none 0 0 := by simpa only [VRel] using hy
    simp only [Option.some.injEq] at hb
    subst hb
    refine gives_eqs ho h.symm ?_ (by simp [eX]) (by simp [eX]) (by simp [eX]) (by simp [eX]) ?_
    · rw [eX, eY]; cases neg <;> simp [eqGuard]
    · rw [eX, eY]; exact eqIn_slice_nil 9999 hu none 0 0
  · rename_i b' off len cap e1 e2
    rw [e1] at hx
    rw [e2] at hy
    have eY : a.eval y = .slice none 0 0 := by simpa only [VRel] using hy
    obtain ⟨r, δ, m, _, eX, _⟩ := hx.slice
    simp only [Option.some.injEq] at hb
    subst hb
    refine gives_eqs ho h.symm ?_ (by simp [eX]) (by simp [eX]) (by simp [eX]) (by simp [eX]) ?_
    · rw [eX, eY]; cases neg <;> simp [eqGuard]
    · rw [eX, eY]; exact eqIn_slice_some 9999 hu _ _ _
  · rename_i b' off len cap e1 e2
    rw [e1] at hx
    rw [e2] at hy
    have eX : a.eval x = .slice none 0 0 := by simpa only [VRel] using hx
    obtain ⟨r, δ, m, _, eY, _⟩ := hy.slice
    simp only [Option.some.injEq] at hb
    subst hb
    refine gives_eqs ho h.symm ?_ (by simp [eX]) (by simp [eX]) (by simp [eX]) (by simp [eX]) ?_
    · rw [eX, eY]; cases neg <;> simp [eqGuard]
    · rw [eX, eY]; exact eqIn_slice_nil 9999 hu _ _ _
  · rename_i b' off len cap e1 e2
    rw [e1] at hx
    rw [e2] at hy
    have eY : a.eval y = .slice none 0 0 := by simpa only [VRel] using hy
    obtain ⟨r, δ, m, c, _, eX, _⟩ := hx.gslice
    simp only [Option.some.injEq] at hb
    subst hb
    refine gives_eqs ho h.symm ?_ (by simp [eX]) (by simp [eX]) (by simp [eX]) (by simp [eX]) ?_
    · rw [eX, eY]; cases neg <;> simp [eqGuard]
    · rw [eX, eY]; exact eqIn_slice_some 9999 hu _ _ _
  · rename_i b' off len cap e1 e2
    rw [e1] at hx
    rw [e2] at hy
    have eX : a.eval x = .slice none 0 0 := by simpa only [VRel] using hx
    obtain ⟨r, δ, m, c, _, eY, _⟩ := hy.gslice
    simp only [Option.some.injEq] at hb
    subst hb
    refine gives_eqs ho h.symm ?_ (by simp [eX]) (by simp [eX]) (by simp [eX]) (by simp [eX]) ?_
    · rw [eX, eY]; cases neg <;> simp [eqGuard]
    · rw [eX, eY]; exact eqIn_slice_nil 9999 hu _ _ _
  · cases hb

theorem gives_eq_map {o : Oper} {neg : Bool} {t yt k e : TypeId} {x y : Operand} (ho : o.op = .binOp (if neg then .neq else .eql) t x y yt) (hT : TRel ρ μ tm a) (hu : P.underlying t = some (.map k e)) {v : AVal}
    (h : eqsV Γ neg .map (ev tm (opd x)) (ev tm (opd y)) = some v) : Gives P ρ μ a o w v := by
  unfold eqsV at h
  obtain ⟨b, hb, h⟩ := bnd_some h
  simp only [Option.some.injEq] at h
  have hb : eqMap (ev tm (opd x)) (ev tm (opd y)) = some b := hb
  have hx := ev_sound hT x
  have hy := ev_sound hT y
  unfold eqMap at hb
  split at hb
  · rename_i e1 e2
    rw [e1] at hx
    rw [e2] at hy
    have eX : a.eval x = .map none := by simpa only [VRel] using hx
    have eY : a.eval y = .map none := by simpa only [VRel] using hy
    simp only [Option.some.injEq] at hb
    subst hb
    refine gives_eqs ho h.symm ?_ (by simp [eX]) (by simp [eX]) (by simp [eX]) (by simp [eX]) ?_
    · rw [eX, eY]; cases neg <;> simp [eqGuard]
    · rw [eX, eY]; exact eqIn_map_nil 9999 hu none
  · rename_i b' e1 e2
    rw [e1] at hx
    rw [e2] at hy
    have eY : a.eval y = .map none := by simpa only [VRel] using hy
    obtain ⟨r, _, eX⟩ := hx.mapV
    simp only [Option.some.injEq] at hb
    subst hb
    refine gives_eqs ho h.symm ?_ (by simp [eX]) (by simp [eX]) (by simp [eX]) (by simp [eX]) ?_
    · rw [eX, eY]; cases neg <;> simp [eqGuard]
    · rw [eX, eY]; exact eqIn_map_some 9999 hu _
  · rename_i b' e1 e2
    rw [e1] at hx
    rw [e2] at hy
    have eX : a.eval x = .map none := by simpa only [VRel] using hx
    obtain ⟨r, _, eY⟩ := hy.mapV
    simp only [Option.some.injEq] at hb
    subst hb
    refine gives_eqs ho h.symm ?_ (by simp [eX]) (by simp [eX]) (by simp [eX]) (by simp [eX]) ?_
    · rw [eX, eY]; cases neg <;> simp [eqGuard]
    · rw [eX, eY]; exact eqIn_map_nil 9999 hu _
  · cases hb

theorem gives_eq_func {o : Oper} {neg : Bool} {t yt : TypeId} {ps rs : Array TypeId} {va : Bool} {x y : Operand} (ho : o.op = .binOp (if neg then .neq else .eql) t x y yt) (hT : TRel ρ μ tm a) (hu : P.underlying t = some (.func ps rs va)) {v : AVal}
    (h : eqsV Γ neg .func (ev tm (opd x)) (ev tm (opd y)) = some v) : Gives P ρ μ a o w v := by
  unfold eqsV at h
  obtain ⟨b, hb, h⟩ := bnd_some h
  simp only [Option.some.injEq] at h
  have hb : eqFunc (ev tm (opd x)) (ev tm (opd y)) = some b := hb
  have hx := ev_sound hT x
  have hy := ev_sound hT y
  unfold eqFunc at hb
  split at hb
  · rename_i e1 e2
    rw [e1] at hx
    rw [e2] at hy
    have eX : a.eval x = .nilFunc := by simpa only [VRel] using hx
    have eY : a.eval y = .nilFunc := by simpa only [VRel] using hy
    simp only [Option.some.injEq] at hb
    subst hb
    refine gives_eqs ho h.symm ?_ (by simp [eX]) (by simp [eX]) (by simp [eX]) (by simp [eX]) ?_
    · rw [eX, eY]; cases neg <;> simp [eqGuard]
    · rw [eX, eY]; exact eqIn_func_nil 9999 hu
  · rename_i f p q e1 e2
    rw [e1] at hx
    rw [e2] at hy
    have eY : a.eval y = .nilFunc := by simpa only [VRel] using hy
    obtain ⟨_, _, eX, _⟩ := hx.func
    simp only [Option.some.injEq] at hb
    subst hb
    refine gives_eqs ho h.symm ?_ (by simp [eX]) (by simp [eX]) (by simp [eX]) (by simp [eX]) ?_
    · rw [eX, eY]; cases neg <;> simp [eqGuard]
    · rw [eX, eY]; exact eqIn_func_l 9999 hu _ _ _
  · rename_i f p q e1 e2
    rw [e1] at hx
    rw [e2] at hy
    have eX : a.eval x = .nilFunc := by simpa only [VRel] using hx
    obtain ⟨_, _, eY, _⟩ := hy.func
    simp only [Option.some.injEq] at hb
    subst hb
    refine gives_eqs ho h.symm ?_ (by simp [eX]) (by simp [eX]) (by simp [eX]) (by simp [eX]) ?_
    · rw [eX, eY]; cases neg <;> simp [eqGuard]
    · rw [eX, eY]; exact eqIn_func_r 9999 hu _ _ _
  · cases hb

theorem gives_eq_bool {o : Oper} {neg : Bool} {t yt : TypeId} {x y : Operand} (ho : o.op = .binOp (if neg then .neq else .eql) t x y yt) (hT : TRel ρ μ tm a) (hu : P.underlying t = some .bool) {v : AVal}
    (h : eqsV Γ neg .bool (ev tm (opd x)) (ev tm (opd y)) = some v) : Gives P ρ μ a o w v := by
  unfold eqsV at h
  obtain ⟨b, hb, h⟩ := bnd_some h
  simp only [Option.some.injEq] at h
  have hb : eqBool (ev tm (opd x)) (ev tm (opd y)) = some b := hb
  have hx := ev_sound hT x
  have hy := ev_sound hT y
  unfold eqBool at hb
  split at hb
  · rename_i p q e1 e2
    rw [e1] at hx
    rw [e2] at hy
    have eX := hx.bool
    have eY := hy.bool
    simp only [SB.den] at eX eY
    simp only [Option.some.injEq] at hb
    refine gives_eqs ho h.symm ?_ (by simp [eX]) (by simp [eX]) (by simp [eX]) (by simp [eX]) ?_
    · rw [eX, eY]; cases neg <;> simp [eqGuard]
    · rw [eX, eY, run_equalIn_bool' w 9999 t p q hu, ← hb, beq_eq]
  · cases hb

end
end Go.AM
