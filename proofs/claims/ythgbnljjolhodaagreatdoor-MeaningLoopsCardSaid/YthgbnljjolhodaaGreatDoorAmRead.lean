/- The abstract machine's operations that read memory. -/
import Derived.Test.YthgbnljjolhodaaGreatDoorAmCut
import Derived.Laws.Rows
import Derived.Laws.Cells
set_option linter.all false
namespace Go.AM

section
variable {P : Program} {Γ : Facts} {ρ : Env} {μ : Where} {tm : Tr AVal} {a : Act} {w : World} {h : Heap}

theorem cellsOf_some {o : Option Block} {vs : List AVal} (h : cellsOf o = some vs) : o = some (.cells vs) ∨ ∃ e, o = some (.typed e vs) := by
  unfold cellsOf at h
  split at h
  · simp only [Option.some.injEq] at h; rw [h]; exact .inl rfl
  · simp only [Option.some.injEq] at h; rw [h]; exact .inr ⟨_, rfl⟩
  · cases h

theorem bytesOf_some {o : Option Block} {m : Nat × Nat} (h : bytesOf o = some m) : o = some (.bytes m.1 m.2) := by
  unfold bytesOf at h
  split at h
  · simp only [Option.some.injEq] at h; rw [← h]
  · cases h

theorem mapOf_some {o : Option Block} {m : List Entry × Nat} (h : mapOf o = some m) : o = some (.map m.1 m.2) := by
  unfold mapOf at h
  split at h
  · simp only [Option.some.injEq] at h; rw [← h]
  · cases h

/-- the cells of a block that is there -/
theorem HRel.cells (H : HRel ρ μ h w) {b : Nat} {vs : List AVal} (hb : cellsOf (h.get b) = some vs) : ∃ r δ m c e, μ b = some (r, δ, m) ∧ w.heap[r]? = some (.cells c e (0, 0)) ∧ δ + m ≤ c.size ∧
    ∀ (i : Nat) (x : AVal), vs[i]? = some x → ∃ v, c[δ + i]? = some v ∧ x.single = true ∧ VRel ρ μ x v := by
  rcases cellsOf_some hb with hb | ⟨t, hb⟩
  · obtain ⟨r, ⟨δ, m⟩, hm, c, e, ho, hsz, hc⟩ := H.blk b _ hb
    exact ⟨r, δ, m, c, e, hm, ho, hsz, hc⟩
  · obtain ⟨r, ⟨δ, m⟩, hm, c, ho, _, hsz, hc⟩ := H.blk b _ hb
    exact ⟨r, δ, m, c, _, hm, ho, hsz, hc⟩

theorem cellsOf_get {o : Option Block} {vs : List AVal} (h : cellsOf o = some vs) : ∃ B, o = some B := by
  rcases cellsOf_some h with h | ⟨_, h⟩ <;> exact ⟨_, h⟩

theorem HRel.map (H : HRel ρ μ h w) {b : Nat} {es : List Entry} {k : Nat} (hb : h.get b = some (.map es k)) : ∃ r ms, μ b = some (r, 0, 0) ∧ w.heap[r]? = some (.map ms k) ∧ EsRel ρ μ es ms.toList := by
  obtain ⟨r, δ, hm, rfl, ms, ho, hc⟩ := H.blk b _ hb
  exact ⟨r, ms, hm, ho, hc⟩

theorem cell_row {r j : Nat} {c : Array Value} {e : TypeId} {fr : Nat × Nat} (hg : w.heap[r]? = some (.cells c e fr)) : w.cell? ⟨r, j, none⟩ = c[j]? := cell_of_row w r j c e fr hg

/-- `n` cells from place `i` on -/
theorem cut_cells {vs r : List AVal} {c : Array Value} {δ i n : Nat} (hc : ∀ (i : Nat) (x : AVal), vs[i]? = some x → ∃ v, c[δ + i]? = some v ∧ x.single = true ∧ VRel ρ μ x v) (h : cut vs i n = some r) :
    ∃ l : List Value, l.length = n ∧ CsRel ρ μ r l ∧ ∀ j v, l[j]? = some v → c[δ + i + j]? = some v := by
  obtain ⟨h1, h2, h3⟩ := cut_spec h
  rcases h2 with rfl | h2
  · exact ⟨[], rfl, by rw [List.eq_nil_of_length_eq_zero h1]; simp only [CsRel], fun j v hv => by simp at hv⟩
  have hlt : ∀ j, j < n → ∃ v, c[δ + i + j]? = some v := fun j hj => by
    obtain ⟨x, hx⟩ : ∃ x, vs[i + j]? = some x := ⟨_, List.getElem?_eq_getElem (by omega)⟩
    obtain ⟨v, hv, _⟩ := hc _ _ hx
    exact ⟨v, by rw [Nat.add_assoc]; exact hv⟩
  have hsz : δ + i + n ≤ c.size ∨ n = 0 := by
    rcases Nat.eq_zero_or_pos n with h0 | h0
    · exact .inr h0
    · left
      obtain ⟨v, hv⟩ := hlt (n - 1) (by omega)
      have := (Array.getElem?_eq_some_iff.1 hv).1
      omega
  refine ⟨(c.extract (δ + i) (δ + i + n)).toList, ?_, ?_, fun j v hv => ?_⟩
  · rw [Array.length_toList, Array.size_extract]; omega
  · refine CsRel.of_get ?_ fun j x hx => ?_
    · rw [h1, Array.length_toList, Array.size_extract]; omega
    · rw [h3] at hx
      split at hx
      · rename_i hj
        obtain ⟨v, hv, hs, hr⟩ := hc _ _ hx
        refine ⟨v, ?_, hs, hr⟩
        rw [Array.getElem?_toList, Array.getElem?_extract, if_pos (by omega), Nat.add_assoc]
        exact hv
      · cases hx
  · rw [Array.getElem?_toList, Array.getElem?_extract] at hv
    split at hv
    · exact hv
    · cases hv

theorem load_cells {t : TypeId} {n : Option Nat} (ht : aggT P t = some n) {vs : List AVal} {r δ off : Nat} {c : Array Value} {e : TypeId} (ho : w.heap[r]? = some (.cells c e (0, 0)))
    (hc : ∀ (i : Nat) (x : AVal), vs[i]? = some x → ∃ v, c[δ + i]? = some v ∧ x.single = true ∧ VRel ρ μ x v) {v : AVal} (hl : partV vs off n = some v) :
    ∃ v', (Instr.loadAt t (.pointer (some ⟨r, δ + off, none⟩))).run P w = .ok v' w ∧ VRel ρ μ v v' := by
  obtain ⟨h1, h2⟩ := run_ite_isAgg P w t ht
  unfold partV at hl
  cases n with
  | none =>
    simp only at hl
    rw [nth_eq] at hl
    obtain ⟨u, hu, _, hr⟩ := hc _ _ hl
    refine ⟨u, ?_, hr⟩
    simp [Instr.loadAt, Instr.sureAddr, loadVar, h1, run_load, cell_row ho, hu]
  | some n =>
    simp only at hl
    obtain ⟨rl, hrl, hl⟩ := bnd_some hl
    simp only [Option.some.injEq] at hl
    subst hl
    obtain ⟨l, hln, hcs, hlc⟩ := cut_cells hc hrl
    have hrun := run_loadCells_list (P := P) (w := w) ⟨r, δ + off, none⟩ l (fun j v hv => by rw [Addr.add_bare, cell_row ho]; exact hlc j v hv)
    rw [hln] at hrun
    refine ⟨.agg l.toArray, ?_, ?_⟩
    · simp [Instr.loadAt, Instr.sureAddr, loadVar, h1, h2 n rfl, hrun]
    · simp only [VRel]; exact ⟨_, rfl, by simpa using hcs⟩

theorem load_sound {Γ : Facts} (hΓ : Γ.Hold ρ) (H : HRel ρ μ h w) {t : TypeId} {n : Option Nat} (ht : aggT P t = some n) {x v : AVal} {u : Value} (hx : VRel ρ μ x u) (hl : loadA Γ h n x = some v) :
    ∃ v', (Instr.loadAt t u).run P w = .ok v' w ∧ VRel ρ μ v v' := by
  unfold loadA at hl
  split at hl
  · rename_i i j off
    obtain ⟨vs, hvs, hl⟩ := bnd_some hl
    obtain ⟨r, δ, c, e, ps, rfl, h1, h2, h3, h4⟩ := hx.lptr
    obtain ⟨ps', k1, k2, k3⟩ := hΓ.elems _ (lookE_mem hvs)
    have k2 : (ρ.lst i)[(j.den ρ).toNat]? = some ps' := k2
    rw [h3] at k2
    simp only [Option.some.injEq] at k2
    subst k2
    exact load_cells ht (H.tabs.ice _ _ h1).1 (RepL.thaw k3 h4).2 hl
  · rename_i b off
    obtain ⟨vs, hvs, hl⟩ := bnd_some hl
    obtain ⟨r, δ, m, c, e, hm, ho, _, hc⟩ := H.cells hvs
    obtain ⟨r', δ', m', hm', rfl⟩ := hx.ptr
    rw [hm] at hm'
    simp only [Option.some.injEq, Prod.mk.injEq] at hm'
    obtain ⟨rfl, rfl, rfl⟩ := hm'
    exact load_cells ht ho hc hl
  · cases hl

/-! ### Maps -/

theorem keyT_spec {t : TypeId} {kk : LK} (h : keyT P t = some kk) : ∃ d, P.underlying t = some d ∧ kk.fits d := by
  unfold keyT at h
  split at h <;> first | cases h | skip
  · rename_i hu; exact ⟨_, hu, rfl⟩
  · rename_i hu; exact ⟨_, hu, _, rfl⟩
  · rename_i hu; exact ⟨_, hu, rfl⟩

theorem sameNow_sound {kk : LK} {d : TypeDesc} (hk : kk.fits d) {x y : AVal} {u v : Value} (hx : VRel ρ μ x u) (hy : VRel ρ μ y v) {b : Bool} (h : keyEq kk x y = some b) : Instr.sameNow d u v = some b := by
  unfold keyEq at h
  split at h
  · obtain ⟨i, rfl⟩ := hk
    obtain ⟨e, h2⟩ := cond_some h
    simp only [Option.some.injEq] at h2
    rw [hx.int, hy.int, keq_iff.1 e, ← h2, ieq_eq]
    simp [Instr.sameNow, ST.den]
  · have hk : d = .string := hk
    subst hk
    simp only [Option.some.injEq] at h
    obtain ⟨s, rfl, e1⟩ := hx.str
    obtain ⟨s', rfl, e2⟩ := hy.str
    rw [← h, ← e1, ← e2, strOf_beq, ← beq_toListBytes]
    simp [Instr.sameNow]
  · have hk : d = .bool := hk
    subst hk
    simp only [Option.some.injEq] at h
    rw [hx.bool, hy.bool, ← h, beq_eq]
    simp [Instr.sameNow, SB.den]
  · cases h

theorem checkKey_run {kk : LK} {d : TypeDesc} {t : TypeId} (hu : P.underlying t = some d) (hk : kk.fits d) (em : Bool) (n : Nat) (u : Value) : (Instr.checkKey em (n + 1) t u).run P w = .ok () w := by
  cases kk
  · have hk : d = .bool := hk
    subst hk
    cases u <;> simp [Instr.checkKey, run_underlying hu]
  · obtain ⟨i, rfl⟩ := hk
    cases u <;> simp [Instr.checkKey, run_underlying hu]
  · have hk : d = .string := hk
    subst hk
    cases u <;> simp [Instr.checkKey, run_underlying hu]

theorem findA_sound {kk : LK} {d : TypeDesc} (hk : kk.fits d) {x : AVal} {u : Value} (hx : VRel ρ μ x u) : ∀ {es : List Entry} {ms : List MapEntry} {r : Option AVal} (n : Nat), EsRel ρ μ es ms → findA kk x es = some r →
    ∃ r', Instr.findNow d u ms n = some r' ∧ (match r with | none => r' = none | some v => ∃ i v', r' = some (i, v') ∧ VRel ρ μ v v')
  | [], ms, r, n, he, h => by
    simp only [EsRel] at he
    subst he
    have h : some none = some r := h
    simp only [Option.some.injEq] at h
    subst h
    exact ⟨none, rfl, rfl⟩
  | e :: es, ms, r, n, he, h => by
    simp only [EsRel] at he
    obtain ⟨m, rest, rfl, ⟨hs, hkey, hval, _⟩, hrest⟩ := he
    have h : (bnd (keyEq kk x e.key) fun b => bif b then some (some e.val) else findA kk x es) = some r := h
    obtain ⟨b, hb, h2⟩ := bnd_some h
    have hsn := sameNow_sound hk hx hkey hb
    cases b with
    | true =>
      simp only [cond_true, Option.some.injEq] at h2
      subst h2
      exact ⟨some (n, m.val), by simp [Instr.findNow, hsn], n, m.val, rfl, hval⟩
    | false =>
      simp only [cond_false] at h2
      obtain ⟨r', h3, h4⟩ := findA_sound hk hx (n + 1) hrest h2
      exact ⟨r', by simp [Instr.findNow, hsn, h3], h4⟩

theorem run_findKey {t : TypeId} {d : TypeDesc} (hu : P.underlying t = some d) {u : Value} {ms : List MapEntry} {r : Option (Nat × Value)} (h : Instr.findNow d u ms 0 = some r) : (Instr.findKey t u ms).run P w = .ok r w := by
  simp [Instr.findKey, run_underlying hu, h]

theorem give_rel {ok b : Bool} {v : AVal} {u : Value} (hv : VRel ρ μ v u) : VRel ρ μ (give ok v b) (if ok then .tuple #[u, .bool b] else u) := by
  unfold give
  cases ok
  · exact hv
  · simp only [cond_true, if_true, VRel]
    exact ⟨_, rfl, by simp only [VsRel]; exact ⟨_, _, rfl, hv, _, _, rfl, by simp only [VRel, SB.den], rfl⟩⟩

theorem smapOf_some {o : Option Block} {i : Nat} (h : smapOf o = some i) : o = some (.smap i) := by
  unfold smapOf at h
  split at h
  · simp only [Option.some.injEq] at h; rw [h]
  · cases h

theorem strKey_spec {kk : LK} {x : AVal} (h : strKey kk x = true) : kk = .str ∧ ∃ s, strV ρ x = some s := by
  unfold strKey at h
  split at h
  · exact ⟨rfl, _, rfl⟩
  · exact ⟨rfl, _, rfl⟩
  · cases h

/-- looking a string up in a map of data -/
theorem findM_sound {ice : Nat → Option Obj} {b : ByteArray} : ∀ {l : List (List Nat × List PV)} {ms : List MapEntry} (n : Nat), MRel ice l ms →
    ∃ r', Instr.findNow .string (.string b) ms n = some r' ∧ (match mapGet l (strOf b) with | none => r' = none | some ps => ∃ i a, r' = some (i, .agg a) ∧ a.size = ps.length ∧ RepL ice a 0 ps)
  | [], ms, n, he => by
    have he : ms = [] := he
    subst he
    exact ⟨none, rfl, rfl⟩
  | e :: es, ms, n, he => by
    obtain ⟨m, rest, rfl, ⟨kb, hkb, hke⟩, ⟨a, ha, hs, hr⟩, hrest⟩ := he
    have hsn : Instr.sameNow .string (.string b) m.key = some (decide (strOf b = e.1)) := by
      rw [hkb, ← hke]
      have : decide (strOf b = strOf kb) = (b.toList == kb.toList) := by rw [← strOf_beq, Bool.eq_iff_iff, beqL_iff]; simp
      rw [this, ← beq_toListBytes]
      simp [Instr.sameNow]
    by_cases hc : e.1 = strOf b
    · refine ⟨some (n, m.val), by simp [Instr.findNow, hsn, hc], ?_⟩
      simp only [mapGet, hc, if_true]
      exact ⟨n, a, by rw [ha], hs, hr⟩
    · have hc' : ¬ strOf b = e.1 := fun h => hc h.symm
      obtain ⟨r', h3, h4⟩ := findM_sound (b := b) (n + 1) hrest
      refine ⟨r', by simp [Instr.findNow, hsn, hc', h3], ?_⟩
      simp only [mapGet, if_neg hc]
      exact h4

theorem HRel.smap (H : HRel ρ μ h w) {b i : Nat} (hb : h.get b = some (.smap i)) : ∃ r ms clock, μ b = some (r, 0, 0) ∧ w.heap[r]? = some (.map ms clock) ∧ MRel μ.ice (ρ.map i) ms.toList := by
  obtain ⟨r, δ, hm, rfl, ms, clock, ho, hc⟩ := H.blk b _ hb
  exact ⟨r, ms, clock, hm, ho, hc⟩

theorem lookup_sound {Γ : Facts} (hΓ : Γ.Hold ρ) (H : HRel ρ μ h w) {t kt e : TypeId} {kk : LK} {i : TypeInfo} {z : Value} (hu : P.underlying t = some (.map kt e)) (hk : keyT P kt = some kk) (hi : P.info? e = some i) (hz : i.zero = some z) {m k v : AVal} {um uk : Value} {ok : Bool}
    (hm : VRel ρ μ m um) (hkv : VRel ρ μ k uk) (hl : lookA Γ h kk m k (absV z) ok = some v) : ∃ v', (Instr.lookup t um uk ok).run P w = .ok v' w ∧ VRel ρ μ v v' := by
  obtain ⟨d, hd, hf⟩ := keyT_spec hk
  have hzr : (zeroValue e).run P w = .ok z w := by simp [zeroValue, typeInfo, hi, hz]
  have hck : ∀ em, (Instr.checkKey em 10000 kt uk).run P w = .ok () w := fun em => checkKey_run hd hf em 9999 uk
  unfold lookA at hl
  split at hl
  · have e1 : um = .map none := by simpa only [VRel] using hm
    simp only [Option.some.injEq] at hl
    subst hl
    refine ⟨_, ?_, give_rel (absV_sound z)⟩
    have hfk : (Instr.findKey kt uk []).run P w = .ok none w := run_findKey hd rfl
    simp [Instr.lookup, run_underlying hu, e1, hck, hfk, hzr]
  · rename_i b
    unfold lookMA at hl
    split at hl
    · rename_i i' hi'
      obtain ⟨hsk, hl2⟩ := cond_some hl
      clear hl
      obtain ⟨rfl, s, hs⟩ := strKey_spec (ρ := ρ) hsk
      have hf : d = .string := hf
      subst hf
      obtain ⟨kb, rfl, rfl⟩ := strV_sound hs hkv
      obtain ⟨g, ms, clock, hg, ho, he⟩ := H.smap (smapOf_some hi')
      obtain ⟨g', hg', e1⟩ := hm.mapV
      rw [hg] at hg'
      simp only [Option.some.injEq, Prod.mk.injEq] at hg'
      obtain ⟨rfl, _⟩ := hg'
      obtain ⟨r', h1, h2⟩ := findM_sound (b := kb) 0 he
      have hfk := run_findKey (P := P) (w := w) hd h1
      have hgo : (getObj g).run P w = .ok (.map ms clock) w := by simp [getObj, Sem.run, ho]
      unfold lookK at hl2
      obtain ⟨r, hr, hl3⟩ := bnd_some hl2
      obtain ⟨s', q1, q2⟩ := hΓ.looks _ (lookM_mem hr)
      have q1 : strV ρ k = some s' := q1
      rw [hs] at q1
      simp only [Option.some.injEq] at q1
      subst q1
      cases r with
      | none =>
        simp only at q2
        rw [q2] at h2
        simp only at h2
        subst h2
        simp only [Option.some.injEq] at hl3
        subst hl3
        refine ⟨_, ?_, give_rel (absV_sound z)⟩
        simp [Instr.lookup, run_underlying hu, e1, hgo, hck, hfk, hzr]
      | some cs =>
        obtain ⟨ps, q2, q3⟩ := q2
        rw [q2] at h2
        obtain ⟨i'', arr, rfl, k1, k2⟩ := h2
        simp only [Option.some.injEq] at hl3
        subst hl3
        refine ⟨_, ?_, give_rel (u := .agg arr) (by simp only [VRel]; exact ⟨arr, rfl, RepL.cs q3 k2 k1⟩)⟩
        simp [Instr.lookup, run_underlying hu, e1, hgo, hck, hfk]
    rename_i hno
    obtain ⟨mm, hmm, hl⟩ := bnd_some hl
    obtain ⟨r, hr, hl⟩ := bnd_some hl
    simp only [Option.some.injEq] at hl
    subst hl
    obtain ⟨g, ms, hg, ho, he⟩ := H.map (mapOf_some hmm)
    obtain ⟨g', hg', e1⟩ := hm.mapV
    rw [hg] at hg'
    simp only [Option.some.injEq, Prod.mk.injEq] at hg'
    obtain ⟨rfl, _⟩ := hg'
    obtain ⟨r', h1, h2⟩ := findA_sound hf hkv 0 he hr
    have hfk := run_findKey (P := P) (w := w) hd h1
    have hgo : (getObj g).run P w = .ok (.map ms mm.2) w := by simp [getObj, Sem.run, ho]
    cases r with
    | none =>
      simp only at h2
      subst h2
      refine ⟨_, ?_, give_rel (absV_sound z)⟩
      simp [Instr.lookup, run_underlying hu, e1, hgo, hck, hfk, hzr]
    | some v =>
      obtain ⟨i', v', rfl, hv'⟩ := h2
      refine ⟨_, ?_, give_rel hv'⟩
      simp [Instr.lookup, run_underlying hu, e1, hgo, hck, hfk]
  · cases hl

theorem hasTy_mem {e n : Nat} : ∀ {l : List (Nat × Nat)}, hasTy e n l = true → (e, n) ∈ l
  | [], h => by cases h
  | x :: r, h => by
    have h : ((Nat.beq x.1 e && Nat.beq x.2 n) || hasTy e n r) = true := h
    rw [Bool.or_eq_true, Bool.and_eq_true] at h
    rcases h with ⟨h1, h2⟩ | h
    · have e1 := nbeq_iff.1 h1
      have e2 := nbeq_iff.1 h2
      subst e1 e2
      exact List.mem_cons_self
    · exact List.mem_cons_of_mem _ (hasTy_mem h)

theorem uTypes_spec {p : TypeId → Nat → Bool} {e n : Nat} (h : hasTy e n (uTypes P p) = true) : 1 ≤ n ∧ p e n = true := by
  have h := hasTy_mem h
  unfold uTypes at h
  rw [List.mem_filterMap] at h
  obtain ⟨e', _, h⟩ := h
  split at h
  · split at h
    · rename_i i hi
      split at h
      · rename_i hc
        simp only [Option.some.injEq, Prod.mk.injEq] at h
        obtain ⟨rfl, rfl⟩ := h
        rw [Bool.and_eq_true] at hc
        exact ⟨ble_iff.1 hc.1, hc.2⟩
      · cases h
    · cases h
  · cases h

/-- the beginning of a whole block of known type -/
theorem uptr_place (H : HRel ρ μ h w) {ok : List (Nat × Nat)} {x v : AVal} {u : Value} (hx : VRel ρ μ x u) (hv : uptrV h ok x = some v) :
    ∃ r c e, u = .pointer (some ⟨r, 0, none⟩) ∧ VRel ρ μ v u ∧ w.heap[r]? = some (.cells c e (0, 0)) ∧ hasTy e c.size ok = true := by
  unfold uptrV at hv
  split at hv
  · rename_i b
    unfold uptrB at hv
    split at hv
    · rename_i e vs hb
      obtain ⟨ht, hv⟩ := cond_some hv
      simp only [Option.some.injEq] at hv
      subst hv
      have hx2 := hx
      obtain ⟨r, ⟨δ, m⟩, hm, c, ho, ⟨hδ, hsz⟩, _⟩ := H.blk b _ hb
      obtain ⟨r', δ', m', hm', e1⟩ := hx.ptr
      rw [hm] at hm'
      simp only [Option.some.injEq, Prod.mk.injEq] at hm'
      obtain ⟨rfl, rfl, rfl⟩ := hm'
      subst hδ
      rw [llen_eq, ← hsz] at ht
      exact ⟨r, c, e, e1, hx2, ho, ht⟩
    · cases hv
  · cases hv

theorem run_shape {r : Nat} {c : Array Value} {e : TypeId} {fr : Nat × Nat} (ho : w.heap[r]? = some (.cells c e fr)) : (shape r).run P w = .ok (some (e, c.size)) w := by
  simp [shape, Sem.run, World.shape?, ho]

theorem run_viewAt {r : Nat} {c : Array Value} {e : TypeId} {fr : Nat × Nat} (ho : w.heap[r]? = some (.cells c e fr)) : (viewAt r).run P w = .ok none w := by
  simp [viewAt, run_shape ho]

theorem run_seenAt {r k : Nat} {c : Array Value} {e : TypeId} {fr : Nat × Nat} (ho : w.heap[r]? = some (.cells c e fr)) : (Conv.seenAt ⟨r, k, none⟩).run P w = .ok ⟨r, k, none⟩ w := by
  simp [Conv.seenAt, run_viewAt ho]

theorem gives_toUnsafe (H : HRel ρ μ h w) {o : Oper} {s d t : TypeId} {x : Operand} (ho : o.op = .convert s d x) (hT : TRel ρ μ tm a) (hs : P.underlying s = some (.pointer t)) (hd : P.underlying d = some .unsafePointer) {n : Nat} (hn : sizeT P t = some (n + 1))
    {v : AVal} (hv : uptrV h (uTypes P fun _ _ => true) (ev tm (opd x)) = some v) : Gives P ρ μ a o w v := by
  obtain ⟨r, c, e, e1, hr, hobj, ht⟩ := uptr_place H (ev_sound hT x) hv
  obtain ⟨h1, _⟩ := uTypes_spec ht
  refine ⟨a.eval x, ?_, hr⟩
  have hsz := run_sizeT (w := w) hn
  have hci : (cellsIn r).run P w = .ok (some c.size) w := by simp [cellsIn, run_shape hobj]
  have hc0 : c ≠ #[] := by rintro rfl; simp at h1
  have hc : ¬ c.size = 0 := by omega
  rw [e1]
  simp [execOp, ho, e1, Go.convert, run_underlying hs, run_underlying hd, Conv.unsafePointer, run_seenAt hobj, hsz, hci, hc0, hc]

theorem gives_fromUnsafe (H : HRel ρ μ h w) {o : Oper} {s d u : TypeId} {x : Operand} (ho : o.op = .convert s d x) (hT : TRel ρ μ tm a) (hs : P.underlying s = some .unsafePointer) (hd : P.underlying d = some (.pointer u)) {n : Nat} (hn : sizeT P u = some n)
    {v : AVal} (hv : uptrV h (uTypes P fun e n => liesAt P P.depth e (n / P.cellsOf e) 0 u 1) (ev tm (opd x)) = some v) : Gives P ρ μ a o w v := by
  obtain ⟨r, c, e, e1, hr, hobj, ht⟩ := uptr_place H (ev_sound hT x) hv
  obtain ⟨_, h2⟩ := uTypes_spec ht
  refine ⟨a.eval x, ?_, hr⟩
  have hsz := run_sizeT (w := w) hn
  have hsh : w.shape? r = some (e, c.size) := by simp [World.shape?, hobj]
  have hva : (variablesAt ⟨r, 0, none⟩ u 1).run P w = .ok true w := by simp [variablesAt, hsh, h2]
  rw [e1]
  simp [execOp, ho, e1, Go.convert, run_underlying hs, run_underlying hd, Conv.unsafePointer, run_seenAt hobj, hsz, hva]

theorem EsRel.length : ∀ {es : List Entry} {ms : List MapEntry}, EsRel ρ μ es ms → es.length = ms.length
  | [], _, e => by simp only [EsRel] at e; rw [e]; rfl
  | _ :: _, _, e => by
    simp only [EsRel] at e
    obtain ⟨v, rest, rfl, _, h⟩ := e
    simp [EsRel.length h]

/-- ALL OPERATIONS THAT READ MEMORY -/
theorem read_sound {Γ : Facts} (hΓ : Γ.Hold ρ) (H : HRel ρ μ h w) (hT : TRel ρ μ tm a) {pl : List Held} {o : Oper} {q : ROp} (hc : compOp P pl o = some (.r q)) {v : AVal} (hv : readA Γ tm h q = some v) : Gives P ρ μ a o w v := by
  cases hop : o.op <;> simp only [compOp, hop, reduceCtorEq, Option.some.injEq] at hc
  case load t x =>
    obtain ⟨n, hn, e⟩ := Option.map_eq_some_iff.1 hc
    simp only [IOp.r.injEq] at e
    subst e
    obtain ⟨v', h1, h2⟩ := load_sound hΓ H hn (ev_sound hT x) hv
    exact ⟨v', by simp [execOp, hop, h1], h2⟩
  case lookup t x k ok =>
    split at hc
    · rename_i kt e hu
      split at hc
      · rename_i i kk hi hk
        obtain ⟨z, hz, e⟩ := Option.map_eq_some_iff.1 hc
        simp only [IOp.r.injEq] at e
        subst e
        obtain ⟨v', h1, h2⟩ := lookup_sound hΓ H hu hk hi hz (ev_sound hT x) (ev_sound hT k) hv
        exact ⟨v', by simp [execOp, hop, h1], h2⟩
      · cases hc
    · cases hc
  case call c =>
    unfold compCall at hc
    split at hc
    · split at hc
      · split at hc
        · simp at hc
        · split at hc
          · split at hc <;> simp at hc
          · split at hc
            · split at hc <;> simp at hc
            · cases hc
      · cases hc
    · simp at hc
    · cases hc
    · rename_i b hb
      split at hc
      · rename_i x t e1 e2
        have ea : c.args = #[x] := by rw [← Array.toList_inj]; simpa using e1
        have et : c.argTypes = #[t] := by rw [← Array.toList_inj]; simpa using e2
        split at hc
        · simp at hc
        · simp at hc
        · simp at hc
        · rename_i kt e hu
          simp only [Option.some.injEq, IOp.r.injEq] at hc; subst hc
          have hx := ev_sound hT x
          have hv : lenMV h (ev tm (opd x)) = some v := hv
          unfold lenMV at hv
          split at hv
          · rename_i e3
            rw [e3] at hx
            have e4 : a.eval x = .map none := by simpa only [VRel] using hx
            simp only [Option.some.injEq] at hv
            subst hv
            exact ⟨.int .i64 0, by simp [execOp, hop, resolve, hb, ea, et, invoke, builtin, Builtin.len_, run_underlying hu, goInt, e4], by simp only [lit, VRel, ST.den]; rfl⟩
          · rename_i bb e3
            rw [e3] at hx
            obtain ⟨g, hg, e4⟩ := hx.mapV
            obtain ⟨mm, hmm, hv⟩ := bnd_some hv
            simp only [Option.some.injEq] at hv
            subst hv
            obtain ⟨g', ms, hg', ho, he⟩ := H.map (mapOf_some hmm)
            rw [hg] at hg'
            simp only [Option.some.injEq, Prod.mk.injEq] at hg'
            obtain ⟨rfl, _⟩ := hg'
            have hgo : (getObj g).run P w = .ok (.map ms mm.2) w := by simp [getObj, Sem.run, ho]
            have hl : elen mm.1 = ms.size := by rw [elen_eq]; simpa using he.length
            exact ⟨.int .i64 ms.size, by simp [execOp, hop, resolve, hb, ea, et, invoke, builtin, Builtin.len_, run_underlying hu, goInt, e4, hgo], by simp only [lit, VRel, ST.den]; rw [hl]; rfl⟩
          · cases hv
        · cases hc
      · exfalso
        unfold compApp at hc
        split at hc <;> first | cases hc | skip
        all_goals (split at hc <;> first | (cases hc; done) | (split at hc <;> simp at hc))
      · exfalso
        split at hc <;> first | (cases hc; done) | (obtain ⟨_, _, e⟩ := Option.map_eq_some_iff.1 hc; cases e)
      · simp at hc
      · simp at hc
      · simp at hc
      · simp at hc
      · exfalso
        split at hc
        · split at hc <;> simp at hc
        · cases hc
      · cases hc
  case convert s d x =>
    rcases compConv_spec hc with ⟨k0, k, hs, hd, e⟩ | ⟨hs, hd, e⟩ | ⟨t, n, hs, hd, hn, e⟩ | ⟨u, n, hs, hd, hn, e⟩
    · cases e
    · cases e
    · simp only [IOp.r.injEq] at e; subst e
      exact gives_toUnsafe H hop hT hs hd hn hv
    · simp only [IOp.r.injEq] at e; subst e
      exact gives_fromUnsafe H hop hT hs hd hn hv
  case typeAssert x xt t ok =>
    obtain ⟨d, i, z, hu, hd, hi, hz, e⟩ := compAssert_spec hc
    cases e
  case defer c =>
    obtain ⟨cal, args, tys⟩ := c
    cases cal <;> simp at hc
  case makeFunc fn x c => cases fn <;> simp at hc
  case binOp op t x y yt => obtain ⟨_, _, e⟩ := Option.map_eq_some_iff.1 hc; cases e
  case slice t x lo hi mx =>
    exfalso
    split at hc
    · simp at hc
    · obtain ⟨_, _, e⟩ := Option.map_eq_some_iff.1 hc; cases e
    · split at hc
      · obtain ⟨_, _, e⟩ := Option.map_eq_some_iff.1 hc; cases e
      · cases hc
    · cases hc
  case build t parts =>
    exfalso
    split at hc
    · split at hc
      · obtain ⟨_, _, e⟩ := Option.map_eq_some_iff.1 hc; cases e
      · cases hc
    · obtain ⟨_, _, hc⟩ := Option.bind_eq_some_iff.1 hc
      obtain ⟨_, _, e⟩ := Option.map_eq_some_iff.1 hc; cases e
    · cases hc
  case fieldAddr t x f =>
    exfalso
    split at hc
    · obtain ⟨_, _, hc⟩ := Option.bind_eq_some_iff.1 hc
      split at hc <;> simp at hc
    · cases hc
  case field t x f =>
    exfalso
    split at hc
    · obtain ⟨_, _, hc⟩ := Option.bind_eq_some_iff.1 hc
      obtain ⟨_, _, e⟩ := Option.map_eq_some_iff.1 hc; cases e
    · cases hc
  all_goals
    exfalso
    first
      | (cases hc; done)
      | (split at hc <;> first | (cases hc; done) | (simp at hc; done) | (obtain ⟨_, _, e⟩ := Option.map_eq_some_iff.1 hc; cases e; done) | (split at hc <;> first | (cases hc; done) | (simp at hc; done) | (obtain ⟨_, _, e⟩ := Option.map_eq_some_iff.1 hc; cases e; done) | (split at hc <;> first | (cases hc; done) | (simp at hc; done) | (obtain ⟨_, _, e⟩ := Option.map_eq_some_iff.1 hc; cases e; done))))
      | (obtain ⟨_, _, e⟩ := Option.map_eq_some_iff.1 hc; cases e; done)

end
end Go.AM
