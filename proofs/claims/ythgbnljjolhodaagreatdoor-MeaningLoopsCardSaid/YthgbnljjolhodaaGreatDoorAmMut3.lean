/- The abstract machine's operations on bytes that are not looked at: append, unsafe.String. -/
import Derived.Test.YthgbnljjolhodaaGreatDoorAmMut2
import Derived.Lib.UnsafeStr
set_option linter.all false
namespace Go.AM

section
variable {P : Program} {Γ : Facts} {ρ : Env} {μ : Where} {tm : Tr AVal} {a : Act} {w : World} {h : Heap}

def AllU8 (L : List Value) : Prop := ∀ v ∈ L, ∃ x : UInt8, v = .int .u8 x.toNat

theorem isU8_spec {v : AVal} (h : isU8 v = true) : ∃ n, v = .int .u8 (.lit (.ofNat n)) ∧ n ≤ 255 := by
  unfold isU8 at h
  split at h
  · exact ⟨_, rfl, ble_iff.1 h⟩
  · cases h

theorem allU8_sound : ∀ {cs : List AVal} {L : List Value}, CsRel ρ μ cs L → allU8 cs = true → AllU8 L
  | [], L, h, _ => by simp only [CsRel] at h; subst h; intro v hv; cases hv
  | c :: cs, L, h, hu => by
    simp only [CsRel] at h
    obtain ⟨v, rest, rfl, ⟨_, hv⟩, hr⟩ := h
    have hu : (isU8 c && allU8 cs) = true := hu
    rw [Bool.and_eq_true] at hu
    intro u hu'
    cases hu' with
    | head =>
      obtain ⟨n, e0, hn⟩ := isU8_spec hu.1
      subst e0
      have e := hv.int
      refine ⟨UInt8.ofNat n, ?_⟩
      rw [e]
      simp only [ST.den]
      have : (UInt8.ofNat n).toNat = n := by simp; omega
      rw [this]; rfl
    | tail _ hm => exact allU8_sound hr hu.2 u hm

theorem allU8_bytes (l : List UInt8) : AllU8 (l.map fun c => .int .u8 (c.toNat : Int)) := fun v hv => by
  obtain ⟨c, _, rfl⟩ := List.mem_map.1 hv
  exact ⟨c, rfl⟩

/-- so many bytes are appended: at least, at most -/
theorem srcB_sound (H : HRel ρ μ h w) {bytes : Bool} {y : AVal} {u : Value} {lo n : Nat} (hy : VRel ρ μ y u) (hs : srcB h bytes y = some (lo, n)) :
    ∃ k, lo ≤ k ∧ k ≤ n ∧ (Builtin.lenOf u).run P w = .ok k w ∧ ∃ L : Array Value, (Builtin.firstCells 1 k u).run P w = .ok L w ∧ L.size = k ∧ AllU8 L.toList := by
  have str : ∀ b : ByteArray, u = .string b → (Builtin.lenOf u).run P w = .ok b.size w ∧ ∃ L : Array Value, (Builtin.firstCells 1 b.size u).run P w = .ok L w ∧ L.size = b.size ∧ AllU8 L.toList := fun b e => by
    subst e
    refine ⟨by simp [Builtin.lenOf], (b.data.map fun c => .int .u8 c.toNat), ?_, by rw [Array.size_map]; rfl, ?_⟩
    · have : b.extract 0 b.size = b := by
        obtain ⟨⟨l⟩⟩ := b
        have := ByteArray.extract_mk l 0 l.length
        rw [show (⟨⟨l⟩⟩ : ByteArray) = ByteArray.mk l.toArray from rfl]
        rw [show (ByteArray.mk l.toArray).size = l.length from by simp [ByteArray.size], this]
        simp
      simp [Builtin.firstCells, this]
    · simpa using allU8_bytes b.data.toList
  have gen : ∀ s, srcA h 1 false y = some s → allU8 s.2 = true → (s.1, s.1) = (lo, n) → ∃ k, lo ≤ k ∧ k ≤ n ∧ (Builtin.lenOf u).run P w = .ok k w ∧ ∃ L : Array Value, (Builtin.firstCells 1 k u).run P w = .ok L w ∧ L.size = k ∧ AllU8 L.toList := fun s h1 h2 h3 => by
    simp only [Prod.mk.injEq] at h3
    obtain ⟨rfl, rfl⟩ := h3
    obtain ⟨f1, f2, L, f3, f4⟩ := src_sound (P := P) H hy h1
    refine ⟨s.1, Nat.le_refl _, Nat.le_refl _, f1, L, f3, ?_, allU8_sound f4 h2⟩
    have := f4.length
    simp at this; omega
  unfold srcB at hs
  split at hs
  · rename_i i
    obtain ⟨r, hr, hs⟩ := bnd_some hs
    simp only [Option.some.injEq] at hs
    obtain ⟨b, e, hbs⟩ := hy.svar
    obtain ⟨f1, f2⟩ := str b e
    obtain ⟨_, q1, q2⟩ := H.tabs.facts.slen _ (lookN_mem hr)
    have q1 : r.2.1 ≤ (ρ.str i).length := q1
    have q2 : (ρ.str i).length ≤ r.2.2 := q2
    rw [hs, ← hbs, strOf_length] at q1 q2
    exact ⟨b.size, q1, q2, f1, f2⟩
  · rename_i s
    simp only [Option.some.injEq, Prod.mk.injEq] at hs
    obtain ⟨rfl, rfl⟩ := hs
    obtain ⟨b, e, rfl⟩ := hy.str
    obtain ⟨f1, f2⟩ := str b e
    refine ⟨b.size, ?_, ?_, f1, f2⟩ <;> rw [nlen_eq, strOf_length] <;> exact Nat.le_refl _
  · rename_i m
    simp only [Option.some.injEq, Prod.mk.injEq] at hs
    obtain ⟨rfl, rfl⟩ := hs
    obtain ⟨b, e, h1, h2⟩ := hy.anyStr
    obtain ⟨f1, f2⟩ := str b e
    exact ⟨b.size, h1, h2, f1, f2⟩
  · obtain ⟨s, h1, hs⟩ := bnd_some hs
    obtain ⟨h2, hs⟩ := cond_some hs
    simp only [Option.some.injEq] at hs
    exact gen s h1 h2 hs
  · cases hs

theorem u8T_spec {e : TypeId} {size : Nat} {t : Nat} (h : u8T P e size = some t) : t = e ∧ size = 1 ∧ P.underlying e = some (.int .u8) ∧ ∃ i, P.info? e = some i ∧ i.zero = some (.int .u8 0) := by
  unfold u8T at h
  split at h
  · rename_i i hu hi
    split at h
    · rename_i hz
      split at h
      · rename_i hs
        simp only [Option.some.injEq] at h
        exact ⟨h.symm, nbeq_iff.1 hs, hu, i, hi, hz⟩
      · cases h
    · cases h
  · cases h

theorem HRel.bytes (H : HRel ρ μ h w) {b n e : Nat} (hb : h.get b = some (.bytes n e)) : ∃ r m c, μ b = some (r, 0, m) ∧ w.heap[r]? = some (.cells c e (0, 0)) ∧ 1 ≤ hLen m ∧ hLen m ≤ n ∧ n ≤ 1048576 ∧ hLen m ≤ hCap m ∧ hCap m ≤ c.size ∧ ∀ i, i < hCap m → ∃ x : UInt8, c[i]? = some (.int .u8 x.toNat) := by
  obtain ⟨r, ⟨δ, m⟩, hm, c, ho, hδ, hr⟩ := H.blk b _ hb
  subst hδ
  exact ⟨r, m, c, hm, ho, hr⟩

theorem HRel.sbytes (H : HRel ρ μ h w) {b e : Nat} {n : ST} (hb : h.get b = some (.sbytes n e)) : ∃ r m c, μ b = some (r, 0, m) ∧ w.heap[r]? = some (.cells c e (0, 0)) ∧ 1 ≤ hLen m ∧ (hLen m : Int) ≤ n.den ρ ∧ n.den ρ ≤ 1048576 ∧ hLen m ≤ hCap m ∧ hCap m ≤ c.size ∧ ∀ i, i < hCap m → ∃ x : UInt8, c[i]? = some (.int .u8 x.toNat) := by
  obtain ⟨r, ⟨δ, m⟩, hm, c, ho, hδ, hr⟩ := H.blk b _ hb
  subst hδ
  exact ⟨r, m, c, hm, ho, hr⟩

theorem sbytesOf_some {o : Option Block} {m : ST × Nat} (h : sbytesOf o = some m) : o = some (.sbytes m.1 m.2) := by
  unfold sbytesOf at h
  split at h
  · simp only [Option.some.injEq] at h; rw [← h]
  · cases h

theorem zeros_u8 (k : Nat) : AllU8 (Builtin.zeroCells (Value.int .u8 0).cells k).toList := fun v hv => by
  refine ⟨0, ?_⟩
  have hc : (Value.int .u8 0).cells = #[.int .u8 0] := rfl
  rw [hc] at hv
  unfold Builtin.zeroCells at hv
  simp only [Array.toList_map, List.mem_map] at hv
  obtain ⟨i, _, rfl⟩ := hv
  have : i % (#[Value.int .u8 0] : Array Value).size = 0 := Nat.mod_one i
  rw [this]; rfl

theorem AllU8.append {x y : List Value} (hx : AllU8 x) (hy : AllU8 y) : AllU8 (x ++ y) := fun v hv => by
  rcases List.mem_append.1 hv with h | h
  · exact hx v h
  · exact hy v h

theorem AllU8.get {x : Array Value} (hx : AllU8 x.toList) {i : Nat} (hi : i < x.size) : ∃ u : UInt8, x[i]? = some (.int .u8 u.toNat) := by
  obtain ⟨u, hu⟩ := hx x[i] (by simp)
  exact ⟨u, by rw [Array.getElem?_eq_getElem hi, hu]⟩

theorem does_appendB {o : Oper} {c : Call} {t u e : TypeId} {d : TypeDesc} {x y : Operand} (ho : o.op = .call c) (hcal : c.callee = .builtin .append) (hargs : c.args = #[x, y]) (htys : c.argTypes = #[t, u])
    (H : HRel ρ μ h w) (hT : TRel ρ μ tm a) (ht : P.underlying t = some (.slice e)) (hu : P.underlying u = some d) (hd : Appended d) {i : TypeInfo} (hi : P.info? e = some i) (hb : i.bytes ≤ 1048576) {e' : Nat} (he : u8T P e i.size = some e')
    {bytes : Bool} {s : Nat × Nat} (hs : srcB h bytes (ev tm (opd y)) = some s) {r : AVal × Heap} (hr : appendB h e' (ev tm (opd x)) s.1 s.2 = some r) : Does P ρ μ h a o w (.val r.1 r.2) := by
  have hx := ev_sound hT x
  have hy := ev_sound hT y
  obtain ⟨rfl, hsz, _, i', hi', hz⟩ := u8T_spec he
  rw [hi] at hi'
  simp only [Option.some.injEq] at hi'
  subst hi'
  obtain ⟨lo, n⟩ := s
  obtain ⟨k, hlo, hkn, hln, L, hL, hLs, hLu⟩ := srcB_sound (P := P) H hy hs
  obtain ⟨k', _, _, hln', L', hL', hLs', hLu'⟩ := srcB_sound (P := P) H.drew hy hs
  have hkk : k' = k := by
    have h1 : (Builtin.lenOf (a.eval y)).run P w = .ok k w := hln
    have h2 : (Builtin.lenOf (a.eval y)).run P w.drew = .ok k' w.drew := hln'
    have : ∀ v : Value, ∀ k k' : Nat, (Builtin.lenOf v).run P w = .ok k w → (Builtin.lenOf v).run P w.drew = .ok k' w.drew → k' = k := fun v k k' h1 h2 => by
      cases v <;> simp [Builtin.lenOf, stuck] at h1 h2 <;> omega
    exact this _ _ _ h1 h2
  subst hkk
  have hss : (sizeOf e').run P w = .ok 1 w := by simp [sizeOf, typeInfo, hi, hsz]
  have run : ∀ {v : Value} {wf : World}, (Builtin.append_ #[t, u] o.type #[a.eval x, a.eval y]).run P w = .ok v wf → (execOp a.eval o).run P w = .ok (.value v) wf := fun {v wf} hrun => by
    simp [execOp, ho, resolve, hcal, hargs, htys, invoke, builtin, hrun]
  -- a new array
  have fresh : ∀ (base : Option Addr) (len cap : Nat) (NB : Block) (h1 : Heap) (O : Array Value), a.eval x = .slice base len cap → cap < len + k' → len + k' ≤ 1048576 → (∀ (μ' : Where) (c' : Array Value) (m' : Nat), hLen m' = len + k' → hLen m' ≤ hCap m' → hCap m' ≤ c'.size → (∀ i, i < hCap m' → ∃ x : UInt8, c'[i]? = some (.int .u8 x.toNat)) → BRel ρ μ' NB (some (.cells c' e' (0, 0))) (0, m')) → 1 ≤ len + k' → Grows ρ μ h w μ h1 w → O.size = len → AllU8 O.toList →
      (Builtin.firstCells 1 len (.slice base len cap)).run P w.drew = .ok O w.drew → r = (.gbytes h1.next, h1.add NB) → Does P ρ μ h a o w (.val r.1 r.2) := fun base len cap NB h1 O e1 hgt hbig hNB hpos hg1 hOs hOu hO er => by
    subst er
    obtain ⟨nc, rest, hnc, hrest, hzr, hrun⟩ := run_append_out (P := P) (ty := o.type) (O := O) (L := L') ht hu hd hi hz hln hgt (by rw [hsz]; exact hO) (by rw [hsz]; exact hL') hb (by omega)
    have hzc : (Value.int .u8 0).cells.size = 1 := rfl
    rw [hzc, Nat.mul_one] at hrest
    have htot : (O ++ L' ++ rest).size = nc := by simp only [Array.size_append, hOs, hLs', hrest]; omega
    have hall : AllU8 (O ++ L' ++ rest).toList := by
      rw [Array.toList_append, Array.toList_append]
      exact (hOu.append hLu').append (by rw [hzr]; exact zeros_u8 _)
    have hlen := hLen_put (len := len + k') (cap := nc) (by omega)
    have hcap := hCap_put (len := len + k') (cap := nc) (by omega)
    have hadd := Grows.add hg1.rel.drew NB (.cells (O ++ L' ++ rest) e') (0, hPut (len + k') nc) (fun μ' hle => hNB μ' _ _ hlen (by omega) (by omega) fun i hi => hall.get (by omega))
    refine ⟨.value _, _, _, _, run (by rw [e1]; exact hrun), .inl rfl, (hg1.trans (Grows.drew hg1.rel)).trans hadd, ?_⟩
    simp only [VRel]
    exact ⟨_, _, Where.put_same _ _ _, by rw [hlen, hcap], by omega, by omega⟩
  unfold appendB at hr
  split at hr
  · -- to nil
    rename_i e1
    have hx2 := hx
    rw [e1] at hx
    have e2 : a.eval x = .slice none 0 0 := by simpa only [VRel] using hx
    simp only [cond_beq] at hr
    split at hr
    · split at hr
      · rename_i h0 h1
        have h1 : n = 0 := h1
        have hk : k' = 0 := by omega
        subst hk
        simp only [Option.some.injEq] at hr
        subst hr
        refine ⟨.value (a.eval x), a.eval x, w, μ, run ?_, .inl rfl, Grows.refl H, by rw [e1] at hx2 ⊢; exact hx2⟩
        rw [e2]
        exact run_append_in ht hu hd hss hln (by omega) hL rfl
      · cases hr
    · rename_i h0
      obtain ⟨hbig, hr⟩ := cond_some hr
      simp only [Option.some.injEq] at hr
      have hbig := ble_iff.1 hbig
      exact fresh none 0 0 (.bytes n e') h #[] e2 (by omega) (by omega) (fun μ' c' m' q1 q2 q3 q4 => ⟨c', rfl, rfl, by omega, by omega, by omega, q2, q3, q4⟩) (by omega) (Grows.refl H) rfl (fun v hv => by cases hv) (by simp [Builtin.firstCells]) hr.symm
  · -- behind other bytes
    rename_i b e1
    rw [e1] at hx
    obtain ⟨r0, m, hm, e2, hp1, hp2⟩ := hx.gbytes
    have key : ∀ (B0 NB : Block) (c1 : Array Value), h.get b = some B0 → w.heap[r0]? = some (.cells c1 e' (0, 0)) → hCap m ≤ c1.size → (∀ i, i < hCap m → ∃ x : UInt8, c1[i]? = some (.int .u8 x.toNat)) → hLen m + k' ≤ 1048576 →
        (∀ (μ' : Where) (c' : Array Value) (m' : Nat), hLen m' = hLen m + k' → hLen m' ≤ hCap m' → hCap m' ≤ c'.size → (∀ i, i < hCap m' → ∃ x : UInt8, c'[i]? = some (.int .u8 x.toNat)) → BRel ρ μ' NB (some (.cells c' e' (0, 0))) (0, m')) →
        r = (.gbytes h.next, (h.set b none).add NB) → Does P ρ μ h a o w (.val r.1 r.2) := fun B0 NB c1 hbk hobj hq5 hq6 hbig hNB er => by
      by_cases hfit : hLen m + k' ≤ hCap m
      · -- in place
        obtain ⟨c', hst, hcs, hcg⟩ := run_storeRow (P := P) L.toList hobj (p := hLen m) (by simp [hLs]; omega) (fun v hv => by obtain ⟨x, rfl⟩ := hLu v hv; rfl)
        have hlen := hLen_put (len := hLen m + k') (cap := hCap m) (by omega)
        have hcap := hCap_put (len := hLen m + k') (cap := hCap m) (by omega)
        have hmv := Grows.moved (w' := w.setRow r0 c') H hbk hm NB (0, hPut (hLen m + k') (hCap m)) (fun i hi => setRow_other _ _ _ _ hi) (by simp) rfl rfl (fun μ' hle' => by
          rw [setRow_same _ _ _ _ _ _ hobj]
          refine hNB μ' c' _ hlen (by omega) (by omega) fun j hj => ?_
          rw [hcg]
          split
          · rename_i hjj
            simp only [Array.length_toList, hLs] at hjj
            obtain ⟨x, hx⟩ := hLu.get (i := j - hLen m) (by omega)
            exact ⟨x, by rw [Array.getElem?_toList]; exact hx⟩
          · exact hq6 j (by omega))
        subst er
        refine ⟨.value _, _, _, _, run (v := .slice (some ⟨r0, 0, none⟩) (hLen m + k') (hCap m)) ?_, .inl rfl, hmv, ?_⟩
        · rw [e2]
          refine run_append_in ht hu hd hss hln hfit hL ?_
          simp only [Addr.add_bare, Nat.mul_one, Nat.zero_add]
          exact hst
        · simp only [VRel]
          exact ⟨_, _, Where.put_same _ _ _, by rw [hlen, hcap], by omega, by omega⟩
      · -- a new array
        have hO := run_loadCells_list (P := P) (w := w.drew) ⟨r0, 0, none⟩ (c1.toList.take (hLen m)) (fun j v hv => by
          rw [Addr.add_bare]
          show w.cell? _ = _
          rw [cell_row hobj, Nat.zero_add]
          rw [List.getElem?_take] at hv
          split at hv
          · rw [← Array.getElem?_toList]; exact hv
          · cases hv)
        have hll : (c1.toList.take (hLen m)).length = hLen m := by simp; omega
        rw [hll] at hO
        refine fresh _ _ _ NB (h.set b none) (c1.toList.take (hLen m)).toArray e2 (by omega) hbig hNB (by omega) (Grows.drop H b) (by simpa using hll) ?_ ?_ er
        · intro v hv
          simp only at hv
          obtain ⟨j, hj⟩ := List.mem_iff_getElem?.1 hv
          rw [List.getElem?_take] at hj
          split at hj
          · rename_i hjl
            obtain ⟨x, hx⟩ := hq6 j (by omega)
            rw [Array.getElem?_toList, hx] at hj
            simp only [Option.some.injEq] at hj
            exact ⟨x, hj.symm⟩
          · cases hj
        · simp [Builtin.firstCells, hO]
    unfold appendG at hr
    split at hr
    · rename_i mm hmm
      obtain ⟨hty, hr2⟩ := cond_some hr
      obtain ⟨t', ht', hr3⟩ := bnd_some hr2
      simp only [Option.some.injEq] at hr3
      have hty := nbeq_iff.1 hty
      have hbk := sbytesOf_some hmm
      rw [hty] at hbk
      obtain ⟨r1, m1, c1, hm1, hobj, hq1, hq2, hq3, hq4, hq5, hq6⟩ := H.sbytes hbk
      rw [hm] at hm1
      simp only [Option.some.injEq, Prod.mk.injEq, true_and] at hm1
      obtain ⟨rfl, rfl⟩ := hm1
      obtain ⟨q, hnq, hbm⟩ := lookB_mem ht'
      obtain ⟨b1, b2⟩ := H.tabs.facts.bumps _ hbm
      have b1 : mm.1.den ρ + (q : Int) ≤ t'.den ρ := b1
      have b2 : t'.den ρ ≤ 1048576 := b2
      have hnq : n ≤ q := hnq
      exact key _ (.sbytes t' e') c1 hbk hobj hq5 hq6 (by omega) (fun μ' c' m' g1 g2 g3 g4 => ⟨c', rfl, rfl, by omega, by omega, b2, g2, g3, g4⟩) hr3.symm
    · obtain ⟨mm, hmm, hr2⟩ := bnd_some hr
      obtain ⟨hcond, hr3⟩ := cond_some hr2
      simp only [Option.some.injEq] at hr3
      rw [Bool.and_eq_true, nbeq_iff, ble_iff] at hcond
      obtain ⟨hty, hbig⟩ := hcond
      have hbk := bytesOf_some hmm
      rw [hty] at hbk
      obtain ⟨r1, m1, c1, hm1, hobj, hq1, hq2, hq3, hq4, hq5, hq6⟩ := H.bytes hbk
      rw [hm] at hm1
      simp only [Option.some.injEq, Prod.mk.injEq, true_and] at hm1
      obtain ⟨rfl, rfl⟩ := hm1
      have hbig : mm.1 + n ≤ 1048576 := hbig
      exact key _ (.bytes (mm.1 + n) e') c1 hbk hobj hq5 hq6 (by omega) (fun μ' c' m' g1 g2 g3 g4 => ⟨c', rfl, rfl, by omega, by omega, hbig, g2, g3, g4⟩) hr3.symm
  · cases hr

/-- the world changes in one block, which is forgotten -/
theorem Grows.lost {w' : World} (H : HRel ρ μ h w) {b : Nat} {B0 : Block} {r : Nat} {δ : Nat × Nat} (hb : h.get b = some B0) (hm : μ b = some (r, δ))
    (hw : ∀ i, i ≠ r → w'.heap[i]? = w.heap[i]?) (hsz : w'.heap.size = w.heap.size) (hos : w'.os = w.os) (hout : w'.output = w.output) : Grows ρ μ h w μ (h.set b none) w' := by
  have hne : ∀ c B' s δ', (h.set b none).get c = some B' → μ c = some (s, δ') → h.get c = some B' ∧ s ≠ r := fun c B' s δ' hc hm' => by
    rw [Heap.get_set] at hc
    split at hc
    · cases hc
    · rename_i hcb
      exact ⟨hc, fun e => hcb (H.inj _ _ _ _ _ _ _ hc hb hm' (e ▸ hm))⟩
  have hkept : ∀ s, s < w.heap.size → ¬ Owned μ h s → w'.heap[s]? = w.heap[s]? ∧ ¬ Owned μ (h.set b none) s := fun s hs ho => by
    refine ⟨hw s fun e => ho ⟨b, B0, δ, hb, e ▸ hm⟩, ?_⟩
    rintro ⟨c, B', δ', hc, hm'⟩
    exact ho ⟨c, B', δ', (hne _ _ _ _ hc hm').1, hm'⟩
  refine ⟨μ.le_refl, ⟨fun c hc => H.fresh c hc, fun c B' hc => ?_, fun c c' B1 B2 s δ1 δ2 h1 h2 m1 m2 => ?_, H.tabs_of hkept⟩, by omega, hkept, hos, hout, Nat.le_refl _, fun _ _ => rfl, fun _ _ h => .inl h, rfl⟩
  · have hc2 := hc
    rw [Heap.get_set] at hc2
    split at hc2
    · cases hc2
    · obtain ⟨s, δ', hm', hr⟩ := H.blk c B' hc2
      exact ⟨s, δ', hm', by rw [hw s (hne _ _ _ _ hc hm').2]; exact hr⟩
  · exact H.inj _ _ _ _ _ _ _ (hne _ _ _ _ h1 m1).1 (hne _ _ _ _ h2 m2).1 m1 m2

theorem freeze_other (w : World) (r i n : Nat) (hi : i ≠ r) : (w.freeze ⟨r, 0, none⟩ n).heap[i]? = w.heap[i]? := by
  unfold World.freeze
  split
  · rfl
  · simp only [Array.getElem?_modify]
    rw [if_neg (Ne.symm hi)]

theorem freeze_size (w : World) (p : Addr) (n : Nat) : (w.freeze p n).heap.size = w.heap.size := by
  unfold World.freeze
  split <;> simp

theorem freeze_os (w : World) (p : Addr) (n : Nat) : (w.freeze p n).os = w.os ∧ (w.freeze p n).output = w.output := by
  unfold World.freeze
  split <;> exact ⟨rfl, rfl⟩

theorem does_ustr {o : Oper} {c : Call} {pt it e : TypeId} {p n : Operand} (ho : o.op = .call c) (hcal : c.callee = .builtin .unsafeString) (hargs : c.args = #[p, n]) (htys : c.argTypes = #[pt, it])
    (H : HRel ρ μ h w) (hT : TRel ρ μ tm a) (hp : P.underlying pt = some (.pointer e)) (hc : P.cellsOf e = 1) {r : MRes} (hr : ustrA h e (ev tm (opd p)) (ev tm (opd n)) = some r) : Does P ρ μ h a o w r := by
  have hx := ev_sound hT p
  have hy := ev_sound hT n
  have run : ∀ {v : Value} {wf : World}, (Builtin.unsafeString_ #[pt, it] o.type #[a.eval p, a.eval n]).run P w = .ok v wf → (execOp a.eval o).run P w = .ok (.value v) wf := fun {v wf} hrun => by
    simp [execOp, ho, resolve, hcal, hargs, htys, invoke, builtin, hrun]
  unfold ustrA at hr
  split at hr
  · rename_i e1 e2
    rw [e1] at hx
    rw [e2] at hy
    have f1 : a.eval p = .pointer none := by simpa only [VRel] using hx
    have f2 : a.eval n = .int .i64 0 := by have := hy.int; simpa [ST.den] using this
    simp only [Option.some.injEq] at hr
    subst hr
    refine ⟨.value (.string .empty), .string .empty, w, μ, run ?_, .inl rfl, Grows.refl H, by simp only [VRel]; exact ⟨_, rfl, rfl⟩⟩
    rw [f1, f2]
    exact Lib.run_unsafeString_none w pt it o.type none
  · rename_i b k e1 e2
    rw [e1] at hx
    rw [e2] at hy
    obtain ⟨hbk, hr2⟩ := cond_some hr
    clear hr
    have hbk := nbeq_iff.1 hbk
    subst hbk
    obtain ⟨m, hm, hr3⟩ := bnd_some hr2
    clear hr2
    unfold ustrB at hr3
    obtain ⟨hty, hr⟩ := cond_some hr3
    clear hr3
    have hty := nbeq_iff.1 hty
    simp only [Option.some.injEq] at hr
    subst hr
    have hblk := bytesOf_some hm
    rw [hty] at hblk
    obtain ⟨r1, m1, c1, hm1, hobj, hq1, hq2, hq3, hq4, hq5, hq6⟩ := H.bytes hblk
    obtain ⟨r2, δ2, m2, hm2, f1⟩ := hx.ptr
    rw [hm1] at hm2
    simp only [Option.some.injEq, Prod.mk.injEq] at hm2
    obtain ⟨rfl, rfl, rfl⟩ := hm2
    obtain ⟨r3, m3, hm3, f2⟩ := hy.glen
    rw [hm1] at hm3
    simp only [Option.some.injEq, Prod.mk.injEq, true_and] at hm3
    obtain ⟨rfl, rfl⟩ := hm3
    -- the bytes
    obtain ⟨l, hl1, hl2⟩ : ∃ l : List UInt8, l.length = hLen m1 ∧ ∀ (j : Nat) (x : UInt8), l[j]? = some x → c1[j]? = some (Value.int .u8 (x.toNat : Int)) := by
      have : ∀ q, q ≤ hCap m1 → ∃ l : List UInt8, l.length = q ∧ ∀ (j : Nat) (x : UInt8), l[j]? = some x → c1[j]? = some (Value.int .u8 (x.toNat : Int)) := fun q => by
        induction q with
        | zero => exact fun _ => ⟨[], rfl, fun j x hj => by simp at hj⟩
        | succ q ih =>
          intro hq
          obtain ⟨l, h1, h2⟩ := ih (by omega)
          obtain ⟨x, hx⟩ := hq6 q (by omega)
          refine ⟨l ++ [x], by simp [h1], fun j y hj => ?_⟩
          rw [List.getElem?_append] at hj
          split at hj
          · exact h2 j y hj
          · rename_i hjl
            have hj0 : j = q := by
              have := (List.getElem?_eq_some_iff.1 hj).1
              simp at this; omega
            subst hj0
            rw [h1] at hj
            simp at hj
            subst hj
            exact hx
      exact this _ hq4
    have hrun := Lib.run_unsafeString_row (P := P) w pt it o.type e hp hc r1 c1.size (by simp [World.shape?, hobj]) l (by rintro rfl; simp at hl1; omega) (by omega) (by omega) (fun j x hj => by
      rw [Addr.add_bare, cell_row hobj, Nat.zero_add]
      exact hl2 j x hj)
    rw [hl1] at hrun
    have hg : Grows ρ μ h w μ (h.set b none) (w.freeze ⟨r1, 0, none⟩ (hLen m1)) := Grows.lost H hblk hm1 (fun i hi => freeze_other w r1 i _ hi) (freeze_size w _ _) (freeze_os w _ _).1 (freeze_os w _ _).2
    refine ⟨.value (.string ⟨l.toArray⟩), _, _, μ, run ?_, .inl rfl, hg, ?_⟩
    · rw [f1, f2]; exact hrun
    · simp only [VRel]
      exact ⟨_, rfl, by simp [ByteArray.size, hl1]; omega, by simp [ByteArray.size, hl1]; omega⟩
  · cases hr

end
end Go.AM
