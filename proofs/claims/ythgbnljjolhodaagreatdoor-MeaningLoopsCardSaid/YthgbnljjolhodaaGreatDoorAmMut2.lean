/- The abstract machine's operations that change memory, continued: maps, append, copy; all of them together. -/
import Derived.Test.YthgbnljjolhodaaGreatDoorAmMut
import Derived.Test.YthgbnljjolhodaaGreatDoorAmData
set_option linter.all false
namespace Go.AM

section
variable {P : Program} {Γ : Facts} {ρ : Env} {μ : Where} {tm : Tr AVal} {a : Act} {w : World} {h : Heap}

theorem run_setMap {r : Nat} {ms : Array MapEntry} {k : Nat} (ho : w.heap[r]? = some (.map ms k)) (o : Obj) : (setObj r o).run P w = .ok () { w with heap := w.heap.setIfInBounds r o } := by
  simp [setObj, Sem.run, ho]

/-- setting a string's entry in a map of data -/
theorem updM_sound {ice : Nat → Option Obj} {b : ByteArray} {x : Array Value} {ps : List PV} (hs : x.size = ps.length) (hr : RepL ice x 0 ps) : ∀ {l : List (List Nat × List PV)} {ms : List MapEntry} (n : Nat), MRel ice l ms →
    (Instr.findNow .string (.string b) ms n = some none ∧ ∀ born, MRel ice (mapSet l (strOf b) ps) (ms ++ [{ key := .string b, val := .agg x, born := born }])) ∨
    (∃ i v0 m, Instr.findNow .string (.string b) ms n = some (some (n + i, v0)) ∧ ms[i]? = some m ∧ Instr.sameBits 10000 m.key (.string b) = true ∧ MRel ice (mapSet l (strOf b) ps) (ms.modify i fun e => { e with key := .string b, val := .agg x }))
  | [], ms, n, he => by
    have he : ms = [] := he
    subst he
    exact .inl ⟨rfl, fun born => ⟨_, _, rfl, ⟨b, rfl, rfl⟩, ⟨x, rfl, hs, hr⟩, rfl⟩⟩
  | e :: es, ms, n, he => by
    obtain ⟨m, rest, rfl, ⟨kb, hkb, hke⟩, ⟨y, hy, hys, hyr⟩, hrest⟩ := he
    have hsn : Instr.sameNow .string (.string b) m.key = some (decide (strOf b = e.1)) := by
      rw [hkb, ← hke]
      have : decide (strOf b = strOf kb) = (b.toList == kb.toList) := by rw [← strOf_beq, Bool.eq_iff_iff, beqL_iff]; simp
      rw [this, ← beq_toListBytes]
      simp [Instr.sameNow]
    by_cases hc : e.1 = strOf b
    · right
      refine ⟨0, m.val, m, by simp [Instr.findNow, hsn, hc], rfl, ?_, ?_⟩
      · rw [hkb]
        have : kb = b := strOf_inj (by rw [hke, hc])
        subst this
        simp only [Instr.sameBits]
        rw [beq_toListBytes]; simp
      · simp only [List.modify_zero_cons, mapSet, hc, if_true]
        exact ⟨_, _, rfl, ⟨b, rfl, rfl⟩, ⟨x, rfl, hs, hr⟩, hrest⟩
    · have hc' : ¬ strOf b = e.1 := fun h => hc h.symm
      rcases updM_sound (b := b) hs hr (n + 1) hrest with ⟨h3, h4⟩ | ⟨i, v0, m', h3, h4, h5, h6⟩
      · left
        refine ⟨by simp [Instr.findNow, hsn, hc', h3], fun born => ?_⟩
        simp only [mapSet, if_neg hc, List.cons_append]
        exact ⟨_, _, rfl, ⟨kb, hkb, hke⟩, ⟨y, hy, hys, hyr⟩, h4 born⟩
      · right
        refine ⟨i + 1, v0, m', by simp [Instr.findNow, hsn, hc', h3]; omega, by simpa using h4, h5, ?_⟩
        simp only [List.modify_succ_cons, mapSet, if_neg hc]
        exact ⟨_, _, rfl, ⟨kb, hkb, hke⟩, ⟨y, hy, hys, hyr⟩, h6⟩

theorem does_mapUp {o : Oper} {t kt e : TypeId} {m k x : Operand} {kk : LK} (ho : o.op = .mapUpdate t m k x ∨ o.op = .insert t m k x) (H : HRel ρ μ h w) (hT : TRel ρ μ tm a) (hu : P.underlying t = some (.map kt e)) (hk : keyT P kt = some kk) {h' : Heap}
    (hs : mapUpA h kk (ev tm (opd m)) (ev tm (opd k)) (ev tm (opd x)) = some h') : Does P ρ μ h a o w (.val .any h') := by
  have hm := ev_sound hT m
  have hkv := ev_sound hT k
  have hx := ev_sound hT x
  obtain ⟨d, hd, hf⟩ := keyT_spec hk
  unfold mapUpA at hs
  split at hs
  · rename_i b e1
    unfold mapUpM at hs
    split at hs
    · rename_i i hi
      obtain ⟨hsk, hs2⟩ := cond_some hs
      clear hs
      obtain ⟨rfl, s, hks⟩ := strKey_spec (ρ := ρ) hsk
      have hf : d = .string := hf
      subst hf
      obtain ⟨kb, ek, rfl⟩ := strV_sound hks hkv
      unfold mapUpS at hs2
      split at hs2
      · rename_i cs ecs
        obtain ⟨_, hs3⟩ := cond_some hs2
        obtain ⟨j, hj, hs3⟩ := bnd_some hs3
        simp only [Option.some.injEq] at hs3
        subst hs3
        obtain ⟨s', ps, q1, q2, q3⟩ := H.tabs.facts.ups _ (lookU_mem hj)
        have q1 : strV ρ (ev tm (opd k)) = some s' := q1
        rw [hks] at q1
        simp only [Option.some.injEq] at q1
        subst q1
        have q2 : FDens ρ (looseL cs) ps := q2
        have q3 : ρ.map j = mapSet (ρ.map i) (strOf kb) ps := q3
        rw [ecs] at hx
        obtain ⟨xa, ex, hxc⟩ := hx.agg
        have hxs : xa.size = ps.length := by
          have h1 := hxc.length
          have h2 := q2.length
          rw [looseL_length] at h2
          simp at h1
          omega
        have hxr : RepL μ.ice xa 0 ps := CsRel.freeze q2 hxc fun i v hv => by simpa using hv
        rw [e1] at hm
        obtain ⟨g, hg, e2⟩ := hm.mapV
        obtain ⟨g', ms, clk, hg', hobj, he⟩ := H.smap (smapOf_some hi)
        rw [hg] at hg'
        simp only [Option.some.injEq, Prod.mk.injEq] at hg'
        obtain ⟨rfl, _⟩ := hg'
        have hgo : (getObj g).run P w = .ok (.map ms clk) w := by simp [getObj, Sem.run, hobj]
        have hck : (Instr.checkKey false 10000 kt (a.eval k)).run P w = .ok () w := checkKey_run hd (kk := .str) rfl false 9999 _
        have hlt : g < w.heap.size := (Array.getElem?_eq_some_iff.1 hobj).1
        have hchg : ∀ (ms' : Array MapEntry) (cl : Nat), MRel μ.ice (ρ.map j) ms'.toList → Grows ρ μ h w μ (h.set b (some (.smap j))) { w with heap := w.heap.setIfInBounds g (.map ms' cl) } := fun ms' cl hes => by
          refine Grows.change H (smapOf_some hi) hg (.smap j) (fun i hi => ?_) (by simp) rfl rfl ?_
          · show (w.heap.setIfInBounds g _)[i]? = _
            rw [Array.getElem?_setIfInBounds_ne (Ne.symm hi)]
          · refine ⟨rfl, ms', cl, ?_, hes⟩
            show (w.heap.setIfInBounds g _)[g]? = _
            rw [Array.getElem?_setIfInBounds_self_of_lt hlt]
        have run : ∀ (wf : World), (Instr.mapUpdate t (a.eval m) (a.eval k) (a.eval x)).run P w = .ok () wf → (execOp a.eval o).run P w = .ok .skip wf := fun wf hrun => by
          rcases ho with ho | ho <;> simp [execOp, ho, hrun]
        rcases updM_sound (b := kb) hxs hxr 0 he with ⟨e4, e5⟩ | ⟨i', v0, m', e4, e5, e6, e7⟩
        · rw [← ek] at e4
          have hfk := run_findKey (P := P) (w := w) hd e4
          have hrun : (Instr.mapUpdate t (a.eval m) (a.eval k) (a.eval x)).run P w = .ok () { w with heap := w.heap.setIfInBounds g (.map (ms.push { key := a.eval k, val := a.eval x, born := clk }) (clk + 1)) } := by
            simp only [Instr.mapUpdate, Sem.run_bind, run_underlying hu, Result.andThen_ok, e2, hgo, hck, hfk]
            exact run_setMap hobj _
          refine ⟨.skip, undef, _, μ, run _ hrun, .inr ⟨rfl, rfl⟩, ?_, trivial⟩
          exact hchg _ _ (by rw [q3, ek, ex]; simpa using e5 clk)
        · rw [← ek] at e4
          have hfk := run_findKey (P := P) (w := w) hd e4
          rw [Nat.zero_add] at hfk
          have hmi : ms[i']? = some m' := by simpa using e5
          have hst : (Instr.keyThatStays (((ms[i']?).map (·.key)).getD (a.eval k)) (a.eval k)).run P w = .ok (a.eval k) w := by
            rw [hmi]
            simp only [Option.map_some, Option.getD_some, Instr.keyThatStays]
            rw [if_pos (by rw [ek]; exact e6)]
            rfl
          have hrun : (Instr.mapUpdate t (a.eval m) (a.eval k) (a.eval x)).run P w = .ok () { w with heap := w.heap.setIfInBounds g (.map (ms.modify i' fun e => { e with key := a.eval k, val := a.eval x }) clk) } := by
            simp only [Instr.mapUpdate, Sem.run_bind, run_underlying hu, Result.andThen_ok, e2, hgo, hck, hfk, hst]
            exact run_setMap hobj _
          refine ⟨.skip, undef, _, μ, run _ hrun, .inr ⟨rfl, rfl⟩, ?_, trivial⟩
          exact hchg _ _ (by rw [q3, ek, ex]; simpa using e7)
      · cases hs2
    rename_i hno
    obtain ⟨mm, hmm, hs⟩ := bnd_some hs
    obtain ⟨hsing, hs⟩ := cond_some hs
    obtain ⟨r, hr, hs⟩ := bnd_some hs
    simp only [Option.some.injEq] at hs
    subst hs
    rw [e1] at hm
    obtain ⟨g, hg, e2⟩ := hm.mapV
    obtain ⟨g', ms, hg', hobj, he⟩ := H.map (mapOf_some hmm)
    rw [hg] at hg'
    simp only [Option.some.injEq, Prod.mk.injEq] at hg'
    obtain ⟨rfl, _⟩ := hg'
    have hgo : (getObj g).run P w = .ok (.map ms mm.2) w := by simp [getObj, Sem.run, hobj]
    have hck : (Instr.checkKey false 10000 kt (a.eval k)).run P w = .ok () w := checkKey_run hd hf false 9999 _
    have hlt : g < w.heap.size := (Array.getElem?_eq_some_iff.1 hobj).1
    have hchg : ∀ (ms' : Array MapEntry) (cl : Nat), EsRel ρ μ r.1 ms'.toList → Grows ρ μ h w μ (h.set b (some (.map r.1 cl))) { w with heap := w.heap.setIfInBounds g (.map ms' cl) } := fun ms' cl hes => by
      refine Grows.change H (mapOf_some hmm) hg (.map r.1 cl) (fun i hi => ?_) (by simp) rfl rfl ?_
      · show (w.heap.setIfInBounds g _)[i]? = _
        rw [Array.getElem?_setIfInBounds_ne (Ne.symm hi)]
      · refine ⟨rfl, ms', ?_, hes⟩
        show (w.heap.setIfInBounds g _)[g]? = _
        rw [Array.getElem?_setIfInBounds_self_of_lt hlt]
    have run : ∀ (wf : World), (Instr.mapUpdate t (a.eval m) (a.eval k) (a.eval x)).run P w = .ok () wf → (execOp a.eval o).run P w = .ok .skip wf := fun wf hrun => by
      rcases ho with ho | ho <;> simp [execOp, ho, hrun]
    rcases updA_sound hf hkv hsing hx 0 he hr with ⟨e3, e4, e5⟩ | ⟨e3, i, v0, m', e4, e5, e6, e7⟩
    · have hfk := run_findKey (P := P) (w := w) hd e4
      have hrun : (Instr.mapUpdate t (a.eval m) (a.eval k) (a.eval x)).run P w = .ok () { w with heap := w.heap.setIfInBounds g (.map (ms.push { key := a.eval k, val := a.eval x, born := mm.2 }) (mm.2 + 1)) } := by
        simp only [Instr.mapUpdate, Sem.run_bind, run_underlying hu, Result.andThen_ok, e2, hgo, hck, hfk]
        exact run_setMap hobj _
      refine ⟨.skip, undef, _, μ, run _ hrun, .inr ⟨rfl, rfl⟩, ?_, trivial⟩
      rw [e3]
      exact hchg _ _ (by simpa using e5)
    · have hfk := run_findKey (P := P) (w := w) hd e4
      rw [Nat.zero_add] at hfk
      have hmi : ms[i]? = some m' := by simpa using e5
      have hst : (Instr.keyThatStays (((ms[i]?).map (·.key)).getD (a.eval k)) (a.eval k)).run P w = .ok (a.eval k) w := by
        rw [hmi]
        simp only [Option.map_some, Option.getD_some, Instr.keyThatStays]
        rw [if_pos e6]
        rfl
      have hrun : (Instr.mapUpdate t (a.eval m) (a.eval k) (a.eval x)).run P w = .ok () { w with heap := w.heap.setIfInBounds g (.map (ms.modify i fun e => { e with key := a.eval k, val := a.eval x }) mm.2) } := by
        simp only [Instr.mapUpdate, Sem.run_bind, run_underlying hu, Result.andThen_ok, e2, hgo, hck, hfk, hst]
        exact run_setMap hobj _
      refine ⟨.skip, undef, _, μ, run _ hrun, .inr ⟨rfl, rfl⟩, ?_, trivial⟩
      rw [e3]
      exact hchg _ _ (by simpa using e7)
  · cases hs

/-! ### append, copy -/

theorem byteCells_rel (l : List UInt8) : CsRel ρ μ (byteCells (l.map (·.toNat))) (l.map fun b => .int .u8 (b.toNat : Int)) := by
  induction l with
  | nil => show CsRel ρ μ [] []; simp only [CsRel]
  | cons b l ih =>
    show CsRel ρ μ (.int .u8 (.lit (.ofNat b.toNat)) :: byteCells (l.map (·.toNat))) _
    simp only [CsRel, List.map_cons]
    exact ⟨_, _, rfl, ⟨rfl, by simp only [VRel, ST.den]; rfl⟩, ih⟩

/-- the cells that are appended or copied -/
theorem src_sound (H : HRel ρ μ h w) {size n : Nat} {bytes : Bool} {x : AVal} {u : Value} {cs : List AVal} (hx : VRel ρ μ x u) (hs : srcA h size bytes x = some (n, cs)) :
    (Builtin.lenOf u).run P w = .ok n w ∧ cs.length = n * size ∧ ∃ L : Array Value, (Builtin.firstCells size n u).run P w = .ok L w ∧ CsRel ρ μ cs L.toList := by
  have key : ∀ (b off len r δ m c : Nat), srcK h size b off len = some (n, cs) → μ b = some (r, δ, m) → u = .slice (some ⟨r, δ + off, none⟩) len c →
      (Builtin.lenOf u).run P w = .ok n w ∧ cs.length = n * size ∧ ∃ L : Array Value, (Builtin.firstCells size n u).run P w = .ok L w ∧ CsRel ρ μ cs L.toList := fun b off len r δ m c hs hm e => by
    subst e
    unfold srcK at hs
    rw [cond_beq] at hs
    by_cases h0 : len = 0
    · rw [if_pos h0] at hs
      simp only [Option.some.injEq, Prod.mk.injEq] at hs
      obtain ⟨rfl, rfl⟩ := hs
      subst h0
      exact ⟨by simp [Builtin.lenOf], by simp, #[], by simp [Builtin.firstCells, loadCells, loadCellsFrom], by simp only [CsRel]⟩
    · rw [if_neg h0] at hs
      obtain ⟨vs, hvs, hs⟩ := bnd_some hs
      obtain ⟨r', hr', hs⟩ := bnd_some hs
      simp only [Option.some.injEq, Prod.mk.injEq] at hs
      obtain ⟨rfl, rfl⟩ := hs
      obtain ⟨r2, δ2, m2, c2, e2, hm2, ho, _, hc⟩ := H.cells hvs
      rw [hm] at hm2
      simp only [Option.some.injEq, Prod.mk.injEq] at hm2
      obtain ⟨rfl, rfl, rfl⟩ := hm2
      obtain ⟨l, hln, hcs, hlc⟩ := cut_cells hc hr'
      have hrun := run_loadCells_list (P := P) (w := w) ⟨r, δ + off, none⟩ l (fun j v hv => by rw [Addr.add_bare, cell_row ho]; exact hlc j v hv)
      rw [hln] at hrun
      exact ⟨by simp [Builtin.lenOf], (cut_spec hr').1, l.toArray, by simp [Builtin.firstCells, hrun], by simpa using hcs⟩
  unfold srcA at hs
  split at hs
  · obtain ⟨k1, ⟨rfl, rfl, p, c, rfl⟩ | ⟨r, δ, c, ar, e, rfl, ho, hc⟩⟩ := lst_cells H hx hs
    · cases p
      · exact ⟨by simp [Builtin.lenOf], by simp, #[], by simp [Builtin.firstCells], by simp only [CsRel]⟩
      · exact ⟨by simp [Builtin.lenOf], by simp, #[], by simp [Builtin.firstCells, loadCells, loadCellsFrom], by simp only [CsRel]⟩
    · obtain ⟨l, hln, hcs, hlc⟩ := cut_cells hc (cut_all cs)
      have hrun := run_loadCells_list (P := P) (w := w) ⟨r, δ, none⟩ l (fun j v hv => by rw [Addr.add_bare, cell_row ho]; simpa using hlc j v hv)
      rw [hln, k1] at hrun
      exact ⟨by simp [Builtin.lenOf], k1, l.toArray, by simp [Builtin.firstCells, hrun], by simpa using hcs⟩
  · simp only [Option.some.injEq, Prod.mk.injEq] at hs
    obtain ⟨rfl, rfl⟩ := hs
    have e : u = .slice none 0 0 := by simpa only [VRel] using hx
    subst e
    exact ⟨by simp [Builtin.lenOf], by simp, #[], by simp [Builtin.firstCells], by simp only [CsRel]⟩
  · obtain ⟨r, δ, m, hm, e, _⟩ := hx.slice
    exact key _ _ _ _ _ _ _ hs hm e
  · obtain ⟨r, δ, m, c, hm, e, _⟩ := hx.gslice
    exact key _ _ _ _ _ _ _ hs hm e
  · rename_i s
    obtain ⟨hsz, hs2⟩ := cond_some hs
    clear hs
    have hsz := nbeq_iff.1 hsz
    subst hsz
    simp only [Option.some.injEq, Prod.mk.injEq] at hs2
    obtain ⟨rfl, rfl⟩ := hs2
    obtain ⟨b, rfl, rfl⟩ := hx.str
    refine ⟨by simp [Builtin.lenOf, nlen_eq, strOf_length], ?_, (b.data.map fun c => .int .u8 c.toNat), ?_, ?_⟩
    · have := (byteCells_rel (ρ := ρ) (μ := μ) b.data.toList).length
      unfold strOf
      rw [this, nlen_eq]; simp
    · have : b.extract 0 (nlen (strOf b)) = b := by
        rw [nlen_eq, strOf_length]
        obtain ⟨⟨l⟩⟩ := b
        have := ByteArray.extract_mk l 0 l.length
        rw [show (⟨⟨l⟩⟩ : ByteArray) = ByteArray.mk l.toArray from rfl]
        rw [show (ByteArray.mk l.toArray).size = l.length from by simp [ByteArray.size], this]
        simp
      simp [Builtin.firstCells, this]
    · simpa [strOf] using byteCells_rel (ρ := ρ) (μ := μ) b.data.toList
  · cases hs

/-- what kind of value is appended: a slice or a string -/
def Appended (d : TypeDesc) : Prop := (∃ e, d = .slice e) ∨ d = .string

theorem run_append_in {t u ty e : TypeId} {d : TypeDesc} (ht : P.underlying t = some (.slice e)) (hu : P.underlying u = some d) (hd : Appended d) {size n sLen sCap : Nat} {x : Value} {L : Array Value} {w' : World} {base : Option Addr}
    (hs : (sizeOf e).run P w = .ok size w) (hn : (Builtin.lenOf x).run P w = .ok n w) (hle : sLen + n ≤ sCap) (hL : (Builtin.firstCells size n x).run P w = .ok L w)
    (hst : match base with | some p => (storeCells (p.add (sLen * size)) L.toList).run P w = .ok () w' | none => w' = w) :
    (Builtin.append_ #[t, u] ty #[.slice base sLen sCap, x]).run P w = .ok (.slice base (sLen + n) sCap) w' := by
  have hz : (do pure (match (← underlying u) with | .int _ => true | _ => false) : Sem Bool).run P w = .ok false w := by
    rcases hd with ⟨e', rfl⟩ | rfl <;> simp [run_underlying hu]
  cases base with
  | none =>
    simp only at hst
    subst hst
    rcases hd with ⟨e', rfl⟩ | rfl <;> simp [Builtin.append_, run_underlying ht, run_underlying hu, hs, hn, hle, hL]
  | some p =>
    simp only at hst
    rcases hd with ⟨e', rfl⟩ | rfl <;> simp [Builtin.append_, run_underlying ht, run_underlying hu, hs, hn, hle, hL, hst]

theorem run_append_out {t u ty e : TypeId} {d : TypeDesc} (ht : P.underlying t = some (.slice e)) (hu : P.underlying u = some d) (hd : Appended d) {i : TypeInfo} {z : Value} (hi : P.info? e = some i) (hz : i.zero = some z) {n sLen sCap : Nat} {x : Value} {O L : Array Value} {base : Option Addr}
    (hn : (Builtin.lenOf x).run P w = .ok n w) (hgt : sCap < sLen + n) (hO : (Builtin.firstCells i.size sLen (.slice base sLen sCap)).run P w.drew = .ok O w.drew) (hL : (Builtin.firstCells i.size n x).run P w.drew = .ok L w.drew)
    (hb : i.bytes ≤ 1048576) (hsz : sLen + n ≤ 1048576) :
    ∃ nc rest, sLen + n ≤ nc ∧ rest.size = (nc - (sLen + n)) * z.cells.size ∧ rest = Builtin.zeroCells z.cells (nc - (sLen + n)) ∧ (Builtin.append_ #[t, u] ty #[.slice base sLen sCap, x]).run P w = .ok (.slice (some ⟨w.heap.size, 0, none⟩) (sLen + n) nc) (w.drew.alloc (.cells (O ++ L ++ rest) e)) := by
  have hnle : ¬ (sLen + n ≤ sCap) := by omega
  have h63' : ¬ (9223372036854775807 < ((sLen : Int) + (n : Int))) := by omega
  have hncap := nextslicecap_le hgt
  have h48 : Builtin.nextslicecap (sLen + n) sCap * i.bytes ≤ 281474976710656 := by
    have := Nat.mul_le_mul hncap hb
    have h2 : 2 * (sLen + n) * 1048576 ≤ 2 * 1048576 * 1048576 := by omega
    omega
  have h48' : ¬ (281474976710656 < Builtin.nextslicecap (sLen + n) sCap * i.bytes) := by omega
  refine ⟨grownCap w (sLen + n) sCap e, Builtin.zeroCells z.cells (grownCap w (sLen + n) sCap e - (sLen + n)), ?_, by simp [Builtin.zeroCells], rfl, ?_⟩
  · exact Nat.le_add_right _ _
  · have hO' := hO
    rcases hd with ⟨e', rfl⟩ | rfl <;>
      simp [Builtin.append_, run_underlying ht, run_underlying hu, sizeOf, typeInfo, zeroValue, hi, hz, hn, hnle, h63', h48', Question.forced, hO, hL, newRow, grownCap]

/-- a block is forgotten -/
theorem Grows.drop (H : HRel ρ μ h w) (b : Nat) : Grows ρ μ h w μ (h.set b none) w :=
  have hs : ∀ c B, (h.set b none).get c = some B → h.get c = some B := fun c B hc => by
    rw [Heap.get_set] at hc
    split at hc
    · cases hc
    · exact hc
  ⟨μ.le_refl, H.drop _ rfl rfl hs, Nat.le_refl _, fun r _ ho => ⟨rfl, fun ⟨c, B, δ, hc, hm⟩ => ho ⟨c, B, δ, hs c B hc, hm⟩⟩, rfl, rfl, Nat.le_refl _, fun _ _ => rfl, fun _ _ h => .inl h, rfl⟩

/-- a block changes and gets another number and another beginning -/
theorem Grows.moved {w' : World} (H : HRel ρ μ h w) {b : Nat} {B0 : Block} {r : Nat} {δ0 : Nat × Nat} (hb : h.get b = some B0) (hm : μ b = some (r, δ0)) (B : Block) (δ : Nat × Nat)
    (hw : ∀ i, i ≠ r → w'.heap[i]? = w.heap[i]?) (hsz : w'.heap.size = w.heap.size) (hos : w'.os = w.os) (hout : w'.output = w.output) (hB : ∀ μ' : Where, μ.le μ' → BRel ρ μ' B w'.heap[r]? δ) :
    Grows ρ μ h w (μ.put h.next (r, δ)) ((h.set b none).add B) w' := by
  have hle : μ.le (μ.put h.next (r, δ)) := Where.le_put (H.fresh _ (Nat.le_refl _))
  have hat : ∀ c B' s δ', ((h.set b none).add B).get c = some B' → μ.put h.next (r, δ) c = some (s, δ') → (c = h.next ∧ s = r ∧ B' = B ∧ δ' = δ) ∨ (h.get c = some B' ∧ μ c = some (s, δ') ∧ c ≠ b) := fun c B' s δ' hc hm' => by
    rw [Heap.get_add, Heap.get_set] at hc
    by_cases e : c = h.next
    · subst e
      rw [Where.put_same] at hm'
      simp only [Option.some.injEq, Prod.mk.injEq] at hm'
      rw [if_pos (Heap.next_set ..).symm] at hc
      simp only [Option.some.injEq] at hc
      exact .inl ⟨rfl, hm'.1.symm, hc.symm, hm'.2.symm⟩
    · rw [if_neg (by rw [Heap.next_set]; exact e)] at hc
      rw [Where.put_other _ _ e] at hm'
      split at hc
      · cases hc
      · rename_i hne
        exact .inr ⟨hc, hm', hne⟩
  have hne : ∀ c B' s δ', h.get c = some B' → μ c = some (s, δ') → c ≠ b → s ≠ r := fun c B' s δ' hc hm' hcb e => hcb (H.inj _ _ _ _ _ _ _ hc hb hm' (e ▸ hm))
  have hkept : ∀ s, s < w.heap.size → ¬ Owned μ h s → w'.heap[s]? = w.heap[s]? ∧ ¬ Owned (μ.put h.next (r, δ)) ((h.set b none).add B) s := fun s hs ho => by
    have hsr : s ≠ r := fun e => ho ⟨b, B0, δ0, hb, e ▸ hm⟩
    refine ⟨hw s hsr, ?_⟩
    rintro ⟨c, B', δ', hc, hm'⟩
    rcases hat _ _ _ _ hc hm' with ⟨_, e, _, _⟩ | ⟨g, n, _⟩
    · exact hsr e
    · exact ho ⟨c, B', δ', g, n⟩
  refine ⟨hle, ⟨fun c hc => ?_, fun c B' hc => ?_, fun c c' B1 B2 s δ1 δ2 h1 h2 m1 m2 => ?_, H.tabs_of hkept⟩, by omega, hkept, hos, hout, Nat.le_succ _, fun b hb => Where.put_other _ _ (by omega), fun _ _ h => .inl h, rfl⟩
  · rw [Heap.next_add, Heap.next_set] at hc
    rw [Where.put_other _ _ (by omega)]
    exact H.fresh c (by omega)
  · by_cases e : c = h.next
    · subst e
      refine ⟨r, δ, Where.put_same _ _ _, ?_⟩
      rcases hat _ _ _ _ hc (Where.put_same _ _ _) with ⟨_, _, rfl, _⟩ | ⟨hg, hm', _⟩
      · exact hB _ hle
      · rw [H.fresh _ (Nat.le_refl _)] at hm'; cases hm'
    · have hc2 := hc
      rw [Heap.get_add, Heap.get_set, if_neg (by rw [Heap.next_set]; exact e)] at hc
      split at hc
      · cases hc
      · rename_i hcb
        obtain ⟨s, δ', hm', hr⟩ := H.blk c B' hc
        refine ⟨s, δ', by rw [Where.put_other _ _ e]; exact hm', ?_⟩
        rw [hw s (hne _ _ _ _ hc hm' hcb)]
        exact hr.mono hle
  · rcases hat _ _ _ _ h1 m1 with ⟨e1, e2, _, _⟩ | ⟨g1, n1, c1⟩ <;> rcases hat _ _ _ _ h2 m2 with ⟨e3, e4, _, _⟩ | ⟨g2, n2, c2⟩
    · rw [e1, e3]
    · exact absurd e2 (hne _ _ _ _ g2 n2 c2)
    · exact absurd e4 (hne _ _ _ _ g1 n1 c1)
    · exact H.inj _ _ _ _ _ _ _ g1 g2 n1 n2

/-- the cells behind an append, in a new block -/
theorem brel_appended {old new : List AVal} {O L rest : Array Value} {e : TypeId} {m : Nat} (ho : CsRel ρ μ old O.toList) (hn : CsRel ρ μ new L.toList) (hm : m ≤ (O ++ L ++ rest).size) (μ' : Where) (hle : μ.le μ') :
    BRel ρ μ' (.cells (old ++ new)) (some (.cells (O ++ L ++ rest) e)) (0, m) := by
  refine ⟨_, e, rfl, by omega, fun i x hx => ?_⟩
  have hcs := CsRel.append ho hn
  obtain ⟨v, hv, hs, hr⟩ := hcs.get hx
  refine ⟨v, ?_, hs, hr.mono hle⟩
  rw [Nat.zero_add]
  have hlt := (List.getElem?_eq_some_iff.1 hv).1
  rw [Array.getElem?_append_left (by simpa using hlt)]
  rw [← Array.toList_append] at hv
  rw [Array.getElem?_toList] at hv
  exact hv

theorem listOf_some {o : Option Block} {l : Nat × Nat} (h : listOf o = some l) : o = some (.list l.1 l.2) := by
  unfold listOf at h
  split at h
  · simp only [Option.some.injEq] at h; rw [← h]
  · cases h

theorem does_append {o : Oper} {c : Call} {t u e : TypeId} {d : TypeDesc} {x y : Operand} (ho : o.op = .call c) (hcal : c.callee = .builtin .append) (hargs : c.args = #[x, y]) (htys : c.argTypes = #[t, u])
    (H : HRel ρ μ h w) (hT : TRel ρ μ tm a) (ht : P.underlying t = some (.slice e)) (hu : P.underlying u = some d) (hd : Appended d) {i : TypeInfo} (hi : P.info? e = some i) (hb : i.bytes ≤ 1048576) (hz : (i.zero.map fun v => Nat.beq v.cells.size i.size).getD false = true)
    {bytes : Bool} {s : Nat × List AVal} (hs : srcA h i.size bytes (ev tm (opd y)) = some s) {r : AVal × Heap} (hr : appendA h i.size (ev tm (opd x)) s.1 s.2 = some r) : Does P ρ μ h a o w (.val r.1 r.2) := by
  have hx := ev_sound hT x
  have hy := ev_sound hT y
  obtain ⟨z, hz, hzs⟩ : ∃ z, i.zero = some z ∧ z.cells.size = i.size := by
    cases e : i.zero with
    | none => rw [e] at hz; simp at hz
    | some z => rw [e] at hz; exact ⟨z, rfl, nbeq_iff.1 (by simpa using hz)⟩
  obtain ⟨n, new⟩ := s
  obtain ⟨hln, hlen, L, hL, hnew⟩ := src_sound (P := P) H hy hs
  obtain ⟨_, _, L', hL', hnew'⟩ := src_sound (P := P) H.drew hy hs
  have hss : (sizeOf e).run P w = .ok i.size w := by simp [sizeOf, typeInfo, hi]
  have run : ∀ {v : Value} {wf : World}, (Builtin.append_ #[t, u] o.type #[a.eval x, a.eval y]).run P w = .ok v wf → (execOp a.eval o).run P w = .ok (.value v) wf := fun {v wf} hrun => by
    simp [execOp, ho, resolve, hcal, hargs, htys, invoke, builtin, hrun]
  unfold appendA at hr
  rw [cond_beq] at hr
  by_cases h0 : n = 0
  · -- nothing is appended
    rw [if_pos h0] at hr
    subst h0
    have hnil : new = [] := by
      have : new.length = 0 := by simpa using hlen
      exact List.eq_nil_of_length_eq_zero this
    subst hnil
    have hLe : L.toList = [] := by simpa only [CsRel] using hnew
    have same : ∀ (base : Option Addr) (len cap : Nat), a.eval x = .slice base len cap → len ≤ cap → r = (ev tm (opd x), h) → Does P ρ μ h a o w (.val r.1 r.2) := fun base len cap e1 hle er => by
      subst er
      refine ⟨.value (a.eval x), a.eval x, w, μ, run ?_, .inl rfl, Grows.refl H, hx⟩
      rw [e1]
      refine run_append_in ht hu hd hss hln (by omega) hL ?_
      cases base with
      | none => rfl
      | some p => simp [hLe, storeCells]
    unfold appendZ at hr
    split at hr
    · rename_i e1
      have er : r = (ev tm (opd x), h) := by rw [e1]; simpa using hr.symm
      rw [e1] at hx
      obtain ⟨p, c', e2, hle, _⟩ := hx.lst_slice
      exact same _ _ _ e2 hle er
    · rename_i e1
      have er : r = (ev tm (opd x), h) := by rw [e1]; simpa using hr.symm
      rw [e1] at hx
      obtain ⟨r0, m0, k0, _, e2, _, k1, k2⟩ := hx.vec
      exact same _ _ _ e2 (by omega) er
    · rename_i e1
      rw [e1] at hx
      have e2 : a.eval x = .slice none 0 0 := by simpa only [VRel] using hx
      simp only [Option.some.injEq] at hr
      exact same _ _ _ e2 (Nat.le_refl _) hr.symm
    · rename_i e1
      rw [e1] at hx
      obtain ⟨_, _, _, _, e2, hle⟩ := hx.slice
      simp only [Option.some.injEq] at hr
      exact same _ _ _ e2 hle hr.symm
    · rename_i e1
      rw [e1] at hx
      obtain ⟨_, _, _, _, _, e2, hle, _⟩ := hx.gslice
      simp only [Option.some.injEq] at hr
      exact same _ _ _ e2 hle hr.symm
    · cases hr
  · rw [if_neg h0] at hr
    -- a new array
    have fresh : ∀ (base : Option Addr) (len cap : Nat) (h1 : Heap) (old : List AVal) (O : Array Value), a.eval x = .slice base len cap → cap < len + n → len + n ≤ 1048576 → Grows ρ μ h w μ h1 w → old.length = len * i.size →
        (Builtin.firstCells i.size len (.slice base len cap)).run P w.drew = .ok O w.drew → CsRel ρ μ old O.toList → r = (.gslice h1.next 0 (len + n) i.size, h1.add (.cells (old ++ new))) → Does P ρ μ h a o w (.val r.1 r.2) := fun base len cap h1 old O e1 hgt hbig hg1 holen hO hold er => by
      subst er
      obtain ⟨nc, rest, hnc, hrest, _, hrun⟩ := run_append_out (P := P) (ty := o.type) (O := O) (L := L') ht hu hd hi hz hln hgt hO hL' hb hbig
      have hOs : O.size = len * i.size := by have := hold.length; simp at this; omega
      have hLs : L'.size = n * i.size := by have := hnew'.length; simp at this; omega
      have htot : (O ++ L' ++ rest).size = nc * i.size := by
        simp only [Array.size_append, hOs, hLs, hrest, hzs]
        rw [← Nat.add_mul, ← Nat.add_mul]
        congr 1; omega
      have hadd := Grows.add hg1.rel.drew (.cells (old ++ new)) (.cells (O ++ L' ++ rest) e) (0, nc * i.size) (fun μ' hle => brel_appended hold hnew' (by omega) μ' hle)
      refine ⟨.value _, _, _, _, run (by rw [e1]; exact hrun), .inl rfl, (hg1.trans (Grows.drew hg1.rel)).trans hadd, ?_⟩
      simp only [VRel]
      exact ⟨_, _, _, nc, Where.put_same _ _ _, by simp, by omega, by omega⟩
    -- a new array, known as data
    have freshL : ∀ (base : Option Addr) (len cap : Nat) (h1 : Heap) (part : LPart) (rr : ST × Block) (X : List (List PV)) (O : Array Value), a.eval x = .slice base len cap → cap < len + n → Grows ρ μ h w μ h1 w → appendL h i.size part n new = some rr → (∀ Y, PartDen ρ part Y → Y = X) → X.length = len → (∀ p ∈ X, p.length = i.size) →
        (Builtin.firstCells i.size len (.slice base len cap)).run P w.drew = .ok O w.drew → O.size = len * i.size → RepL μ.ice O 0 X.flatten → r = (.vec h1.next i.size rr.1, h1.add rr.2) → Does P ρ μ h a o w (.val r.1 r.2) := fun base len cap h1 part rr X O e1 hgt hg1 hrr hpart hXl hXs hO hOs hX er => by
      subst er
      obtain ⟨j, A, B, eb, et, hbig, eA, hA, hB, hBs, hBn⟩ := appendL_spec H.tabs.facts hrr
      have := hpart A hA
      subst this
      have hlenj : (ρ.lst j).length = len + n := by rw [eA, List.length_append]; omega
      obtain ⟨nc, rest, hnc, hrest, _, hrun⟩ := run_append_out (P := P) (ty := o.type) (O := O) (L := L') ht hu hd hi hz hln hgt hO hL' hb (by omega)
      have hLs : L'.size = n * i.size := by have := hnew'.length; simp at this; omega
      have htot : (O ++ L' ++ rest).size = nc * i.size := by
        simp only [Array.size_append, hOs, hLs, hrest, hzs]
        rw [← Nat.add_mul, ← Nat.add_mul]
        congr 1; omega
      have hAl : A.flatten.length = len * i.size := by rw [flatten_len hXs, hXl]
      have hBl : B.flatten.length = n * i.size := by rw [flatten_len hBs, hB]
      have hBr : RepL μ.ice L' 0 B.flatten := CsRel.freeze hBn hnew' fun i v hv => by simpa using hv
      have hall : RepLL μ.ice i.size (O ++ L' ++ rest) 0 (ρ.lst j) := by
        rw [RepLL_flat]
        refine ⟨fun p hp => ?_, ?_⟩
        · rw [eA, List.mem_append] at hp
          exact hp.elim (hXs p) (hBs p)
        · rw [eA, List.flatten_append, RepL.append_iff]
          refine ⟨RepL.congr (fun k hk => ?_) hX, RepL.congr (fun k hk => ?_) hBr⟩
          · rw [Array.append_assoc, Array.getElem?_append_left (by omega)]
          · rw [Array.append_assoc, Array.getElem?_append_right (by omega), Array.getElem?_append_left (by omega)]
            congr 1; omega
      have hadd := Grows.add hg1.rel.drew rr.2 (.cells (O ++ L' ++ rest) e) (0, hPut (len + n) nc) (fun μ' hle => by
        rw [eb]
        refine ⟨_, e, rfl, rfl, ?_, ?_, ?_, ?_, RepLL.mono hle.ice hall⟩
        · rw [hLen_put (by omega)]; omega
        · rw [hLen_put (by omega)]; omega
        · rw [hLen_put (by omega), hCap_put (by omega)]; exact hnc
        · rw [hCap_put (by omega), htot]; exact Nat.le_refl _)
      refine ⟨.value _, _, _, _, run (by rw [e1]; exact hrun), .inl rfl, (hg1.trans (Grows.drew hg1.rel)).trans hadd, ?_⟩
      simp only [VRel]
      refine ⟨_, _, len + n, Where.put_same _ _ _, ?_, ?_, ?_, ?_⟩
      · rw [hCap_put (by omega)]
      · rw [et, hlenj]
      · rw [hLen_put (by omega)]; exact Nat.le_refl _
      · rw [hLen_put (by omega), hCap_put (by omega)]; exact hnc
    unfold appendS at hr
    split at hr
    · -- behind a growing list
      rename_i b es m e1
      rw [e1] at hx
      unfold appendV at hr
      obtain ⟨⟨li, les⟩, hli, hr⟩ := bnd_some hr
      obtain ⟨hce, hr2⟩ := cond_some hr
      clear hr
      obtain ⟨rr, hrr, hr3⟩ := bnd_some hr2
      clear hr2
      have hrF : (AVal.vec h.next i.size rr.1, (h.set b none).add rr.2) = r := by simpa using hr3
      clear hr3
      rw [Bool.and_eq_true, nbeq_iff, nbeq_iff] at hce
      obtain ⟨hes, hles⟩ := hce
      have hles : les = es := hles
      subst hles
      subst hes
      have hrr : appendL h i.size (.take li m) n new = some rr := hrr
      obtain ⟨r0, m0, k, hm, e2, hk, hkl, hlc⟩ := hx.vec
      obtain ⟨r1, ⟨δ1, m1⟩, hm1, c0, ty, hobj, h0, h1, h2, h3, h4, h5⟩ := H.blk b _ (listOf_some hli)
      rw [hm] at hm1
      simp only [Option.some.injEq, Prod.mk.injEq] at hm1
      obtain ⟨rfl, rfl, rfl⟩ := hm1
      have h1 : (ρ.lst li).length ≤ hLen m0 := h1
      have h4 : hCap m0 * i.size ≤ c0.size := h4
      have h5 : RepLL μ.ice i.size c0 0 (ρ.lst li) := h5
      have hrr' := hrr
      obtain ⟨j, A, B, eb, et, hbig, eA, hA, hB, hBs, hBn⟩ := appendL_spec H.tabs.facts hrr'
      have hkA : k ≤ (ρ.lst li).length := by
        obtain ⟨_, q, _⟩ := hA
        rw [hk] at q; omega
      have hpart : ∀ Y, PartDen ρ (.take li m) Y → Y = (ρ.lst li).take k := fun Y hY => by
        obtain ⟨_, _, q⟩ := hY
        rw [q, hk]; rfl
      have hXs : ∀ p ∈ (ρ.lst li).take k, p.length = i.size := fun p hp => (RepLL_flat.1 h5).1 p (List.mem_of_mem_take hp)
      have hXl : ((ρ.lst li).take k).length = k := by rw [List.length_take]; omega
      have hX : RepL μ.ice c0 0 ((ρ.lst li).take k).flatten := by
        have := (RepLL_flat.1 h5).2
        rw [← List.take_append_drop k (ρ.lst li), List.flatten_append, RepL.append_iff] at this
        exact this.1
      have hXf : ((ρ.lst li).take k).flatten.length = k * i.size := by rw [flatten_len hXs, hXl]
      by_cases hfit : k + n ≤ hCap m0
      · -- in place
        have := hpart A hA
        subst this
        have hlenj : (ρ.lst j).length = k + n := by rw [eA, List.length_append]; omega
        have hmul : (k + n) * i.size ≤ hCap m0 * i.size := Nat.mul_le_mul_right _ hfit
        rw [Nat.add_mul] at hmul
        have hLs : L.toList.length = n * i.size := by rw [← hnew.length]; exact hlen
        obtain ⟨c', hst, hcs, hcg⟩ := run_storeRow (P := P) L.toList hobj (p := k * i.size) (by omega) hnew.one
        have hBl : B.flatten.length = n * i.size := by rw [flatten_len hBs, hB]
        have hBr : RepL μ.ice L 0 B.flatten := CsRel.freeze hBn hnew fun i v hv => by simpa using hv
        have hall : RepLL μ.ice i.size c' 0 (ρ.lst j) := by
          rw [RepLL_flat]
          refine ⟨fun p hp => ?_, ?_⟩
          · rw [eA, List.mem_append] at hp
            exact hp.elim (hXs p) (hBs p)
          · rw [eA, List.flatten_append, RepL.append_iff]
            refine ⟨RepL.congr (fun q hq => ?_) hX, RepL.congr (fun q hq => ?_) hBr⟩
            · rw [hcg, if_neg (by omega)]
            · rw [hcg, if_pos (by omega), ← Array.getElem?_toList]
              congr 1; omega
        have hmv := Grows.moved (w' := w.setRow r0 c') H (listOf_some hli) hm rr.2 (0, hPut (k + n) (hCap m0)) (fun i hi => setRow_other _ _ _ _ hi) (by simp) rfl rfl (fun μ' hle' => by
          rw [setRow_same _ _ _ _ _ _ hobj, eb]
          refine ⟨c', ty, rfl, rfl, ?_, ?_, ?_, ?_, RepLL.mono hle'.ice hall⟩
          · rw [hLen_put (by omega)]; omega
          · rw [hLen_put (by omega)]; omega
          · rw [hLen_put (by omega), hCap_put (by omega)]; exact hfit
          · rw [hCap_put (by omega)]; omega)
        subst hrF
        refine ⟨.value _, _, _, _, run (v := .slice (some ⟨r0, 0, none⟩) (k + n) (hCap m0)) ?_, .inl rfl, hmv, ?_⟩
        · rw [e2]
          refine run_append_in ht hu hd hss hln hfit hL ?_
          simp only [Addr.add_bare, Nat.zero_add]
          exact hst
        · simp only [VRel]
          refine ⟨_, _, k + n, Where.put_same _ _ _, ?_, ?_, ?_, ?_⟩
          · rw [hCap_put (by omega)]
          · rw [et, hlenj]
          · rw [hLen_put (by omega)]; exact Nat.le_refl _
          · rw [hLen_put (by omega), hCap_put (by omega)]; exact hfit
      · -- a new array
        obtain ⟨l, hll, hlc1, hlc2⟩ := hX.values
        have hO := run_loadCells_list (P := P) (w := w.drew) ⟨r0, 0, none⟩ l (fun j v hv => by
          rw [Addr.add_bare]
          show w.cell? _ = _
          rw [cell_row hobj]; exact hlc1 j v hv)
        rw [hll, hXf] at hO
        refine freshL _ _ _ (h.set b none) _ rr _ l.toArray e2 (by omega) (Grows.drop H b) hrr hpart hXl hXs (by simp [Builtin.firstCells, hO]) (by simp [hll, hXf]) (RepL.congr (fun q hq => ?_) hX) ?_
        · have := hlc2 q hq
          simpa using this.symm
        · rw [← hrF]; rfl
    · -- behind a list that is full
      rename_i li es m e1
      rw [e1] at hx
      unfold appendF at hr
      obtain ⟨hes, hr⟩ := cond_some hr
      obtain ⟨rr, hrr, hrF⟩ := bnd_some hr
      simp only [Option.some.injEq] at hrF
      have hes := nbeq_iff.1 hes
      subst hes
      obtain ⟨hrep, _, hfull⟩ := hx.lst
      obtain ⟨p, e2⟩ := hfull rfl
      obtain ⟨p', c', e2', _, _, hp'⟩ := hx.lst_slice
      rw [e2] at e2'
      simp only [Value.slice.injEq, true_and] at e2'
      obtain ⟨rfl, rfl⟩ := e2'
      have hgt : (ρ.lst li).length < (ρ.lst li).length + n := by omega
      by_cases hz0 : (ρ.lst li).length = 0
      · have hnil : ρ.lst li = [] := List.eq_nil_of_length_eq_zero hz0
        refine freshL _ _ _ h _ rr (ρ.lst li) #[] e2 hgt (Grows.refl H) hrr (fun Y hY => hY) rfl (fun q hq => by rw [hnil] at hq; cases hq) ?_ (by simp [hz0]) (by rw [hnil]; simp only [List.flatten_nil, RepL]) hrF.symm
        rw [hz0]
        cases p <;> simp [Builtin.firstCells, loadCells, loadCellsFrom]
      · obtain ⟨r0, δ, c0, ty, rfl, k1, k2⟩ := hp' hz0
        have hobj := (H.tabs.ice _ _ k1).1
        have hsp := RepLL_flat.1 k2
        obtain ⟨l, hll, hlc1, hlc2⟩ := hsp.2.values
        have hlf := flatten_len hsp.1
        have hO := run_loadCells_list (P := P) (w := w.drew) ⟨r0, δ, none⟩ l (fun j v hv => by
          rw [Addr.add_bare]
          show w.cell? _ = _
          rw [cell_row hobj]; exact hlc1 j v hv)
        rw [hll, hlf] at hO
        refine freshL _ _ _ h _ rr (ρ.lst li) l.toArray e2 hgt (Grows.refl H) hrr (fun Y hY => hY) rfl hsp.1 (by simp [Builtin.firstCells, hO]) (by simp [hll, hlf]) (RepL.congr (fun q hq => ?_) hsp.2) hrF.symm
        have := hlc2 q hq
        simpa using this.symm
    · -- to nil
      rename_i e1
      rw [e1] at hx
      have e2 : a.eval x = .slice none 0 0 := by simpa only [VRel] using hx
      unfold appendNew at hr
      obtain ⟨hbig, hr⟩ := cond_some hr
      simp only [Option.some.injEq] at hr
      exact fresh none 0 0 h [] #[] e2 (by omega) (ble_iff.1 hbig) (Grows.refl H) (by simp) (by simp [Builtin.firstCells]) (by simp only [CsRel]) hr.symm
    · -- a known capacity
      rename_i b off len cap e1
      have hx2 := hx
      rw [e1] at hx
      obtain ⟨r0, δ, m, hm, e2, hle⟩ := hx.slice
      cases hcap : Nat.ble (len + n) cap with
      | true =>
        rw [hcap] at hr
        simp only [cond_true] at hr
        unfold appendIn at hr
        obtain ⟨vs, hvs, hr⟩ := bnd_some hr
        obtain ⟨vs', hsp, hr⟩ := bnd_some hr
        simp only [Option.some.injEq] at hr
        subst hr
        obtain ⟨r1, δ1, m1, hm1, w', hst, hg⟩ := write_sound (P := P) H hvs hnew hsp
        have hg := hg _ (.inl rfl)
        rw [hm] at hm1
        simp only [Option.some.injEq, Prod.mk.injEq] at hm1
        obtain ⟨rfl, rfl, rfl⟩ := hm1
        refine ⟨.value _, _, w', μ, run (v := .slice (some ⟨r0, δ + off, none⟩) (len + n) cap) ?_, .inl rfl, hg, ?_⟩
        · rw [e2]
          refine run_append_in ht hu hd hss hln (ble_iff.1 hcap) hL ?_
          simp only [Addr.add_bare, Nat.add_assoc]
          exact hst
        · simp only [VRel]
          exact ⟨_, _, _, hm, rfl, ble_iff.1 hcap⟩
      | false =>
        rw [hcap] at hr
        simp only [cond_false] at hr
        obtain ⟨old, hold, hr⟩ := bnd_some hr
        unfold appendNew at hr
        obtain ⟨hbig, hr⟩ := cond_some hr
        simp only [Option.some.injEq] at hr
        have hgt : cap < len + n := by
          rcases Nat.lt_or_ge cap (len + n) with h' | h'
          · exact h'
          · rw [ble_iff.2 h'] at hcap; cases hcap
        have hso : srcA h i.size false (ev tm (opd x)) = some old := by rw [e1]; exact hold
        obtain ⟨_, holen, O, hO, hold'⟩ := src_sound (P := P) (w := w.drew) H.drew hx2 hso
        have hl1 : old.1 = len := by
          have hold2 := hold
          unfold srcK at hold2
          rw [cond_beq] at hold2
          split at hold2
          · simp only [Option.some.injEq] at hold2; rw [← hold2]; omega
          · obtain ⟨_, _, hold2⟩ := bnd_some hold2
            obtain ⟨_, _, hold2⟩ := bnd_some hold2
            simp only [Option.some.injEq] at hold2; rw [← hold2]
        rw [hl1] at holen hO
        rw [e2] at hO
        exact fresh _ _ _ h old.2 O e2 hgt (ble_iff.1 hbig) (Grows.refl H) holen hO hold' hr.symm
    · -- an unknown capacity
      rename_i b off len es e1
      have hx2 := hx
      rw [e1] at hx
      obtain ⟨r0, δ, m, cap, hm, e2, hle, hroom⟩ := hx.gslice
      unfold appendU at hr
      obtain ⟨vs, hvs, hr⟩ := bnd_some hr
      obtain ⟨hcond, hr⟩ := cond_some hr
      obtain ⟨old, hold, hr⟩ := bnd_some hr
      simp only [Option.some.injEq] at hr
      rw [Bool.and_eq_true, nbeq_iff, ble_iff] at hcond
      obtain ⟨hes, hbig⟩ := hcond
      obtain ⟨B0, hB0⟩ := cellsOf_get hvs
      obtain ⟨r1, δ1, m1, c1, e3, hm1, hobj, hsz, hcells⟩ := H.cells hvs
      rw [hm] at hm1
      simp only [Option.some.injEq, Prod.mk.injEq] at hm1
      obtain ⟨rfl, rfl, rfl⟩ := hm1
      by_cases hfit : len + n ≤ cap
      · -- in place
        have hmul : (len + n) * i.size ≤ cap * es := by rw [← hes]; exact Nat.mul_le_mul_right _ hfit
        rw [Nat.add_mul] at hmul
        have hLs : L.toList.length = n * i.size := by rw [← hnew.length]; exact hlen
        obtain ⟨c', hst, hcs, hcg⟩ := run_storeRow (P := P) L.toList hobj (p := δ + off + len * i.size) (by omega) hnew.one
        have hspec := cut_spec hold
        have hmv := Grows.moved (w' := w.setRow r0 c') H hB0 hm (.cells (old ++ new)) (δ + off, m - off) (fun i hi => setRow_other _ _ _ _ hi) (by simp) rfl rfl (fun μ' hle' => by
          rw [setRow_same _ _ _ _ _ _ hobj]
          refine ⟨c', e3, rfl, by omega, fun k v hk => ?_⟩
          rw [hcg]
          by_cases hko : k < old.length
          · rw [List.getElem?_append_left hko, hspec.2.2 k] at hk
            rw [hspec.1] at hko
            rw [if_pos hko] at hk
            obtain ⟨u', hu', hs', hr'⟩ := hcells _ _ hk
            refine ⟨u', ?_, hs', hr'.mono hle'⟩
            rw [if_neg (by omega), Nat.add_assoc]
            exact hu'
          · rw [List.getElem?_append_right (by omega)] at hk
            obtain ⟨u', hu', hs', hr'⟩ := hnew.get hk
            refine ⟨u', ?_, hs', hr'.mono hle'⟩
            have hlt := (List.getElem?_eq_some_iff.1 hu').1
            rw [hspec.1] at hu' hlt hko
            rw [if_pos (by omega), ← hu']
            congr 1
            omega)
        subst hr
        refine ⟨.value _, _, _, _, run (v := .slice (some ⟨r0, δ + off, none⟩) (len + n) cap) ?_, .inl rfl, hmv, ?_⟩
        · rw [e2]
          refine run_append_in ht hu hd hss hln hfit hL ?_
          simp only [Addr.add_bare]
          exact hst
        · simp only [VRel]
          refine ⟨_, _, _, cap, Where.put_same _ _ _, rfl, hfit, ?_⟩
          rw [hes]; omega
      · -- a new array
        obtain ⟨l, hll, hlr, hlc⟩ := cut_cells hcells hold
        have hO := run_loadCells_list (P := P) (w := w.drew) ⟨r0, δ + off, none⟩ l (fun j v hv => by
          rw [Addr.add_bare]
          show w.cell? _ = _
          rw [cell_row hobj]; exact hlc j v hv)
        rw [hll] at hO
        refine fresh _ _ _ (h.set b none) old l.toArray e2 (by omega) hbig (Grows.drop H b) ?_ ?_ (by simpa using hlr) ?_
        · rw [hlr.length, hll]
        · simp [Builtin.firstCells, hO]
        · rw [← hr]; rfl
    · cases hr

theorem CsRel.take : ∀ {as : List AVal} {vs : List Value} (k : Nat), CsRel ρ μ as vs → CsRel ρ μ (as.take k) (vs.take k)
  | [], vs, k, e => by simp only [CsRel] at e; subst e; simp only [List.take_nil, CsRel]
  | a :: as, vs, k, e => by
    simp only [CsRel] at e
    obtain ⟨v, rest, rfl, h1, h2⟩ := e
    cases k with
    | zero => simp only [List.take_zero, CsRel]
    | succ k => simp only [List.take_succ_cons, CsRel]; exact ⟨_, _, rfl, h1, CsRel.take k h2⟩

/-- the first of the cells that are copied -/
theorem src_some (H : HRel ρ μ h w) {size n m : Nat} {bytes : Bool} {x : AVal} {u : Value} {cs : List AVal} (hx : VRel ρ μ x u) (hs : srcA h size bytes x = some (n, cs)) (hmn : m ≤ n) :
    ∃ L : Array Value, (Builtin.firstCells size m u).run P w = .ok L w ∧ CsRel ρ μ (cs.take (m * size)) L.toList := by
  have key : ∀ (b off len r δ m' c : Nat), srcK h size b off len = some (n, cs) → μ b = some (r, δ, m') → u = .slice (some ⟨r, δ + off, none⟩) len c →
      ∃ L : Array Value, (Builtin.firstCells size m u).run P w = .ok L w ∧ CsRel ρ μ (cs.take (m * size)) L.toList := fun b off len r δ m' c hs hm e => by
    subst e
    unfold srcK at hs
    rw [cond_beq] at hs
    by_cases h0 : len = 0
    · rw [if_pos h0] at hs
      simp only [Option.some.injEq, Prod.mk.injEq] at hs
      obtain ⟨rfl, rfl⟩ := hs
      have : m = 0 := by omega
      subst this
      exact ⟨#[], by simp [Builtin.firstCells, loadCells, loadCellsFrom], by simp only [List.take_nil, CsRel]⟩
    · rw [if_neg h0] at hs
      obtain ⟨vs, hvs, hs⟩ := bnd_some hs
      obtain ⟨r', hr', hs⟩ := bnd_some hs
      simp only [Option.some.injEq, Prod.mk.injEq] at hs
      obtain ⟨rfl, rfl⟩ := hs
      obtain ⟨r2, δ2, m2, c2, e2, hm2, ho, _, hc⟩ := H.cells hvs
      rw [hm] at hm2
      simp only [Option.some.injEq, Prod.mk.injEq] at hm2
      obtain ⟨rfl, rfl, rfl⟩ := hm2
      obtain ⟨l, hln, hcs, hlc⟩ := cut_cells hc hr'
      have hmul : m * size ≤ l.length := by rw [hln]; exact Nat.mul_le_mul_right _ hmn
      have hrun := run_loadCells_list (P := P) (w := w) ⟨r, δ + off, none⟩ (l.take (m * size)) (fun j v hv => by
        rw [List.getElem?_take] at hv
        split at hv
        · rw [Addr.add_bare, cell_row ho]; exact hlc j v hv
        · cases hv)
      rw [List.length_take, Nat.min_eq_left hmul] at hrun
      exact ⟨(l.take (m * size)).toArray, by simp [Builtin.firstCells, hrun], by simpa using hcs.take (m * size)⟩
  unfold srcA at hs
  split at hs
  · obtain ⟨k1, ⟨rfl, rfl, p, c, rfl⟩ | ⟨r, δ, c, ar, e, rfl, ho, hc⟩⟩ := lst_cells H hx hs
    · have h0 : m = 0 := by omega
      subst h0
      cases p
      · exact ⟨#[], by simp [Builtin.firstCells], by simp only [List.take_nil, CsRel]⟩
      · exact ⟨#[], by simp [Builtin.firstCells, loadCells, loadCellsFrom], by simp only [List.take_nil, CsRel]⟩
    · obtain ⟨l, hln, hcs, hlc⟩ := cut_cells hc (cut_all cs)
      have hmul : m * size ≤ l.length := by rw [hln, k1]; exact Nat.mul_le_mul_right _ hmn
      have hrun := run_loadCells_list (P := P) (w := w) ⟨r, δ, none⟩ (l.take (m * size)) (fun j v hv => by
        rw [List.getElem?_take] at hv
        split at hv
        · rw [Addr.add_bare, cell_row ho]; simpa using hlc j v hv
        · cases hv)
      rw [List.length_take, Nat.min_eq_left hmul] at hrun
      exact ⟨(l.take (m * size)).toArray, by simp [Builtin.firstCells, hrun], by simpa using hcs.take (m * size)⟩
  · simp only [Option.some.injEq, Prod.mk.injEq] at hs
    obtain ⟨rfl, rfl⟩ := hs
    have e : u = .slice none 0 0 := by simpa only [VRel] using hx
    subst e
    exact ⟨#[], by simp [Builtin.firstCells], by simp only [List.take_nil, CsRel]⟩
  · obtain ⟨r, δ, m, hm, e, _⟩ := hx.slice
    exact key _ _ _ _ _ _ _ hs hm e
  · obtain ⟨r, δ, m, c, hm, e, _⟩ := hx.gslice
    exact key _ _ _ _ _ _ _ hs hm e
  · rename_i s
    obtain ⟨hsz, hs2⟩ := cond_some hs
    clear hs
    have hsz := nbeq_iff.1 hsz
    subst hsz
    simp only [Option.some.injEq, Prod.mk.injEq] at hs2
    obtain ⟨rfl, rfl⟩ := hs2
    obtain ⟨b, rfl, rfl⟩ := hx.str
    refine ⟨((b.extract 0 m).data.map fun c => .int .u8 c.toNat), by simp [Builtin.firstCells], ?_⟩
    have hb := (byteCells_rel (ρ := ρ) (μ := μ) b.data.toList).take (m * 1)
    have he : (b.extract 0 m).data.toList = b.data.toList.take m := by
      obtain ⟨⟨l⟩⟩ := b
      have := ByteArray.extract_mk l 0 m
      rw [show (⟨⟨l⟩⟩ : ByteArray) = ByteArray.mk l.toArray from rfl, this]
      simp
    rw [Array.toList_map, he]
    unfold strOf
    simpa [List.map_take] using hb
  · cases hs

theorem does_copy {o : Oper} {c : Call} {t u e : TypeId} {x y : Operand} (ho : o.op = .call c) (hcal : c.callee = .builtin .copy) (hargs : c.args = #[x, y]) (htys : c.argTypes = #[t, u])
    (H : HRel ρ μ h w) (hT : TRel ρ μ tm a) (ht : P.underlying t = some (.slice e)) {size : Nat} (hn : sizeT P e = some size)
    {bytes : Bool} {s : Nat × List AVal} (hs : srcA h size bytes (ev tm (opd y)) = some s) {r : AVal × Heap} (hr : copyA h size (ev tm (opd x)) s.1 s.2 = some r) : Does P ρ μ h a o w (.val r.1 r.2) := by
  have hx := ev_sound hT x
  have hy := ev_sound hT y
  have hss := run_sizeT (w := w) hn
  obtain ⟨n, src⟩ := s
  obtain ⟨hln, hlen, _⟩ := src_sound (P := P) H hy hs
  have run : ∀ {v : Value} {wf : World}, (Builtin.copy_ #[t, u] o.type #[a.eval x, a.eval y]).run P w = .ok v wf → (execOp a.eval o).run P w = .ok (.value v) wf := fun {v wf} hrun => by
    simp [execOp, ho, resolve, hcal, hargs, htys, invoke, builtin, hrun]
  have key : ∀ (b off len : Nat) (r0 δ m0 cap : Nat), μ b = some (r0, δ, m0) → a.eval x = .slice (some ⟨r0, δ + off, none⟩) len cap →
      copyK h size b off (bif Nat.ble n len then n else len) src = some r → Does P ρ μ h a o w (.val r.1 r.2) := fun b off len r0 δ m0 cap hm e2 hr => by
    have hmin : (bif Nat.ble n len then n else len) = min n len := by
      cases hb : Nat.ble n len with
      | true => simp only [cond_true]; have := ble_iff.1 hb; omega
      | false =>
        simp only [cond_false]
        have : ¬ n ≤ len := fun h' => by rw [ble_iff.2 h'] at hb; cases hb
        omega
    rw [hmin] at hr
    obtain ⟨L, hL, hcs⟩ := src_some (P := P) H hy hs (Nat.min_le_left n len)
    unfold copyK at hr
    rw [cond_beq] at hr
    by_cases h0 : min n len = 0
    · rw [if_pos h0] at hr
      simp only [Option.some.injEq] at hr
      subst hr
      rw [h0] at hcs hL
      simp only [Nat.zero_mul, List.take_zero, CsRel] at hcs
      refine ⟨.value (goInt 0), goInt 0, w, μ, run ?_, .inl rfl, Grows.refl H, by simp only [lit, VRel, ST.den]; rfl⟩
      have h0' : Nat.min n len = 0 := h0
      simp [Builtin.copy_, run_underlying ht, e2, hln, hss, h0', hL, hcs, storeCells, goInt]
    · rw [if_neg h0] at hr
      obtain ⟨vs, hvs, hr⟩ := bnd_some hr
      obtain ⟨new, hnew, hr⟩ := bnd_some hr
      obtain ⟨vs', hsp, hr⟩ := bnd_some hr
      simp only [Option.some.injEq] at hr
      subst hr
      obtain ⟨rfl, _⟩ := taken_spec hnew
      obtain ⟨r1, δ1, m1, hm1, w', hst, hg⟩ := write_sound (P := P) H hvs hcs hsp
      have hg := hg _ (.inl rfl)
      rw [hm] at hm1
      simp only [Option.some.injEq, Prod.mk.injEq] at hm1
      obtain ⟨rfl, rfl, rfl⟩ := hm1
      refine ⟨.value (goInt (min n len : Nat)), _, w', μ, run ?_, .inl rfl, hg, by simp only [lit, VRel, ST.den]; rfl⟩
      have hL' : (Builtin.firstCells size (Nat.min n len) (a.eval y)).run P w = .ok L w := hL
      simp [Builtin.copy_, run_underlying ht, e2, hln, hss, hL', hst, goInt]
  unfold copyA at hr
  split at hr
  · rename_i e1
    rw [e1] at hx
    have e2 : a.eval x = .slice none 0 0 := by simpa only [VRel] using hx
    simp only [Option.some.injEq] at hr
    subst hr
    obtain ⟨L, hL, hcs⟩ := src_some (P := P) H hy hs (Nat.zero_le n)
    refine ⟨.value (goInt 0), goInt 0, w, μ, run ?_, .inl rfl, Grows.refl H, by simp only [lit, VRel, ST.den]; rfl⟩
    have h0 : Nat.min n 0 = 0 := Nat.min_zero n
    simp [Builtin.copy_, run_underlying ht, e2, hln, hss, h0, hL, goInt]
  · rename_i e1
    rw [e1] at hx
    obtain ⟨r0, δ, m0, hm, e2, _⟩ := hx.slice
    exact key _ _ _ _ _ _ _ hm e2 hr
  · rename_i e1
    rw [e1] at hx
    obtain ⟨r0, δ, m0, cap, hm, e2, _⟩ := hx.gslice
    exact key _ _ _ _ _ _ _ hm e2 hr
  · cases hr

end
end Go.AM
