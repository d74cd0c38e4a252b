/- The abstract machine's operations that read nothing, continued: composites, comparisons, slices. -/
import Derived.Test.YthgbnljjolhodaaGreatDoorAmPure
import Derived.WideLaws
set_option linter.all false
namespace Go.AM

section
variable {P : Program} {Γ : Facts} {ρ : Env} {μ : Where} {tm : Tr AVal} {a : Act} {w : World}

/-! ### Filling -/

theorem foldl_set_list (off : Nat) : ∀ (l : List Value) (k : Nat) (cells : Array Value), off + k + l.length ≤ cells.size →
    ((l.zipIdx k).foldl (fun (cs : Array Value) (x : Value × Nat) => cs.setIfInBounds (off + x.2) x.1) cells).size = cells.size ∧
    ∀ i, ((l.zipIdx k).foldl (fun (cs : Array Value) (x : Value × Nat) => cs.setIfInBounds (off + x.2) x.1) cells)[i]? = if off + k ≤ i ∧ i < off + k + l.length then l[i - (off + k)]? else cells[i]?
  | [], k, cells, h => ⟨rfl, fun i => by rw [if_neg (by simp only [List.length_nil]; omega)]; rfl⟩
  | v :: l, k, cells, h => by
    simp only [List.length_cons] at h
    rw [List.zipIdx_cons, List.foldl_cons]
    obtain ⟨h1, h2⟩ := foldl_set_list off l (k + 1) (cells.setIfInBounds (off + k) v) (by simp; omega)
    refine ⟨by rw [h1]; simp, fun i => ?_⟩
    rw [h2 i]
    simp only [List.length_cons]
    by_cases hi : off + k = i
    · subst hi
      rw [if_neg (by omega), if_pos (by omega), Array.getElem?_setIfInBounds_self_of_lt (by omega)]
      simp
    · by_cases hj : off + (k + 1) ≤ i ∧ i < off + (k + 1) + l.length
      · rw [if_pos hj, if_pos (by omega)]
        have : i - (off + k) = (i - (off + (k + 1))) + 1 := by omega
        rw [this, List.getElem?_cons_succ]
      · rw [if_neg hj, if_neg (by omega), Array.getElem?_setIfInBounds_ne hi]

theorem foldl_set (off : Nat) (v cells : Array Value) (h : off + v.size ≤ cells.size) :
    (v.zipIdx.foldl (fun (cs : Array Value) (x : Value × Nat) => cs.setIfInBounds (off + x.2) x.1) cells).size = cells.size ∧
    ∀ i, (v.zipIdx.foldl (fun (cs : Array Value) (x : Value × Nat) => cs.setIfInBounds (off + x.2) x.1) cells)[i]? = if off ≤ i ∧ i < off + v.size then v[i - off]? else cells[i]? := by
  have := foldl_set_list off v.toList 0 cells (by simpa using h)
  rw [← Array.foldl_toList, Array.toList_zipIdx]
  simpa using this

theorem CsRel.spliced {vs cs r : List AVal} {x y : Array Value} {off : Nat} (hx : CsRel ρ μ cs x.toList) (hy : CsRel ρ μ vs y.toList) (h : splice vs off cs = some r) :
    off + y.size ≤ x.size ∧ ∀ z : Array Value, z.size = x.size → (∀ i, z[i]? = if off ≤ i ∧ i < off + y.size then y[i - off]? else x[i]?) → CsRel ρ μ r z.toList := by
  obtain ⟨h1, h2, h3⟩ := splice_spec h
  have lx : cs.length = x.size := by simpa using hx.length
  have ly : vs.length = y.size := by simpa using hy.length
  refine ⟨by omega, fun z hz hg => CsRel.of_get (by rw [h1, lx, ← hz]; simp) fun i b hb => ?_⟩
  rw [h3 i] at hb
  rw [Array.getElem?_toList, hg i]
  rw [ly] at hb
  split at hb
  · rename_i hc
    rw [if_pos hc]
    simpa using hy.get hb
  · rename_i hc
    rw [if_neg hc]
    simpa using hx.get hb

theorem fillOne_sound {cs r : List AVal} {x : Array Value} {v : AVal} {u : Value} {off size : Nat} (hx : CsRel ρ μ cs x.toList) (hv : VRel ρ μ v u) (h : fillOne cs v off size = some r) :
    u.cells.size = size ∧ off + u.cells.size ≤ x.size ∧ ∀ z : Array Value, z.size = x.size → (∀ i, z[i]? = if off ≤ i ∧ i < off + u.cells.size then u.cells[i - off]? else x[i]?) → CsRel ρ μ r z.toList := by
  unfold fillOne at h
  obtain ⟨vs, hvs, h⟩ := bnd_some h
  obtain ⟨hl, h⟩ := cond_some h
  have hy := hv.cells hvs
  obtain ⟨h1, h2⟩ := hx.spliced hy h
  refine ⟨?_, h1, h2⟩
  have := nbeq_iff.1 hl
  rw [llen_eq] at this
  rw [← this]
  simpa using hy.length.symm

theorem fill_sound (hT : TRel ρ μ tm a) : ∀ {parts : List (Nat × Operand)} {ps : List (Nat × Nat × Opd)} {place place' : Nat → Option (Nat × Nat)} {cs r : List AVal} {x : Array Value},
    partsOf place parts = some ps → (∀ i y, place i = some y → place' i = some y) → CsRel ρ μ cs x.toList → fillA tm ps cs = some r →
    ∃ z : Array Value, Instr.fill place' x (parts.map fun p => (p.1, a.eval p.2)) = some z ∧ CsRel ρ μ r z.toList
  | [], ps, place, place', cs, r, x, hp, hpl, hx, h => by
    simp only [partsOf, Option.some.injEq] at hp
    subst hp
    have h : some cs = some r := h
    simp only [Option.some.injEq] at h
    subst h
    exact ⟨x, rfl, hx⟩
  | (i, y) :: parts, ps, place, place', cs, r, x, hp, hpl, hx, h => by
    simp only [partsOf] at hp
    split at hp
    · rename_i off size ps' h1 h2
      simp only [Option.some.injEq] at hp
      subst hp
      have h : (bnd (fillOne cs (ev tm (opd y)) off size) (fillA tm ps')) = some r := h
      obtain ⟨cs', hc, h⟩ := bnd_some h
      obtain ⟨e1, e2, e3⟩ := fillOne_sound hx (ev_sound hT y) hc
      obtain ⟨f1, f2⟩ := foldl_set off (a.eval y).cells x e2
      have hx' := e3 _ f1 f2
      obtain ⟨z, hz, hr⟩ := fill_sound hT h2 hpl hx' h
      refine ⟨z, ?_, hr⟩
      simp only [List.map_cons, Instr.fill, hpl i _ h1]
      rw [if_neg (by simp; omega)]
      exact hz
    · cases hp

theorem zeroT_sound {t : TypeId} {cs : List AVal} (h : zeroT P t = some cs) : ∃ v, (zeroValue t).run P w = .ok v w ∧ CsRel ρ μ cs v.cells.toList := by
  unfold zeroT at h
  cases e : P.info? t with
  | none => rw [e] at h; cases h
  | some i =>
    rw [e] at h
    simp only at h
    obtain ⟨v, hv, h⟩ := Option.bind_eq_some_iff.1 h
    obtain ⟨cs', hc, h⟩ := Option.bind_eq_some_iff.1 h
    split at h
    · simp only [Option.some.injEq] at h
      subst h
      exact ⟨v, by simp [zeroValue, typeInfo, e, hv], (absV_sound v).cells hc⟩
    · cases h

theorem run_mapM_places : ∀ (fs : List Field), fs.all (fun f => (P.info? f.type).isSome) = true →
    (fs.mapM fun f => Functor.map (Prod.mk f.offset) (sizeOf f.type)).run P w = .ok (fs.map fun f => (f.offset, P.cellsOf f.type)) w
  | [], _ => by simp
  | f :: fs, h => by
    simp only [List.all_cons, Bool.and_eq_true] at h
    obtain ⟨i, hi⟩ := Option.isSome_iff_exists.1 h.1
    have hs : (sizeOf f.type).run P w = .ok i.size w := by simp [sizeOf, typeInfo, hi]
    simp [List.mapM_cons, run_mapM_places fs h.2, hs, Program.cellsOf, hi]

theorem gives_build_struct {o : Oper} {t : TypeId} {parts : Array (Nat × Operand)} (ho : o.op = .build t parts) (hT : TRel ρ μ tm a) {fs : Array Field} {z : List AVal} {ps : List (Nat × Nat × Opd)}
    (hu : P.underlying t = some (.struct fs)) (hz : zeroT P t = some z) (hall : fs.all (fun f => (P.info? f.type).isSome) = true)
    (hp : partsOf (fun i => (fs[i]?).bind fun f => (sizeT P f.type).map fun n => (f.offset, n)) parts.toList = some ps) {v : AVal} (h : buildV (fillA tm ps z) = some v) : Gives P ρ μ a o w v := by
  obtain ⟨zv, h1, h2⟩ := zeroT_sound (w := w) (ρ := ρ) (μ := μ) hz
  unfold buildV at h
  obtain ⟨r, hr, h⟩ := bnd_some h
  simp only [Option.some.injEq] at h
  subst h
  have hpl : ∀ i y, ((fs[i]?).bind fun (f : Field) => (sizeT P f.type).map fun n => (f.offset, n)) = some y → (fs.map fun f => (f.offset, P.cellsOf f.type))[i]? = some y := fun i y e => by
    obtain ⟨f, hf, e⟩ := Option.bind_eq_some_iff.1 e
    obtain ⟨n, hn, e⟩ := Option.map_eq_some_iff.1 e
    rw [Array.getElem?_map, hf, ← e]
    unfold sizeT at hn
    simp [Program.cellsOf, hn]
  obtain ⟨x, hx, hc⟩ := fill_sound hT hp hpl h2 hr
  refine ⟨.agg x, ?_, by simp only [VRel]; exact ⟨x, rfl, hc⟩⟩
  have hall' : fs.toList.all (fun f => (P.info? f.type).isSome) = true := by rw [← hall]; simp
  have hm := run_mapM_places (w := w) fs.toList hall'
  have he : (parts.map fun x => (x.1, a.eval x.2)).toList = parts.toList.map fun p => (p.1, a.eval p.2) := by simp
  have hx' : Instr.fill (fun i => (fs.map fun f => (f.offset, P.cellsOf f.type))[i]?) zv.cells ((parts.map fun x => (x.1, a.eval x.2)).toList) = some x := by rw [he]; exact hx
  simp [execOp, ho, Instr.build, h1, run_underlying hu, Array.mapM_eq_mapM_toList, hm]
  simp at hx'
  rw [hx']
  simp

theorem gives_build_array {o : Oper} {t e : TypeId} {len n : Nat} {parts : Array (Nat × Operand)} (ho : o.op = .build t parts) (hT : TRel ρ μ tm a) {z : List AVal} {ps : List (Nat × Nat × Opd)}
    (hu : P.underlying t = some (.array len e)) (hz : zeroT P t = some z) (hn : sizeT P e = some n)
    (hp : partsOf (fun i => some (i * n, n)) parts.toList = some ps) {v : AVal} (h : buildV (fillA tm ps z) = some v) : Gives P ρ μ a o w v := by
  obtain ⟨zv, h1, h2⟩ := zeroT_sound (w := w) (ρ := ρ) (μ := μ) hz
  unfold buildV at h
  obtain ⟨r, hr, h⟩ := bnd_some h
  simp only [Option.some.injEq] at h
  subst h
  obtain ⟨x, hx, hc⟩ := fill_sound (place' := fun i => some (i * n, n)) hT hp (fun i y e => e) h2 hr
  refine ⟨.agg x, ?_, by simp only [VRel]; exact ⟨x, rfl, hc⟩⟩
  have he : (parts.map fun x => (x.1, a.eval x.2)).toList = parts.toList.map fun p => (p.1, a.eval p.2) := by simp
  have hx' : Instr.fill (fun i => some (i * n, n)) zv.cells ((parts.map fun x => (x.1, a.eval x.2)).toList) = some x := by rw [he]; exact hx
  have hs := run_sizeT (w := w) hn
  simp [execOp, ho, Instr.build, h1, run_underlying hu, hs]
  simp at hx'
  rw [hx']
  simp

/-! ### Numbers, strings, tests -/

theorem strOf_append (b c : ByteArray) : strOf (b ++ c) = strOf b ++ strOf c := by simp [strOf, ByteArray.data_append]

theorem strV_rel {x : AVal} {b : ByteArray} (h : strV ρ x = some (strOf b)) : VRel ρ μ x (.string b) := by
  cases x <;> simp only [strV, Option.some.injEq, reduceCtorEq] at h
  case str => simp only [VRel]; exact ⟨b, rfl, h.symm⟩
  case svar => simp only [VRel]; exact ⟨b, rfl, h.symm⟩

theorem binV_sound {o : Oper} {op : BinOp} {t yt : TypeId} {x y : Operand} (ho : o.op = .binOp op t x y yt) (hΓ : Γ.Hold ρ) {X Y : AVal} (hx : VRel ρ μ X (a.eval x)) (hy : VRel ρ μ Y (a.eval y)) {v : AVal} (h : binV Γ op X Y = some v) : Gives P ρ μ a o w v := by
  unfold binV at h
  split at h
  · obtain ⟨b, hb, h⟩ := bnd_some h
    simp only [Option.some.injEq] at h
    subst h
    obtain ⟨s, u, h1, h2, h3⟩ := hΓ.strs _ (lookS_mem hb)
    obtain ⟨b1, e1, rfl⟩ := strV_sound h1 hx
    obtain ⟨b2, e2, rfl⟩ := strV_sound h2 hy
    have h3 : b = decide (strOf b1 = strOf b2) := h3
    refine ⟨.bool (b1.toList == b2.toList), ?_, ?_⟩
    · simp only [execOp, ho, e1, e2, eqGuard_at_string, binOp, Op.stringOp, Sem.run_bind, Sem.run_pure, Result.andThen_ok]
    · simp only [VRel, SB.den]
      rw [← strOf_beq, h3]
      congr 1
      rw [Bool.eq_iff_iff, beqL_iff]; simp
  · obtain ⟨b, hb, h⟩ := bnd_some h
    simp only [Option.some.injEq] at h
    subst h
    obtain ⟨s, u, h1, h2, h3⟩ := hΓ.strs _ (lookS_mem hb)
    obtain ⟨b1, e1, rfl⟩ := strV_sound h1 hx
    obtain ⟨b2, e2, rfl⟩ := strV_sound h2 hy
    have h3 : b = decide (strOf b1 = strOf b2) := h3
    refine ⟨.bool (!(b1.toList == b2.toList)), ?_, ?_⟩
    · simp only [execOp, ho, e1, e2, eqGuard_at_string, binOp, Op.stringOp, Sem.run_bind, Sem.run_pure, Result.andThen_ok]
    · simp only [VRel, SB.den]
      rw [← strOf_beq, h3]
      congr 2
      rw [Bool.eq_iff_iff, beqL_iff]; simp
  · obtain ⟨s, u, h1, h2, h3, h4⟩ := hΓ.cats _ (lookC_mem h)
    obtain ⟨b1, e1, rfl⟩ := strV_sound h1 hx
    obtain ⟨b2, e2, rfl⟩ := strV_sound h2 hy
    refine ⟨.string (b1 ++ b2), ?_, strV_rel (by rw [strOf_append]; exact h3)⟩
    rw [strOf_length, strOf_length] at h4
    have hn : ¬ (((b1.size + b2.size : Nat) : Int) > IntKind.i64.max) := by
      have : IntKind.i64.max = 9223372036854775807 := by decide
      rw [this]; omega
    simp only [execOp, ho, e1, e2, eqGuard_at_string, binOp, Op.stringOp, Sem.run_bind, Sem.run_pure, Result.andThen_ok]
    rw [if_neg hn]
    rfl
  · cases h

theorem gives_bin {o : Oper} {op : BinOp} {t yt : TypeId} {x y : Operand} (ho : o.op = .binOp op t x y yt) (hΓ : Γ.Hold ρ) (hT : TRel ρ μ tm a) {v : AVal} (h : binA Γ op (ev tm (opd x)) (ev tm (opd y)) = some v) : Gives P ρ μ a o w v := by
  have hx := ev_sound hT x
  have hy := ev_sound hT y
  unfold binA at h
  split at h
  · rename_i k m k' n hb hc
    rw [hb] at hx
    rw [hc] at hy
    have e1 := hx.int
    have e2 := hy.int
    unfold binI at h
    cases hs : isShift op with
    | true =>
      rw [hs] at h
      simp only [cond_true] at h
      unfold shiftA at h
      split at h
      · rename_i p q
        obtain ⟨r, hr, h⟩ := bnd_some h
        simp only [Option.some.injEq] at h
        subst h
        refine ⟨.int k r, ?_, by simp only [VRel, ST.den]⟩
        have hsh := shiftI_sound (yk := k') hr
        cases op <;> simp only [isShift, Bool.false_eq_true] at hs <;> simp [execOp, ho, e1, e2, ST.den, eqGuard_at_int, binOp, hsh]
      · cases h
    | false =>
      rw [hs] at h
      simp only [cond_false] at h
      cases hk : keq k k' with
      | false => rw [hk] at h; simp at h
      | true =>
        have ek := keq_iff.1 hk
        subst ek
        rw [hk] at h
        simp only [Bool.not_true, cond_false] at h
        cases hcm : isCmp op with
        | true =>
          rw [hcm] at h
          simp only [cond_true] at h
          obtain ⟨s, hs', h⟩ := bnd_some h
          simp only [Option.some.injEq] at h
          subst h
          have hd := (compare_sound hΓ hs').1
          refine ⟨.bool (cmpV op (m.den ρ) (n.den ρ)), ?_, by simp only [VRel]; rw [hd]⟩
          simp [execOp, ho, e1, e2, eqGuard_at_int, binOp_cmp hcm]
        | false =>
          rw [hcm] at h
          simp only [cond_false] at h
          obtain ⟨s, hs', h⟩ := bnd_some h
          simp only [Option.some.injEq] at h
          subst h
          obtain ⟨hd, hz, _, _⟩ := arith_sound hΓ hs'
          refine ⟨.int k (arithV op k (m.den ρ) (n.den ρ)), ?_, by simp only [VRel]; rw [hd]⟩
          simp [execOp, ho, e1, e2, eqGuard_at_int, binOp_arith hz hcm hs]
  · rename_i s s' hb hc
    rw [hb] at hx
    rw [hc] at hy
    obtain ⟨b, e1, rfl⟩ := hx.str
    obtain ⟨c, e2, rfl⟩ := hy.str
    cases op
    case add =>
      simp only [strCmp] at h
      obtain ⟨hb2, h⟩ := cond_some h
      have hb2 := ble_iff.1 hb2
      simp only [Option.some.injEq] at h
      subst h
      refine ⟨.string (b ++ c), ?_, by simp only [VRel]; exact ⟨_, rfl, strOf_append _ _⟩⟩
      rw [nlen_eq, nlen_eq, strOf_length, strOf_length] at hb2
      have hn : ¬ (((b.size + c.size : Nat) : Int) > IntKind.i64.max) := by
        have : IntKind.i64.max = 9223372036854775807 := by decide
        rw [this]; omega
      simp only [execOp, ho, e1, e2, eqGuard_at_string, binOp, Op.stringOp, Sem.run_bind, Sem.run_pure, Result.andThen_ok]
      rw [if_neg hn]
      rfl
    all_goals
      simp only [strCmp, Option.some.injEq, reduceCtorEq] at h <;> subst h <;>
      refine ⟨_, by simp only [execOp, ho, e1, e2, eqGuard_at_string, binOp, Op.stringOp, Sem.run_bind, Sem.run_pure, Result.andThen_ok]; rfl, by simp only [VRel, SB.den, strOf_beq, strOf_lt]⟩
  · rename_i hb hc
    rw [hb] at hx
    rw [hc] at hy
    exact binV_sound ho hΓ hx hy h
  · rename_i hb hc
    rw [hb] at hx
    rw [hc] at hy
    exact binV_sound ho hΓ hx hy h
  · rename_i hb hc
    rw [hb] at hx
    rw [hc] at hy
    exact binV_sound ho hΓ hx hy h
  · cases h

theorem gives_un {o : Oper} {op : UnOp} {t : TypeId} {x : Operand} (ho : o.op = .unOp op t x) (hΓ : Γ.Hold ρ) (hT : TRel ρ μ tm a) {v : AVal} (h : unA Γ op (ev tm (opd x)) = some v) : Gives P ρ μ a o w v := by
  have hx := ev_sound hT x
  unfold unA at h
  split at h
  · rename_i k n hb
    rw [hb] at hx
    have e := hx.int
    obtain ⟨s, hs, h⟩ := bnd_some h
    simp only [Option.some.injEq] at h
    subst h
    obtain ⟨hd, _⟩ := arith_sound hΓ hs
    refine ⟨.int k (s.den ρ), ?_, by simp only [VRel]⟩
    rw [hd]
    simp [execOp, ho, e, unary_neg, Op.intArith, arithV, ST.den]
  · rename_i k n hb
    rw [hb] at hx
    have e := hx.int
    obtain ⟨s, hs, h⟩ := bnd_some h
    simp only [Option.some.injEq] at h
    subst h
    obtain ⟨hd, _⟩ := arith_sound hΓ hs
    refine ⟨.int k (s.den ρ), ?_, by simp only [VRel]⟩
    rw [hd]
    have hm : ((.lit (bif signedK k then Int.negSucc 0 else Int.ofNat (modulus k - 1)) : ST).den ρ) = if k.signed then -1 else k.max := by
      cases k <;> rfl
    rw [hm]
    simp [execOp, ho, e, unary_xor, intBits_xor, arithV]
  · rename_i b hb
    rw [hb] at hx
    have e := hx.bool
    simp only [Option.some.injEq] at h
    subst h
    exact ⟨.bool (!b), by simp [execOp, ho, e, unary_not, SB.den], by simp only [VRel, SB.den]⟩
  · rename_i b _ hb
    rw [hb] at hx
    have e := hx.bool
    simp only [Option.some.injEq] at h
    subst h
    exact ⟨.bool (!(b.den ρ)), by simp [execOp, ho, e, unary_not], by simp only [VRel, SB.den]⟩
  · cases h

theorem gives_conv {o : Oper} {s d : TypeId} {k0 k : IntKind} {x : Operand} (ho : o.op = .convert s d x) (hΓ : Γ.Hold ρ) (hT : TRel ρ μ tm a) (hs : P.underlying s = some (.int k0)) (hd : P.underlying d = some (.int k))
    {v : AVal} (h : convV Γ k (ev tm (opd x)) = some v) : Gives P ρ μ a o w v := by
  have hx := ev_sound hT x
  unfold convV at h
  split at h
  · rename_i k1 n hb
    rw [hb] at hx
    have e := hx.int
    simp only [Option.some.injEq] at h
    subst h
    refine ⟨.int k (k.wrap (n.den ρ)), ?_, by simp only [VRel]; rw [convert_sound hΓ]⟩
    simp [execOp, ho, e, Go.convert, run_underlying hs, run_underlying hd, Conv.intToInt]
  · cases h

theorem gives_same {o : Oper} {s d : TypeId} {x : Operand} (ho : o.op = .convert s d x) (hT : TRel ρ μ tm a) (hs : P.underlying s = some .string) (hd : P.underlying d = some .string)
    {v : AVal} (h : sameV (ev tm (opd x)) = some v) : Gives P ρ μ a o w v := by
  have hx := ev_sound hT x
  unfold sameV at h
  split at h
  · rename_i c hb
    rw [hb] at hx
    simp only [Option.some.injEq] at h
    subst h
    have hx2 := hx
    obtain ⟨b, e, _⟩ := hx.str
    refine ⟨a.eval x, ?_, hx2⟩
    simp [execOp, ho, e, Go.convert, run_underlying hs, run_underlying hd]
  · cases h

theorem bigL_sound {Γ : Facts} (hΓ : Γ.Hold ρ) (most : Bool) : ∀ {xs : List AVal} {x v : AVal} {us : List Value} {u : Value}, VRel ρ μ x u → VsRel ρ μ xs us → bigL Γ most xs x = some v →
    ∃ v', (us.foldlM (if most then Builtin.max2 else Builtin.min2) u).run P w = .ok v' w ∧ VRel ρ μ v v'
  | [], x, v, us, u, hu, hs, h => by
    simp only [VsRel] at hs
    subst hs
    have h : some x = some v := h
    simp only [Option.some.injEq] at h
    subst h
    exact ⟨u, by simp, hu⟩
  | y :: ys, x, v, us, u, hu, hs, h => by
    simp only [VsRel] at hs
    obtain ⟨u', rest, rfl, hy, hr⟩ := hs
    have h0 : bnd (bigTwo Γ most x y) (bigL Γ most ys) = some v := h
    clear h
    obtain ⟨z, hz, hrest⟩ := bnd_some h0
    clear h0
    unfold bigTwo at hz
    split at hz
    · rename_i k m k' n
      obtain ⟨hk, hz2⟩ := cond_some hz
      have ek := keq_iff.1 hk
      subst ek
      split at hz2
      case h_2 => cases hz2
      rename_i c hc0
      simp only [Option.some.injEq] at hz2
      have hz := hz2
      have e1 := hu.int
      have e2 := hy.int
      subst e1 e2
      have hcv : c = (bif most then decide (m.den ρ < n.den ρ) else decide (n.den ρ < m.den ρ)) := by
        cases most with
        | true => exact (compare_sound hΓ hc0).1
        | false => exact (compare_sound hΓ hc0).1
      have hzr : VRel ρ μ z (.int k (bif c then n.den ρ else m.den ρ)) := by rw [← hz]; cases c <;> simp only [VRel, cond_true, cond_false]
      obtain ⟨v', h1, h2⟩ := bigL_sound hΓ most hzr hr hrest
      subst hcv
      generalize m.den ρ = m at *
      generalize n.den ρ = n at *
      refine ⟨v', ?_, h2⟩
      rw [← h1, List.foldlM_cons]
      cases most
      · simp only [Bool.false_eq_true, if_false, cond_false, Sem.run_bind]
        simp only [Builtin.min2, Sem.run_pure, Result.andThen_ok]
        congr 2
        by_cases hc : n < m <;> simp [hc]
      · simp only [if_true, cond_true, Sem.run_bind]
        simp only [Builtin.max2, Sem.run_pure, Result.andThen_ok]
        congr 2
        by_cases hc : m < n <;> simp [hc]
    · cases hz

theorem gives_big {Γ : Facts} (hΓ : Γ.Hold ρ) {o : Oper} {xs : List Operand} {c : Call} {most : Bool} (ho : o.op = .call c) (hcal : c.callee = .builtin (if most then .max else .min)) (hargs : c.args.toList = xs) (hT : TRel ρ μ tm a)
    {v : AVal} (h : bigV Γ most (evL tm (opds xs)) = some v) : Gives P ρ μ a o w v := by
  cases xs with
  | nil => have h : none = some v := h; cases h
  | cons x xs =>
    have h : bigL Γ most (evL tm (opds xs)) (ev tm (opd x)) = some v := h
    obtain ⟨v', h1, h2⟩ := bigL_sound (P := P) (w := w) hΓ most (ev_sound hT x) (evL_sound hT xs) h
    refine ⟨v', ?_, h2⟩
    cases most
    · have hcal : c.callee = .builtin .min := hcal
      have h1 : Sem.run P (List.foldlM Builtin.min2 (a.eval x) (List.map a.eval xs)) w = .ok v' w := h1
      simp [execOp, ho, resolve, hcal, invoke, builtin, Builtin.min_, hargs, h1]
    · have hcal : c.callee = .builtin .max := hcal
      have h1 : Sem.run P (List.foldlM Builtin.max2 (a.eval x) (List.map a.eval xs)) w = .ok v' w := h1
      simp [execOp, ho, resolve, hcal, invoke, builtin, Builtin.max_, hargs, h1]

end
end Go.AM
