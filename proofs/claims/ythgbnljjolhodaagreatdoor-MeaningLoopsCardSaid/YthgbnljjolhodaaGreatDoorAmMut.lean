/- The abstract machine's operations that change memory, call, defer or panic. -/
import Derived.Test.YthgbnljjolhodaaGreatDoorAmNew
import Derived.Laws.CopyRow
import Derived.Laws.Append
import Derived.KernelRfl
set_option linter.all false
namespace Go.AM

section
variable {P : Program} {Γ : Facts} {ρ : Env} {μ : Where} {tm : Tr AVal} {a : Act} {w : World} {h : Heap}

theorem setRow_other (w : World) (g i : Nat) (c : Array Value) (hi : i ≠ g) : (w.setRow g c).heap[i]? = w.heap[i]? := by
  unfold World.setRow
  simp only [Array.getElem?_modify]
  rw [if_neg (Ne.symm hi)]

theorem setRow_same (w : World) (g : Nat) (c cur : Array Value) (t : TypeId) (fr : Nat × Nat) (hg : w.heap[g]? = some (.cells cur t fr)) : (w.setRow g c).heap[g]? = some (.cells c t fr) := by
  unfold World.setRow
  simp only [Array.getElem?_modify]
  rw [if_pos trivial, hg]
  rfl

/-- a row of cells is stored -/
theorem run_storeRow {r p : Nat} {c : Array Value} {e : TypeId} (L : List Value) (hg : w.heap[r]? = some (.cells c e (0, 0))) (hfit : p + L.length ≤ c.size) (h1 : ∀ v ∈ L, v.oneCell' = true) :
    ∃ c' : Array Value, (storeCells ⟨r, p, none⟩ L).run P w = .ok () (w.setRow r c') ∧ c'.size = c.size ∧ ∀ k, c'[k]? = if p ≤ k ∧ k < p + L.length then L[k - p]? else c[k]? := by
  refine ⟨_, run_storeCells_at P r p e L 0 c w hg (by omega) h1, ?_, fun k => ?_⟩
  · simp; omega
  · simp only [Nat.add_zero, List.getElem?_toArray]
    rw [List.append_assoc]
    have hl : (c.toList.take p).length = p := by simp; omega
    by_cases hk : k < p
    · rw [List.getElem?_append_left (by omega), List.getElem?_take, if_pos hk, if_neg (by omega)]
      simp
    · rw [List.getElem?_append_right (by omega), hl]
      by_cases hk2 : k < p + L.length
      · rw [List.getElem?_append_left (by omega), if_pos (by omega)]
      · rw [List.getElem?_append_right (by omega), List.getElem?_drop, if_neg (by omega)]
        rw [Array.getElem?_toList]
        congr 1
        omega

theorem CsRel.one : ∀ {as : List AVal} {vs : List Value}, CsRel ρ μ as vs → ∀ v ∈ vs, v.oneCell' = true
  | [], _, e, v, hv => by simp only [CsRel] at e; subst e; cases hv
  | _ :: _, _, e, v, hv => by
    simp only [CsRel] at e
    obtain ⟨u, rest, rfl, ⟨hs, hr⟩, h⟩ := e
    cases hv with
    | head => exact hr.oneCell hs
    | tail _ hv => exact CsRel.one h v hv

theorem HRel.get_lt (H : HRel ρ μ h w) {b : Nat} {vs : List AVal} {r δ m : Nat} {c : Array Value} {e : TypeId} (hsz : δ + m ≤ c.size) (hc : ∀ (i : Nat) (x : AVal), vs[i]? = some x → ∃ v, c[δ + i]? = some v ∧ x.single = true ∧ VRel ρ μ x v) : δ + vs.length ≤ c.size := by
  cases hl : vs.length with
  | zero => omega
  | succ n =>
    obtain ⟨v, hv, _⟩ := hc n _ (List.getElem?_eq_getElem (by omega))
    have := (Array.getElem?_eq_some_iff.1 hv).1
    omega

/-- cells of a block are overwritten -/
theorem write_sound (H : HRel ρ μ h w) {b off : Nat} {vs vs' new : List AVal} {L : List Value} (hb : cellsOf (h.get b) = some vs) (hn : CsRel ρ μ new L) (hs : splice new off vs = some vs') :
    ∃ r δ m, μ b = some (r, δ, m) ∧ ∃ w', (storeCells ⟨r, δ + off, none⟩ L).run P w = .ok () w' ∧ ∀ B', (B' = .cells vs' ∨ B' = likeB (h.get b) vs') → Grows ρ μ h w μ (h.set b (some B')) w' := by
  obtain ⟨r, δ, m, c, e, hm, ho, hsz, hc⟩ := H.cells hb
  obtain ⟨B0, hB0⟩ := cellsOf_get hb
  obtain ⟨h1, h2, h3⟩ := splice_spec hs
  have hl := hn.length
  have hlt := H.get_lt (b := b) (r := r) (e := e) hsz hc
  obtain ⟨c', hrun, hcs, hcg⟩ := run_storeRow (P := P) L ho (p := δ + off) (by omega) hn.one
  refine ⟨r, δ, m, hm, _, hrun, fun B' hB' => ?_⟩
  have hcell : ∀ (i : Nat) (x : AVal), vs'[i]? = some x → ∃ v, c'[δ + i]? = some v ∧ x.single = true ∧ VRel ρ μ x v := fun i x hx => by
    rw [h3] at hx
    rw [hcg]
    split at hx
    · rename_i hi
      obtain ⟨v, hv, hs', hr'⟩ := hn.get hx
      refine ⟨v, ?_, hs', hr'⟩
      rw [if_pos (by omega), ← hv]
      congr 1
      omega
    · rename_i hi
      obtain ⟨v, hv, hs', hr'⟩ := hc i x hx
      refine ⟨v, ?_, hs', hr'⟩
      rw [if_neg (by omega)]
      exact hv
  refine Grows.change H hB0 hm B' (fun i hi => setRow_other _ _ _ _ hi) (by simp) rfl rfl ?_
  rw [setRow_same _ _ _ _ _ _ ho]
  have hcl : BRel ρ μ (.cells vs') (some (.cells c' e (0, 0))) (δ, m) := ⟨c', e, rfl, by omega, hcell⟩
  rcases hB' with rfl | rfl
  · exact hcl
  · rcases cellsOf_some hb with hb' | ⟨t, hb'⟩
    · rw [hb']; exact hcl
    · rw [hb']
      obtain ⟨r2, ⟨δ2, m2⟩, hm2, c2, ho2, ⟨hδ, hs2⟩, _⟩ := H.blk b _ hb'
      rw [hm] at hm2
      simp only [Option.some.injEq, Prod.mk.injEq] at hm2
      obtain ⟨rfl, rfl, rfl⟩ := hm2
      rw [ho] at ho2
      simp only [Option.some.injEq, Obj.cells.injEq] at ho2
      obtain ⟨rfl, rfl, _⟩ := ho2
      exact ⟨c', rfl, ⟨hδ, by omega⟩, by omega, hcell⟩

/-! ### What such an operation does -/

/-- a function that can be called -/
def FnOk (P : Program) (g : FuncId) : Prop := ∃ fn, P.funcs[g]? = some fn ∧ fn.body.isSome = true ∧ (fn.name == "runtime.NumGoroutine") = false

/-- a deferred call -/
def DefRel (ρ : Env) (μ : Where) (d : FuncId × List AVal) (c : Deferred) : Prop :=
  ∃ cap : Array Value, c.target = .fn (.func d.1) cap ∧ VsRel ρ μ d.2 (c.args ++ cap).toList

def Does (P : Program) (ρ : Env) (μ : Where) (h : Heap) (a : Act) (o : Oper) (w : World) : MRes → Prop
  | .val v h' => ∃ nx u w' μ', (execOp a.eval o).run P w = .ok nx w' ∧ (nx = .value u ∨ (nx = .skip ∧ u = undef)) ∧ Grows ρ μ h w μ' h' w' ∧ VRel ρ μ' v u
  | .call g args => FnOk P g → ∃ vargs : Array Value, (execOp a.eval o).run P w = .ok (.enter g vargs) w ∧ VsRel ρ μ args vargs.toList
  | .panic v => ∃ u, (execOp a.eval o).run P w = .halt (.panic u) w ∧ VRel ρ μ v u
  | .defer g args => ∃ d, (execOp a.eval o).run P w = .ok (.defer d) w ∧ DefRel ρ μ (g, args) d

theorem does_store {o : Oper} {t : TypeId} {p x : Operand} (ho : o.op = .store t p x) (H : HRel ρ μ h w) (hT : TRel ρ μ tm a) {n : Nat} (hn : sizeT P t = some n) {h' : Heap} (hs : storeA h n (ev tm (opd p)) (ev tm (opd x)) = some h') :
    Does P ρ μ h a o w (.val .any h') := by
  have hp := ev_sound hT p
  have hx := ev_sound hT x
  unfold storeA at hs
  split at hs
  · rename_i b off e1
    obtain ⟨vs, hvs, hs⟩ := bnd_some hs
    obtain ⟨vs', hf, hs⟩ := bnd_some hs
    simp only [Option.some.injEq] at hs
    subst hs
    rw [e1] at hp
    obtain ⟨r', δ', m', hm', e2⟩ := hp.ptr
    unfold fillOne at hf
    obtain ⟨new, hnew, hf⟩ := bnd_some hf
    obtain ⟨hlen, hf⟩ := cond_some hf
    have hcs := hx.cells hnew
    obtain ⟨r, δ, m, hm, w', hrun, hg⟩ := write_sound (P := P) H hvs hcs hf
    have hg := hg _ (.inr rfl)
    rw [hm] at hm'
    simp only [Option.some.injEq, Prod.mk.injEq] at hm'
    obtain ⟨rfl, rfl, rfl⟩ := hm'
    have hsz : (a.eval x).cells.size = n := by
      have h1 := nbeq_iff.1 hlen
      rw [llen_eq] at h1
      rw [← h1]
      simpa using hcs.length.symm
    have hss := run_sizeT (w := w) hn
    refine ⟨.skip, undef, w', μ, ?_, .inr ⟨rfl, rfl⟩, hg, trivial⟩
    simp [execOp, ho, Instr.storeAt, e2, Instr.sureAddr, storeVar, hss, hsz, hrun]
  · cases hs

theorem callV_some {f : AVal} {args : List AVal} {r : FuncId × List AVal} (h : callV f args = some r) : ∃ first cap, f = .func r.1 first cap ∧ r.2 = first ++ (args ++ cap) := by
  unfold callV at h
  split at h
  · rename_i g first cap
    simp only [Option.some.injEq] at h
    subst h
    exact ⟨first, cap, rfl, rfl⟩
  · cases h

theorem run_callFunc_ok {g : FuncId} (hf : FnOk P g) (args : Array Value) : (callFunc g args).run P w = .ok (.enter g args) w := by
  obtain ⟨fn, h1, h2, h3⟩ := hf
  have h4 : fn.body.isNone = false := by cases hb : fn.body <;> simp [hb] at h2 ⊢
  simp only [callFunc, Sem.run_bind, run_program, Result.andThen_ok, h1, h3, h4]
  simp

/-- a call by a function value: the arguments that it is handed -/
theorem resolve_func {c : Call} {x : Operand} (hcal : c.callee = .value x) (hT : TRel ρ μ tm a) {t : TypeId} {r : FuncId × List AVal} (h : callV (ev tm (opd x)) (evL tm (opds c.args.toList)) = some r) :
    ∃ d cap : Array Value, (resolve a.eval c t).run P w = .ok { target := .fn (.func r.1) cap, args := d } w ∧ VsRel ρ μ r.2 (d ++ cap).toList := by
  obtain ⟨first, cap, e1, e2⟩ := callV_some h
  have hx := ev_sound hT x
  rw [e1] at hx
  obtain ⟨f', c', e3, hf, hcp⟩ := hx.func
  refine ⟨f' ++ c.args.map a.eval, c', ?_, ?_⟩
  · simp [resolve, hcal, e3, Deferred.ofValue]
  · rw [e2]
    simp only [Array.toList_append, Array.toList_map, List.append_assoc]
    exact hf.append ((evL_sound hT _).append hcp)

theorem does_call {o : Oper} {c : Call} {x : Operand} (ho : o.op = .call c) (hcal : c.callee = .value x) (hT : TRel ρ μ tm a) {r : FuncId × List AVal} (h' : callV (ev tm (opd x)) (evL tm (opds c.args.toList)) = some r) :
    Does P ρ μ h a o w (.call r.1 r.2) := fun hf => by
  obtain ⟨d, cap, h1, h2⟩ := resolve_func (P := P) (w := w) (t := o.type) hcal hT h'
  refine ⟨d ++ cap, ?_, h2⟩
  simp only [execOp, ho, Sem.run_bind, h1, Result.andThen_ok, invoke]
  exact run_callFunc_ok hf _

theorem does_defer {o : Oper} {c : Call} {x : Operand} (ho : o.op = .defer c) (hcal : c.callee = .value x) (hT : TRel ρ μ tm a) {r : FuncId × List AVal} (h' : callV (ev tm (opd x)) (evL tm (opds c.args.toList)) = some r) :
    Does P ρ μ h a o w (.defer r.1 r.2) := by
  obtain ⟨d, cap, h1, h2⟩ := resolve_func (P := P) (w := w) (t := o.type) hcal hT h'
  refine ⟨{ target := .fn (.func r.1) cap, args := d }, ?_, cap, rfl, h2⟩
  simp only [execOp, ho, Sem.run_bind, h1, Result.andThen_ok]
  rfl

theorem does_panic {o : Oper} {x : Operand} (ho : o.op = .panic x) (hT : TRel ρ μ tm a) {r : MRes} (h' : panicA (ev tm (opd x)) = some r) : Does P ρ μ h a o w r := by
  have hx := ev_sound hT x
  unfold panicA at h'
  split at h'
  · rename_i t v e1
    simp only [Option.some.injEq] at h'
    subst h'
    rw [e1] at hx
    have hx2 := hx
    obtain ⟨u, e2, _⟩ := hx.iface
    exact ⟨a.eval x, by simp [execOp, ho, Instr.panic, e2], hx2⟩
  · cases h'

theorem clone_rows (fn : Func) (h1 : fn.name = "maps.clone") (h2 : fn.origin = "") : Extern.findNext fn = none ∧ Extern.find fn = some Extern.MapsClone.clone := by
  have a1 : Extern.allNextRows.lookup "maps.clone" = none := by kernel_rfl
  have a2 : Extern.allNextRows.lookup "" = none := by kernel_rfl
  have a3 : Extern.allGenericRows.lookup "maps.clone" = none := by kernel_rfl
  have a4 : Extern.allTypedRows.lookup "maps.clone" = none := by kernel_rfl
  have a5 : Extern.allRows.lookup "maps.clone" = some Extern.MapsClone.clone := by kernel_rfl
  refine ⟨?_, ?_⟩
  · unfold Extern.findNext
    rw [h1, h2]
    simp [a1, a2]
  · unfold Extern.find
    rw [h1]
    simp [a3, a4, a5]

theorem noesc_rows (fn : Func) (h1 : fn.name = "internal/abi.NoEscape") (h2 : fn.origin = "") : Extern.findNext fn = none ∧ Extern.find fn = some Extern.AbiNoEscape.same := by
  have a1 : Extern.allNextRows.lookup "internal/abi.NoEscape" = none := by kernel_rfl
  have a2 : Extern.allNextRows.lookup "" = none := by kernel_rfl
  have a3 : Extern.allGenericRows.lookup "internal/abi.NoEscape" = none := by kernel_rfl
  have a4 : Extern.allTypedRows.lookup "internal/abi.NoEscape" = none := by kernel_rfl
  have a5 : Extern.allRows.lookup "internal/abi.NoEscape" = some Extern.AbiNoEscape.same := by kernel_rfl
  refine ⟨?_, ?_⟩
  · unfold Extern.findNext
    rw [h1, h2]
    simp [a1, a2]
  · unfold Extern.find
    rw [h1]
    simp [a3, a4, a5]

theorem does_noesc {o : Oper} {c : Call} {f : FuncId} {x : Operand} {fn : Func} (ho : o.op = .call c) (hcal : c.callee = .value (.func f)) (hargs : c.args = #[x]) (hf : P.funcs[f]? = some fn) (hb : fn.body.isSome = false) (hname : fn.name = "internal/abi.NoEscape") (horg : fn.origin = "")
    (H : HRel ρ μ h w) (hT : TRel ρ μ tm a) {r : MRes} (h' : noescA h (ev tm (opd x)) = some r) : Does P ρ μ h a o w r := by
  have hx := ev_sound hT x
  unfold noescA at h'
  simp only [Option.some.injEq] at h'
  subst h'
  refine ⟨.value (a.eval x), a.eval x, w, μ, ?_, .inl rfl, Grows.refl H, hx⟩
  obtain ⟨n1, n2⟩ := noesc_rows fn hname horg
  have hnn : (fn.name == "runtime.NumGoroutine") = false := by rw [hname]; rfl
  have hbn : fn.body.isNone = true := by cases hbb : fn.body <;> simp [hbb] at hb ⊢
  have hcl : (Extern.AbiNoEscape.same #[a.eval x]).run P w = .ok (a.eval x) w := by
    have e : Extern.AbiNoEscape.same #[a.eval x] = pure (a.eval x) := rfl
    rw [e]; rfl
  have hev : a.eval (.func f) = .func (.func f) #[] #[] := rfl
  simp only [execOp, ho, resolve, hcal, hargs, List.map_toArray, List.map_cons, List.map_nil, hev, Deferred.ofValue, Sem.run_bind, Sem.run_pure, Result.andThen_ok, invoke, callFunc, run_program, hf, hnn, hbn, n1, n2, run_mark]
  simp [hcl]

theorem does_clone {o : Oper} {c : Call} {f : FuncId} {x : Operand} {fn : Func} (ho : o.op = .call c) (hcal : c.callee = .value (.func f)) (hargs : c.args = #[x]) (hf : P.funcs[f]? = some fn) (hb : fn.body.isSome = false) (hname : fn.name = "maps.clone") (horg : fn.origin = "")
    (H : HRel ρ μ h w) (hT : TRel ρ μ tm a) {r : MRes} (h' : cloneA h (ev tm (opd x)) = some r) : Does P ρ μ h a o w r := by
  have hx := ev_sound hT x
  unfold cloneA at h'
  split at h'
  · rename_i t b e1
    rw [e1] at hx
    obtain ⟨u, e2, hu⟩ := hx.iface
    obtain ⟨g, hg, rfl⟩ := hu.mapV
    have key : ∀ (B : Block) (ms : Array MapEntry) (clk : Nat), w.heap[g]? = some (.map ms clk) → (∀ μ', μ.le μ' → BRel ρ μ' B (some (.map ms clk)) (0, 0)) → r = .val (.iface t (.map h.next)) (h.add B) → Does P ρ μ h a o w r := fun B ms clk hobj hB hr => by
      subst hr
      have hgr := Grows.add H B (.map ms clk) (0, 0) hB
      refine ⟨.value (.iface t (.map (some w.heap.size))), _, _, _, ?_, .inl rfl, hgr, ?_⟩
      · obtain ⟨n1, n2⟩ := clone_rows fn hname horg
        have hnn : (fn.name == "runtime.NumGoroutine") = false := by rw [hname]; rfl
        have hbn : fn.body.isNone = true := by cases hbb : fn.body <;> simp [hbb] at hb ⊢
        have hcl : (Extern.MapsClone.clone #[.iface t (.map (some g))]).run P w = .ok (.iface t (.map (some w.heap.size))) (w.alloc (.map ms clk)) := by
          have e : Extern.MapsClone.clone #[.iface t (.map (some g))] = (getObj g >>= fun o => match o with
            | .map entries clock => (newObj (.map entries clock) >>= fun n => pure (.iface t (.map (some n))))
            | _ => stuck "maps.clone: a map expected") := rfl
          have hgo : (getObj g).run P w = .ok (.map ms clk) w := by simp [getObj, Sem.run, hobj]
          rw [e]
          simp [hgo]
        have hev : a.eval (.func f) = .func (.func f) #[] #[] := rfl
        simp only [execOp, ho, resolve, hcal, hargs, List.map_toArray, List.map_cons, List.map_nil, e2, hev, Deferred.ofValue, Sem.run_bind, Sem.run_pure, Result.andThen_ok, invoke, callFunc, run_program, hf, hnn, hbn, n1, n2, run_mark]
        simp [hcl]
      · simp only [VRel]
        exact ⟨_, rfl, _, Where.put_same _ _ _, rfl⟩
    unfold cloneM at h'
    split at h'
    · rename_i i hi
      simp only [Option.some.injEq] at h'
      obtain ⟨g', ms, clk, hg', hobj, he⟩ := H.smap (smapOf_some hi)
      rw [hg] at hg'
      simp only [Option.some.injEq, Prod.mk.injEq] at hg'
      obtain ⟨rfl, _⟩ := hg'
      exact key (.smap i) ms clk hobj (fun μ' hle => ⟨rfl, ms, clk, rfl, MRel.mono hle.ice he⟩) h'.symm
    · obtain ⟨m, hm, h'⟩ := bnd_some h'
      simp only [Option.some.injEq] at h'
      obtain ⟨g', ms, hg', hobj, he⟩ := H.map (mapOf_some hm)
      rw [hg] at hg'
      simp only [Option.some.injEq, Prod.mk.injEq] at hg'
      obtain ⟨rfl, _⟩ := hg'
      exact key (.map m.1 m.2) ms m.2 hobj (fun μ' hle => ⟨rfl, ms, rfl, he.mono hle⟩) h'.symm
  · cases h'

/-! ### Maps -/

theorem sameBits_of_keyEq {kk : LK} {x y : AVal} {u v : Value} (hx : VRel ρ μ x u) (hy : VRel ρ μ y v) (h : keyEq kk x y = some true) : Instr.sameBits 10000 v u = true := by
  unfold keyEq at h
  split at h
  · obtain ⟨e1, e2⟩ := cond_some h
    simp only [Option.some.injEq] at e2
    rw [hx.int, hy.int, keq_iff.1 e1, ieq_iff.1 e2]
    simp [Instr.sameBits]
  · simp only [Option.some.injEq] at h
    obtain ⟨s, rfl, f1⟩ := hx.str
    obtain ⟨s', rfl, f2⟩ := hy.str
    have : s = s' := strOf_inj (by rw [f1, f2]; exact beqL_iff.1 h)
    subst this
    simp only [Instr.sameBits]
    rw [beq_toListBytes]; simp
  · simp only [Option.some.injEq, beq_eq, beq_iff_eq] at h
    subst h
    rw [hx.bool, hy.bool]
    simp [Instr.sameBits]
  · cases h

theorem updA_sound {kk : LK} {d : TypeDesc} (hk : kk.fits d) {k v : AVal} {uk uv : Value} {clock : Nat} (hkr : VRel ρ μ k uk) (hks : k.single = true) (hvr : VRel ρ μ v uv) : ∀ {es es' : List Entry} {new : Bool} {ms : List MapEntry} (n : Nat), EsRel ρ μ es ms → updA kk k v clock es = some (es', new) →
    (new = true ∧ Instr.findNow d uk ms n = some none ∧ EsRel ρ μ es' (ms ++ [{ key := uk, val := uv, born := clock }])) ∨
    (new = false ∧ ∃ i v0 m, Instr.findNow d uk ms n = some (some (n + i, v0)) ∧ ms[i]? = some m ∧ Instr.sameBits 10000 m.key uk = true ∧ EsRel ρ μ es' (ms.modify i fun e => { e with key := uk, val := uv }))
  | [], es', new, ms, n, he, h => by
    simp only [EsRel] at he
    subst he
    have h : some ([⟨k, v, clock⟩], true) = some (es', new) := h
    simp only [Option.some.injEq, Prod.mk.injEq] at h
    obtain ⟨rfl, rfl⟩ := h
    left
    refine ⟨rfl, rfl, ?_⟩
    simp only [EsRel, List.nil_append]
    exact ⟨_, _, rfl, ⟨hks, hkr, hvr, rfl⟩, rfl⟩
  | e :: es, es', new, ms, n, he, h => by
    simp only [EsRel] at he
    obtain ⟨m, rest, rfl, ⟨hs, hkey, hval, hborn⟩, hrest⟩ := he
    have h : (bnd (keyEq kk k e.key) fun b => bif b then some (⟨k, v, e.born⟩ :: es, false) else bnd (updA kk k v clock es) fun r => some (e :: r.1, r.2)) = some (es', new) := h
    obtain ⟨b, hb, h2⟩ := bnd_some h
    have hsn := sameNow_sound hk hkr hkey hb
    cases b with
    | true =>
      simp only [cond_true, Option.some.injEq, Prod.mk.injEq] at h2
      obtain ⟨rfl, rfl⟩ := h2
      right
      refine ⟨rfl, 0, m.val, m, by simp [Instr.findNow, hsn], rfl, ?_, ?_⟩
      · exact sameBits_of_keyEq hkr hkey hb
      · simp only [List.modify_zero_cons, EsRel]
        exact ⟨_, _, rfl, ⟨hks, hkr, hvr, hborn⟩, hrest⟩
    | false =>
      simp only [cond_false] at h2
      obtain ⟨r, hr, h3⟩ := bnd_some h2
      simp only [Option.some.injEq, Prod.mk.injEq] at h3
      obtain ⟨rfl, rfl⟩ := h3
      rcases updA_sound hk hkr hks hvr (n + 1) hrest hr with ⟨e1, e2, e3⟩ | ⟨e1, i, v0, m', e2, e3, e4, e5⟩
      · left
        refine ⟨e1, by simp [Instr.findNow, hsn, e2], ?_⟩
        simp only [List.cons_append, EsRel]
        exact ⟨_, _, rfl, ⟨hs, hkey, hval, hborn⟩, e3⟩
      · right
        refine ⟨e1, i + 1, v0, m', by simp [Instr.findNow, hsn, e2]; omega, by simpa using e3, e4, ?_⟩
        simp only [List.modify_succ_cons, EsRel]
        exact ⟨_, _, rfl, ⟨hs, hkey, hval, hborn⟩, e5⟩

end
end Go.AM
