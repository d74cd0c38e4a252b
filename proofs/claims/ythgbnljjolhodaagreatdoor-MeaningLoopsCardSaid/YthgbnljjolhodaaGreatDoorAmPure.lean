/- The abstract machine's operations that read nothing: each gives what the model's operation gives. -/
import Derived.Test.YthgbnljjolhodaaGreatDoorAmList
import Derived.Laws.StructEq
import Derived.Laws.Slices
import Derived.Laws.Strings2
import Derived.Laws.Unary
import Derived.Laws.Build
import Derived.Laws.Pointers
set_option linter.all false
namespace Go.AM

section
variable {P : Program} {Γ : Facts} {ρ : Env} {μ : Where} {tm : Tr AVal} {a : Act} {w : World}

def TRel (ρ : Env) (μ : Where) (tm : Tr AVal) (a : Act) : Prop := ∀ t, VRel ρ μ (orAny (tm.get t)) (a.tmps.getD t undef)

theorem TRel.mono {μ' : Where} (hT : TRel ρ μ tm a) (h : μ.le μ') : TRel ρ μ' tm a := fun t => (hT t).mono h

mutual
theorem absV_sound : ∀ v : Value, VRel ρ μ (absV v) v
  | .bool b => by simp only [absV, VRel, SB.den]
  | .int k n => by simp only [absV, VRel, ST.den]
  | .string s => by simp only [absV, VRel]; exact ⟨s, rfl, rfl⟩
  | .pointer none => by simp only [absV, VRel]
  | .pointer (some _) => trivial
  | .slice none 0 0 => by simp only [absV, VRel]
  | .slice none 0 (_ + 1) => trivial
  | .slice none (_ + 1) _ => trivial
  | .slice (some _) _ _ => trivial
  | .map none => by simp only [absV, VRel]
  | .map (some _) => trivial
  | .nilFunc => by simp only [absV, VRel]
  | .nilIface => by simp only [absV, VRel]
  | .agg ⟨cs⟩ => by
    simp only [absV]
    split
    · rename_i h
      simp only [VRel]
      exact ⟨⟨cs⟩, rfl, absL_sound cs h⟩
    · trivial
  | .float _ _ => trivial
  | .complex _ _ _ => trivial
  | .chan _ => trivial
  | .func _ _ _ => trivial
  | .iface _ _ => trivial
  | .tuple _ => trivial
theorem absL_sound : ∀ l : List Value, (absL l).all (·.single) = true → CsRel ρ μ (absL l) l
  | [], _ => by simp only [absL, CsRel]
  | v :: r, h => by
    simp only [absL, List.all_cons, Bool.and_eq_true] at h
    simp only [absL, CsRel]
    exact ⟨v, r, rfl, ⟨h.1, absV_sound v⟩, absL_sound r h.2⟩
end

theorem ev_sound (hT : TRel ρ μ tm a) (x : Operand) : VRel ρ μ (ev tm (opd x)) (a.eval x) := by
  cases x with
  | tmp t => exact hT t
  | const v => exact absV_sound v
  | global g => trivial
  | func f =>
    show VRel ρ μ (.func f [] []) (.func (.func f) #[] #[])
    simp only [VRel]
    exact ⟨#[], #[], rfl, by simp only [VsRel], by simp only [VsRel]⟩

theorem evL_sound (hT : TRel ρ μ tm a) : ∀ l : List Operand, VsRel ρ μ (evL tm (opds l)) (l.map a.eval)
  | [] => by show VsRel ρ μ [] []; simp only [VsRel]
  | x :: r => by
    show VsRel ρ μ (ev tm (opd x) :: evL tm (opds r)) _
    simp only [VsRel, List.map_cons]
    exact ⟨_, _, rfl, ev_sound hT x, evL_sound hT r⟩

theorem TRel.put (hT : TRel ρ μ tm a) {d : Option Tmp} {v : AVal} {u : Value} (hd : ∀ t, d = some t → t < a.tmps.size) (h : VRel ρ μ v u) : TRel ρ μ (putD tm d v) (a.put d u) := by
  cases d with
  | none => exact hT
  | some d =>
    intro t
    show VRel ρ μ (orAny ((tm.set d (some v)).get t)) ((a.tmps.setIfInBounds d u).getD t undef)
    rw [Tr.get_set]
    have hlt := hd d rfl
    by_cases e : t = d
    · subst e
      rw [if_pos rfl]
      simpa [Array.getD_eq_getD_getElem?, hlt, orAny] using h
    · rw [if_neg e]
      have := hT t
      simpa [Array.getD_eq_getD_getElem?, Array.getElem?_setIfInBounds_ne (Ne.symm e)] using this

theorem Act.size_put (d : Option Tmp) (u : Value) : (a.put d u).tmps.size = a.tmps.size := by
  cases d <;> simp [Act.put]

/-! ### Inverting the relation -/

theorem VRel.int {k : IntKind} {n : ST} {v : Value} (h : VRel ρ μ (.int k n) v) : v = .int k (n.den ρ) := by simpa only [VRel] using h
theorem VRel.bool {b : SB} {v : Value} (h : VRel ρ μ (.bool b) v) : v = .bool (b.den ρ) := by simpa only [VRel] using h
theorem VRel.agg {cs : List AVal} {v : Value} (h : VRel ρ μ (.agg cs) v) : ∃ a : Array Value, v = .agg a ∧ CsRel ρ μ cs a.toList := by simpa only [VRel] using h
theorem VRel.tuple {cs : List AVal} {v : Value} (h : VRel ρ μ (.tuple cs) v) : ∃ a : Array Value, v = .tuple a ∧ VsRel ρ μ cs a.toList := by simpa only [VRel] using h
theorem VRel.str {s : List Nat} {v : Value} (h : VRel ρ μ (.str s) v) : ∃ b : ByteArray, v = .string b ∧ strOf b = s := by simpa only [VRel] using h
theorem VRel.ptr {b off : Nat} {v : Value} (h : VRel ρ μ (.ptr b off) v) : ∃ r δ m, μ b = some (r, δ, m) ∧ v = .pointer (some ⟨r, δ + off, none⟩) := by simpa only [VRel] using h
theorem VRel.slice {b off len c : Nat} {v : Value} (h : VRel ρ μ (.slice b off len c) v) :
    ∃ r δ m, μ b = some (r, δ, m) ∧ v = .slice (some ⟨r, δ + off, none⟩) len c ∧ len ≤ c := by simpa only [VRel] using h
theorem VRel.gslice {b off len es : Nat} {v : Value} (h : VRel ρ μ (.gslice b off len es) v) :
    ∃ r δ m c, μ b = some (r, δ, m) ∧ v = .slice (some ⟨r, δ + off, none⟩) len c ∧ len ≤ c ∧ off + c * es ≤ m := by simpa only [VRel] using h
theorem VRel.mapV {b : Nat} {v : Value} (h : VRel ρ μ (.map b) v) : ∃ r, μ b = some (r, 0, 0) ∧ v = .map (some r) := by simpa only [VRel] using h
theorem VRel.func {f : FuncId} {x c : List AVal} {v : Value} (h : VRel ρ μ (.func f x c) v) : ∃ a' c' : Array Value, v = .func (.func f) a' c' ∧ VsRel ρ μ x a'.toList ∧ VsRel ρ μ c c'.toList := by simpa only [VRel] using h
theorem VRel.iface {t : TypeId} {x : AVal} {v : Value} (h : VRel ρ μ (.iface t x) v) : ∃ u, v = .iface t u ∧ VRel ρ μ x u := by simpa only [VRel] using h

theorem VRel.anyStr {n : Nat} {v : Value} (h : VRel ρ μ (.anyStr n) v) : ∃ b : ByteArray, v = .string b ∧ 1 ≤ b.size ∧ b.size ≤ n := by simpa only [VRel] using h
theorem VRel.gbytes {b : Nat} {v : Value} (h : VRel ρ μ (.gbytes b) v) : ∃ r m, μ b = some (r, 0, m) ∧ v = .slice (some ⟨r, 0, none⟩) (hLen m) (hCap m) ∧ 1 ≤ hLen m ∧ hLen m ≤ hCap m := by simpa only [VRel] using h
theorem VRel.glen {b : Nat} {v : Value} (h : VRel ρ μ (.glen b) v) : ∃ r m, μ b = some (r, 0, m) ∧ v = .int .i64 (hLen m : Nat) := by simpa only [VRel] using h

theorem VRel.svar {i : Nat} {v : Value} (h : VRel ρ μ (.svar i) v) : ∃ b : ByteArray, v = .string b ∧ strOf b = ρ.str i := by simpa only [VRel] using h
theorem VRel.lst {f : Bool} {i es : Nat} {n : ST} {v : Value} (h : VRel ρ μ (.lst f i es n) v) : Rep μ.ice (.list es (ρ.lst i)) v ∧ n.den ρ = ((ρ.lst i).length : Int) ∧ (f = true → ∃ p, v = .slice p (ρ.lst i).length (ρ.lst i).length) := by simpa only [VRel] using h
theorem VRel.lptr {i off : Nat} {j : ST} {v : Value} (h : VRel ρ μ (.lptr i j off) v) : ∃ r δ a e ps, v = .pointer (some ⟨r, δ + off, none⟩) ∧ μ.ice r = some (.cells a e (0, 0)) ∧ 0 ≤ j.den ρ ∧ (ρ.lst i)[(j.den ρ).toNat]? = some ps ∧ RepL μ.ice a δ ps := by simpa only [VRel] using h
theorem VRel.vec {b es : Nat} {n : ST} {v : Value} (h : VRel ρ μ (.vec b es n) v) : ∃ r m k, μ b = some (r, 0, m) ∧ v = .slice (some ⟨r, 0, none⟩) k (hCap m) ∧ n.den ρ = (k : Int) ∧ k ≤ hLen m ∧ hLen m ≤ hCap m := by simpa only [VRel] using h

/-- a list is a slice -/
theorem VRel.lst_slice {f : Bool} {i es : Nat} {n : ST} {v : Value} (h : VRel ρ μ (.lst f i es n) v) : ∃ p c, v = .slice p (ρ.lst i).length c ∧ (ρ.lst i).length ≤ c ∧ n.den ρ = ((ρ.lst i).length : Int) ∧
    ((ρ.lst i).length ≠ 0 → ∃ r δ a e, p = some ⟨r, δ, none⟩ ∧ μ.ice r = some (.cells a e (0, 0)) ∧ RepLL μ.ice es a δ (ρ.lst i)) := by
  obtain ⟨h1, h2, _⟩ := h.lst
  simp only [Rep] at h1
  obtain ⟨c, hc, ⟨e, p, rfl⟩ | ⟨r, δ, a, t, rfl, e2, e3⟩⟩ := h1
  · exact ⟨p, c, by rw [e]; rfl, hc, h2, fun h => absurd (by rw [e]; rfl) h⟩
  · exact ⟨_, c, rfl, hc, h2, fun _ => ⟨r, δ, a, t, rfl, e2, e3⟩⟩

theorem RepLL.get {ice : Nat → Option Obj} {es : Nat} {a : Array Value} : ∀ {l : List (List PV)} {δ : Nat}, RepLL ice es a δ l → ∀ (i : Nat) (ps : List PV), l[i]? = some ps → ps.length = es ∧ RepL ice a (δ + i * es) ps
  | [], _, _, i, ps, h => by simp at h
  | qs :: r, δ, e, i, ps, h => by
    simp only [RepLL] at e
    obtain ⟨e0, e1, e2⟩ := e
    cases i with
    | zero =>
      simp only [List.getElem?_cons_zero, Option.some.injEq] at h
      subst h
      exact ⟨e0, by simpa using e1⟩
    | succ i =>
      obtain ⟨k1, k2⟩ := RepLL.get e2 i ps (by simpa using h)
      exact ⟨k1, by rw [Nat.add_mul, Nat.one_mul]; rw [show δ + (i * es + es) = δ + es + i * es by omega]; exact k2⟩

theorem RepL.get {ice : Nat → Option Obj} {a : Array Value} : ∀ {ps : List PV} {δ : Nat}, RepL ice a δ ps → ∀ (i : Nat) (p : PV), ps[i]? = some p → ∃ u, a[δ + i]? = some u ∧ Rep ice p u
  | [], _, _, i, p, h => by simp at h
  | q :: r, δ, e, i, p, h => by
    simp only [RepL] at e
    obtain ⟨e1, e2⟩ := e
    cases i with
    | zero =>
      simp only [List.getElem?_cons_zero, Option.some.injEq] at h
      subst h
      exact e1
    | succ i =>
      obtain ⟨u, k1, k2⟩ := RepL.get e2 i p (by simpa using h)
      exact ⟨u, by rw [← k1]; congr 1; omega, k2⟩

section
variable {ice : Nat → Option Obj} {a : Array Value}

theorem RepL.append_iff : ∀ {x y : List PV} {δ : Nat}, RepL ice a δ (x ++ y) ↔ RepL ice a δ x ∧ RepL ice a (δ + x.length) y
  | [], y, δ => by simp only [List.nil_append, RepL, true_and, List.length_nil, Nat.add_zero]
  | p :: x, y, δ => by
    simp only [List.cons_append, RepL, List.length_cons]
    rw [RepL.append_iff (x := x) (y := y) (δ := δ + 1), and_assoc]
    rw [show δ + 1 + x.length = δ + (x.length + 1) by omega]

theorem RepLL_flat {es : Nat} : ∀ {l : List (List PV)} {δ : Nat}, RepLL ice es a δ l ↔ (∀ ps ∈ l, ps.length = es) ∧ RepL ice a δ l.flatten
  | [], δ => by simp only [RepLL, List.flatten_nil, RepL, List.not_mem_nil, false_implies, implies_true, and_self]
  | ps :: l, δ => by
    simp only [RepLL, List.flatten_cons, RepL.append_iff, RepLL_flat (l := l), List.mem_cons, forall_eq_or_imp]
    constructor
    · rintro ⟨h1, h2, h3, h4⟩
      exact ⟨⟨h1, h3⟩, h2, by rw [h1]; exact h4⟩
    · rintro ⟨⟨h1, h3⟩, h2, h4⟩
      exact ⟨h1, h2, h3, by rw [h1] at h4; exact h4⟩

theorem flatten_len {es : Nat} : ∀ {l : List (List PV)}, (∀ ps ∈ l, ps.length = es) → l.flatten.length = l.length * es
  | [], _ => by simp
  | ps :: l, h => by
    rw [List.flatten_cons, List.length_append, flatten_len fun x hx => h x (List.mem_cons_of_mem _ hx), h ps List.mem_cons_self, List.length_cons, Nat.add_mul]
    omega

end

/-- data as an abstract value -/
theorem Rep.thaw {x : AVal} {p : PV} {v : Value} (hd : ADen ρ x p) (h : Rep μ.ice p v) : VRel ρ μ x v ∧ x.single = true := by
  cases x <;> simp only [ADen] at hd
  case bool | int | nilPtr => subst hd; simp only [Rep] at h; exact ⟨by simp only [VRel]; exact h, rfl⟩
  case str => subst hd; simp only [Rep] at h; exact ⟨by simp only [VRel]; exact h, rfl⟩
  case svar => subst hd; simp only [Rep] at h; exact ⟨by simp only [VRel]; exact h, rfl⟩
  case lst f i es n =>
    obtain ⟨rfl, rfl, hn⟩ := hd
    exact ⟨by simp only [VRel]; exact ⟨h, hn, fun e => by cases e⟩, rfl⟩

theorem RepL.thaw {c : Array Value} : ∀ {xs : List AVal} {ps : List PV} {δ : Nat}, ADens ρ xs ps → RepL μ.ice c δ ps → xs.length = ps.length ∧ ∀ (i : Nat) (x : AVal), xs[i]? = some x → ∃ v, c[δ + i]? = some v ∧ x.single = true ∧ VRel ρ μ x v
  | [], ps, δ, hd, h => by
    simp only [ADens] at hd
    subst hd
    exact ⟨rfl, fun i x hx => by simp at hx⟩
  | x :: xs, ps, δ, hd, h => by
    simp only [ADens] at hd
    obtain ⟨p, rest, rfl, h1, h2⟩ := hd
    simp only [RepL] at h
    obtain ⟨⟨u, e1, e2⟩, e3⟩ := h
    obtain ⟨k1, k2⟩ := RepL.thaw h2 e3
    refine ⟨by simp [k1], fun i y hy => ?_⟩
    cases i with
    | zero =>
      simp only [List.getElem?_cons_zero, Option.some.injEq] at hy
      subst hy
      obtain ⟨q1, q2⟩ := e2.thaw h1
      exact ⟨u, e1, q2, q1⟩
    | succ i =>
      obtain ⟨v, q1, q2⟩ := k2 i y (by simpa using hy)
      exact ⟨v, by rw [← q1]; congr 1; omega, q2⟩

/-- data behind a reading of all of a struct's cells -/
theorem RepL.cs {c : Array Value} {xs : List AVal} {ps : List PV} (hd : ADens ρ xs ps) (h : RepL μ.ice c 0 ps) (hs : c.size = ps.length) : CsRel ρ μ xs c.toList := by
  obtain ⟨h1, h2⟩ := RepL.thaw hd h
  refine CsRel.of_get (by rw [h1, ← hs]; rfl) fun i x hx => ?_
  obtain ⟨v, k1, k2⟩ := h2 i x hx
  exact ⟨v, by rw [Array.getElem?_toList]; simpa using k1, k2⟩

theorem strV_sound {x : AVal} {s : List Nat} {v : Value} (hs : strV ρ x = some s) (h : VRel ρ μ x v) : ∃ b : ByteArray, v = .string b ∧ strOf b = s := by
  cases x <;> simp only [strV, Option.some.injEq, reduceCtorEq] at hs
  case str => subst hs; exact h.str
  case svar => subst hs; exact h.svar

theorem knownT_sound (hΓ : Γ.Hold ρ) {op : BinOp} {x y : ST} (h : knownT Γ op x y = true) : cmpV op (x.den ρ) (y.den ρ) = true := by
  unfold knownT at h
  split at h
  · rename_i v hv
    obtain ⟨k1, _⟩ := compare_sound hΓ hv
    subst h
    exact k1.symm
  · cases h

theorem knownT_geq (hΓ : Γ.Hold ρ) {x y : ST} (h : knownT Γ .geq x y = true) : y.den ρ ≤ x.den ρ := by simpa [cmpV] using knownT_sound hΓ h
theorem knownT_lss (hΓ : Γ.Hold ρ) {x y : ST} (h : knownT Γ .lss x y = true) : x.den ρ < y.den ρ := by simpa [cmpV] using knownT_sound hΓ h
theorem knownT_leq (hΓ : Γ.Hold ρ) {x y : ST} (h : knownT Γ .leq x y = true) : x.den ρ ≤ y.den ρ := by simpa [cmpV] using knownT_sound hΓ h

theorem natOf_some {x : AVal} {n : Nat} (h : natOf x = some n) : ∃ k, x = .int k (.lit (.ofNat n)) := by
  unfold natOf at h
  split at h
  · rename_i k m
    simp only [Option.some.injEq] at h
    exact ⟨k, by rw [h]⟩
  · cases h

theorem natOf_sound {x : AVal} {n : Nat} {v : Value} (h : natOf x = some n) (hv : VRel ρ μ x v) : ∃ k, v = .int k (n : Int) := by
  obtain ⟨k, rfl⟩ := natOf_some h
  exact ⟨k, hv.int⟩

/-! ### One operation at a time: what the model's operation gives, in the world that it got -/

/-- operation `o` gives `v` -/
def Gives (P : Program) (ρ : Env) (μ : Where) (a : Act) (o : Oper) (w : World) (v : AVal) : Prop := ∃ v', (execOp a.eval o).run P w = .ok (.value v') w ∧ VRel ρ μ v v'

theorem run_ite_isAgg (P : Program) (w : World) (t : TypeId) {n : Option Nat} (h : aggT P t = some n) :
    (isAgg t).run P w = .ok n.isSome w ∧ (∀ m, n = some m → (sizeOf t).run P w = .ok m w) := by
  unfold aggT at h
  split at h
  · rename_i fs i h1 h2
    simp only [Option.some.injEq] at h
    subst h
    refine ⟨by simp [isAgg, run_underlying h1], fun m hm => ?_⟩
    simp only [Option.some.injEq] at hm
    subst hm
    simp [sizeOf, typeInfo, h2]
  · rename_i k e i h1 h2
    simp only [Option.some.injEq] at h
    subst h
    refine ⟨by simp [isAgg, run_underlying h1], fun m hm => ?_⟩
    simp only [Option.some.injEq] at hm
    subst hm
    simp [sizeOf, typeInfo, h2]
  · rename_i d i hn1 hn2 h1 h2
    simp only [Option.some.injEq] at h
    subst h
    refine ⟨?_, fun m hm => by cases hm⟩
    cases d <;> first | (simp [isAgg, run_underlying h1]; done) | skip
    · exact (hn2 _ _ rfl).elim
    · exact (hn1 _ rfl).elim
  · cases h

theorem run_sizeT {t : TypeId} {n : Nat} (h : sizeT P t = some n) : (sizeOf t).run P w = .ok n w := by
  unfold sizeT at h
  cases e : P.info? t with
  | none => rw [e] at h; cases h
  | some i =>
    rw [e] at h
    simp only [Option.map_some, Option.some.injEq] at h
    simp [sizeOf, typeInfo, e, h]

theorem CsRel.extract {cs r : List AVal} {x : Array Value} {off n : Nat} (h : CsRel ρ μ cs x.toList) (hc : cut cs off n = some r) : CsRel ρ μ r (x.extract off (off + n)).toList := by
  obtain ⟨h1, h2, h3⟩ := cut_spec hc
  have hl : cs.length = x.size := by simpa using h.length
  refine CsRel.of_get ?_ fun i b hb => ?_
  · rw [h1, Array.length_toList, Array.size_extract]
    omega
  · rw [h3] at hb
    split at hb
    · rename_i hi
      obtain ⟨v, hv, hs, hr⟩ := h.get hb
      refine ⟨v, ?_, hs, hr⟩
      rw [Array.getElem?_toList, Array.getElem?_extract]
      rw [Array.getElem?_toList] at hv
      rw [if_pos (by omega)]
      exact hv
    · cases hb

theorem part_sound {t : TypeId} {n : Option Nat} {cs : List AVal} {x : Array Value} {off : Nat} {v : AVal} (ht : aggT P t = some n) (hx : CsRel ρ μ cs x.toList) (h : partV cs off n = some v) :
    ∃ v', (part t x off).run P w = .ok v' w ∧ VRel ρ μ v v' := by
  obtain ⟨h1, h2⟩ := run_ite_isAgg P w t ht
  unfold partV at h
  cases n with
  | none =>
    simp only at h
    rw [nth_eq] at h
    obtain ⟨v', hv, _, hr⟩ := hx.get h
    rw [Array.getElem?_toList] at hv
    exact ⟨v', by simp [part, h1, hv], hr⟩
  | some n =>
    simp only at h
    obtain ⟨r, hr, h⟩ := bnd_some h
    simp only [Option.some.injEq] at h
    subst h
    refine ⟨.agg (x.extract off (off + n)), by simp [part, h1, h2 n rfl], ?_⟩
    simp only [VRel]
    exact ⟨_, rfl, hx.extract hr⟩

theorem gives_mv {o : Oper} {x : Operand} (ho : o.op = .move x ∨ o.op = .assign x) (hT : TRel ρ μ tm a) : Gives P ρ μ a o w (ev tm (opd x)) :=
  ⟨a.eval x, by rcases ho with ho | ho <;> simp [execOp, ho], ev_sound hT x⟩

theorem gives_pick {o : Oper} {c x y : Operand} (ho : o.op = .pick c x y) (hT : TRel ρ μ tm a) {v : AVal} (h : pickV (ev tm (opd c)) (ev tm (opd x)) (ev tm (opd y)) = some v) : Gives P ρ μ a o w v := by
  have hc := ev_sound hT c
  unfold pickV at h
  split at h
  · rename_i b hb
    rw [hb] at hc
    have hc := hc.bool
    simp only [Option.some.injEq] at h
    subst h
    refine ⟨if b then a.eval x else a.eval y, ?_, ?_⟩
    · simp [execOp, ho, hc, asBool, SB.den]
    · cases b
      · exact ev_sound hT y
      · exact ev_sound hT x
  · cases h

theorem gives_nilc {o : Oper} {x : Operand} (ho : o.op = .nilCheck x) (hT : TRel ρ μ tm a) {v : AVal} (h : nilcV (ev tm (opd x)) = some v) : Gives P ρ μ a o w v := by
  have hx := ev_sound hT x
  unfold nilcV at h
  split at h
  · rename_i b off hb
    simp only [Option.some.injEq] at h
    rw [hb] at hx
    subst h
    have hx2 := hx
    obtain ⟨r, δ, _, _, e⟩ := hx.ptr
    exact ⟨a.eval x, by simp [execOp, ho, e], hx2⟩
  · rename_i f y c hb
    simp only [Option.some.injEq] at h
    rw [hb] at hx
    subst h
    have hx2 := hx
    obtain ⟨_, _, e, _⟩ := hx.func
    exact ⟨a.eval x, by simp [execOp, ho, e], hx2⟩
  · rename_i i j off hb
    simp only [Option.some.injEq] at h
    rw [hb] at hx
    subst h
    have hx2 := hx
    obtain ⟨r, δ, _, _, _, e, _⟩ := hx.lptr
    exact ⟨a.eval x, by simp [execOp, ho, e], hx2⟩
  · cases h

theorem gives_iface {o : Oper} {t : TypeId} {x : Operand} (ho : o.op = .makeInterface t x) (hT : TRel ρ μ tm a) (hc : P.concrete t = true) : Gives P ρ μ a o w (.iface t (ev tm (opd x))) :=
  ⟨.iface t (a.eval x), by simp [execOp, ho, run_makeInterface, hc], by simp only [VRel]; exact ⟨_, rfl, ev_sound hT x⟩⟩

theorem gives_func {o : Oper} {f : FuncId} {x c : Array Operand} (ho : o.op = .makeFunc (.func f) x c) (hT : TRel ρ μ tm a) : Gives P ρ μ a o w (.func f (evL tm (opds x.toList)) (evL tm (opds c.toList))) :=
  ⟨.func (.func f) (x.map a.eval) (c.map a.eval), by simp [execOp, ho, Instr.makeFunc], by
    simp only [VRel]
    exact ⟨_, _, rfl, by simpa using evL_sound hT x.toList, by simpa using evL_sound hT c.toList⟩⟩

theorem gives_ext {o : Oper} {x : Operand} {i : Nat} (ho : o.op = .extract x i) (hT : TRel ρ μ tm a) {v : AVal} (h : extV (ev tm (opd x)) i = some v) : Gives P ρ μ a o w v := by
  have hx := ev_sound hT x
  unfold extV at h
  split at h
  · rename_i vs hb
    rw [hb] at hx
    obtain ⟨y, e, hy⟩ := hx.tuple
    rw [nth_eq] at h
    obtain ⟨v', hv, hr⟩ := hy.get h
    rw [Array.getElem?_toList] at hv
    exact ⟨v', by simp [execOp, ho, e, Instr.extract, hv], hr⟩
  · cases h

theorem Addr.add_bare (r o n : Nat) : (⟨r, o, none⟩ : Addr).add n = ⟨r, o + n, none⟩ := by
  unfold Addr.add
  by_cases h : n = 0
  · subst h; simp
  · rw [if_neg h]

theorem gives_fieldA {o : Oper} {t : TypeId} {x : Operand} {f : Nat} (ho : o.op = .fieldAddr t x f) (hT : TRel ρ μ tm a) {fs : Array Field} {g : Field} {n : Nat} (hu : P.underlying t = some (.struct fs)) (hf : fs[f]? = some g)
    (hn : sizeT P g.type = some (n + 1)) {v : AVal} (h : fieldAV g.offset (ev tm (opd x)) = some v) : Gives P ρ μ a o w v := by
  have hx := ev_sound hT x
  unfold fieldAV at h
  split at h
  · rename_i b off hb
    simp only [Option.some.injEq] at h
    subst h
    rw [hb] at hx
    obtain ⟨r, δ, m, hm, e⟩ := hx.ptr
    refine ⟨.pointer (some ⟨r, δ + (off + g.offset), none⟩), ?_, ?_⟩
    · have hs := run_sizeT (w := w) hn
      simp [execOp, ho, e, Instr.fieldAt, run_underlying hu, hf, Instr.sureAddr, fieldPlace, hs, Addr.add_bare, Nat.add_assoc]
    · simp only [VRel]; exact ⟨r, δ, _, hm, rfl⟩
  · rename_i i j off hb
    simp only [Option.some.injEq] at h
    subst h
    rw [hb] at hx
    obtain ⟨r, δ, c, t, ps, e, h1, h2⟩ := hx.lptr
    refine ⟨.pointer (some ⟨r, δ + (off + g.offset), none⟩), ?_, ?_⟩
    · have hs := run_sizeT (w := w) hn
      simp [execOp, ho, e, Instr.fieldAt, run_underlying hu, hf, Instr.sureAddr, fieldPlace, hs, Addr.add_bare, Nat.add_assoc]
    · simp only [VRel]; exact ⟨r, δ, c, t, ps, rfl, h1, h2⟩
  · cases h

theorem gives_field {o : Oper} {t : TypeId} {x : Operand} {f : Nat} (ho : o.op = .field t x f) (hT : TRel ρ μ tm a) {fs : Array Field} {g : Field} {n : Option Nat} (hu : P.underlying t = some (.struct fs)) (hf : fs[f]? = some g)
    (hn : aggT P g.type = some n) {v : AVal} (h : fieldV g.offset n (ev tm (opd x)) = some v) : Gives P ρ μ a o w v := by
  have hx := ev_sound hT x
  unfold fieldV at h
  split at h
  · rename_i cs hb
    rw [hb] at hx
    obtain ⟨y, e, hy⟩ := hx.agg
    obtain ⟨v', h1, h2⟩ := part_sound (w := w) hn hy h
    exact ⟨v', by simp [execOp, ho, e, Instr.field, run_underlying hu, hf, asAgg, h1], h2⟩
  · cases h

theorem gives_idxA (hΓ : Γ.Hold ρ) {o : Oper} {t e : TypeId} {x i : Operand} (ho : o.op = .indexAddr t x i) (hT : TRel ρ μ tm a) {n : Nat} (hu : P.underlying t = some (.slice e)) (hn : sizeT P e = some n) {v : AVal}
    (h : idxAV Γ n (ev tm (opd x)) (ev tm (opd i)) (natOf (ev tm (opd i))) = some v) : Gives P ρ μ a o w v := by
  have hx := ev_sound hT x
  have hi := ev_sound hT i
  have key : ∀ (b off len r δ m c : Nat), idxAK n b off len (natOf (ev tm (opd i))) = some v → μ b = some (r, δ, m) → a.eval x = .slice (some ⟨r, δ + off, none⟩) len c → Gives P ρ μ a o w v := fun b off len r δ m c h hm e1 => by
    unfold idxAK at h
    obtain ⟨j, hj, h⟩ := bnd_some h
    obtain ⟨hlt, h⟩ := cond_some h
    simp only [Option.some.injEq] at h
    subst h
    obtain ⟨k, e2⟩ := natOf_sound hj hi
    have hs := run_sizeT (w := w) hn
    have hlt := blt_iff.1 hlt
    refine ⟨.pointer (some ⟨r, δ + (off + j * n), none⟩), ?_, ?_⟩
    · simp [execOp, ho, e1, e2, Instr.indexAt, asIntOf, run_underlying hu, hs, hlt, Addr.add_bare, Nat.add_assoc]
    · simp only [VRel]; exact ⟨r, δ, _, hm, rfl⟩
  unfold idxAV at h
  split at h
  · rename_i f j es len hb
    rw [hb] at hx
    unfold idxAS at h
    split at h
    · rename_i k t hi2
      obtain ⟨hc, h⟩ := cond_some h
      simp only [Option.some.injEq] at h
      subst h
      rw [Bool.and_eq_true, Bool.and_eq_true, nbeq_iff] at hc
      obtain ⟨rfl, h1, h2⟩ := hc
      have h1 := knownT_geq hΓ h1
      have h2 := knownT_lss hΓ h2
      rw [hi2] at hi
      have e2 := hi.int
      obtain ⟨p, c, e1, hc, hlen, hp⟩ := hx.lst_slice
      rw [hlen] at h2
      have h1 : 0 ≤ t.den ρ := h1
      obtain ⟨m, hm⟩ : ∃ m : Nat, t.den ρ = (m : Int) := ⟨(t.den ρ).toNat, by omega⟩
      have hlt : m < (ρ.lst j).length := by omega
      obtain ⟨r, δ, cs, ty, rfl, k1, k2⟩ := hp (by omega)
      have hs := run_sizeT (w := w) hn
      obtain ⟨ps, hps⟩ : ∃ ps, (ρ.lst j)[m]? = some ps := ⟨_, List.getElem?_eq_getElem hlt⟩
      refine ⟨.pointer (some ⟨r, δ + m * n, none⟩), ?_, ?_⟩
      · rw [hm] at e2
        simp [execOp, ho, e1, e2, Instr.indexAt, asIntOf, run_underlying hu, hs, hlt, Addr.add_bare, Nat.add_assoc]
      · simp only [VRel]
        refine ⟨r, δ + m * n, cs, ty, ps, rfl, k1, h1, ?_, (k2.get m ps hps).2⟩
        rw [hm]; exact hps
    · cases h
  · rename_i b off len cap hb
    rw [hb] at hx
    obtain ⟨r, δ, m, hm, e1, _⟩ := hx.slice
    exact key _ _ _ _ _ _ _ h hm e1
  · rename_i b off len cap hb
    rw [hb] at hx
    obtain ⟨r, δ, m, c, hm, e1, _⟩ := hx.gslice
    exact key _ _ _ _ _ _ _ h hm e1
  · cases h

theorem gives_idxArr {o : Oper} {t e : TypeId} {x i : Operand} {len : Nat} (ho : o.op = .indexAddr t x i) (hT : TRel ρ μ tm a) {n : Nat} (hu : P.underlying t = some (.array len e)) (hn : sizeT P e = some n) {v : AVal}
    (h : idxArrV len n (ev tm (opd x)) (natOf (ev tm (opd i))) = some v) : Gives P ρ μ a o w v := by
  have hx := ev_sound hT x
  have hi := ev_sound hT i
  unfold idxArrV at h
  split at h
  · rename_i b off hb
    obtain ⟨j, hj, h⟩ := bnd_some h
    obtain ⟨hlt, h⟩ := cond_some h
    simp only [Option.some.injEq] at h
    subst h
    rw [hb] at hx
    obtain ⟨r, δ, m, hm, e1⟩ := hx.ptr
    obtain ⟨k, e2⟩ := natOf_sound hj hi
    have hs := run_sizeT (w := w) hn
    have hlt := blt_iff.1 hlt
    refine ⟨.pointer (some ⟨r, δ + (off + j * n), none⟩), ?_, ?_⟩
    · simp [execOp, ho, e1, e2, Instr.indexAt, asIntOf, run_underlying hu, hs, hlt, Addr.add_bare, Nat.add_assoc, Instr.sureAddr]
    · simp only [VRel]; exact ⟨r, δ, _, hm, rfl⟩
  · cases h

theorem gives_idx {o : Oper} {t e : TypeId} {x i : Operand} {len : Nat} (ho : o.op = .index t x i) (hT : TRel ρ μ tm a) {n : Nat} {ag : Option Nat} (hu : P.underlying t = some (.array len e)) (hn : sizeT P e = some n) (ha : aggT P e = some ag) {v : AVal}
    (h : idxV len n ag (ev tm (opd x)) (natOf (ev tm (opd i))) = some v) : Gives P ρ μ a o w v := by
  have hx := ev_sound hT x
  have hi := ev_sound hT i
  unfold idxV at h
  split at h
  · rename_i cs hb
    obtain ⟨j, hj, h⟩ := bnd_some h
    obtain ⟨hlt, h⟩ := cond_some h
    rw [hb] at hx
    obtain ⟨y, e1, hy⟩ := hx.agg
    obtain ⟨k, e2⟩ := natOf_sound hj hi
    have hs := run_sizeT (w := w) hn
    have hlt := blt_iff.1 hlt
    obtain ⟨v', h1, h2⟩ := part_sound (w := w) ha hy h
    refine ⟨v', ?_, h2⟩
    simp [execOp, ho, e1, e2, Instr.index, asIntOf, run_underlying hu, hs, hlt, h1]
  · cases h

theorem gives_idxS {o : Oper} {t : TypeId} {x i : Operand} (ho : o.op = .index t x i) (hT : TRel ρ μ tm a) (hu : P.underlying t = some .string) {v : AVal}
    (h : idxSV (ev tm (opd x)) (natOf (ev tm (opd i))) = some v) : Gives P ρ μ a o w v := by
  have hx := ev_sound hT x
  have hi := ev_sound hT i
  unfold idxSV at h
  split at h
  · rename_i s hb
    obtain ⟨j, hj, h⟩ := bnd_some h
    obtain ⟨c, hc, h⟩ := bnd_some h
    simp only [Option.some.injEq] at h
    subst h
    rw [hb] at hx
    obtain ⟨s', e1, rfl⟩ := hx.str
    obtain ⟨k, e2⟩ := natOf_sound hj hi
    rw [nnth_eq] at hc
    unfold strOf at hc
    rw [List.getElem?_map] at hc
    obtain ⟨u, hu', rfl⟩ := Option.map_eq_some_iff.1 hc
    have hlt : j < s'.size := by
      have := (List.getElem?_eq_some_iff.1 hu').1
      simpa using this
    refine ⟨.int .u8 u.toNat, ?_, by simp only [VRel, ST.den]; rfl⟩
    have hg : s'[j]? = some u := by
      rw [ByteArray.getElem?_lt' _ _ hlt]
      rw [Array.getElem?_toList] at hu'
      have := (Array.getElem?_eq_some_iff.1 hu').2
      rw [← this]; rfl
    simp [execOp, ho, e1, e2, Instr.index, asIntOf, run_underlying hu, hg]
  · cases h

theorem gives_lenS (hΓ : Γ.Hold ρ) {o : Oper} {t : TypeId} {x : Operand} {c : Call} (ho : o.op = .call c) (hcal : c.callee = .builtin .len) (hargs : c.args = #[x]) (htys : c.argTypes = #[t]) (hT : TRel ρ μ tm a)
    (hu : P.underlying t = some .string) {v : AVal} (h : lenSV Γ (ev tm (opd x)) = some v) : Gives P ρ μ a o w v := by
  have hx := ev_sound hT x
  unfold lenSV at h
  split at h
  · rename_i i hb
    obtain ⟨r, hr, h⟩ := bnd_some h
    simp only [Option.some.injEq] at h
    subst h
    rw [hb] at hx
    obtain ⟨s', e1, e2⟩ := hx.svar
    refine ⟨.int .i64 s'.size, ?_, ?_⟩
    · simp [execOp, ho, resolve, hcal, hargs, htys, invoke, builtin, e1, Builtin.len_, run_underlying hu, goInt]
    · have hm := lookN_mem hr
      have h1 := (hΓ.slen _ hm).1
      simp only [VRel]
      rw [show (i, r).2.1 = r.1 from rfl] at h1
      rw [h1, ← e2, strOf_length]
  · rename_i s hb
    simp only [Option.some.injEq] at h
    subst h
    rw [hb] at hx
    obtain ⟨s', e1, rfl⟩ := hx.str
    refine ⟨.int .i64 s'.size, ?_, ?_⟩
    · simp [execOp, ho, resolve, hcal, hargs, htys, invoke, builtin, e1, Builtin.len_, run_underlying hu, goInt]
    · simp only [lit, VRel, ST.den]; rw [nlen_eq, strOf_length]; rfl
  · rename_i n hb
    simp only [Option.some.injEq] at h
    subst h
    rw [hb] at hx
    obtain ⟨s', e1, _⟩ := hx.anyStr
    refine ⟨.int .i64 s'.size, ?_, trivial⟩
    simp [execOp, ho, resolve, hcal, hargs, htys, invoke, builtin, e1, Builtin.len_, run_underlying hu, goInt]
  · cases h

theorem gives_lenL {o : Oper} {t e : TypeId} {x : Operand} {c : Call} (ho : o.op = .call c) (hcal : c.callee = .builtin .len) (hargs : c.args = #[x]) (htys : c.argTypes = #[t]) (hT : TRel ρ μ tm a)
    (hu : P.underlying t = some (.slice e)) {v : AVal} (h : lenLV (ev tm (opd x)) = some v) : Gives P ρ μ a o w v := by
  have hx := ev_sound hT x
  unfold lenLV at h
  split at h
  · rename_i b off n cap hb
    simp only [Option.some.injEq] at h
    subst h
    rw [hb] at hx
    obtain ⟨r, δ, m, _, e1, _⟩ := hx.slice
    refine ⟨.int .i64 n, ?_, ?_⟩
    · simp [execOp, ho, resolve, hcal, hargs, htys, invoke, builtin, e1, Builtin.len_, run_underlying hu, goInt]
    · simp only [lit, VRel, ST.den]; rfl
  · rename_i b off n cap hb
    simp only [Option.some.injEq] at h
    subst h
    rw [hb] at hx
    obtain ⟨r, δ, m, c', _, e1, _⟩ := hx.gslice
    refine ⟨.int .i64 n, ?_, ?_⟩
    · simp [execOp, ho, resolve, hcal, hargs, htys, invoke, builtin, e1, Builtin.len_, run_underlying hu, goInt]
    · simp only [lit, VRel, ST.den]; rfl
  · rename_i hb
    simp only [Option.some.injEq] at h
    subst h
    rw [hb] at hx
    have e1 : a.eval x = .slice none 0 0 := by simpa only [VRel] using hx
    refine ⟨.int .i64 0, ?_, ?_⟩
    · simp [execOp, ho, resolve, hcal, hargs, htys, invoke, builtin, e1, Builtin.len_, run_underlying hu, goInt]
    · simp only [lit, VRel, ST.den]; rfl
  · rename_i b hb
    simp only [Option.some.injEq] at h
    subst h
    rw [hb] at hx
    obtain ⟨r, m, hm, e1, _⟩ := hx.gbytes
    refine ⟨.int .i64 (hLen m : Nat), ?_, ?_⟩
    · simp [execOp, ho, resolve, hcal, hargs, htys, invoke, builtin, e1, Builtin.len_, run_underlying hu, goInt]
    · simp only [VRel]; exact ⟨r, m, hm, rfl⟩
  · rename_i f i es n hb
    simp only [Option.some.injEq] at h
    subst h
    rw [hb] at hx
    obtain ⟨p, c', e1, _, hn, _⟩ := hx.lst_slice
    refine ⟨.int .i64 (ρ.lst i).length, ?_, ?_⟩
    · simp [execOp, ho, resolve, hcal, hargs, htys, invoke, builtin, e1, Builtin.len_, run_underlying hu, goInt]
    · simp only [VRel]; rw [hn]
  · rename_i b es n hb
    simp only [Option.some.injEq] at h
    subst h
    rw [hb] at hx
    obtain ⟨r, m, k, _, e1, hn, _⟩ := hx.vec
    refine ⟨.int .i64 k, ?_, ?_⟩
    · simp [execOp, ho, resolve, hcal, hargs, htys, invoke, builtin, e1, Builtin.len_, run_underlying hu, goInt]
    · simp only [VRel]; rw [hn]
  · cases h

theorem sliceData_nil (ts : Array TypeId) (t : TypeId) (l c : Nat) : Builtin.unsafeSliceData_ ts t #[.slice none l c] = pure (.pointer none) := rfl
theorem sliceData_some (ts : Array TypeId) (t : TypeId) (p : Addr) (l c : Nat) (hc : c ≠ 0) : Builtin.unsafeSliceData_ ts t #[.slice (some p) l c] = pure (.pointer (some p)) := by
  have : Builtin.unsafeSliceData_ ts t #[.slice (some p) l c] = (if c ≠ 0 then pure (.pointer (some p)) else (viewAt p.block >>= fun v => if v.isSome then pure (.pointer (some p)) else (elemOf t >>= fun e => newObj (.view p e) >>= fun n => pure (.pointer (some ⟨n, 0, none⟩))))) := rfl
  rw [this, if_pos hc]

theorem gives_sdata {o : Oper} {x : Operand} {c : Call} (ho : o.op = .call c) (hcal : c.callee = .builtin .unsafeSliceData) (hargs : c.args = #[x]) (hT : TRel ρ μ tm a)
    {v : AVal} (h : sdataV (ev tm (opd x)) = some v) : Gives P ρ μ a o w v := by
  have hx := ev_sound hT x
  unfold sdataV at h
  split at h
  · rename_i hb
    simp only [Option.some.injEq] at h
    subst h
    rw [hb] at hx
    have e1 : a.eval x = .slice none 0 0 := by simpa only [VRel] using hx
    refine ⟨.pointer none, ?_, by simp only [VRel]⟩
    simp [execOp, ho, resolve, hcal, hargs, invoke, builtin, e1, sliceData_nil]
  · rename_i b hb
    simp only [Option.some.injEq] at h
    subst h
    rw [hb] at hx
    obtain ⟨r, m, hm, e1, h1, h2⟩ := hx.gbytes
    refine ⟨.pointer (some ⟨r, 0, none⟩), ?_, by simp only [VRel]; exact ⟨r, 0, m, hm, rfl⟩⟩
    have hc : ¬ hCap m = 0 := by omega
    simp [execOp, ho, resolve, hcal, hargs, invoke, builtin, e1, sliceData_some _ _ _ _ _ hc]
  · cases h

end
end Go.AM
