/- Regions that draw their order: a step that comes up early. -/
import Derived.Test.YthgbnljjolhodaaGreatDoorAmDraw
set_option linter.all false
namespace Go.AM

theorem AVal.eqs_spec {x y : AVal} (h : x.eqs y = true) : x = y := by
  unfold AVal.eqs at h
  split at h
  · rw [AVal.eqL_spec h]
  · rw [AVal.eqL_spec h]
  · exact AVal.eq_spec h

section
variable {Γ : Facts} {call : CallF} {all : List Step} {W : Nat → Nat → Bool}

theorem agreeA_spec {Γ : Facts} {tm : Tr AVal} {o : ROp} {v : AVal} : ∀ {k n : Nat} {hs : List Heap} {h : Heap}, agreeA Γ tm o v k hs = true → n < k → hs[n]? = some h → readA Γ tm h o = some v
  | 0, _, _, _, _, hn, _ => by omega
  | k + 1, n, [], h, ha, hn, hh => by simp at hh
  | k + 1, n, g :: hs, h, ha, hn, hh => by
    have ha : (sameO v (readA Γ tm g o) && agreeA Γ tm o v k hs) = true := ha
    rw [Bool.and_eq_true] at ha
    cases n with
    | zero =>
      simp only [List.getElem?_cons_zero, Option.some.injEq] at hh
      subst hh
      have h1 := ha.1
      unfold sameO at h1
      split at h1
      · rename_i u hu
        rw [hu, AVal.eqs_spec h1]
      · cases h1
    | succ n => exact agreeA_spec (k := k) (n := n) ha.2 (Nat.lt_of_succ_lt_succ hn) (by simpa using hh)

theorem steadyA_spec {Γ : Facts} {s : Step} {f : Fr} {hs : List Heap} {o : ROp} (ho : s.op = .r o) (h : steadyA Γ s f hs = true) (hw : wantedA f.tm s.guard = some true) {v : AVal} (hv : readA Γ f.tm f.h o = some v) {n : Nat} {hk : Heap} (hn : n < s.back) (hh : hs[n]? = some hk) : readA Γ f.tm hk o = some v := by
  unfold steadyA at h
  cases hb : s.back with
  | zero => omega
  | succ m =>
    rw [ho, hb] at h
    simp only at h
    unfold steadyR at h
    rw [hw] at h
    simp only [hv] at h
    exact agreeA_spec (k := m + 1) h (by rw [hb] at hn; exact hn) hh

/-- the memory in which a step that comes up early reads -/
def SeesIn (μ : Where) (h : Heap) (f : Fr) (hs : List Heap) (pre : List Item) (back : Nat) : Prop :=
  (∀ b B, μ b ≠ none → f.h.get b = some B → h.get b = some B) ∨
  ∃ n hk, hs[n]? = some hk ∧ (∀ b B, μ b ≠ none → hk.get b = some B → h.get b = some B) ∧ n + muts (pre.map Item.pair) < back

theorem futs_none : ∀ {l : List Item} {id : Nat} {f : Fr}, (∀ y ∈ l, y.e = none) → Futs Γ call l id f
  | [], _, _, _ => trivial
  | z :: _, _, _, h => ⟨fun _ e => (by rw [h z (by simp)] at e; cases e), .inr fun w hw => h w (by simp [hw])⟩

/-- A STEP THAT COMES UP EARLY gives what it gives in the machine's own order -/
theorem early {μ : Where} {tm : Tr AVal} {h : Heap} {res : RRes} {y : Item} {post : List Item} (hy : y.e = none) (hm : isMut y.s.op = false)
    (hread : ∀ o, y.s.op = .r o → ∀ hk : Heap, (∀ b B, μ b ≠ none → hk.get b = some B → h.get b = some B) → ∀ v, readA Γ tm hk o = some v → readA Γ tm h o = some v) :
    ∀ (pre : List Item) {id : Nat} {f : Fr} {hs : List Heap}, okD W ((pre ++ y :: post).map Item.pair) = true → Clo W (pre ++ y :: post) → (∀ x ∈ pre ++ y :: post, x.e ≠ none → isMut x.s.op = false) →
      (∀ x ∈ pre, x.e = none → W x.i y.i = false) → drawA Γ call all ((pre ++ y :: post).map (·.s)) id f hs = some res → Futs Γ call (pre ++ y :: post) id f →
      (∀ t ∈ y.s.names, tm.get t = extT (pre ++ y :: post) f.tm.get t) → SeesIn μ h f hs pre y.s.back →
      (∀ (k : Nat) (x : Item) (v : AVal) (B : Block), pre[k]? = some x → x.e = some (v, some B) → h.get (id + k) = some B) → (∀ (k : Nat) (x : Item), pre[k]? = some x → x.e = none → μ (id + k) = none) →
      ∃ u, floS Γ tm h (id + pre.length) y.s = some u ∧ Futs Γ call (pre ++ { y with e := some u } :: post) id f
  | [], id, f, hs, hok, hclo, hflo, _, hd, hfut, ht, hsee, _, _ => by
    have hO := okD_cons (x := y.pair) (r := post.map Item.pair) hok
    simp only [List.nil_append, List.map_cons, drawA_cons] at hd
    obtain ⟨hst, hd⟩ := cond_some hd
    obtain ⟨x, hx, hd⟩ := bnd_some hd
    obtain ⟨u, hu, rfl⟩ := stepD_flo hm hx
    have hnames : ∀ t ∈ y.s.names, tm.get t = f.tm.get t := fun t hn => by
      rw [ht t hn]
      simp only [List.nil_append, extT, hy]
      refine extT_none fun z hz hze hzd => ?_
      have h1 := (hO.apart z.pair (List.mem_map_of_mem hz)).writes t hzd hn
      have h2 := hclo.1 hy z hz hze
      simp only [Item.pair] at h1
      rw [h1] at h2
      cases h2
    refine ⟨u, ?_, ?_⟩
    · rw [floS_congr hnames] at *
      simp only [List.length_nil, Nat.add_zero]
      cases hop : y.s.op with
      | m o => rw [hop] at hm; cases hm
      | p o =>
        have : floS Γ f.tm h id y.s = floS Γ f.tm f.h id y.s := by unfold floS floA; rw [hop]
        rw [this]; exact hu
      | a o =>
        have : floS Γ f.tm h id y.s = floS Γ f.tm f.h id y.s := by unfold floS floA; rw [hop]
        rw [this]; exact hu
      | r o =>
        have hu2 := hu
        unfold floS at hu ⊢
        obtain ⟨b, hb, hu⟩ := bnd_some hu
        rw [hb]
        show (bif b then floA Γ f.tm h id y.s.op else some (.any, none)) = some u
        cases b with
        | false => exact hu
        | true =>
          simp only [cond_true] at hu ⊢
          rw [hop] at hu ⊢
          simp only [floA] at hu ⊢
          obtain ⟨v, hv, hu⟩ := bnd_some hu
          simp only [Option.some.injEq] at hu
          subst hu
          have hag : Agree tm f.tm o.opds := agree_of_names fun t hn => hnames t (by
            unfold Step.names
            rw [hop]
            split
            · exact List.mem_cons_of_mem _ hn
            · exact hn)
          have hfin : readA Γ f.tm h o = some v := by
            rw [← readA_congr hag]
            rcases hsee with hs1 | ⟨n, hk, hh, hs2, hlt⟩
            · exact hread o hop f.h hs1 v (by rw [readA_congr hag]; exact hv)
            · refine hread o hop hk hs2 v ?_
              rw [readA_congr hag]
              exact steadyA_spec hop hst hb hv (n := n) (by omega) hh
          rw [hfin]
          rfl
    · refine ⟨fun u' e => ?_, hfut.2⟩
      simp only [Option.some.injEq] at e
      subst e
      exact hu
  | x :: pre, id, f, hs, hok, hclo, hflo, hW, hd, hfut, ht, hsee, hE, hN => by
    have hO := okD_cons (x := x.pair) (r := (pre ++ y :: post).map Item.pair) hok
    have hyin : y.pair ∈ (pre ++ y :: post).map Item.pair := List.mem_map_of_mem (by simp)
    have hA := hO.apart y.pair hyin
    have hmap : (pre ++ y :: post).map Item.pair = pre.map Item.pair ++ y.pair :: post.map Item.pair := by simp
    simp only [List.cons_append, List.map_cons, drawA_cons] at hd
    obtain ⟨hst, hd⟩ := cond_some hd
    obtain ⟨r, hr, hd⟩ := bnd_some hd
    have hxy : x.e = none → isMut x.s.op = true → muts (pre.map Item.pair) < y.s.back := fun he hxm => by
      have hb := hO.back hxm
      rw [hmap] at hb
      have := backD_spec hb hm (hW x (by simp) he)
      simp only [Item.pair] at this ⊢
      omega
    have hflox : x.e ≠ none → isMut x.s.op = false := fun he => hflo x (by simp) he
    cases r with
    | panic v f1 =>
      exfalso
      have hxm : isMut x.s.op = true := by
        cases hb : isMut x.s.op with
        | true => rfl
        | false =>
          obtain ⟨u, _, e⟩ := stepD_flo hb hr
          cases e
      have he : x.e = none := by
        cases hb : x.e with
        | none => rfl
        | some u => rw [hflox (by rw [hb]; simp)] at hxm; cases hxm
      simp only [goesD] at hd
      obtain ⟨hcl, _⟩ := cond_some hd
      have hcl2 : clearA ((pre.map Item.pair ++ y.pair :: post.map Item.pair).map (·.2)) 0 = true := by
        rw [← hmap]
        rw [List.map_map]
        exact hcl
      have h1 := clearA_spec hcl2 hm
      have h2 := hxy he hxm
      simp only [Item.pair] at h1 h2
      omega
    | go f' =>
      simp only [goesD] at hd
      obtain ⟨v, hv⟩ := stepD_tm hr
      have hfut' : Futs Γ call (pre ++ y :: post) (id + 1) f' := by
        rcases hfut.2 with ⟨g, hg, hf⟩ | hf
        · rw [hr] at hg
          simp only [Option.some.injEq, RRes.go.injEq] at hg
          subst hg
          exact hf
        · exact futs_none hf
      have ht' : ∀ t ∈ y.s.names, tm.get t = extT (pre ++ y :: post) f'.tm.get t := fun t hn => by
        rw [ht t hn]
        simp only [List.cons_append, extT]
        cases he : x.e with
        | none =>
          simp only
          refine extT_congr ?_
          rw [hv, putD_get]
          rw [if_neg]
          intro hd
          have h1 := hA.reads t hd hn
          have h2 := hW x (by simp) he
          simp only [Item.pair] at h1
          rw [h1] at h2
          cases h2
        | some u =>
          simp only
          have hxm := hflox (by rw [he]; simp)
          have hfl := hfut.1 u he
          rw [stepD_of_flo hxm hfl] at hr
          simp only [Option.some.injEq, RRes.go.injEq] at hr
          subst hr
          by_cases hd : x.s.dst = some t
          · rw [if_pos hd, extT_none, putD_get, if_pos hd]
            intro z hz _ hzd
            exact (hO.apart z.pair (List.mem_map_of_mem hz)).dst t hd hzd
          · rw [if_neg hd]
            exact extT_congr (by rw [putD_get, if_neg hd])
      have hsee' : SeesIn μ h f' (bif isMut x.s.op then f.h :: hs else hs) pre y.s.back := by
        cases hxm : isMut x.s.op with
        | true =>
          have he : x.e = none := by
            cases hb : x.e with
            | none => rfl
            | some u => rw [hflox (by rw [hb]; simp)] at hxm; cases hxm
          rcases hsee with hs1 | ⟨n, hk, hh, hs2, hlt⟩
          · exact .inr ⟨0, f.h, rfl, hs1, by have := hxy he hxm; omega⟩
          · refine .inr ⟨n + 1, hk, by simpa using hh, hs2, ?_⟩
            have : muts ((x :: pre).map Item.pair) = muts (pre.map Item.pair) + 1 := by
              simp only [muts, List.map_cons, List.countP_cons]
              simp only [Item.pair, hxm, if_true]
            omega
        | false =>
          simp only [cond_false]
          obtain ⟨u, hu, e⟩ := stepD_flo hxm hr
          simp only [RRes.go.injEq] at e
          rcases hsee with hs1 | ⟨n, hk, hh, hs2, hlt⟩
          · left
            intro b B hb hB
            rw [e] at hB
            simp only [putB_get] at hB
            split at hB
            · rename_i B' eB
              split at hB
              · rename_i eb
                simp only [Option.some.injEq] at hB
                subst hB
                cases he : x.e with
                | none =>
                  have := hN 0 x rfl he
                  rw [Nat.add_zero] at this
                  rw [eb] at hb
                  exact absurd this hb
                | some u' =>
                  have hfl := hfut.1 u' he
                  rw [hu] at hfl
                  simp only [Option.some.injEq] at hfl
                  subst hfl
                  have := hE 0 x u.1 B' rfl (by rw [he, ← eB])
                  rw [eb]; simpa using this
              · exact hs1 b B hb hB
            · exact hs1 b B hb hB
          · refine .inr ⟨n, hk, hh, hs2, ?_⟩
            have : muts ((x :: pre).map Item.pair) = muts (pre.map Item.pair) := by
              simp only [muts, List.map_cons, List.countP_cons]
              simp only [Item.pair, hxm]
              simp
            omega
      obtain ⟨u, hu, hF⟩ := early hy hm hread pre hO.rest hclo.2 (fun z hz => hflo z (by simp only [List.cons_append, List.mem_cons]; exact .inr hz)) (fun z hz => hW z (by simp [hz])) hd hfut' ht' hsee'
        (fun k z v B hz he => by have := hE (k + 1) z v B (by simpa using hz) he; rw [show id + (k + 1) = id + 1 + k from by omega] at this; exact this)
        (fun k z hz he => by have := hN (k + 1) z (by simpa using hz) he; rw [show id + (k + 1) = id + 1 + k from by omega] at this; exact this)
      refine ⟨u, ?_, hfut.1, .inl ⟨f', hr, hF⟩⟩
      rw [List.length_cons, show id + (pre.length + 1) = id + 1 + pre.length from by omega]
      exact hu

end
end Go.AM
