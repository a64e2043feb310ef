/- The evaluator is right: calls, code, regions that draw their order. -/
import Derived.Test.YtimfoejkeblbeaaGreatDoorA3
import Derived.ScopeJumps
import Derived.Orders
set_option linter.all false
namespace Go.Vm
open Go
section
variable {N : Names} {F : Nat → Option Obj} {w0 : World} {P : Program} {μ : Mp} {h h' : AH} {w : World} {n : Nat}

/-- A value came, or nothing. -/
def gives (N : Names) (μ : Mp) (n : Nat) (v : AV) : Next → Prop
  | .value x => V N μ n v x
  | .skip => v = .und
  | _ => False
/-- What an operation does, and what it gives. -/
abbrev Gives (N : Names) (G : Tr (Tr AV)) (F : Nat → Option Obj) (w0 : World) (P : Program) (s : Sem Next) (w : World) (μ : Mp) (h h' : AH) (v : AV) : Prop :=
  Does N G F w0 P s w μ h h' fun μ' nx => gives N μ' h'.nx v nx
theorem Gives.val {G : Tr (Tr AV)} {s : Sem Value} {v : AV} (hd : Does N G F w0 P s w μ h h' (Yv N h' v)) : Gives N G F w0 P (do pure (.value (← s))) w μ h h' v := by
  obtain ⟨a, w', μ', h1, h2, h3, h4, h5⟩ := hd
  exact ⟨.value a, w', μ', by simp [h1], h2, h3, h4, h5⟩
theorem Gives.unit {G : Tr (Tr AV)} {s : Sem Unit} {v : AV} (hd : Does N G F w0 P s w μ h h' (fun _ _ => v = .und)) : Gives N G F w0 P (do s; pure .skip) w μ h h' v := by
  obtain ⟨a, w', μ', h1, h2, h3, h4, h5⟩ := hd
  exact ⟨.skip, w', μ', by simp [h1], h2, h3, h4, h5⟩
theorem Gives.stay {G : Tr (Tr AV)} (r : R N G F w0 μ h w) {s : Sem Value} {v : AV} (hd : h' = h ∧ ∃ x, s.run P w = .ok x w ∧ V N μ h.nx v x) : Gives N G F w0 P (do pure (.value (← s))) w μ h h' v := by
  obtain ⟨rfl, x, h1, h2⟩ := hd
  exact Gives.val (.stay r x h1 h2)
theorem Gives.of_eq {G : Tr (Tr AV)} {s s' : Sem Next} {v : AV} (e : s' = s) (hd : Gives N G F w0 P s w μ h h' v) : Gives N G F w0 P s' w μ h h' v := by rw [e]; exact hd

theorem builtin_ok (C : Cfg) (cf : CallF) (r : R N C.glb F w0 μ h w) {b : Builtin} {ts : Array TypeId} {ty : TypeId} {cs : Array Bool} {k : Kd} (hk : cbuiltin P b ts = some k) (hok : k.ok = true) {vs : List AV} {v : AV} {args : Array Value}
    (hv : Vs N μ h.nx vs args.toList) (he : opEv C cf k vs h = some (v, h')) : Gives N C.glb F w0 P (builtin b ts ty cs args) w μ h h' v := by
  unfold cbuiltin at hk
  cases ht : ts[0]? with
  | none => rw [ht] at hk; simp at hk
  | some t =>
    rw [ht] at hk
    simp only [Option.bind_eq_bind, Option.bind_some] at hk
    cases b <;> dsimp only at hk
    case append =>
      cases hu : P.underlying t with
      | none => rw [hu] at hk; simp at hk
      | some d =>
        cases d <;> rw [hu] at hk <;> simp only [Option.bind_some] at hk <;> (try (cases hk; done))
        case slice e =>
          cases hi : P.info? e with
          | none => rw [hi] at hk; simp at hk
          | some i =>
            cases hz : tzero P e with
            | none => rw [hi, hz] at hk; simp at hk
            | some z =>
              rw [hi, hz] at hk
              simp only [Option.bind_some] at hk
              split at hk
              · cases hk
              · rename_i hzl
                have hzl : z.cells.length = i.size := Classical.byContradiction hzl
                cases hu1 : ts[1]? with
                | none => rw [hu1] at hk; simp at hk
                | some u =>
                  rw [hu1] at hk
                  simp only [Option.bind_some] at hk
                  split at hk
                  · rename_i hd; cases hk; exact Gives.val (appz_ok r ht hu hi hz hzl hu1 hd he hv)
                  · rename_i hd; cases hk; exact Gives.val (app_ok r ht hu hi hz hzl hu1 hd (fun _ h => by cases h) he hv)
                  · rename_i hd; cases hk; exact Gives.val (app_ok r ht hu hi hz hzl hu1 hd (fun _ h => by cases h) he hv)
                  · cases hk
    case len =>
      split at hk
      · rename_i hu; cases hk; exact Gives.stay r (len_ok r ht (.inl ⟨hu, rfl⟩) he hv)
      · rename_i e hu; cases hk; exact Gives.stay r (len_ok r ht (.inr (.inl ⟨⟨e, hu⟩, rfl⟩)) he hv)
      · rename_i a e hu; cases hk; exact Gives.stay r (len_ok r ht (.inr (.inr (.inl ⟨⟨a, e, hu⟩, rfl⟩))) he hv)
      · rename_i n e hu; cases hk; exact Gives.stay r (len_ok r ht (.inr (.inr (.inr ⟨n, e, hu, rfl⟩))) he hv)
      · cases hk
    case cap =>
      split at hk
      · rename_i e hu; cases hk; exact Gives.stay r (cap_ok ht hu he hv)
      · cases hk
    case copy =>
      cases hu : P.underlying t with
      | none => rw [hu] at hk; simp at hk
      | some d =>
        cases d <;> rw [hu] at hk <;> simp only [Option.bind_some] at hk <;> (try (cases hk; done))
        case slice e =>
          cases hu1 : ts[1]? with
          | none => rw [hu1] at hk; simp at hk
          | some u =>
            cases hs : tsize P e with
            | none => rw [hu1, hs] at hk; simp at hk
            | some s =>
              rw [hu1, hs] at hk
              simp only [Option.bind_some] at hk
              split at hk
              · split at hk
                · rename_i hs1; cases hk; exact Gives.val (cpy_ok r ht hu hs (fun _ => hs1) he hv)
                · cases hk
              · cases hk; exact Gives.val (cpy_ok r ht hu hs (fun h => by cases h) he hv)
              · cases hk
    case clear =>
      cases hu : P.underlying t with
      | none => rw [hu] at hk; simp at hk
      | some d =>
        cases d <;> rw [hu] at hk <;> simp only [Option.bind_some] at hk <;> (try (cases hk; done))
        case slice e =>
          cases hs : tsize P e with
          | none => rw [hs] at hk; simp at hk
          | some s =>
            cases hz : tzero P e with
            | none => rw [hs, hz] at hk; simp at hk
            | some z =>
              rw [hs, hz] at hk
              cases hk
              exact Gives.val (clr_ok r ht hu hz he hv)
    case delete =>
      cases hu : P.underlying t with
      | none => rw [hu] at hk; simp at hk
      | some d =>
        cases d <;> rw [hu] at hk <;> simp only [Option.bind_some] at hk <;> (try (cases hk; done))
        case map kt e =>
          cases hst : keyT P kt with
          | none => rw [hst] at hk; simp at hk
          | some st =>
            rw [hst] at hk
            cases hk
            exact Gives.val (del_ok r ht hu hst he hv)
    case max => cases hk; exact Gives.stay r (mx_ok (ts := ts) (ty := ty) (mx := true) he hv)
    case min => cases hk; exact Gives.stay r (mx_ok (ts := ts) (ty := ty) (mx := false) he hv)
    case unsafeSliceData => cases hk; cases hok
    case unsafeString =>
      exfalso
      revert hk
      cases P.underlying t with
      | none => intro hk; simp at hk
      | some d =>
        cases d <;> intro hk <;> simp only [Option.bind_some] at hk <;> (try (cases hk; done))
        case pointer e =>
          cases hs : tsize P e with
          | none => rw [hs] at hk; simp at hk
          | some s =>
            rw [hs] at hk
            simp only [Option.bind_some] at hk
            split at hk
            · cases hk; cases hok
            · cases hk
    all_goals (cases hk)

theorem conc_of {t : TypeId} {d : TypeDesc} (hu : P.underlying t = some d) (hn : ∀ ms, d ≠ .interface ms) : ∃ d, P.underlying t = some d ∧ ∀ ms, d ≠ .interface ms := ⟨d, hu, hn⟩
theorem nidx_get (m : String) : ∀ (l : Names) (i k : Nat), nidx m l i = some k → i ≤ k ∧ l[k - i]? = some m
  | [], _, _, h => by cases h
  | t :: l, i, k, h => by
    simp only [nidx] at h
    split at h
    · rename_i he
      cases h
      exact ⟨Nat.le_refl _, by simp [he]⟩
    · obtain ⟨h1, h2⟩ := nidx_get m l (i + 1) k h
      refine ⟨by omega, ?_⟩
      rw [show k - i = (k - (i + 1)) + 1 by omega]
      simpa using h2
theorem isU8_some {t : TypeId} (h : isU8 P t = true) : P.underlying t = some (.int .u8) := by
  unfold isU8 at h
  split at h
  · assumption
  · cases h

theorem extern_ok {f : FuncId} {fn : Func} {e : Array Value → Sem Value} {G : Tr (Tr AV)} {args : Array Value} {v : AV} (hf : P.funcs[f]? = some fn) (hb : fn.body.isSome = false) (ho : fn.origin = "") {s : String} (hs : fn.name = s) (hne : (s == "runtime.NumGoroutine") = false)
    (h1 : Extern.allNextRows.lookup s = none) (h2 : Extern.allGenericRows.lookup s = none) (h3 : Extern.allTypedRows.lookup s = none) (h4 : Extern.allRows.lookup s = some e)
    (hd : Does N G F w0 P (e args) w μ h h' (Yv N h' v)) : Gives N G F w0 P (callFunc f args) w μ h h' v := by
  obtain ⟨a, w', μ', q1, q2, q3, q4, q5⟩ := hd
  refine ⟨.value a, w', μ', ?_, q2, q3, q4, q5⟩
  have hn : Extern.findNext fn = none := by
    unfold Extern.findNext
    simp only [hs, ho, h1, next_empty]
    rfl
  have hfd : Extern.find fn = some e := by
    unfold Extern.find
    simp only [hs, h2, h3, h4]
    rfl
  rw [run_callFunc_extern hf (by rw [hs]; exact hne) (by cases hb' : fn.body with | none => rfl | some c => rw [hb'] at hb; cases hb) hn hfd, q1]
  rfl
theorem cext_ok (C : Cfg) (cf : CallF) (r : R N C.glb F w0 μ h w) {f : FuncId} {fn : Func} {k : Kd} (hf : P.funcs[f]? = some fn) (hb : fn.body.isSome = false) (hk : cext P fn = some k) (hok : k.ok = true) {vs : List AV} {v : AV} {args : Array Value}
    (hv : Vs N μ h.nx vs args.toList) (he : opEv C cf k vs h = some (v, h')) : Gives N C.glb F w0 P (callFunc f args) w μ h h' v := by
  unfold cext at hk
  split at hk
  · cases hk
  · rename_i ho
    have ho : fn.origin = "" := Classical.byContradiction ho
    have stay : ∀ {e : Array Value → Sem Value}, (h' = h ∧ ∃ x, (e args).run P w = .ok x w ∧ V N μ h.nx v x) → Does N C.glb F w0 P (e args) w μ h h' (Yv N h' v) := fun hd => by
      obtain ⟨rfl, x, h1, h2⟩ := hd
      exact .stay r x h1 h2
    split at hk
    · rename_i hs; cases hk; exact extern_ok hf hb ho hs (by decide) n_ib g_ib t_ib r_ib (stay (xib_ok r he hv))
    · rename_i hs; cases hk; exact extern_ok hf hb ho hs (by decide) n_ibs g_ibs t_ibs r_ibs (stay (xib_ok r he hv))
    · rename_i hs; cases hk; exact extern_ok hf hb ho hs (by decide) n_c g_c t_c r_c (stay (xcnt_ok r he hv))
    · rename_i hs; cases hk; exact extern_ok hf hb ho hs (by decide) n_cs g_cs t_cs r_cs (stay (xcnt_ok r he hv))
    · exfalso; revert hk; cases P.globals.findIdx? _ <;> intro hk <;> cases hk; cases hok
    · exfalso; revert hk; cases P.globals.findIdx? _ <;> intro hk <;> cases hk; cases hok
    · cases hk; cases hok
    · rename_i hs
      cases hk
      refine extern_ok hf hb ho hs (by decide) n_ne g_ne t_ne r_ne (stay ?_)
      obtain ⟨a, rfl, _⟩ := arg1_some he
      obtain ⟨X, e1, _⟩ := hv.one_inv
      have := args1 e1; subst this
      obtain ⟨rfl, hX⟩ := mov_ok he hv
      exact ⟨rfl, X, rfl, hX⟩
    · rename_i hs; cases hk; exact extern_ok hf hb ho hs (by decide) n_mc g_mc t_mc r_mc (xcl_ok r he hv)
    · exfalso
      split at hk
      · cases hk; cases hok
      · cases hk
    · cases hk
end
end Go.Vm
namespace Go.Vm
open Go
section
variable {N : Names} {F : Nat → Option Obj} {w0 : World} {P : Program} {μ : Mp} {h h' : AH} {w : World} {n : Nat}

theorem gives_value {G : Tr (Tr AV)} (r : R N G F w0 μ h w) {s : Sem Next} {x : Value} {v : AV} (hs : s.run P w = .ok (.value x) w) (hx : V N μ h.nx v x) : Gives N G F w0 P s w μ h h v := Does.stay r (.value x) hs hx
theorem kind_ok (C : Cfg) (cf : CallF) (hI : InvOk P N C) (r : R N C.glb F w0 μ h w) {ρ : Operand → Value} (hρ : ∀ f, ρ (.func f) = .func (.func f) #[] #[]) {o : Oper} {k : Kd} {xs : List Operand} (hk : ckind P N o = some (k, xs)) (hok : k.ok = true) (hnc : k.calls = false)
    {vs : List AV} {v : AV} (hv : Vs N μ h.nx vs (xs.map ρ)) (he : opEv C cf k vs h = some (v, h')) : Gives N C.glb F w0 P (execOp ρ o) w μ h h' v := by
  unfold ckind at hk
  split at hk
  · -- move
    rename_i x ho
    cases hk
    obtain ⟨rfl, hx⟩ := mov_ok he hv
    exact gives_value r (by unfold execOp; rw [ho]; rfl) hx
  · rename_i x ho
    cases hk
    obtain ⟨rfl, hx⟩ := mov_ok he hv
    exact gives_value r (by unfold execOp; rw [ho]; rfl) hx
  · -- pick
    rename_i c a b ho
    cases hk
    obtain ⟨rfl, x, h1, h2⟩ := pick_ok (P := P) he hv w
    refine gives_value r ?_ h2
    unfold execOp; rw [ho]
    dsimp only
    simp only [Sem.run_bind] at h1 ⊢
    cases hq : (asBool (ρ c)).run P w with
    | halt q w2 => rw [hq] at h1; cases h1
    | ok q w2 =>
      rw [hq] at h1
      simp only [Result.andThen_ok, Sem.run_pure] at h1 ⊢
      cases h1
      rfl
  · -- alloc
    rename_i e ho
    cases hz : tzero P e with
    | none => rw [hz] at hk; simp at hk
    | some z =>
      rw [hz] at hk; cases hk
      exact Gives.of_eq (by unfold execOp; rw [ho]) (Gives.val (alloc_ok (vs := vs) r hz he))
  · -- box
    rename_i e x ho
    cases hk
    exact Gives.of_eq (by unfold execOp; rw [ho]) (Gives.val (box_ok r hv he))
  · -- build
    rename_i t ps ho
    cases hz : tzero P t with
    | none => rw [hz] at hk; simp at hk
    | some z =>
      rw [hz] at hk
      simp only [Option.bind_eq_bind, Option.bind_some] at hk
      split at hk
      · rename_i fs hu
        obtain ⟨pl, hpl, hk⟩ := Option.bind_eq_some_iff.1 hk
        obtain ⟨l, hl, hk⟩ := Option.bind_eq_some_iff.1 hk
        cases hk
        exact Gives.of_eq (by unfold execOp; rw [ho]) (Gives.stay r (bldS_ok hz hu hpl hl he hv))
      · rename_i m e hu
        obtain ⟨s, hs, hk⟩ := Option.bind_eq_some_iff.1 hk
        cases hk
        exact Gives.of_eq (by unfold execOp; rw [ho]) (Gives.stay r (bldA_ok hz hu hs he hv))
      · cases hk
  · -- buildSlice
    rename_i t m ps ho
    cases hu : P.underlying t with
    | none => rw [hu] at hk; simp at hk
    | some d =>
      cases d <;> rw [hu] at hk <;> simp only [Option.bind_eq_bind, Option.bind_some] at hk <;> (try (cases hk; done))
      case slice e =>
        obtain ⟨s, hs, hk⟩ := Option.bind_eq_some_iff.1 hk
        obtain ⟨z, hz, hk⟩ := Option.bind_eq_some_iff.1 hk
        split at hk
        · cases hk
        · rename_i hn
          cases hk
          exact Gives.of_eq (by unfold execOp; rw [ho]) (Gives.val (bsl_ok r hu hs hz hn he hv))
  · -- load
    rename_i t a ho
    obtain ⟨g, hg, hk⟩ := Option.bind_eq_some_iff.1 hk
    cases hk
    exact Gives.of_eq (by unfold execOp; rw [ho]) (Gives.val (ld_ok C r hg hv he))
  · -- store
    rename_i t a x ho
    obtain ⟨s, hs, hk⟩ := Option.bind_eq_some_iff.1 hk
    cases hk
    exact Gives.of_eq (by unfold execOp; rw [ho]) (Gives.unit (st_ok r hs hv he))
  · -- nilCheck
    rename_i x ho
    cases hk
    obtain ⟨rfl, h1, h2⟩ := nil_ok (w := w) hI ho he hv
    exact gives_value r h1 h2
  · -- binOp
    rename_i op t x y c ho
    cases hk
    exact Gives.of_eq (by unfold execOp; rw [ho]) (Gives.stay r (bin_ok he hv w))
  · -- unOp
    rename_i op t x ho
    cases hk
    exact Gives.of_eq (by unfold execOp; rw [ho]) (Gives.stay r (un_ok he hv w))
  · -- convert
    rename_i src dst x ho
    split at hk
    · rename_i hu hd; cases hk; exact Gives.of_eq (by unfold execOp; rw [ho]) (Gives.stay r (cint_ok hu hd he hv w))
    · rename_i hu hd; cases hk; exact Gives.of_eq (by unfold execOp; rw [ho]) (Gives.stay r (cid_ok hu hd he hv w))
    · rename_i e hu hd
      split at hk
      · rename_i hc; cases hk; exact Gives.of_eq (by unfold execOp; rw [ho]) (Gives.val (cs2b_ok r hu hd (isU8_some hc.1) he hv))
      · cases hk
    · rename_i e hu hd
      split at hk
      · rename_i hc; cases hk; exact Gives.of_eq (by unfold execOp; rw [ho]) (Gives.stay r (cb2s_ok r hu hd (isU8_some hc.1) he hv))
      · cases hk
    · split at hk
      · cases hk; cases hok
      · cases hk
    · cases hk
  · -- makeInterface
    rename_i t x ho
    split at hk
    · cases hk
    · rename_i d hn hu; cases hk; exact Gives.of_eq (by unfold execOp; rw [ho]) (Gives.stay r (mki_ok ⟨d, hu, fun ms hms => hn ms (by rw [← hms])⟩ he hv w))
    · cases hk
  · -- makeFunc
    rename_i fn a b ho
    split at hk
    · rename_i f
      cases hk
      exact Gives.of_eq (by unfold execOp; rw [ho]) (Gives.stay r (mkf_ok (f := .func f) (g := .func f) rfl he hv))
    · rename_i m
      cases hi : nidx m N 0 with
      | none => rw [hi] at hk; cases hk
      | some i =>
        rw [hi] at hk
        cases hk
        have := (nidx_get m N 0 i hi).2
        rw [Nat.sub_zero] at this
        exact Gives.of_eq (by unfold execOp; rw [ho]) (Gives.stay r (mkf_ok (f := .meth i) (g := .method m) this he hv))
    · cases hk
  · -- makeMap
    rename_i t ho
    cases hk
    exact Gives.of_eq (by unfold execOp; rw [ho]; rfl) (Gives.val (mkm_ok (vs := vs) r (t := t) he))
  · -- makeSlice
    rename_i t l c ho
    cases hu : P.underlying t with
    | none => rw [hu] at hk; simp at hk
    | some d =>
      cases d <;> rw [hu] at hk <;> simp only [Option.bind_eq_bind, Option.bind_some] at hk <;> (try (cases hk; done))
      case slice e =>
        obtain ⟨i, hi, hk⟩ := Option.bind_eq_some_iff.1 hk
        obtain ⟨z, hz, hk⟩ := Option.bind_eq_some_iff.1 hk
        split at hk
        · rename_i hzl
          cases hk
          exact Gives.of_eq (by unfold execOp; rw [ho]) (Gives.val (mks_ok r hu hi hz hzl he hv))
        · cases hk
  · -- slice
    rename_i t x lo hi mx ho
    split at hk
    · cases hk
    · rename_i hmx
      have hmx' : ((mx.map ρ).isSome && !(hi.map ρ).isSome) = false := by
        rw [Option.isSome_map, Option.isSome_map]; cases mx <;> cases hi <;> first | rfl | exact absurd rfl hmx
      have hsm : ∀ o : Option Operand, (o.map ρ).isSome = o.isSome := fun o => Option.isSome_map ..
      have hl : ∀ o : Option Operand, (o.map ρ).toList = o.toList.map ρ := fun o => by cases o <;> rfl
      split at hk
      · rename_i hu
        split at hk
        · cases hk
        · rename_i hms
          cases hk
          have hnone : mx = none := by cases mx with | none => rfl | some _ => exact absurd rfl hms
          subst hnone
          have he' : k_slt (lo.map ρ).isSome (hi.map ρ).isSome vs h = some (v, h') := by rw [hsm, hsm]; exact he
          exact Gives.of_eq (by unfold execOp; rw [ho]; rfl) (Gives.stay r (slt_ok hu he' (by rw [hl, hl]; simpa using hv) w))
      · rename_i e hu
        obtain ⟨s, hs, hk⟩ := Option.bind_eq_some_iff.1 hk
        cases hk
        have he' : k_sls s (lo.map ρ).isSome (hi.map ρ).isSome (mx.map ρ).isSome vs h = some (v, h') := by rw [hsm, hsm, hsm]; exact he
        exact Gives.of_eq (by unfold execOp; rw [ho]) (Gives.stay r (sls_ok hu hs hmx' he' (by rw [hl, hl, hl]; simpa using hv) w))
      · rename_i m e hu
        obtain ⟨s, hs, hk⟩ := Option.bind_eq_some_iff.1 hk
        cases hk
        have he' : k_sla m s (lo.map ρ).isSome (hi.map ρ).isSome (mx.map ρ).isSome vs h = some (v, h') := by rw [hsm, hsm, hsm]; exact he
        exact Gives.of_eq (by unfold execOp; rw [ho]) (Gives.stay r (sla_ok hu hs hmx' he' (by rw [hl, hl, hl]; simpa using hv) w))
      · cases hk
  · -- fieldAddr
    rename_i s x i ho
    cases hu : P.underlying s with
    | none => rw [hu] at hk; simp at hk
    | some d =>
      cases d <;> rw [hu] at hk <;> simp only [Option.bind_eq_bind, Option.bind_some] at hk <;> (try (cases hk; done))
      case struct fs =>
        obtain ⟨f, hf, hk⟩ := Option.bind_eq_some_iff.1 hk
        split at hk
        · rename_i z hz
          cases hk
          exact Gives.of_eq (by unfold execOp; rw [ho]) (Gives.stay r (fda_ok hu hf hz he hv w))
        · cases hk
  · -- field
    rename_i t x i ho
    cases hu : P.underlying t with
    | none => rw [hu] at hk; simp at hk
    | some d =>
      cases d <;> rw [hu] at hk <;> simp only [Option.bind_eq_bind, Option.bind_some] at hk <;> (try (cases hk; done))
      case struct fs =>
        obtain ⟨f, hf, hk⟩ := Option.bind_eq_some_iff.1 hk
        obtain ⟨g, hg, hk⟩ := Option.bind_eq_some_iff.1 hk
        cases hk
        exact Gives.of_eq (by unfold execOp; rw [ho]) (Gives.stay r (fld_ok hu hf hg he hv w))
  · -- indexAddr
    rename_i t x i ho
    split at hk
    · rename_i m e hu
      obtain ⟨s, hs, hk⟩ := Option.bind_eq_some_iff.1 hk
      cases hk
      exact Gives.of_eq (by unfold execOp; rw [ho]) (Gives.stay r (ixa_ok hu hs he hv w))
    · rename_i e hu
      obtain ⟨s, hs, hk⟩ := Option.bind_eq_some_iff.1 hk
      cases hk
      exact Gives.of_eq (by unfold execOp; rw [ho]) (Gives.stay r (ixs_ok hu hs he hv w))
    · cases hk
  · -- index
    rename_i t x i ho
    split at hk
    · rename_i hu
      cases hk
      exact Gives.of_eq (by unfold execOp; rw [ho]) (Gives.stay r (ixt_ok hu he hv w))
    · rename_i m e hu
      obtain ⟨s, hs, hk⟩ := Option.bind_eq_some_iff.1 hk
      obtain ⟨g, hg, hk⟩ := Option.bind_eq_some_iff.1 hk
      cases hk
      exact Gives.of_eq (by unfold execOp; rw [ho]) (Gives.stay r (ixv_ok hu hs hg he hv w))
    · cases hk
  · -- lookup
    rename_i t x i ok ho
    cases hu : P.underlying t with
    | none => rw [hu] at hk; simp at hk
    | some d =>
      cases d <;> rw [hu] at hk <;> simp only [Option.bind_eq_bind, Option.bind_some] at hk <;> (try (cases hk; done))
      case map kt e =>
        obtain ⟨z, hz, hk⟩ := Option.bind_eq_some_iff.1 hk
        obtain ⟨st, hst, hk⟩ := Option.bind_eq_some_iff.1 hk
        cases hk
        exact Gives.of_eq (by unfold execOp; rw [ho]) (Gives.stay r (lkp_ok r hu hz hst he hv))
  · -- mapUpdate
    rename_i t m k x ho
    cases hu : P.underlying t with
    | none => rw [hu] at hk; simp at hk
    | some d =>
      cases d <;> rw [hu] at hk <;> simp only [Option.bind_eq_bind, Option.bind_some] at hk <;> (try (cases hk; done))
      case map kt e =>
        obtain ⟨st, hst, hk⟩ := Option.bind_eq_some_iff.1 hk
        cases hk
        exact Gives.of_eq (by unfold execOp; rw [ho]) (Gives.unit (mup_ok r hu hst he hv))
  · -- insert
    rename_i t m k x ho
    cases hu : P.underlying t with
    | none => rw [hu] at hk; simp at hk
    | some d =>
      cases d <;> rw [hu] at hk <;> simp only [Option.bind_eq_bind, Option.bind_some] at hk <;> (try (cases hk; done))
      case map kt e =>
        obtain ⟨st, hst, hk⟩ := Option.bind_eq_some_iff.1 hk
        cases hk
        exact Gives.of_eq (by unfold execOp; rw [ho]) (Gives.unit (mup_ok r hu hst he hv))
  · -- range
    rename_i t x ho
    split at hk
    · rename_i hu; cases hk; exact Gives.of_eq (by unfold execOp; rw [ho]) (Gives.val (rngs_ok r hu he hv))
    · rename_i a b hu; cases hk; exact Gives.of_eq (by unfold execOp; rw [ho]) (Gives.val (rngm_ok r hu he hv))
    · cases hk
  · -- next
    rename_i it s ho
    cases s with
    | true => cases hk; exact Gives.of_eq (by unfold execOp; rw [ho]) (Gives.val (nxs_ok r he hv))
    | false => cases hk; exact Gives.of_eq (by unfold execOp; rw [ho]) (Gives.val (nxm_ok r he hv))
  · -- typeAssert
    rename_i x xt t ok ho
    split at hk
    · cases hk
    · rename_i d hn hu
      split at hk
      · rename_i hok'
        obtain ⟨z, hz, hk⟩ := Option.bind_eq_some_iff.1 hk
        cases hk
        exact Gives.of_eq (by unfold execOp; rw [ho]) (Gives.stay r (tas_ok ⟨d, hu, fun ms hms => hn ms (by rw [← hms])⟩ (fun _ => hz) he hv w))
      · rename_i hok'
        cases hk
        exact Gives.of_eq (by unfold execOp; rw [ho]) (Gives.stay r (tas_ok ⟨d, hu, fun ms hms => hn ms (by rw [← hms])⟩ (fun h => absurd h hok') he hv w))
    · cases hk
  · -- extract
    rename_i t i ho
    cases hk
    exact Gives.of_eq (by unfold execOp; rw [ho]) (Gives.stay r (ext_ok he hv w))
  · -- call
    rename_i c ho
    split at hk
    · rename_i b hc
      obtain ⟨k', hb, hk⟩ := Option.bind_eq_some_iff.1 hk
      cases hk
      refine Gives.of_eq (s := builtin b c.argTypes o.type (c.args.map fun | .const _ => true | _ => false) (c.args.map ρ)) ?_ (builtin_ok C cf r hb hok (by simpa using hv) he)
      unfold execOp; rw [ho]
      dsimp only
      unfold resolve
      rw [hc]
      rfl
    · rename_i f hc
      split at hk
      · cases hk
      · rename_i fn hf
        cases hpl : (fn.body.isSome && fn.name != "runtime.NumGoroutine") with
        | true => rw [hpl] at hk; cases hk; cases hnc
        | false =>
          rw [hpl] at hk
          cases hx : cext P fn with
          | none => rw [hx] at hk; cases hk
          | some k' =>
            rw [hx] at hk
            cases hk
            have hbody : fn.body.isSome = false := by
              cases hb : fn.body.isSome with
              | false => rfl
              | true =>
                rw [hb] at hpl
                have hname : fn.name = "runtime.NumGoroutine" := by simpa using hpl
                exfalso
                unfold cext at hx
                split at hx
                · cases hx
                · rw [hname] at hx
                  simp at hx
            refine Gives.of_eq (s := callFunc f (c.args.map ρ)) ?_ (cext_ok C cf r hf hbody hx hok (by simpa using hv) he)
            unfold execOp; rw [ho]
            dsimp only
            unfold resolve
            rw [hc]
            dsimp only
            rw [hρ]
            show (do let d ← Deferred.ofValue _ _; invoke d.target d.args : Sem Next) = _
            simp only [Deferred.ofValue]
            show invoke (.fn (.func f) #[]) (#[] ++ c.args.map ρ) = _
            simp [invoke]
    · cases hk; cases hnc
    · obtain ⟨i, _, hk⟩ := Option.bind_eq_some_iff.1 hk
      cases hk; cases hnc
  · cases hk
end
end Go.Vm
namespace Go.Vm
open Go
section
variable {N : Names} {F : Nat → Option Obj} {w0 : World} {P : Program} {μ : Mp} {h h' : AH} {w : World} {n : Nat}

/-- What is known of the places. -/
structure EnvOk (N : Names) (mask nt : Nat) (μ : Mp) (n : Nat) (e : Env) (a : Act) : Prop where
  def_ : a.defers = []
  size : nt ≤ a.tmps.size
  loc : ∀ t v, lfind t e.loc = some v → mask.testBit t = false → V N μ n v (a.eval (.tmp t))
  var : ∀ t v, e.var.get t = some v → mask.testBit t = true → V N μ n v (a.eval (.tmp t))
theorem EnvOk.mono {mask nt : Nat} {μ' : Mp} {n' : Nat} {e : Env} {a : Act} (he : EnvOk N mask nt μ n e a) (ha : Mp.agree n μ μ') (hn : n ≤ n') : EnvOk N mask nt μ' n' e a :=
  ⟨he.def_, he.size, fun t v h1 h2 => (he.loc t v h1 h2).mono ha hn, fun t v h1 h2 => (he.var t v h1 h2).mono ha hn⟩
theorem EnvOk.fresh {mask nt : Nat} {e : Env} {a : Act} (he : EnvOk N mask nt μ n e a) : EnvOk N mask nt μ n ⟨[], e.var⟩ a :=
  ⟨he.def_, he.size, (fun t v h1 h2 => by cases h1), he.var⟩
theorem eval_put {a : Act} {d t : Nat} {x : Value} (hd : d < a.tmps.size) : (a.put (some d) x).eval (.tmp t) = if t = d then x else a.eval (.tmp t) := by
  simp only [Act.put, Act.eval]
  by_cases htd : t = d
  · subst htd
    rw [if_pos rfl]
    simp [Array.getD_eq_getD_getElem?, hd]
  · rw [if_neg htd]
    simp only [Array.getD_eq_getD_getElem?]
    rw [Array.getElem?_setIfInBounds, if_neg (fun h => htd h.symm)]
theorem put_size {a : Act} {d : Option Nat} {x : Value} : (a.put d x).tmps.size = a.tmps.size ∧ (a.put d x).defers = a.defers := by
  cases d <;> simp [Act.put]
theorem put_ok {β : Type} {mask nt : Nat} {e : Env} {a : Act} (he : EnvOk N mask nt μ n e a) {d : Option Nat} {dd : Dst} (hd : cdst mask nt d = some dd) {v : AV} {x : Value} (hx : V N μ n v x) {f : Env → Option β} {r : β} (hp : put e dd v f = some r) :
    ∃ e', f e' = some r ∧ EnvOk N mask nt μ n e' (a.put d x) ∧ (dd = .no → e' = e) := by
  obtain ⟨ps, pd⟩ := put_size (a := a) (d := d) (x := x)
  cases d with
  | none =>
    cases hd
    exact ⟨e, hp, he, fun _ => rfl⟩
  | some d =>
    simp only [cdst] at hd
    split at hd
    · rename_i hdn
      have hds : d < a.tmps.size := Nat.lt_of_lt_of_le hdn he.size
      cases hm : mask.testBit d with
      | true =>
        rw [hm] at hd
        cases hd
        change e.var.setK dpt d (some v) (fun w => f ⟨e.loc, w⟩) = some r at hp
        obtain ⟨t, ht, hf⟩ := Tr.setK_get hp
        refine ⟨_, hf, ⟨pd.trans he.def_, by rw [ps]; exact he.size, fun t' u h1 h2 => ?_, fun t' u h1 h2 => ?_⟩, fun h => by cases h⟩
        · rw [eval_put hds, if_neg (fun h => by rw [h, hm] at h2; cases h2)]
          exact he.loc t' u h1 h2
        · rw [eval_put hds]
          have h1 : t.get t' = some u := h1
          rw [ht] at h1
          by_cases htd : t' = d
          · rw [if_pos htd] at h1 ⊢; cases h1; exact hx
          · rw [if_neg htd] at h1 ⊢; exact he.var t' u h1 h2
      | false =>
        rw [hm] at hd
        cases hd
        change f ⟨(d, v) :: e.loc, e.var⟩ = some r at hp
        refine ⟨_, hp, ⟨pd.trans he.def_, by rw [ps]; exact he.size, fun t' u h1 h2 => ?_, fun t' u h1 h2 => ?_⟩, fun h => by cases h⟩
        · rw [eval_put hds]
          simp only [lfind, bcase] at h1
          by_cases htd : t' = d
          · subst htd
            rw [if_pos (Nat.beq_refl _)] at h1
            rw [if_pos rfl]; cases h1; exact hx
          · rw [if_neg (fun h => htd (Nat.eq_of_beq_eq_true h).symm)] at h1
            rw [if_neg htd]; exact he.loc t' u h1 h2
        · rw [eval_put hds, if_neg (fun h => by rw [h, hm] at h2; cases h2)]
          exact he.var t' u h1 h2
    · cases hd

/-- What an operand holds. -/
theorem ev_ok {mask nt : Nat} {e : Env} {a : Act} (he : EnvOk N mask nt μ n e a) {x : Operand} {y : Opd} (hc : copd mask x = some y) {v : AV} (hv : ev e y = some v) : V N μ n v (a.eval x) := by
  cases x with
  | tmp t =>
    cases hm : mask.testBit t with
    | true => simp only [copd, hm] at hc; cases hc; exact he.var t v hv hm
    | false => simp only [copd, hm] at hc; cases hc; exact he.loc t v hv hm
  | const c =>
    simp only [copd, Option.map_eq_some_iff] at hc
    obtain ⟨u, hu, rfl⟩ := hc
    cases hv
    exact cval_ok hu
  | global g => cases hc; cases hv; exact .glob g 0
  | func f => cases hc; cases hv; exact .fn (.func f) (.func f) [] [] #[] #[] rfl rfl rfl (fun j p q hp => by simp at hp) (fun j p q hp => by simp at hp)
theorem evs_ok {β : Type} {mask nt : Nat} {e : Env} {a : Act} (he : EnvOk N mask nt μ n e a) : ∀ {xs : List Operand} {ys : List Opd}, xs.mapM (copd mask) = some ys → ∀ {f : List AV → Option β} {r : β}, evs e ys f = some r →
    ∃ vs, Vs N μ n vs (xs.map a.eval) ∧ f vs = some r
  | [], ys, hc, f, r, hv => by simp at hc; subst hc; exact ⟨[], Vs.nil, hv⟩
  | x :: xs, ys, hc, f, r, hv => by
    rw [List.mapM_cons] at hc
    cases h1 : copd mask x with
    | none => simp [h1] at hc
    | some y =>
      cases h2 : xs.mapM (copd mask) with
      | none => simp [h1, h2] at hc
      | some ys' =>
        simp [h1, h2] at hc
        subst hc
        obtain ⟨v, hv1, hv2⟩ := obind_some.1 hv
        obtain ⟨vs, h3, h4⟩ := evs_ok he h2 hv2
        exact ⟨v :: vs, Vs.cons (ev_ok he h1 hv1) h3, h4⟩

/-- What calls do. -/
def CallsOk (P : Program) (N : Names) (G : Tr (Tr AV)) (F : Nat → Option Obj) (w0 : World) (cf : CallF) : Prop := ∀ f vs h v h', cf f vs h = some (v, h') → plainF P f = true ∧
  ∀ (args : Array Value) w μ, Vs N μ h.nx vs args.toList → R N G F w0 μ h w → Calls P f args w fun e w' => ∃ x μ', e = .returned x ∧ Mp.agree h.nx μ μ' ∧ h.nx ≤ h'.nx ∧ R N G F w0 μ' h' w' ∧ V N μ' h'.nx v x
theorem plain_enter {f : FuncId} (hp : plainF P f = true) (args : Array Value) (w : World) : (callFunc f args).run P w = .ok (.enter f args) w := by
  unfold plainF at hp
  split at hp
  · rename_i fn hf
    simp only [Bool.and_eq_true, bne_iff_ne, ne_eq] at hp
    have hb : ¬ fn.body = none := fun h => by rw [h] at hp; cases hp.1
    simp [callFunc, hf, hp.2, hb]
  · cases hp
/-- A method's call. -/
theorem callM_ok (C : Cfg) (cf : CallF) (hI : InvOk P N C) {m : Nat} {name : String} (hm : N[m]? = some name) {vs : List AV} {v : AV} (hk : callM C cf m vs h = some (v, h')) {args : Array Value} (hv : Vs N μ h.nx vs args.toList) (w : World) :
    ∃ f us ys, cf f us h = some (v, h') ∧ Vs N μ h.nx us (Array.toList ys) ∧ (plainF P f = true → (∀ cap, (invoke (.fn (.method name) cap) args).run P w = .ok (.enter f ys) w)) := by
  unfold callM at hk
  cases vs with
  | nil => cases hk
  | cons x vs =>
    cases x with
    | ifc t u =>
      obtain ⟨l, f, h1, h2, h3⟩ := meth_some hk
      obtain ⟨X, xs, e1, hx, hxs⟩ := hv.cons_inv
      cases hx with
      | ifc _ _ y hy =>
        refine ⟨f, u :: vs, #[y] ++ args.extract 1 args.size, h3, ?_, fun hp cap => ?_⟩
        · have : (#[y] ++ args.extract 1 args.size).toList = y :: xs := by
            have hsz : args.size = xs.length + 1 := by rw [← Array.length_toList, e1]; rfl
            rw [Array.toList_append, Array.toList_extract, List.extract_eq_take_drop, e1, hsz]
            simp
          rw [this]; exact Vs.cons hy hxs
        · have h0 : args[0]? = some (.iface t y) := by
            rw [← Array.getElem?_toList, e1]; rfl
          have hmeth := hI.method (w := w) h1 h2 hm y (P.types.size + 99)
          have hd : P.types.size + Made.depth = (P.types.size + 99) + 1 := rfl
          simp only [invoke, h0, callMethod, Sem.run_bind, run_program, Result.andThen_ok, hd, hmeth]
          exact plain_enter hp _ w
    | _ => cases hk

/-- What is asked of all the evaluator's functions in one place. -/
structure Sound (P : Program) (N : Names) (C : Cfg) (F : Nat → Option Obj) (w0 : World) (cf : CallF) : Prop where
  inv : InvOk P N C
  calls : CallsOk P N C.glb F w0 cf

theorem run_invoke_func {f : FuncId} {cap args : Array Value} (hp : plainF P f = true) (w : World) : (invoke (.fn (.func f) cap) args).run P w = .ok (.enter f (args ++ cap)) w := plain_enter hp _ w
/-- One operation that is to be done. -/
theorem done_ok {C : Cfg} {cf : CallF} (S : Sound P N C F w0 cf) (r : R N C.glb F w0 μ h w) {a : Act} {o : Oper} {vs : List AV} {v : AV} (hv : Vs N μ h.nx vs ((kindOf P N o).2.map a.eval)) (he : opEv C cf (kindOf P N o).1 vs h = some (v, h'))
    {next : Act → World → Prop} {Q : Exit → Act → World → Prop} (hn : ∀ x w' μ', Mp.agree h.nx μ μ' → h.nx ≤ h'.nx → R N C.glb F w0 μ' h' w' → V N μ' h'.nx v x → next (a.put o.dst x) w') : o.wp P a w next Q := by
  have hρ : ∀ f, a.eval (.func f) = .func (.func f) #[] #[] := fun _ => rfl
  have enter : ∀ (f : Nat) (us : List AV) (ys : Array Value), cf f us h = some (v, h') → Vs N μ h.nx us ys.toList → (plainF P f = true → (execOp a.eval o).run P w = .ok (.enter f ys) w) → o.wp P a w next Q := fun f us ys hcf hus hrun => by
    obtain ⟨hp, hc⟩ := S.calls f us h v h' hcf
    unfold Oper.wp
    rw [hrun hp, Oper.upon_enter]
    refine (hc ys w μ hus r).mono fun e w' hw' => ?_
    obtain ⟨x, μ', rfl, h1, h2, h3, h4⟩ := hw'
    exact hn x w' μ' h1 h2 h3 h4
  unfold kindOf at hv he
  cases hck : callK P N o with
  | none =>
    rw [hck] at hv he
    cases hk : ckind P N o with
    | none => rw [hk] at he; cases he
    | some q =>
      obtain ⟨k, xs⟩ := q
      rw [hk] at hv he
      dsimp only at hv he
      cases hb : (k.ok && !k.calls) with
      | false => rw [hb] at he; cases he
      | true =>
        rw [hb] at hv he
        simp only [Bool.and_eq_true, Bool.not_eq_true'] at hb
        obtain ⟨nx, w', μ', h1, h2, h3, h4, h5⟩ := kind_ok C cf S.inv r hρ hk hb.1 hb.2 hv he
        unfold Oper.wp
        rw [h1]
        cases nx with
        | value x => exact hn x w' μ' h2 h3 h4 h5
        | skip =>
          have h5 : v = .und := h5
          subst h5
          exact hn undef w' μ' h2 h3 h4 .und
        | _ => exact h5.elim
  | some q =>
    rw [hck] at hv he
    unfold callK at hck
    split at hck
    · rename_i c ho
      split at hck
      · rename_i f hc
        cases hp : plainF P f with
        | false => rw [hp] at hck; cases hck
        | true =>
          rw [hp] at hck
          cases hck
          refine enter f vs (c.args.map a.eval) he (by simpa using hv) fun _ => ?_
          unfold execOp; rw [ho]
          dsimp only
          unfold resolve
          rw [hc]
          simp only [hρ, Deferred.ofValue]
          show (invoke (.fn (.func f) #[]) (#[] ++ c.args.map a.eval)).run P w = _
          rw [run_invoke_func hp]
          simp
      · rename_i t hc
        cases hck
        obtain ⟨X, xs, e1, hX, hxs⟩ : ∃ X xs, (Operand.tmp t :: c.args.toList).map a.eval = X :: xs ∧ True ∧ True := ⟨_, _, rfl, trivial, trivial⟩
        have he : k_callv C cf vs h = some (v, h') := he
        unfold k_callv at he
        cases vs with
        | nil => cases he
        | cons x vs =>
          obtain ⟨X, xs, e1, hx, hxs⟩ := hv.cons_inv
          have e2 : a.eval (.tmp t) = X := (List.cons.inj e1).1
          have e3 : c.args.toList.map a.eval = xs := (List.cons.inj e1).2
          have hrun : ∀ d, Deferred.ofValue X (c.args.map a.eval) = pure d → (execOp a.eval o).run P w = (invoke d.target d.args).run P w := fun d hd => by
            unfold execOp; rw [ho]
            dsimp only
            unfold resolve
            rw [hc]
            dsimp only
            rw [e2, hd]
            rfl
          cases hx with
          | fn f g pa pb qa qb hf hpa hqb hxa hyb =>
            have hA : Vs N μ h.nx pa qa.toList := ⟨by simpa using hpa, fun j p q h1 h2 => hxa j p q h1 (by simpa using h2)⟩
            have hB : Vs N μ h.nx pb qb.toList := ⟨by simpa using hqb, fun j p q h1 h2 => hyb j p q h1 (by simpa using h2)⟩
            cases f with
            | func f =>
              cases g <;> first | exact hf.elim | skip
              cases hf
              refine enter f _ (qa ++ c.args.map a.eval ++ qb) he ?_ fun hp => ?_
              · have : (qa ++ c.args.map a.eval ++ qb).toList = qa.toList ++ xs ++ qb.toList := by simp [e3]
                rw [this]; exact (hA.append hxs).append hB
              · rw [hrun ⟨.fn (.func f) qb, qa ++ c.args.map a.eval⟩ rfl, run_invoke_func hp]
            | meth m =>
              cases g <;> first | exact hf.elim | skip
              rename_i name
              have hM : Vs N μ h.nx (pa ++ vs) (qa ++ c.args.map a.eval).toList := by
                have : (qa ++ c.args.map a.eval).toList = qa.toList ++ xs := by simp [e3]
                rw [this]; exact hA.append hxs
              obtain ⟨f, us, ys, h1, h2, h3⟩ := callM_ok C cf S.inv hf he hM w
              refine enter f us ys h1 h2 fun hp => ?_
              rw [hrun ⟨.fn (.method name) qb, qa ++ c.args.map a.eval⟩ rfl]
              exact h3 hp qb
          | _ => cases he
      · rename_i rc m hc
        cases hi : nidx m N 0 with
        | none => rw [hi] at hck; cases hck
        | some i =>
          rw [hi] at hck
          cases hck
          have hm := (nidx_get m N 0 i hi).2
          rw [Nat.sub_zero] at hm
          have hM : Vs N μ h.nx vs (#[a.eval rc] ++ c.args.map a.eval).toList := by simpa using hv
          obtain ⟨f, us, ys, h1, h2, h3⟩ := callM_ok C cf S.inv hm he hM w
          refine enter f us ys h1 h2 fun hp => ?_
          unfold execOp; rw [ho]
          dsimp only
          unfold resolve
          rw [hc]
          exact h3 hp #[]
      · cases hck
    · cases hck
end
end Go.Vm
namespace Go.Vm
open Go
section
variable {N : Names} {F : Nat → Option Obj} {w0 : World} {P : Program} {μ : Mp} {h h' : AH} {w : World} {n : Nat}

theorem cop_some {mask nt : Nat} {ops : Array Oper} {o : Oper} {co : COp} (hc : cop P N mask nt ops o = some co) :
    co.k = (kindOf P N o).1 ∧ (kindOf P N o).2.mapM (copd mask) = some co.xs ∧ cdst mask nt o.dst = some co.d ∧
      ((o.guard = none ∧ co.g = none) ∨ ∃ j want p d x, o.guard = some (j, want) ∧ ops[j]? = some p ∧ p.dst = some d ∧ copd mask (.tmp d) = some x ∧ co.g = some (x, want)) := by
  unfold cop at hc
  obtain ⟨xs, hx, hc⟩ := Option.bind_eq_some_iff.1 hc
  cases hgd : o.guard with
  | none =>
    rw [hgd] at hc
    obtain ⟨d, hd, hc⟩ := Option.bind_eq_some_iff.1 (show Option.bind (cdst mask nt o.dst) _ = some co from hc)
    cases hc
    exact ⟨rfl, hx, hd, .inl ⟨rfl, rfl⟩⟩
  | some q =>
    obtain ⟨j, want⟩ := q
    rw [hgd] at hc
    obtain ⟨p, hp, hc⟩ := Option.bind_eq_some_iff.1 (show Option.bind (ops[j]?) _ = some co from hc)
    obtain ⟨d', hd', hc⟩ := Option.bind_eq_some_iff.1 hc
    obtain ⟨x, hx', hc⟩ := Option.bind_eq_some_iff.1 hc
    obtain ⟨d, hd, hc⟩ := Option.bind_eq_some_iff.1 (show Option.bind (cdst mask nt o.dst) _ = some co from hc)
    cases hc
    exact ⟨rfl, hx, hd, .inr ⟨j, want, p, d', x, rfl, hp, hd', hx', rfl⟩⟩
theorem yielded_bool {ops : Array Oper} {tmps : Array Value} {j d : Nat} {p : Oper} (hp : ops[j]? = some p) (hd : p.dst = some d) {b : Bool} (hv : tmps.getD d undef = .bool b) : yielded ops tmps j = some b := by
  rw [Array.getD_eq_getD_getElem?] at hv
  cases ht : tmps[d]? with
  | none => rw [ht] at hv; cases hv
  | some u =>
    rw [ht] at hv
    have hv : u = .bool b := hv
    subst hv
    simp [yielded, hp, hd, ht]
theorem yielded_tuple {ops : Array Oper} {tmps : Array Value} {j d : Nat} {p : Oper} (hp : ops[j]? = some p) (hd : p.dst = some d) {x : Array Value} (hv : tmps.getD d undef = .tuple x) : yielded ops tmps j = none := by
  rw [Array.getD_eq_getD_getElem?] at hv
  cases ht : tmps[d]? with
  | none => simp [yielded, hp, hd, ht]
  | some u =>
    rw [ht] at hv
    have hv : u = .tuple x := hv
    subst hv
    simp [yielded, hp, hd, ht]

theorem op_ok {C : Cfg} {cf : CallF} (S : Sound P N C F w0 cf) (r : R N C.glb F w0 μ h w) {mask nt : Nat} {e : Env} {a : Act} (he : EnvOk N mask nt μ h.nx e a) {ops : Array Oper} {o : Oper} {co : COp} (hc : cop P N mask nt ops o = some co)
    {v : AV} (hv : val C cf co e h = some (v, h')) {next : Act → World → Prop} {Q : Exit → Act → World → Prop}
    (hn : ∀ x w' μ', Mp.agree h.nx μ μ' → h.nx ≤ h'.nx → R N C.glb F w0 μ' h' w' → V N μ' h'.nx v x → next (a.put o.dst x) w') :
    if Region.wanted o (yielded ops a.tmps) = true then o.wp P a w next Q ∨ (o.asks P a w ∧ LetsOut Q) else next (a.put o.dst undef) w := by
  obtain ⟨hk, hxs, hd, hg⟩ := cop_some hc
  have run : evs e co.xs (fun vs => opEv C cf co.k vs h) = some (v, h') → o.wp P a w next Q := fun hev => by
    obtain ⟨vs, h1, h2⟩ := evs_ok he hxs hev
    rw [hk] at h2
    exact done_ok S r h1 h2 hn
  have skip : v = .und → h' = h → next (a.put o.dst undef) w := fun h1 h2 => by
    subst h1; subst h2
    exact hn undef w μ .refl (Nat.le_refl _) r .und
  unfold val at hv
  rcases hg with ⟨hg1, hg2⟩ | ⟨j, want, p, d, x, hg1, hp, hpd, hx, hg2⟩
  · rw [hg2] at hv
    have hw : Region.wanted o (yielded ops a.tmps) = true := by simp [Region.wanted, hg1]
    rw [if_pos hw]
    exact .inl (run hv)
  · rw [hg2] at hv
    have hv : valG e x want h (evs e co.xs fun vs => opEv C cf co.k vs h) = some (v, h') := hv
    unfold valG at hv
    split at hv
    · rename_i b hb
      have hvb := (ev_ok he hx hb).bool_inv
      have hy := yielded_bool (ops := ops) hp hpd hvb
      have hw : Region.wanted o (yielded ops a.tmps) = (b == want) := by
        simp [Region.wanted, hg1, hy]
      rw [hw]
      cases b <;> cases want <;> simp only [bsel] at hv
      · exact .inl (run hv)
      · cases hv; exact skip rfl rfl
      · cases hv; exact skip rfl rfl
      · exact .inl (run hv)
    · rename_i hb
      obtain ⟨xs, hxs', _⟩ := (ev_ok he hx hb).tup_inv
      have hy := yielded_tuple (ops := ops) hp hpd hxs'
      have hw : Region.wanted o (yielded ops a.tmps) = false := by
        simp [Region.wanted, hg1, hy]
      rw [hw]
      cases hv; exact skip rfl rfl
    · cases hv

/-- A row of operations. -/
theorem steps_ok {C : Cfg} {cf : CallF} (S : Sound P N C F w0 cf) {mask nt : Nat} {ops : Array Oper} {Q : Exit → Act → World → Prop} : ∀ (os : List Oper) (cs : List COp) (i : Nat), os = ops.toList.drop i → os.mapM (cop P N mask nt ops) = some cs →
    ∀ {μ : Mp} {h h' : AH} {w : World} {e e' : Env} {a : Act}, R N C.glb F w0 μ h w → EnvOk N mask nt μ h.nx e a → steps C cf cs e h = some (e', h') →
    (∀ a' w' μ', Mp.agree h.nx μ μ' → h.nx ≤ h'.nx → R N C.glb F w0 μ' h' w' → EnvOk N mask nt μ' h'.nx e' a' → Q .normal a' w') → wpOps P ops Q (List.range' i os.length) a w
  | [], cs, i, _, hm, μ, h, h', w, e, e', a, r, he, hs, hQ => by
    simp at hm
    subst hm
    cases hs
    exact hQ a w μ .refl (Nat.le_refl _) r he
  | o :: os, cs, i, ho, hm, μ, h, h', w, e, e', a, r, he, hs, hQ => by
    rw [List.mapM_cons] at hm
    cases h1 : cop P N mask nt ops o with
    | none => simp [h1] at hm
    | some co =>
      cases h2 : os.mapM (cop P N mask nt ops) with
      | none => simp [h1, h2] at hm
      | some cs' =>
        simp [h1, h2] at hm
        subst hm
        have hoi : ops[i]? = some o := by
          have : (ops.toList.drop i)[0]? = some o := by rw [← ho]; rfl
          rw [List.getElem?_drop] at this
          simpa using this
        have hos : os = ops.toList.drop (i + 1) := by
          rw [← List.drop_drop, ← ho]; rfl
        simp only [steps] at hs
        obtain ⟨⟨v, h1'⟩, hv, hs⟩ := obind_some.1 hs
        rw [List.length_cons, List.range'_succ]
        simp only [wpOps, hoi]
        obtain ⟨_, _, hd, _⟩ := cop_some h1
        refine op_ok S r he h1 hv fun x w' μ' ha hle r' hx => ?_
        obtain ⟨e1, hf, he1, _⟩ := put_ok (he.mono ha hle) hd hx hs
        refine steps_ok S os cs' (i + 1) hos h2 r' he1 hf fun a' w'' μ'' ha' hle' r'' he'' => ?_
        exact hQ a' w'' μ'' (ha.trans ha' hle) (Nat.le_trans hle hle') r'' he''
theorem region_ok {C : Cfg} {cf : CallF} (S : Sound P N C F w0 cf) {mask nt id : Nat} {ops : Array Oper} {Q : Exit → Act → World → Prop} {cs : List COp} (hm : ops.toList.mapM (cop P N mask nt ops) = some cs)
    {e e' : Env} {a : Act} (r : R N C.glb F w0 μ h w) (he : EnvOk N mask nt μ h.nx e a) (hs : steps C cf cs ⟨[], e.var⟩ h = some (e', h'))
    (hQ : ∀ a' w' μ', Mp.agree h.nx μ μ' → h.nx ≤ h'.nx → R N C.glb F w0 μ' h' w' → EnvOk N mask nt μ' h'.nx e' a' → Q .normal a' w') : (Code.region id ops false).wp P Q a w := by
  apply wp_region
  have := steps_ok S ops.toList cs 0 (by simp) hm r he.fresh hs hQ
  rw [List.range_eq_range']
  simpa using this
end
end Go.Vm
namespace Go.Vm
open Go
section
variable {P : Program} {Q : Exit → Act → World → Prop} {a : Act} {w : World}

/-- From a loop's round on. -/
def LoopWp (P : Program) (c : Code) (Q : Exit → Act → World → Prop) (a : Act) (w : World) : Prop :=
  ∀ (b : Frame) (k : List Item) (cs : List Frame), ∃ e a' w', Q e a' w' ∧ Arrives P (lone (b.at a (.code c :: .inLoop c :: k)) cs w) b k cs e a' w'
theorem LoopWp.unfold {c : Code} (h : c.wp P (Exit.then (LoopWp P c Q) Q) a w) : LoopWp P c Q a w := by
  intro b k cs
  obtain ⟨e, a₁, w₁, hq, harr⟩ := h b (.inLoop c :: k) cs
  cases e with
  | normal =>
    obtain ⟨e₂, a₂, w₂, hq₂, harr₂⟩ := hq b k cs
    exact ⟨e₂, a₂, w₂, hq₂, .of_steps (Steps.trans harr (.one step_inLoop)) harr₂⟩
  | exit id => exact ⟨_, a₁, w₁, hq, .pass (x := .inLoop c) rfl (fun _ _ => .inl (by simp)) harr⟩
  | goto l => exact ⟨_, a₁, w₁, hq, .pass (x := .inLoop c) rfl (fun _ _ => .inl (by simp)) harr⟩
  | ret => exact ⟨_, a₁, w₁, hq, .pass (x := .inLoop c) rfl (fun _ _ => .inl (by simp)) harr⟩
  | panic ch => exact ⟨_, a₁, w₁, hq, .pass (x := .inLoop c) rfl (fun _ _ => .inl (by simp)) harr⟩
  | outgrown => exact ⟨_, a₁, w₁, hq, .pass (x := .inLoop c) rfl (fun _ _ => .inl (by simp)) harr⟩
theorem LoopWp.wp {c : Code} (h : LoopWp P c Q a w) : (Code.loop c).wp P Q a w := by
  intro b k cs
  obtain ⟨e, a', w', hq, harr⟩ := h b k cs
  exact ⟨e, a', w', hq, .of_steps (.one step_loop) harr⟩
/-- From a place of a scope's body on. -/
def ScopeWp (P : Program) (c rest : Code) (Q : Exit → Act → World → Prop) (a : Act) (w : World) : Prop :=
  ∀ (b : Frame) (k : List Item) (cs : List Frame), ∃ e a' w', Q e a' w' ∧ Arrives P (lone (b.at a (.code rest :: .inScope c :: k)) cs w) b k cs e a' w'
/-- A way out of a scope: by a goto on to a place within, else out. -/
def Exit.scp (P : Program) (c : Code) (Q : Exit → Act → World → Prop) : Exit → Act → World → Prop
  | .goto l, a, w => match findLabel c l with
    | some rest => ScopeWp P c rest Q a w
    | none => Q (.goto l) a w
  | e, a, w => Q e a w
theorem ScopeWp.unfold {c rest : Code} (h : rest.wp P (Exit.scp P c Q) a w) : ScopeWp P c rest Q a w := by
  intro b k cs
  obtain ⟨e, a₁, w₁, hq, harr⟩ := h b (.inScope c :: k) cs
  cases e with
  | normal => exact ⟨.normal, a₁, w₁, hq, Steps.trans harr (.one step_inScope)⟩
  | exit id => exact ⟨.exit id, a₁, w₁, hq, fun k' hk => harr k' (by simp [exitTo, hk])⟩
  | goto l =>
    cases hf : findLabel c l with
    | some rest' =>
      simp only [Exit.scp, hf] at hq
      obtain ⟨e₂, a₂, w₂, hq₂, harr₂⟩ := hq b k cs
      exact ⟨e₂, a₂, w₂, hq₂, .of_steps (harr _ (by simp [gotoIn, hf])) harr₂⟩
    | none =>
      simp only [Exit.scp, hf] at hq
      exact ⟨.goto l, a₁, w₁, hq, fun k' hk => harr k' (by simp [gotoIn, hf, hk])⟩
  | ret => exact ⟨_, a₁, w₁, hq, harr⟩
  | panic ch => exact ⟨_, a₁, w₁, hq, harr⟩
  | outgrown => exact ⟨_, a₁, w₁, hq, harr⟩
theorem ScopeWp.wp {c : Code} (h : ScopeWp P c c Q a w) : (Code.scope c).wp P Q a w := by
  intro b k cs
  obtain ⟨e, a', w', hq, harr⟩ := h b k cs
  exact ⟨e, a', w', hq, .of_steps (.one step_scope) harr⟩
end

theorem comp_label {P : Program} {N : Names} {mask nt l : Nat} : ∀ {c : Code} {ac : ACode}, comp P N mask nt c = some ac → (∀ r, alabel ac l = some r → ∃ rest, findLabel c l = some rest ∧ comp P N mask nt rest = some r) ∧ (alabel ac l = none → findLabel c l = none) := by
  intro c
  induction c with
  | seq x y ihx ihy =>
    intro ac hc
    obtain ⟨ax, hx, hc⟩ := Option.bind_eq_some_iff.1 hc
    obtain ⟨ay, hy, hc⟩ := Option.bind_eq_some_iff.1 hc
    cases hc
    obtain ⟨h1, h2⟩ := ihx hx
    obtain ⟨h3, h4⟩ := ihy hy
    simp only [alabel, findLabel]
    cases ha : alabel ax l with
    | some r =>
      obtain ⟨rest, hr, hcr⟩ := h1 r ha
      refine ⟨fun r' hr' => ?_, fun hn => by cases hn⟩
      cases hr'
      exact ⟨.seq rest y, by rw [hr], by simp [comp, hcr, hy]⟩
    | none =>
      rw [h2 ha]
      exact ⟨h3, h4⟩
  | label l' =>
    intro ac hc
    cases hc
    simp only [alabel, findLabel]
    by_cases hl : l' = l
    · subst hl
      refine ⟨fun r hr => ?_, fun hn => by simp at hn⟩
      simp at hr
      subst hr
      exact ⟨.skip, by simp, rfl⟩
    · refine ⟨fun r hr => by simp [hl] at hr, fun _ => by simp [hl]⟩
  | region id ops draw =>
    intro ac hc
    obtain ⟨cs, hcs, hc⟩ := Option.bind_eq_some_iff.1 hc
    have : ∀ r, alabel ac l = some r → False := fun r hr => by
      split at hc
      · split at hc
        · cases hc; cases hr
        · cases hc; cases hr
      · cases hc; cases hr
    exact ⟨fun r hr => (this r hr).elim, fun _ => rfl⟩
  | cond c x y ihx ihy =>
    intro ac hc
    obtain ⟨c', hc', hc⟩ := Option.bind_eq_some_iff.1 hc
    obtain ⟨ax, hx, hc⟩ := Option.bind_eq_some_iff.1 hc
    obtain ⟨ay, hy, hc⟩ := Option.bind_eq_some_iff.1 hc
    cases hc
    exact ⟨(fun r hr => by cases hr), fun _ => rfl⟩
  | block id b ih => intro ac hc; obtain ⟨ax, hx, hc⟩ := Option.bind_eq_some_iff.1 hc; cases hc; exact ⟨(fun r hr => by cases hr), fun _ => rfl⟩
  | loop b ih => intro ac hc; obtain ⟨ax, hx, hc⟩ := Option.bind_eq_some_iff.1 hc; cases hc; exact ⟨(fun r hr => by cases hr), fun _ => rfl⟩
  | scope b ih => intro ac hc; obtain ⟨ax, hx, hc⟩ := Option.bind_eq_some_iff.1 hc; cases hc; exact ⟨(fun r hr => by cases hr), fun _ => rfl⟩
  | _ => intro ac hc; cases hc; exact ⟨(fun r hr => by cases hr), fun _ => rfl⟩

section
variable {N : Names} {F : Nat → Option Obj} {w0 : World} {P : Program}

def XtOk : Xt → Exit → Prop
  | .norm, .normal => True
  | .exit i, .exit j => i = j
  | .goto l, .goto m => l = m
  | .ret, .ret => True
  | _, _ => False
/-- What holds behind a piece of code. -/
def Post (N : Names) (G : Tr (Tr AV)) (F : Nat → Option Obj) (w0 : World) (mask nt : Nat) (μ : Mp) (h : AH) (r : Xt × Env × AH) : Exit → Act → World → Prop := fun ex a' w' =>
  XtOk r.1 ex ∧ ∃ μ', Mp.agree h.nx μ μ' ∧ h.nx ≤ r.2.2.nx ∧ R N G F w0 μ' r.2.2 w' ∧ EnvOk N mask nt μ' r.2.2.nx r.2.1 a'
theorem Post.trans {G : Tr (Tr AV)} {mask nt : Nat} {μ μ1 : Mp} {h h1 : AH} {r : Xt × Env × AH} (ha : Mp.agree h.nx μ μ1) (hle : h.nx ≤ h1.nx) {ex : Exit} {a : Act} {w : World} (hp : Post N G F w0 mask nt μ1 h1 r ex a w) : Post N G F w0 mask nt μ h r ex a w := by
  obtain ⟨h0, μ', h2, h3, h4, h5⟩ := hp
  exact ⟨h0, μ', ha.trans h2 hle, Nat.le_trans hle h3, h4, h5⟩
/-- What a drawn region does. -/
def DrwOk (P : Program) (N : Names) (C : Cfg) (F : Nat → Option Obj) (w0 : World) (cf : CallF) : Prop := ∀ (mask nt id : Nat) (ops : Array Oper) (cs : List COp) (l : List (Nat × Nat)), ops.toList.mapM (cop P N mask nt ops) = some cs → looks ops.toList cs = some l →
  ∀ (e : Env) (h : AH) (a : Act) (w : World) (μ : Mp) (r : Xt × Env × AH), R N C.glb F w0 μ h w → EnvOk N mask nt μ h.nx e a → obind (trail C cf cs ⟨[], e.var⟩ h []) (x_drw C cs l) = some r → (Code.region id ops true).wp P (Post N C.glb F w0 mask nt μ h r) a w

structure CodeOk (P : Program) (N : Names) (G : Tr (Tr AV)) (F : Nat → Option Obj) (w0 : World) (ex : Ex) : Prop where
  code : ∀ (mask nt : Nat) (c : Code) (ac : ACode), comp P N mask nt c = some ac → ∀ (e : Env) (h : AH) (a : Act) (w : World) (μ : Mp) (r : Xt × Env × AH), R N G F w0 μ h w → EnvOk N mask nt μ h.nx e a → ex ac e h = some r → c.wp P (Post N G F w0 mask nt μ h r) a w
  loop : ∀ (mask nt : Nat) (c : Code) (ac : ACode), comp P N mask nt c = some ac → ∀ (e : Env) (h : AH) (a : Act) (w : World) (μ : Mp) (r : Xt × Env × AH), R N G F w0 μ h w → EnvOk N mask nt μ h.nx e a → ex (.loop ac) e h = some r → LoopWp P c (Post N G F w0 mask nt μ h r) a w
  scp : ∀ (mask nt : Nat) (c rest : Code) (ac ar : ACode), comp P N mask nt c = some ac → comp P N mask nt rest = some ar → ∀ (e : Env) (h : AH) (a : Act) (w : World) (μ : Mp) (r : Xt × Env × AH), R N G F w0 μ h w → EnvOk N mask nt μ h.nx e a → ex (.scp ac ar) e h = some r → ScopeWp P c rest (Post N G F w0 mask nt μ h r) a w

theorem loop_step {C : Cfg} {ex : Ex} (H : CodeOk P N C.glb F w0 ex) {mask nt : Nat} {c : Code} {ac : ACode} (hc : comp P N mask nt c = some ac) {e : Env} {h : AH} {a : Act} {w : World} {μ : Mp} {r : Xt × Env × AH} (hR : R N C.glb F w0 μ h w) (he : EnvOk N mask nt μ h.nx e a)
    (hx : x_loop ex ac ⟨[], e.var⟩ h = some r) : LoopWp P c (Post N C.glb F w0 mask nt μ h r) a w := by
  unfold x_loop at hx
  obtain ⟨r1, h1, hx⟩ := obind_some.1 hx
  refine LoopWp.unfold (wp_mono (H.code mask nt c ac hc _ h a w μ r1 hR he.fresh h1) fun ex1 a1 w1 hp => ?_)
  obtain ⟨x1, e1, hh1⟩ := r1
  obtain ⟨p0, μ1, p1, p2, p3, p4⟩ := hp
  cases x1 with
  | norm =>
    cases ex1 <;> first | exact p0.elim | skip
    intro b k cs
    obtain ⟨e2, a2, w2, q1, q2⟩ := H.loop mask nt c ac hc e1 hh1 a1 w1 μ1 r p3 p4 hx b k cs
    exact ⟨e2, a2, w2, q1.trans p1 p2, q2⟩
  | exit i => cases hx; cases ex1 <;> first | exact p0.elim | exact ⟨p0, μ1, p1, p2, p3, p4⟩
  | goto i => cases hx; cases ex1 <;> first | exact p0.elim | exact ⟨p0, μ1, p1, p2, p3, p4⟩
  | ret => cases hx; cases ex1 <;> first | exact p0.elim | exact ⟨p0, μ1, p1, p2, p3, p4⟩
theorem scoped_step {C : Cfg} {ex : Ex} (H : CodeOk P N C.glb F w0 ex) {mask nt : Nat} {c rest : Code} {ac ar : ACode} (hc : comp P N mask nt c = some ac) (hr : comp P N mask nt rest = some ar) {e : Env} {h : AH} {a : Act} {w : World} {μ : Mp} {r : Xt × Env × AH} (hR : R N C.glb F w0 μ h w) (he : EnvOk N mask nt μ h.nx e a)
    (hx : x_scoped ex ac ar e h = some r) : ScopeWp P c rest (Post N C.glb F w0 mask nt μ h r) a w := by
  unfold x_scoped at hx
  obtain ⟨r1, h1, hx⟩ := obind_some.1 hx
  refine ScopeWp.unfold (wp_mono (H.code mask nt rest ar hr _ h a w μ r1 hR he h1) fun ex1 a1 w1 hp => ?_)
  obtain ⟨x1, e1, hh1⟩ := r1
  obtain ⟨p0, μ1, p1, p2, p3, p4⟩ := hp
  cases x1 with
  | norm => cases hx; cases ex1 <;> first | exact p0.elim | exact ⟨p0, μ1, p1, p2, p3, p4⟩
  | exit i => cases hx; cases ex1 <;> first | exact p0.elim | exact ⟨p0, μ1, p1, p2, p3, p4⟩
  | ret => cases hx; cases ex1 <;> first | exact p0.elim | exact ⟨p0, μ1, p1, p2, p3, p4⟩
  | goto l =>
    cases ex1 <;> first | exact p0.elim | skip
    rename_i l'
    have hl : l = l' := p0
    subst hl
    obtain ⟨c1, c2⟩ := comp_label (l := l) hc
    dsimp only at hx
    cases ha : alabel ac l with
    | none =>
      rw [ha] at hx
      cases hx
      simp only [Exit.scp, c2 ha]
      exact ⟨rfl, μ1, p1, p2, p3, p4⟩
    | some q =>
      rw [ha] at hx
      obtain ⟨rest', hf, hq⟩ := c1 q ha
      simp only [Exit.scp, hf]
      intro b k cs
      obtain ⟨e2, a2, w2, q1, q2⟩ := H.scp mask nt c rest' ac q hc hq e1 hh1 a1 w1 μ1 r p3 p4 hx b k cs
      exact ⟨e2, a2, w2, q1.trans p1 p2, q2⟩

theorem code_step {C : Cfg} {orc : Orc} {ex : Ex} (H : CodeOk P N C.glb F w0 ex) (S : Sound P N C F w0 (callB C orc ex)) (hD : DrwOk P N C F w0 (callB C orc ex)) : CodeOk P N C.glb F w0 (xStep C orc ex) := by
  refine ⟨fun mask nt c ac hc e h a w μ r hR he hx => ?_, fun mask nt c ac hc e h a w μ r hR he hx => loop_step H hc hR he hx, fun mask nt c rest ac ar hc hr e h a w μ r hR he hx => scoped_step H hc hr hR he hx⟩
  have here : ∀ x, Post N C.glb F w0 mask nt μ h (x, e, h) = Post N C.glb F w0 mask nt μ h (x, e, h) := fun _ => rfl
  have stay : ∀ (x : Xt) (exx : Exit), XtOk x exx → Post N C.glb F w0 mask nt μ h (x, e, h) exx a w := fun x exx hxe => ⟨hxe, μ, .refl, Nat.le_refl _, hR, he⟩
  cases c with
  | skip => cases hc; cases hx; exact wp_skip (stay .norm .normal trivial)
  | label l => cases hc; cases hx; exact wp_label (stay .norm .normal trivial)
  | exit i => cases hc; cases hx; exact wp_exit (stay (.exit i) (.exit i) rfl)
  | goto i => cases hc; cases hx; exact wp_goto (stay (.goto i) (.goto i) rfl)
  | ret => cases hc; cases hx; exact wp_ret (stay .ret .ret trivial)
  | refuse y => cases hc; cases hx
  | rangeFunc x y z u => cases hc; cases hx
  | region id ops draw =>
    obtain ⟨cs, hcs, hc⟩ := Option.bind_eq_some_iff.1 hc
    cases draw with
    | true =>
      simp only [if_true] at hc
      split at hc
      · rename_i l hl
        cases hc
        exact hD mask nt id ops cs l hcs hl e h a w μ r hR he hx
      · cases hc; cases hx
    | false =>
      simp only [Bool.false_eq_true, if_false] at hc
      cases hc
      obtain ⟨⟨e1, h1⟩, hs, hx⟩ := obind_some.1 hx
      cases hx
      exact region_ok S hcs hR he hs fun a' w' μ' q1 q2 q3 q4 => ⟨trivial, μ', q1, q2, q3, q4⟩
  | seq x y =>
    obtain ⟨ax, hax, hc⟩ := Option.bind_eq_some_iff.1 hc
    obtain ⟨ay, hay, hc⟩ := Option.bind_eq_some_iff.1 hc
    cases hc
    obtain ⟨r1, h1, hx⟩ := obind_some.1 (show obind (ex ax e h) _ = some r from hx)
    refine wp_seq (wp_mono (H.code mask nt x ax hax e h a w μ r1 hR he h1) fun ex1 a1 w1 hp => ?_)
    obtain ⟨x1, e1, hh1⟩ := r1
    obtain ⟨p0, μ1, p1, p2, p3, p4⟩ := hp
    cases x1 with
    | norm =>
      cases ex1 <;> first | exact p0.elim | skip
      exact wp_mono (H.code mask nt y ay hay e1 hh1 a1 w1 μ1 r p3 p4 hx) fun _ _ _ q => q.trans p1 p2
    | exit i => cases hx; cases ex1 <;> first | exact p0.elim | exact ⟨p0, μ1, p1, p2, p3, p4⟩
    | goto i => cases hx; cases ex1 <;> first | exact p0.elim | exact ⟨p0, μ1, p1, p2, p3, p4⟩
    | ret => cases hx; cases ex1 <;> first | exact p0.elim | exact ⟨p0, μ1, p1, p2, p3, p4⟩
  | cond c x y =>
    obtain ⟨c', hc', hc⟩ := Option.bind_eq_some_iff.1 hc
    obtain ⟨ax, hax, hc⟩ := Option.bind_eq_some_iff.1 hc
    obtain ⟨ay, hay, hc⟩ := Option.bind_eq_some_iff.1 hc
    cases hc
    obtain ⟨v, hv, hx⟩ := obind_some.1 (show obind (ev e c') _ = some r from hx)
    split at hx
    · rename_i t
      have hb := (ev_ok he hc' hv).bool_inv
      refine wp_cond hb ?_
      cases t with
      | true => exact H.code mask nt x ax hax e h a w μ r hR he hx
      | false => exact H.code mask nt y ay hay e h a w μ r hR he hx
    · cases hx
  | block id b =>
    obtain ⟨ab, hab, hc⟩ := Option.bind_eq_some_iff.1 hc
    cases hc
    obtain ⟨r1, h1, hx⟩ := obind_some.1 (show obind (ex ab e h) _ = some r from hx)
    refine wp_block (wp_mono (H.code mask nt b ab hab e h a w μ r1 hR he h1) fun ex1 a1 w1 hp => ?_)
    obtain ⟨x1, e1, hh1⟩ := r1
    obtain ⟨p0, μ1, p1, p2, p3, p4⟩ := hp
    cases x1 with
    | norm => cases hx; cases ex1 <;> first | exact p0.elim | exact ⟨p0, μ1, p1, p2, p3, p4⟩
    | goto i => cases hx; cases ex1 <;> first | exact p0.elim | exact ⟨p0, μ1, p1, p2, p3, p4⟩
    | ret => cases hx; cases ex1 <;> first | exact p0.elim | exact ⟨p0, μ1, p1, p2, p3, p4⟩
    | exit i =>
      cases ex1 <;> first | exact p0.elim | skip
      rename_i j
      have hij : i = j := p0
      subst hij
      dsimp only at hx
      rw [brec] at hx
      simp only [Exit.inBlock]
      by_cases hid : i = id
      · rw [if_pos hid]
        rw [if_pos (by rw [hid]; exact Nat.beq_refl _)] at hx
        cases hx
        exact ⟨trivial, μ1, p1, p2, p3, p4⟩
      · rw [if_neg hid]
        rw [if_neg (fun hb => hid (Nat.eq_of_beq_eq_true hb))] at hx
        cases hx
        exact ⟨rfl, μ1, p1, p2, p3, p4⟩
  | loop b =>
    obtain ⟨ab, hab, hc⟩ := Option.bind_eq_some_iff.1 hc
    cases hc
    exact (loop_step H hab hR he hx).wp
  | scope b =>
    obtain ⟨ab, hab, hc⟩ := Option.bind_eq_some_iff.1 hc
    cases hc
    exact (H.scp mask nt b b ab ab hab hab e h a w μ r hR he hx).wp
end
end Go.Vm
namespace Go.Vm
open Go
section
variable {N : Names} {F : Nat → Option Obj} {w0 : World} {P : Program} {μ : Mp} {h h' : AH} {w : World} {n : Nat}

theorem ini_spec {β : Type} {f : Tr AV → Option β} {r : β} : ∀ (vs : List AV) (i : Nat) (t : Tr AV), ini vs i t f = some r → ∃ t', (∀ j, t'.get j = if i ≤ j ∧ j < i + vs.length then vs[j - i]? else t.get j) ∧ f t' = some r
  | [], i, t, h => ⟨t, fun j => by rw [if_neg (by simp)], h⟩
  | v :: vs, i, t, h => by
    simp only [ini] at h
    obtain ⟨t1, h1, h⟩ := Tr.setK_get h
    obtain ⟨t', h2, h3⟩ := ini_spec vs (i + 1) t1 h
    refine ⟨t', fun j => ?_, h3⟩
    rw [h2, h1]
    simp only [List.length_cons]
    by_cases hj : i + 1 ≤ j ∧ j < i + 1 + vs.length
    · rw [if_pos hj, if_pos (by omega), show j - i = (j - (i + 1)) + 1 by omega]; simp
    · rw [if_neg hj]
      by_cases hji : j = i
      · subst hji; rw [if_pos rfl, if_pos (by omega)]; simp
      · rw [if_neg hji, if_neg (by omega)]
theorem env0_get (mask nt : Nat) : ∀ t v, (env0 mask nt).get t = some v → v = AV.und := by
  unfold env0
  suffices ∀ (l : List Nat) (t0 : Tr AV), (∀ t v, t0.get t = some v → v = AV.und) → ∀ t v, (l.foldl (fun t i => bsel (mask.testBit i) ((t.setK dpt i (some AV.und) some).getD t) t) t0).get t = some v → v = AV.und by
    exact this _ _ (fun t v h => by rw [Tr.get_e] at h; cases h)
  intro l
  induction l with
  | nil => intro t0 h0; exact h0
  | cons i l ih =>
    intro t0 h0
    rw [List.foldl_cons]
    refine ih _ fun t v ht => ?_
    cases hm : mask.testBit i with
    | false => rw [hm] at ht; exact h0 t v ht
    | true =>
      rw [hm] at ht
      change ((t0.setK dpt i (some AV.und) some).getD t0).get t = some v at ht
      cases hs : t0.setK dpt i (some AV.und) some with
      | none => rw [hs] at ht; exact h0 t v ht
      | some t1 =>
        rw [hs] at ht
        obtain ⟨t', h1, h2⟩ := Tr.setK_get hs
        cases h2
        have ht : t1.get t = some v := ht
        rw [h1] at ht
        by_cases hti : t = i
        · rw [if_pos hti] at ht; cases ht; rfl
        · rw [if_neg hti] at ht; exact h0 t v ht

/-- One result. -/
def outG (a : Act) : ResultVar → Sem Value
  | .tmp t => pure (a.tmps.getD t undef)
  | .cell q t => do loadVar t (← asAddr (a.tmps.getD q undef))
theorem out1_ok {G : Tr (Tr AV)} (r : R N G F w0 μ h w) {mask nt : Nat} {e : Env} {a : Act} (he : EnvOk N mask nt μ h.nx e a) {x : ResultVar} {rv : Rv} (hc : cres P mask x = some rv) {v : AV} (hv : out1 e h rv = some v) :
    ∃ y, (outG a x).run P w = .ok y w ∧ V N μ h.nx v y := by
  cases x with
  | tmp t =>
    simp only [cres] at hc
    cases hm : mask.testBit t with
    | false => rw [hm] at hc; cases hc
    | true => rw [hm] at hc; cases hc; exact ⟨_, rfl, he.var t v hv hm⟩
  | cell q t =>
    obtain ⟨g, hg, hc⟩ := Option.bind_eq_some_iff.1 hc
    cases hm : mask.testBit q with
    | false => rw [hm] at hc; cases hc
    | true =>
      rw [hm] at hc
      cases hc
      obtain ⟨p, hp, hv⟩ := obind_some.1 hv
      obtain ⟨i, o, rfl, hv⟩ := asP_some hv
      have hV : V N μ h.nx (.ptr i o) (a.tmps.getD q undef) := he.var q _ hp hm
      obtain ⟨hi, hX⟩ := hV.ptr_inv
      unfold outG
      dsimp only
      rw [hX]
      cases g with
      | none =>
        obtain ⟨y, hy, hvy⟩ := cell_of_load r (show hload h i o = some v from hv)
        exact ⟨y, by simp [asAddr, loadVar, run_isAgg hg, hy], hvy⟩
      | some s =>
        obtain ⟨l, hl, hv⟩ := obind_some.1 (show obind (hloads h i o s []) (fun l => some (AV.agg l)) = some v from hv)
        cases hv
        obtain ⟨xs, h1, h2⟩ := loadCells_ok (P := P) r hl (x := μ.bas i + o) (fun _ => rfl)
        exact ⟨.agg xs.toArray, by simp [asAddr, loadVar, run_isAgg hg, run_sizeOf (tagg_size hg), h1], V.agg' h2⟩
theorem outs_ok {G : Tr (Tr AV)} (r : R N G F w0 μ h w) {mask nt : Nat} {e : Env} {a : Act} (he : EnvOk N mask nt μ h.nx e a) : ∀ {xs : List ResultVar} {rs : List Rv} {l : List AV}, xs.mapM (cres P mask) = some rs → outs e h rs = some l →
    ∃ ys, (xs.mapM (outG a)).run P w = .ok ys w ∧ Vs N μ h.nx l ys
  | [], rs, l, hm, ho => by simp at hm; subst hm; cases ho; exact ⟨[], by simp, Vs.nil⟩
  | x :: xs, rs, l, hm, ho => by
    rw [List.mapM_cons] at hm
    cases h1 : cres P mask x with
    | none => simp [h1] at hm
    | some rv =>
      cases h2 : xs.mapM (cres P mask) with
      | none => simp [h1, h2] at hm
      | some rs' =>
        simp [h1, h2] at hm
        subst hm
        obtain ⟨v, hv, ho⟩ := obind_some.1 ho
        obtain ⟨vs, hvs, ho⟩ := obind_some.1 ho
        cases ho
        obtain ⟨y, hy1, hy2⟩ := out1_ok r he h1 hv
        obtain ⟨ys, hys1, hys2⟩ := outs_ok r he h2 hvs
        refine ⟨y :: ys, ?_, Vs.cons hy2 hys2⟩
        rw [List.mapM_cons, Sem.run_bind, hy1, Result.andThen_ok, Sem.run_bind, hys1]
        rfl
theorem results_ok {G : Tr (Tr AV)} (r : R N G F w0 μ h w) {mask nt : Nat} {e : Env} {a : Act} (he : EnvOk N mask nt μ h.nx e a) {fn : Func} {rs : List Rv} {l : List AV} (hm : fn.results.toList.mapM (cres P mask) = some rs) (ho : outs e h rs = some l) :
    ∃ y, (results fn a.tmps).run P w = .ok y w ∧ V N μ h.nx (result l) y := by
  obtain ⟨ys, h1, h2⟩ := outs_ok r he hm ho
  refine ⟨if h : ys.toArray.size = 1 then ys.toArray[0] else .tuple ys.toArray, ?_, ?_⟩
  · have e : results fn a.tmps = (do let vs ← fn.results.mapM (outG a); pure (if h : vs.size = 1 then vs[0] else .tuple vs) : Sem Value) := rfl
    rw [e, Array.mapM_eq_mapM_toList]
    simp only [Sem.run_bind, Sem.run_map]
    rw [h1]
    rfl
  · unfold result
    split
    · rename_i v
      obtain ⟨x, rfl, hx⟩ := h2.one_inv
      simpa using hx
    · rename_i hne
      have : ¬ ys.toArray.size = 1 := fun hs => by
        have hl : l.length = 1 := by rw [h2.1]; simpa using hs
        obtain ⟨v, hv⟩ := List.length_eq_one_iff.1 hl
        exact hne v hv
      rw [dif_neg this]
      exact V.tup' h2

/-- The table of functions says what the program has. -/
def TabOk (P : Program) (N : Names) (C : Cfg) : Prop := ∀ f afn, C.fns.get f = some afn → ∃ fn mask, P.funcs[f]? = some fn ∧ plainF P f = true ∧ cfn P N mask fn = some afn
/-- What is taken by contract. -/
def OrcOk (P : Program) (N : Names) (G : Tr (Tr AV)) (F : Nat → Option Obj) (w0 : World) (orc : Orc) : Prop := CallsOk P N G F w0 fun f vs h => Option.casesOn (orc f vs h) none fun r => r

theorem callB_ok {C : Cfg} {orc : Orc} {ex : Ex} (H : CodeOk P N C.glb F w0 ex) (T : TabOk P N C) (O : OrcOk P N C.glb F w0 orc) : CallsOk P N C.glb F w0 (callB C orc ex) := by
  intro f vs h v h' hk
  unfold callB at hk
  cases ho : orc f vs h with
  | some q =>
    rw [ho] at hk
    exact O f vs h v h' (by show (Option.casesOn (orc f vs h) none fun r => r : Option (AV × AH)) = _; rw [ho]; exact hk)
  | none =>
    rw [ho] at hk
    obtain ⟨afn, hf, hk⟩ := obind_some.1 (show obind (C.fns.get f) _ = some (v, h') from hk)
    obtain ⟨fn, mask, hfn, hpl, hc⟩ := T f afn hf
    refine ⟨hpl, fun args w μ hv hR => ?_⟩
    unfold cfn at hc
    obtain ⟨c, hbody, hc⟩ := Option.bind_eq_some_iff.1 hc
    obtain ⟨b, hb, hc⟩ := Option.bind_eq_some_iff.1 hc
    obtain ⟨rs, hrs, hc⟩ := Option.bind_eq_some_iff.1 hc
    split at hc
    case isFalse => cases hc
    case isTrue hlow =>
    cases hc
    unfold runF at hk
    obtain ⟨hlen, hk⟩ := grd_of hk
    obtain ⟨t, ht, hk⟩ := ini_spec _ _ _ hk
    obtain ⟨r, hx, hk⟩ := obind_some.1 hk
    have hsz : vs.length = args.size := by have := hv.1; simpa using this
    have he : EnvOk N mask fn.ntmps μ h.nx ⟨[], t⟩ { tmps := args ++ Array.replicate (fn.ntmps - args.size) undef, defers := [] } := by
      refine ⟨rfl, by simp; omega, (fun q u h1 _ => by cases h1), fun q u h1 h2 => ?_⟩
      have h1 : t.get q = some u := h1
      rw [ht] at h1
      simp only [Act.eval, Array.getD_eq_getD_getElem?]
      by_cases hq : 0 ≤ q ∧ q < 0 + vs.length
      · rw [if_pos hq] at h1
        obtain ⟨y, hy, hvy⟩ := hv.get h1
        rw [Array.getElem?_append_left (by omega)]
        rw [Array.getElem?_toList] at hy
        rw [Nat.sub_zero] at hy
        rw [hy]; exact hvy
      · rw [if_neg hq] at h1
        have := env0_get _ _ _ _ h1
        subst this
        rw [Array.getElem?_append_right (by omega)]
        rw [Array.getElem?_replicate]
        split <;> exact .und
    refine calls_of_wp hfn hbody (wp_mono (H.code mask fn.ntmps c b hb _ h _ w μ r hR he hx) fun exx a' w' hp => ?_)
    obtain ⟨x, e1, h1⟩ := r
    obtain ⟨p0, μ1, p1, p2, p3, p4⟩ := hp
    have fin : obind (outs e1 h1 rs) (fun l => some (result l, h1)) = some (v, h') → a'.defers = [] ∧ ∃ y, (results fn a'.tmps).run P w' = .ok y w' ∧ ∃ x μ', Ending.returned y = .returned x ∧ Mp.agree h.nx μ μ' ∧ h.nx ≤ h'.nx ∧ R N C.glb F w0 μ' h' w' ∧ V N μ' h'.nx v x := fun hq => by
      obtain ⟨l, hl, hq⟩ := obind_some.1 hq
      cases hq
      obtain ⟨y, hy1, hy2⟩ := results_ok p3 p4 hrs hl
      exact ⟨p4.def_, y, hy1, y, μ1, rfl, p1, p2, p3, hy2⟩
    cases x with
    | norm => cases exx <;> first | exact p0.elim | exact fin hk
    | ret => cases exx <;> first | exact p0.elim | exact fin hk
    | exit i => cases hk
    | goto i => cases hk

theorem exec_ok {C : Cfg} {orc : Orc} (hI : InvOk P N C) (T : TabOk P N C) (O : OrcOk P N C.glb F w0 orc) (hD : ∀ cf, Sound P N C F w0 cf → DrwOk P N C F w0 cf) : ∀ m, CodeOk P N C.glb F w0 (exec C orc m)
  | 0 => ⟨(fun _ _ _ _ _ _ _ _ _ _ _ _ _ hx => by cases hx), (fun _ _ _ _ _ _ _ _ _ _ _ _ _ hx => by cases hx), (fun _ _ _ _ _ _ _ _ _ _ _ _ _ _ _ _ hx => by cases hx)⟩
  | m + 1 => by
    have ih := exec_ok hI T O hD m
    have S : Sound P N C F w0 (callB C orc (exec C orc m)) := ⟨hI, callB_ok ih T O⟩
    exact code_step ih S (hD _ S)
/-- THE EVALUATOR's LAW: what it says of a call is so. -/
theorem callF_ok {C : Cfg} {orc : Orc} (hI : InvOk P N C) (T : TabOk P N C) (O : OrcOk P N C.glb F w0 orc) (hD : ∀ cf, Sound P N C F w0 cf → DrwOk P N C F w0 cf) (m : Nat) : CallsOk P N C.glb F w0 (callF C orc m) :=
  callB_ok (exec_ok hI T O hD m) T O
end
end Go.Vm
namespace Go.Vm
open Go
section
variable {C : Cfg} {cf : CallF} {h h' : AH} {vs : List AV} {v : AV}

/-- The heap stands; what came comes again at any heap. -/
def Calm (f : KF) (vs : List AV) (v : AV) (h h' : AH) : Prop := h' = h ∧ ∀ h2, f vs h2 = some (v, h2)
theorem yld_calm {x : Option AV} (hk : yld h x = some (v, h')) : h' = h ∧ ∀ h2 : AH, yld h2 x = some (v, h2) := by
  obtain ⟨hq, rfl⟩ := yld_some hk
  exact ⟨rfl, fun h2 => by rw [hq]; rfl⟩
theorem some_calm {x : AV} (hk : (some (x, h) : Option (AV × AH)) = some (v, h')) : h' = h ∧ ∀ h2 : AH, (some (x, h2) : Option (AV × AH)) = some (v, h2) := by
  cases hk; exact ⟨rfl, fun _ => rfl⟩
theorem mov_calm (hk : k_mov vs h = some (v, h')) : Calm k_mov vs v h h' := by
  obtain ⟨a, rfl, hk⟩ := arg1_some hk; exact some_calm hk
theorem cid_calm (hk : k_cid vs h = some (v, h')) : Calm k_cid vs v h h' := by
  obtain ⟨a, rfl, hk⟩ := arg1_some hk
  cases a <;> first | exact some_calm hk | cases hk
theorem pick_calm (hk : k_pick vs h = some (v, h')) : Calm k_pick vs v h h' := by
  obtain ⟨c, a, b, rfl, hk⟩ := arg3_some hk
  cases c <;> first | exact some_calm hk | cases hk
theorem bld_calm {z : List AV} {ps : List (Nat × Nat)} (hk : k_bld z ps vs h = some (v, h')) : Calm (k_bld z ps) vs v h h' := by
  obtain ⟨l, hl, hk⟩ := obind_some.1 hk
  cases hk
  exact ⟨rfl, fun h2 => by unfold k_bld; rw [hl]; rfl⟩
theorem nil_calm (hk : k_nil C vs h = some (v, h')) : Calm (k_nil C) vs v h h' := by
  obtain ⟨a, rfl, hk1⟩ := arg1_some hk
  cases a
  case fn f p q =>
    cases f with
    | func g => exact some_calm hk1
    | meth m =>
      cases p with
      | nil => cases hk1
      | cons x xs =>
        cases x
        case ifc t u =>
          obtain ⟨l, g, h1, h2, h3⟩ := meth_some hk1
          cases h3
          refine ⟨rfl, fun h2' => ?_⟩
          show C.meth m t (fun _ => some (_, h2')) = _
          unfold Cfg.meth
          rw [h1]
          show obind (ifind t l) _ = _
          rw [h2]; rfl
        all_goals cases hk1
  all_goals first | exact some_calm hk1 | cases hk1
theorem bin_calm {op : BinOp} {e : EqD} {c : Bool} (hk : k_bin op e c vs h = some (v, h')) : Calm (k_bin op e c) vs v h h' := by
  obtain ⟨a, b, rfl, hk⟩ := arg2_some hk; exact yld_calm hk
theorem un_calm {op : UnOp} (hk : k_un op vs h = some (v, h')) : Calm (k_un op) vs v h h' := by
  obtain ⟨a, rfl, hk⟩ := arg1_some hk; exact yld_calm hk
theorem cint_calm {k : IntKind} (hk : k_cint k vs h = some (v, h')) : Calm (k_cint k) vs v h h' := by
  obtain ⟨a, rfl, hk⟩ := arg1_some hk
  cases a <;> first | exact yld_calm hk | cases hk
theorem mki_calm {t : Nat} (hk : k_mki t vs h = some (v, h')) : Calm (k_mki t) vs v h h' := by
  obtain ⟨a, rfl, hk⟩ := arg1_some hk; exact some_calm hk
theorem mkf_calm {f : FnV} {m : Nat} (hk : k_mkf f m vs h = some (v, h')) : Calm (k_mkf f m) vs v h h' := some_calm hk
theorem sls_calm {s : Nat} {a b c : Bool} (hk : k_sls s a b c vs h = some (v, h')) : Calm (k_sls s a b c) vs v h h' := by
  cases vs with
  | nil => cases hk
  | cons x vs => exact yld_calm hk
theorem bnd_at {β : Type} {b : Bool} {d : Nat} {vs : List AV} {f : Nat → List AV → Option β} {r : β} (h : bnd b d vs f = some r) : ∃ n vs', (∀ {γ : Type} (f' : Nat → List AV → Option γ), bnd b d vs f' = f' n vs') ∧ f n vs' = some r := by
  rcases bnd_some h with ⟨rfl, h1⟩ | ⟨rfl, k, m, vs', rfl, h1⟩
  · exact ⟨d, vs, fun f' => rfl, h1⟩
  · exact ⟨m, vs', fun f' => rfl, h1⟩
theorem bnds_at {β : Type} {lo hi mx : Bool} {l c : Nat} {f : Nat → Nat → Nat → Option β} {r : β} (h : bnds lo hi mx vs l c f = some r) : ∃ a b m, (∀ {γ : Type} (f' : Nat → Nat → Nat → Option γ), bnds lo hi mx vs l c f' = f' a b m) ∧ f a b m = some r := by
  unfold bnds at h
  obtain ⟨a, vs1, h1, h⟩ := bnd_at h
  obtain ⟨b, vs2, h2, h⟩ := bnd_at h
  obtain ⟨m, vs3, h3, h⟩ := bnd_at h
  obtain ⟨g1, h⟩ := grd_of h
  obtain ⟨g2, h⟩ := grd_of h
  obtain ⟨g3, h⟩ := grd_of h
  exact ⟨a, b, m, fun f' => by unfold bnds; rw [h1, h2, h3, g1, g2, g3]; rfl, h⟩
theorem slt_calm {a b : Bool} (hk : k_slt a b vs h = some (v, h')) : Calm (k_slt a b) vs v h h' := by
  cases vs with
  | nil => cases hk
  | cons x vs =>
    cases x <;> first | (cases hk; done) | skip
    obtain ⟨p, q, m, h1, h2⟩ := bnds_at (show bnds a b false vs _ _ _ = some (v, h') from hk)
    obtain ⟨e1, e2⟩ := yld_calm h2
    exact ⟨e1, fun h3 => by
      show bnds a b false vs _ _ _ = _
      rw [h1]; exact e2 h3⟩
theorem sla_calm {n s : Nat} {a b c : Bool} (hk : k_sla n s a b c vs h = some (v, h')) : Calm (k_sla n s a b c) vs v h h' := by
  cases vs with
  | nil => cases hk
  | cons x vs =>
    obtain ⟨i, o, rfl, hk2⟩ := asP_some hk
    obtain ⟨p, q, m, h1, h2⟩ := bnds_at hk2
    obtain ⟨e1, e2⟩ := yld_calm h2
    exact ⟨e1, fun h3 => by
      show bnds a b c vs n n (fun a b m => yld h3 (mkslc i o a b m s)) = _
      rw [h1]; exact e2 h3⟩
theorem nat_calm {n : Nat} {f : Nat → AV} (hk : nat! n (fun o => some (f o, h)) = some (v, h')) : h' = h ∧ ∀ h2 : AH, nat! n (fun o => some (f o, h2)) = some (v, h2) := by
  rw [nat_eq] at hk
  cases hk
  exact ⟨rfl, fun h2 => by rw [nat_eq]⟩
theorem grd_calm {b : Bool} {g : AH → Option (AV × AH)} (hk : grd b (g h) = some (v, h')) (hg : g h = some (v, h') → h' = h ∧ ∀ h2 : AH, g h2 = some (v, h2)) : h' = h ∧ ∀ h2 : AH, grd b (g h2) = some (v, h2) := by
  obtain ⟨h1, h2⟩ := grd_of hk
  obtain ⟨h3, h4⟩ := hg h2
  exact ⟨h3, fun h5 => by rw [h1]; exact h4 h5⟩
theorem fda_calm {f : Nat} (hk : k_fda f vs h = some (v, h')) : Calm (k_fda f) vs v h h' := by
  obtain ⟨a, rfl, hk⟩ := arg1_some hk
  cases a <;> first | exact nat_calm hk | cases hk
theorem fld_calm {o : Nat} {s : Option Nat} (hk : k_fld o s vs h = some (v, h')) : Calm (k_fld o s) vs v h h' := by
  obtain ⟨a, rfl, hk⟩ := arg1_some hk
  cases a <;> first | exact yld_calm hk | cases hk
theorem ixs_calm {s : Nat} (hk : k_ixs s vs h = some (v, h')) : Calm (k_ixs s) vs v h h' := by
  obtain ⟨a, b, rfl, hk⟩ := arg2_some hk
  obtain ⟨k, n, rfl, hk⟩ := inat_some hk
  cases a <;> first | (cases hk; done) | skip
  · exact grd_calm (g := fun h => nat! _ fun o => some (.ptr _ o, h)) hk nat_calm
  · exact grd_calm (g := fun h => grd _ (nat! _ fun o => some (.ptr _ o, h))) hk fun hk => grd_calm (g := fun h => nat! _ fun o => some (.ptr _ o, h)) hk nat_calm
theorem ixa_calm {n s : Nat} (hk : k_ixa n s vs h = some (v, h')) : Calm (k_ixa n s) vs v h h' := by
  obtain ⟨a, b, rfl, hk⟩ := arg2_some hk
  obtain ⟨k, m, rfl, hk⟩ := inat_some hk
  cases a <;> first
    | exact grd_calm (g := fun h => nat! _ fun o => some (.ptr _ o, h)) hk nat_calm
    | exact grd_calm (g := fun h => nat! _ fun o => some (.glob _ o, h)) hk nat_calm
    | (obtain ⟨_, hk⟩ := grd_of hk; cases hk)
theorem ixt_calm (hk : k_ixt vs h = some (v, h')) : Calm k_ixt vs v h h' := by
  obtain ⟨a, b, rfl, hk⟩ := arg2_some hk
  obtain ⟨k, m, rfl, hk⟩ := inat_some hk
  cases a <;> first | (cases hk; done) | skip
  exact grd_calm (g := fun h => nat! _ fun c => some (.int .u8 (Int.ofNat c), h)) hk nat_calm
theorem ixv_calm {n s : Nat} {a : Bool} (hk : k_ixv n s a vs h = some (v, h')) : Calm (k_ixv n s a) vs v h h' := by
  obtain ⟨a, b, rfl, hk⟩ := arg2_some hk
  obtain ⟨k, m, rfl, hk⟩ := inat_some hk
  cases a <;> first | (cases hk; done) | skip
  exact grd_calm (g := fun h => yld h _) hk yld_calm
theorem tas_calm {t : Nat} {z : AV} {ok : Bool} (hk : k_tas t z ok vs h = some (v, h')) : Calm (k_tas t z ok) vs v h h' := by
  obtain ⟨a, rfl, hk1⟩ := arg1_some hk
  cases a
  case ifc t' u =>
    dsimp only at hk1
    rw [brec] at hk1
    unfold Calm
    by_cases ht : t'.beq t = true
    · rw [if_pos ht] at hk1
      cases hk1
      refine ⟨rfl, fun h2 => ?_⟩
      show (Bool.rec _ _ (t'.beq t) : Option (AV × AH)) = _
      rw [brec, if_pos ht]
    · rw [if_neg ht] at hk1
      obtain ⟨h1, hk2⟩ := grd_of hk1
      cases hk2
      refine ⟨rfl, fun h2 => ?_⟩
      show (Bool.rec _ _ (t'.beq t) : Option (AV × AH)) = _
      rw [brec, if_neg ht, h1]; rfl
  case nili => exact grd_calm (g := fun h => some (.tup [z, .bool false], h)) hk1 some_calm
  all_goals cases hk1
theorem ext_calm {i : Nat} (hk : k_ext i vs h = some (v, h')) : Calm (k_ext i) vs v h h' := by
  obtain ⟨a, rfl, hk⟩ := arg1_some hk
  cases a <;> first | exact yld_calm hk | cases hk
theorem cap_calm (hk : k_cap vs h = some (v, h')) : Calm k_cap vs v h h' := by
  obtain ⟨a, rfl, hk⟩ := arg1_some hk
  cases a <;> first | exact some_calm hk | cases hk
theorem mx_calm {m : Bool} (hk : k_mx m vs h = some (v, h')) : Calm (k_mx m) vs v h h' := by
  obtain ⟨a, b, rfl, hk⟩ := arg2_some hk; exact yld_calm hk

/-- Operations that only look: the heap stands. -/
theorem ldn_still {n : Nat} (hk : k_ldn n vs h = some (v, h')) : h' = h := by
  obtain ⟨a, rfl, hk1⟩ := arg1_some hk
  obtain ⟨i, o, rfl, hk2⟩ := asP_some hk1
  obtain ⟨l, _, hk3⟩ := obind_some.1 hk2
  cases hk3; rfl
theorem ld_still (hk : k_ld C vs h = some (v, h')) : h' = h := by
  obtain ⟨a, rfl, hk1⟩ := arg1_some hk
  cases a <;> first | (cases hk1; done) | exact (yld_some hk1).2
theorem lkp_still {z : AV} {ok st : Bool} (hk : k_lkp z ok st vs h = some (v, h')) : h' = h := by
  obtain ⟨a, b, rfl, hk1⟩ := arg2_some hk
  split at hk1 <;> cases hk1 <;> rfl
theorem len_still {n : Nat} (hk : k_len n vs h = some (v, h')) : h' = h := by
  obtain ⟨a, rfl, hk1⟩ := arg1_some hk
  split at hk1
  · cases a <;> cases hk1 <;> rfl
  · cases a <;> cases hk1 <;> rfl
  · cases a <;> first | (cases hk1; done) | (cases hk1; rfl) | skip
    obtain ⟨es, c, _, hk2⟩ := mobj_some hk1
    rw [nat_eq] at hk2
    cases hk2; rfl
  · cases hk1; rfl
theorem cb2s_still (hk : k_cb2s vs h = some (v, h')) : h' = h := by
  obtain ⟨a, rfl, hk1⟩ := arg1_some hk
  split at hk1
  · cases hk1
  · obtain ⟨p, _, hk2⟩ := obind_some.1 hk1
    exact (yld_some hk2).2
theorem bytesV_still {x : AV} {f : Nat → Nat → Option (AV × AH)} (hf : ∀ l n, f l n = some (v, h') → h' = h) (hk : bytesV h x f = some (v, h')) : h' = h := by
  unfold bytesV at hk
  split at hk
  · exact hf _ _ hk
  · obtain ⟨p, _, hk2⟩ := obind_some.1 hk
    split at hk2
    · exact hf _ _ hk2
    · cases hk2
theorem found_still {r : Option Nat} (hk : found r h = some (v, h')) : h' = h := by
  unfold found at hk
  split at hk
  · rw [nat_eq] at hk; cases hk; rfl
  · cases hk; rfl
theorem xib_still (hk : k_xib vs h = some (v, h')) : h' = h := by
  obtain ⟨a, b, rfl, hk1⟩ := arg2_some hk
  obtain ⟨c, rfl, _, hk2⟩ := asU8_some hk1
  exact bytesV_still (fun l n hf => found_still hf) hk2
theorem xcnt_still (hk : k_xcnt vs h = some (v, h')) : h' = h := by
  obtain ⟨a, b, rfl, hk1⟩ := arg2_some hk
  obtain ⟨c, rfl, _, hk2⟩ := asU8_some hk1
  exact bytesV_still (fun l n hf => by rw [nat_eq] at hf; cases hf; rfl) hk2
theorem len_calm {n : Nat} (hn : n ≠ 2) (hk : k_len n vs h = some (v, h')) : Calm (k_len n) vs v h h' := by
  obtain ⟨a, rfl, hk1⟩ := arg1_some hk
  match n, hn, hk1 with
  | 0, _, hk1 => cases a <;> first | (cases hk1; done) | exact some_calm hk1
  | 1, _, hk1 => cases a <;> first | (cases hk1; done) | exact some_calm hk1
  | n + 3, _, hk1 => exact some_calm hk1
theorem kd_cf (cf' : CallF) {k : Kd} (hk : k.calls = false) : opEv C cf k = opEv C cf' k := by
  cases k <;> first | rfl | cases hk
theorem kd_still {k : Kd} (hok : k.ok = true) (he : isEff k = false) (hk : opEv C cf k vs h = some (v, h')) : h' = h := by
  cases k <;> first
    | (cases he; done) | (cases hok; done)
    | exact (mov_calm hk).1 | exact (cid_calm hk).1 | exact (pick_calm hk).1 | exact (bld_calm hk).1 | exact (nil_calm hk).1 | exact (bin_calm hk).1 | exact (un_calm hk).1 | exact (cint_calm hk).1
    | exact (mki_calm hk).1 | exact (mkf_calm hk).1 | exact (sls_calm hk).1 | exact (slt_calm hk).1 | exact (sla_calm hk).1 | exact (fda_calm hk).1 | exact (fld_calm hk).1 | exact (ixs_calm hk).1
    | exact (ixa_calm hk).1 | exact (ixt_calm hk).1 | exact (ixv_calm hk).1 | exact (tas_calm hk).1 | exact (ext_calm hk).1 | exact (cap_calm hk).1 | exact (mx_calm hk).1
    | exact lkp_still hk | exact len_still hk | exact cb2s_still hk | exact xib_still hk | exact xcnt_still hk | skip
  case ld s => cases s with | none => exact ld_still hk | some n => exact ldn_still hk
theorem kd_calm {k : Kd} (hok : k.ok = true) (he : isEff k = false) (hr : isRd k = false) (hk : opEv C cf k vs h = some (v, h')) : ∀ h2, opEv C cf k vs h2 = some (v, h2) := by
  cases k <;> first
    | (cases he; done) | (cases hok; done) | (cases hr; done)
    | exact (mov_calm hk).2 | exact (cid_calm hk).2 | exact (pick_calm hk).2 | exact (bld_calm hk).2 | exact (nil_calm hk).2 | exact (bin_calm hk).2 | exact (un_calm hk).2 | exact (cint_calm hk).2
    | exact (mki_calm hk).2 | exact (mkf_calm hk).2 | exact (sls_calm hk).2 | exact (slt_calm hk).2 | exact (sla_calm hk).2 | exact (fda_calm hk).2 | exact (fld_calm hk).2 | exact (ixs_calm hk).2
    | exact (ixa_calm hk).2 | exact (ixt_calm hk).2 | exact (ixv_calm hk).2 | exact (tas_calm hk).2 | exact (ext_calm hk).2 | exact (cap_calm hk).2 | exact (mx_calm hk).2 | skip
  case len n =>
    have hn : n ≠ 2 := fun h => by subst h; cases hr
    exact (len_calm hn hk).2
end
end Go.Vm
namespace Go.Vm
open Go

theorem same_list {d : Nat} (ih : ∀ x y, same d x y = true → x = y) : ∀ (a b : List AV), (Nat.beq a.length b.length && (a.zip b).all fun p => same d p.1 p.2) = true → a = b
  | [], [], _ => rfl
  | [], _ :: _, h => by simp at h
  | _ :: _, [], h => by simp at h
  | x :: a, y :: b, h => by
    simp only [List.zip_cons_cons, List.all_cons, Bool.and_eq_true, List.length_cons] at h
    obtain ⟨h1, h2, h3⟩ := h
    have h1 : a.length = b.length := by have := Nat.eq_of_beq_eq_true h1; omega
    rw [ih x y h2, same_list ih a b (by simp only [Bool.and_eq_true]; exact ⟨by rw [h1]; exact Nat.beq_refl _, h3⟩)]
theorem same_eq : ∀ (d : Nat) (x y : AV), same d x y = true → x = y
  | 0, _, _, h => by cases h
  | d + 1, x, y, h => by
    have ih := same_eq d
    have nb : ∀ {a b : Nat}, Nat.beq a b = true → a = b := fun h => Nat.eq_of_beq_eq_true h
    cases x <;> cases y <;> first | rfl | (cases h; done) | (simp [same] at h; done) | skip
    case bool.bool a b => simp only [same, beq_iff_eq] at h; rw [h]
    case int.int k a j b => simp only [same, Bool.and_eq_true, decide_eq_true_eq] at h; rw [kbeq_iff.1 h.1, h.2]
    case str.str l n l' n' => simp only [same, Bool.and_eq_true] at h; rw [nb h.1, nb h.2]
    case ptr.ptr i o j q => simp only [same, Bool.and_eq_true] at h; rw [nb h.1, nb h.2]
    case slc.slc => simp only [same, Bool.and_eq_true] at h; rw [nb h.1.1.1, nb h.1.1.2, nb h.1.2, nb h.2]
    case slo.slo => simp only [same, Bool.and_eq_true] at h; rw [nb h.1.1.1, nb h.1.1.2, nb h.1.2, nb h.2]
    case map.map => simp only [same] at h; rw [nb h]
    case fn.fn f a b g a' b' =>
      cases f <;> cases g <;> first | (cases h; done) | skip
      all_goals
        simp only [same, Bool.and_eq_true] at h
        obtain ⟨⟨h1, h2⟩, h3⟩ := h
        rw [nb h1, same_list ih a a' (by simp only [Bool.and_eq_true]; exact h2), same_list ih b b' (by simp only [Bool.and_eq_true]; exact h3)]
    case ifc.ifc => simp only [same, Bool.and_eq_true] at h; rw [nb h.1, ih _ _ h.2]
    case agg.agg a b => rw [same_list ih a b h]
    case tup.tup a b => rw [same_list ih a b h]
    case glob.glob => simp only [same, Bool.and_eq_true] at h; rw [nb h.1, nb h.2]

theorem fold_bits (g : Edge → Nat) (i : Nat) : ∀ (l : List Edge) (s : Nat), (l.foldl (fun s e => bsel (Region.binds .any e) (s ||| 2 ^ e.on ||| g e) s) s).testBit i = true →
    s.testBit i = true ∨ ∃ e ∈ l, Region.binds .any e = true ∧ (i = e.on ∨ (g e).testBit i = true)
  | [], s, h => .inl h
  | e :: l, s, h => by
    rw [List.foldl_cons] at h
    rcases fold_bits g i l _ h with h1 | ⟨e', h1, h2, h3⟩
    · cases hb : Region.binds .any e with
      | false => rw [hb] at h1; exact .inl h1
      | true =>
        rw [hb] at h1
        simp only [bsel, Nat.testBit_or, Bool.or_eq_true] at h1
        rcases h1 with (h1 | h1) | h1
        · exact .inl h1
        · rw [Nat.testBit_two_pow] at h1
          exact .inr ⟨e, by simp, hb, .inl (by simpa using (of_decide_eq_true h1).symm)⟩
        · exact .inr ⟨e, by simp, hb, .inr h1⟩
    · exact .inr ⟨e', by simp [h1], h2, h3⟩
/-- Who is ahead: by an edge, or ahead of who is. -/
def Ahead (a : List Nat) (ops : List Oper) (j : Nat) : Prop := ∀ i, (a.getD j 0).testBit i = true → ∃ o e, ops[j]? = some o ∧ e ∈ o.after.toList ∧ Region.binds .any e = true ∧ e.on < j ∧ (i = e.on ∨ (a.getD e.on 0).testBit i = true)
theorem rises_spec : ∀ (os : List Oper) (i : Nat), risesFrom os i = true → ∀ j o, os[j]? = some o → ∀ e ∈ o.after.toList, Region.binds .any e = true → e.on < i + j
  | [], i, _, j, o, ho, _, _, _ => by simp at ho
  | p :: os, i, h, j, o, ho, e, he, hb => by
    simp only [risesFrom, Bool.and_eq_true] at h
    cases j with
    | zero =>
      cases ho
      have := List.all_eq_true.1 h.1 e he
      rw [hb] at this
      simpa using this
    | succ j =>
      have := rises_spec os (i + 1) h.2 j o (by simpa using ho) e he hb
      omega
theorem aheads_spec (all : List Oper) : ∀ (os : List Oper) (acc : List Nat), all.drop acc.length = os → acc.length + os.length = all.length → risesFrom os acc.length = true →
    (∀ j, j < acc.length → Ahead acc.reverse all j) → ∀ j, j < all.length → Ahead (aheads os acc) all j
  | [], acc, _, hl, _, hacc, j, hj => hacc j (by simp at hl; omega)
  | o :: os, acc, hd, hl, hr, hacc, j, hj => by
    simp only [aheads]
    have hr2 := hr
    simp only [risesFrom, Bool.and_eq_true] at hr2
    have ho : all[acc.length]? = some o := by
      have : (all.drop acc.length)[0]? = some o := by rw [hd]; rfl
      rw [List.getElem?_drop] at this
      simpa using this
    refine aheads_spec all os _ ?_ ?_ ?_ ?_ j hj
    · rw [List.length_cons, ← List.drop_drop, hd]; rfl
    · simp only [List.length_cons] at hl ⊢; omega
    · rw [List.length_cons]; exact hr2.2
    · intro k hk i hi
      rw [List.reverse_cons] at hi ⊢
      have hget : ∀ q, q < acc.length → ∀ x, (acc.reverse ++ [x]).getD q 0 = acc.reverse.getD q 0 := fun q hq x => by
        rw [List.getD_eq_getElem?_getD, List.getD_eq_getElem?_getD, List.getElem?_append_left (by simpa using hq)]
      by_cases hka : k < acc.length
      · rw [hget k hka] at hi
        obtain ⟨o', e, h1, h2, h3, h4, h5⟩ := hacc k hka i hi
        exact ⟨o', e, h1, h2, h3, h4, by rw [hget e.on (by omega)]; exact h5⟩
      · have hke : k = acc.length := by simp only [List.length_cons] at hk; omega
        subst hke
        have hlast : ∀ x, (acc.reverse ++ [x]).getD acc.length 0 = x := fun x => by
          rw [List.getD_eq_getElem?_getD, List.getElem?_append_right (by simp)]; simp
        rw [hlast] at hi
        rcases fold_bits _ i _ _ hi with h1 | ⟨e, h1, h2, h3⟩
        · simp at h1
        · have hlt := rises_spec (o :: os) acc.length hr 0 o rfl e h1 h2
          rw [Nat.add_zero] at hlt
          refine ⟨o, e, ho, h1, h2, hlt, ?_⟩
          rw [hget e.on hlt]
          rcases h3 with h3 | h3
          · exact .inl h3
          · refine .inr ?_
            have : acc.reverse.getD e.on 0 = acc.getD (acc.length - 1 - e.on) 0 := by
              rw [List.getD_eq_getElem?_getD, List.getD_eq_getElem?_getD, List.getElem?_reverse hlt]
            rw [this]; exact h3
theorem aheads_ok {ops : List Oper} (hr : risesFrom ops 0 = true) : ∀ j, j < ops.length → Ahead (aheads ops []) ops j :=
  aheads_spec ops ops [] rfl (by simp) hr (fun j hj => by simp at hj)
end Go.Vm
namespace Go.Vm
open Go

theorem ahead_listed {a : List Nat} {ops : List Oper} {L : Nat → Prop} (hA : ∀ j, j < ops.length → Ahead a ops j) (hcl : ∀ j o e, L j → ops[j]? = some o → e ∈ o.after.toList → Region.binds .any e = true → L e.on) :
    ∀ j, (∀ o e, ops[j]? = some o → e ∈ o.after.toList → Region.binds .any e = true → L e.on) → j < ops.length → ∀ i, (a.getD j 0).testBit i = true → L i := by
  intro j
  induction j using Nat.strongRecOn with
  | _ j ih =>
    intro hj hjl i hi
    obtain ⟨o, e, h1, h2, h3, h4, h5⟩ := hA j hjl i hi
    have hl := hj o e h1 h2 h3
    rcases h5 with rfl | h5
    · exact hl
    · exact ih e.on h4 (fun o' e' q1 q2 q3 => hcl e.on o' e' hl q1 q2 q3) (by omega) i h5

/-- What a place holds. -/
noncomputable def pl (b : Bool) (t : Nat) (e : Env) : Option AV := bsel b (e.var.get t) (lfind t e.loc)
def dplace (b : Bool) (t : Nat) : Dst := bsel b (.var t) (.loc t)
/-- One place written. -/
def Wrote (d : Dst) (v : AV) (e e' : Env) : Prop := ∀ b t, (d = dplace b t → pl b t e' = some v) ∧ (d ≠ dplace b t → pl b t e' = pl b t e)
theorem put_wrote {β : Type} {e : Env} {d : Dst} {v : AV} {f : Env → Option β} {r : β} (h : put e d v f = some r) : ∃ e', f e' = some r ∧ Wrote d v e e' := by
  cases d with
  | no => exact ⟨e, h, fun b t => ⟨(fun h => by cases b <;> cases h), fun _ => rfl⟩⟩
  | loc d =>
    refine ⟨⟨(d, v) :: e.loc, e.var⟩, h, fun b t => ?_⟩
    cases b with
    | true => exact ⟨(fun h => by cases h), fun _ => rfl⟩
    | false =>
      constructor
      · intro h
        cases h
        simp [pl, bsel, lfind]
      · intro h
        have hne : ¬ (Nat.beq d t = true) := fun hb => h (by rw [Nat.eq_of_beq_eq_true hb]; rfl)
        simp only [pl, bsel, lfind, bcase, if_neg hne]
  | var d =>
    obtain ⟨t', h1, h2⟩ := Tr.setK_get (show e.var.setK dpt d (some v) (fun w => f ⟨e.loc, w⟩) = some r from h)
    refine ⟨⟨e.loc, t'⟩, h2, fun b t => ?_⟩
    cases b with
    | false => exact ⟨(fun h => by cases h), fun _ => rfl⟩
    | true =>
      constructor
      · intro h
        cases h
        show t'.get d = some v
        rw [h1, if_pos rfl]
      · intro h
        show t'.get t = e.var.get t
        rw [h1, if_neg (fun hb => h (by rw [hb]; rfl))]

/-- The states of a run in the text's order. -/
structure Run (C : Cfg) (cf : CallF) (cs : List COp) (E : Nat → Env) (H : Nat → AH) (v : Nat → AV) : Prop where
  val : ∀ i co, cs[i]? = some co → val C cf co (E i) (H i) = some (v i, H (i + 1))
  put : ∀ i co, cs[i]? = some co → Wrote co.d (v i) (E i) (E (i + 1))
  fit : ∀ (i : Nat) (co : COp), cs[i]? = some co → ∃ (e : Env) (u : AV) (f : Env → Option (Env × List AH)) (r : Env × List AH), Vm.put e co.d u f = some r
theorem trail_spec {C : Cfg} {cf : CallF} : ∀ (cs : List COp) (e : Env) (h : AH) (l : List AH) (eN : Env) (hs : List AH), trail C cf cs e h l = some (eN, hs) →
    ∃ E H v, E 0 = e ∧ H 0 = h ∧ E cs.length = eN ∧ Run C cf cs E H v ∧ hs = ((List.range (cs.length + 1)).map H).reverse ++ l
  | [], e, h, l, eN, hs, ht => by
    cases ht
    exact ⟨fun _ => e, fun _ => h, fun _ => .und, rfl, rfl, rfl, ⟨fun i co hi => by simp at hi, fun i co hi => by simp at hi, fun i co hi => by simp at hi⟩, by simp [List.range_succ]⟩
  | co :: cs, e, h, l, eN, hs, ht => by
    simp only [trail] at ht
    obtain ⟨⟨u, h1⟩, hv, ht⟩ := obind_some.1 ht
    have hput := ht
    obtain ⟨e1, ht, hw⟩ := put_wrote ht
    obtain ⟨E, H, v, q1, q2, q3, q4, q5⟩ := trail_spec cs e1 h1 _ eN hs ht
    refine ⟨fun i => Nat.casesOn i e E, fun i => Nat.casesOn i h H, fun i => Nat.casesOn i u v, rfl, rfl, q3, ⟨fun i co' hi => ?_, fun i co' hi => ?_, fun i co' hi => ?_⟩, ?_⟩
    · cases i with
      | zero => cases hi; show val C cf _ e h = some (u, H 0); rw [q2]; exact hv
      | succ i => exact q4.val i co' (by simpa using hi)
    · cases i with
      | zero => cases hi; show Wrote _ u e (E 0); rw [q1]; exact hw
      | succ i => exact q4.put i co' (by simpa using hi)
    · cases i with
      | zero => cases hi; exact ⟨_, _, _, _, hput⟩
      | succ i => exact q4.fit i co' (by simpa using hi)
    · rw [q5]
      have : (List.range (cs.length + 1 + 1)).map (fun i => (Nat.casesOn i h H : AH)) = h :: (List.range (cs.length + 1)).map H := by
        rw [List.range_succ_eq_map, List.map_cons, List.map_map]; rfl
      rw [List.length_cons, this, List.reverse_cons, List.append_assoc]
      rfl
theorem heaps_get {H : Nat → AH} {n j : Nat} (hj : j ≤ n) : (((List.range (n + 1)).map H).reverse ++ [])[n - j]? = some (H j) := by
  rw [List.append_nil, List.getElem?_reverse (by simp; omega), List.length_map, List.length_range, show n + 1 - 1 - (n - j) = j by omega, List.getElem?_map, List.getElem?_range (by omega)]
  rfl

/-- Where an operation reads. -/
theorem ev_congr {e e' : Env} {x : Opd} (h : ∀ t, (x = .loc t ∨ x = .var t) → ∀ b, pl b t e = pl b t e') : ev e x = ev e' x := by
  cases x with
  | loc t => exact h t (.inl rfl) false
  | var t => exact h t (.inr rfl) true
  | _ => rfl
theorem evs_congr {β : Type} {e e' : Env} {f : List AV → Option β} : ∀ {xs : List Opd}, (∀ x ∈ xs, ev e x = ev e' x) → evs e xs f = evs e' xs f := by
  intro xs
  induction xs generalizing f with
  | nil => intro _; rfl
  | cons x xs ih =>
    intro h
    simp only [evs]
    rw [h x (by simp)]
    congr 1
    funext v
    exact ih fun y hy => h y (by simp [hy])
theorem val_congr {C : Cfg} {cf : CallF} {o : COp} {e e' : Env} {h : AH} (hr : ∀ t ∈ readsOf o, ∀ b, pl b t e = pl b t e') : val C cf o e h = val C cf o e' h := by
  have hx : ∀ x ∈ o.xs, ev e x = ev e' x := fun x hx => ev_congr fun t ht b => hr t (by
    unfold readsOf
    refine List.mem_append_right _ (List.mem_flatMap.2 ⟨x, hx, ?_⟩)
    rcases ht with rfl | rfl <;> simp) b
  unfold val
  cases hg : o.g with
  | none => exact evs_congr hx
  | some g =>
    have hgx : ev e g.1 = ev e' g.1 := ev_congr fun t ht b => hr t (by
      unfold readsOf
      rw [hg]
      refine List.mem_append_left _ ?_
      obtain ⟨y, w⟩ := g
      rcases ht with rfl | rfl <;> simp) b
    show valG e g.1 g.2 h _ = valG e' g.1 g.2 h _
    unfold valG
    rw [hgx, evs_congr hx]
end Go.Vm
namespace Go.Vm
open Go

theorem idxs_mem {p : COp → Bool} {i : Nat} : ∀ {cs : List COp} {k j : Nat} {co : COp}, cs[j]? = some co → p co = true → i = k + j → i ∈ idxs p cs k
  | [], k, j, co, h, _, _ => by simp at h
  | c :: cs, k, j, co, h, hp, hi => by
    simp only [idxs]
    cases j with
    | zero => cases h; rw [hp]; simp [bsel, hi]
    | succ j =>
      have := idxs_mem (k := k + 1) (j := j) (by simpa using h) hp (by omega : i = k + 1 + j)
      cases hc : p c with
      | true => simp [bsel, this]
      | false => simp [bsel, this]

def bef (ops : List Oper) (i j : Nat) : Bool := ((aheads ops []).getD j 0).testBit i
structure Form (ops : List Oper) (cs : List COp) (l : List (Nat × Nat)) : Prop where
  rise : risesFrom ops 0 = true
  chain : ∀ i j ci cj, cs[i]? = some ci → cs[j]? = some cj → isEff ci.k = true → isEff cj.k = true → i < j → bef ops i j = true
  apart : ∀ i j ci cj, cs[i]? = some ci → cs[j]? = some cj → i < j → bef ops i j = true ∨ ((∀ d ∈ dstOf ci, d ∉ dstOf cj ∧ d ∉ readsOf cj) ∧ ∀ d ∈ dstOf cj, d ∉ readsOf ci)
  look : ∀ r e cr ce, cs[r]? = some cr → cs[e]? = some ce → isRd cr.k = true → isEff ce.k = true → (e < r → bef ops e r = false → (r, e) ∈ l) ∧ (r < e → bef ops r e = false → (r, e + 1) ∈ l)
  calm : ∀ q ∈ l, ∀ cr, cs[q.1]? = some cr → (∀ d ∈ dstOf cr, d ∉ readsOf cr) ∧ ∀ j cj, q.1 < j → cs[j]? = some cj → ∀ d ∈ dstOf cj, d ∉ readsOf cr ∧ d ∉ dstOf cr
theorem looks_form {ops : List Oper} {cs : List COp} {l : List (Nat × Nat)} (h : looks ops cs = some l) : Form ops cs l := by
  unfold looks at h
  dsimp only at h
  split at h
  · rename_i hc
    simp only [Bool.and_eq_true] at hc
    obtain ⟨⟨⟨h1, h2⟩, h3⟩, h4⟩ := hc
    have hl := Option.some.inj h
    clear h
    have lt : ∀ {i : Nat} {co : COp}, cs[i]? = some co → i < cs.length := fun hi => (List.getElem?_eq_some_iff.1 hi).1
    refine ⟨h1, fun i j ci cj hi hj ei ej hij => ?_, fun i j ci cj hi hj hij => ?_, fun r e cr ce hr he rr ee => ?_, fun q hq cr hcr => ?_⟩
    · have := List.all_eq_true.1 (List.all_eq_true.1 h2 i (idxs_mem hi ei (by simp))) j (idxs_mem hj ej (by simp))
      simp only [hij, decide_true, Bool.not_true, Bool.false_or] at this
      exact this
    · have := List.all_eq_true.1 (List.all_eq_true.1 h3 i (by simpa using lt hi)) j (by simpa using lt hj)
      rw [hi, hj] at this
      simp only [hij, decide_true, Bool.not_true, Bool.false_or, Bool.or_eq_true, Bool.and_eq_true, List.all_eq_true, Bool.not_eq_true', List.contains_eq_mem, decide_eq_false_iff_not] at this
      rcases this with h | ⟨h5, h6⟩
      · exact .inl h
      · exact .inr ⟨fun d hd => h5 d hd, fun d hd => h6 d hd⟩
    · constructor
      · intro hlt hb
        rw [← hl]
        refine List.mem_flatMap.2 ⟨r, idxs_mem hr rr (by simp), List.mem_append_left _ (List.mem_map.2 ⟨e, List.mem_filter.2 ⟨idxs_mem he ee (by simp), ?_⟩, rfl⟩)⟩
        have hb : ((aheads ops []).getD r 0).testBit e = false := hb
        simp only [hlt, decide_true, hb, Bool.not_false, Bool.and_self]
      · intro hlt hb
        rw [← hl]
        refine List.mem_flatMap.2 ⟨r, idxs_mem hr rr (by simp), List.mem_append_right _ (List.mem_map.2 ⟨e, List.mem_filter.2 ⟨idxs_mem he ee (by simp), ?_⟩, rfl⟩)⟩
        have hb : ((aheads ops []).getD e 0).testBit r = false := hb
        simp only [hlt, decide_true, hb, Bool.not_false, Bool.and_self]
    · rw [hl] at h4
      have := List.all_eq_true.1 h4 q hq
      rw [hcr] at this
      simp only [Bool.and_eq_true, List.all_eq_true, Bool.not_eq_true', List.contains_eq_mem, decide_eq_false_iff_not] at this
      refine ⟨this.1, fun j cj hj hcj d hd => ?_⟩
      have h5 := this.2 j (by simpa using lt hcj)
      rw [hcj] at h5
      simp only [hj, decide_true, Bool.not_true, Bool.false_or, List.all_eq_true, Bool.and_eq_true, Bool.not_eq_true', decide_eq_false_iff_not] at h5
      exact h5 d hd
  · cases h
end Go.Vm
namespace Go.Vm
open Go

theorem mapM_at {α β : Type} {g : α → Option β} {l : List α} {r : List β} (h : l.mapM g = some r) (j : Nat) (a : α) (ha : l[j]? = some a) : ∃ b, r[j]? = some b ∧ g a = some b := by
  obtain ⟨h1, h2⟩ := mapM_get h
  have hj : j < r.length := by rw [h1]; exact (List.getElem?_eq_some_iff.1 ha).1
  exact ⟨r[j], List.getElem?_eq_getElem hj, h2 j a _ ha (List.getElem?_eq_getElem hj)⟩
theorem mapM_back {α β : Type} {g : α → Option β} {l : List α} {r : List β} (h : l.mapM g = some r) (j : Nat) (b : β) (hb : r[j]? = some b) : ∃ a, l[j]? = some a ∧ g a = some b := by
  obtain ⟨h1, h2⟩ := mapM_get h
  have hj : j < l.length := by rw [← h1]; exact (List.getElem?_eq_some_iff.1 hb).1
  exact ⟨l[j], List.getElem?_eq_getElem hj, h2 j _ b (List.getElem?_eq_getElem hj) hb⟩
theorem dst_mem {d : Dst} {co : COp} (hd : co.d = d) {b : Bool} {t : Nat} : d = dplace b t → t ∈ dstOf co := fun h => by
  unfold dstOf
  rw [hd, h]
  cases b <;> simp [dplace, bsel]
/-- Nobody writes a place: it keeps what it holds. -/
theorem Run.keeps {C : Cfg} {cf : CallF} {cs : List COp} {E : Nat → Env} {H : Nat → AH} {v : Nat → AV} (hr : Run C cf cs E H v) {b : Bool} {t : Nat} : ∀ (k i : Nat), i + k ≤ cs.length → (∀ j cj, i ≤ j → j < i + k → cs[j]? = some cj → t ∉ dstOf cj) → pl b t (E (i + k)) = pl b t (E i)
  | 0, i, _, _ => rfl
  | k + 1, i, hl, hn => by
    have hlt : i + k < cs.length := by omega
    have h1 := hr.put (i + k) cs[i + k] (List.getElem?_eq_getElem hlt) b t
    have h2 : cs[i + k].d ≠ dplace b t := fun h => hn (i + k) _ (by omega) (by omega) (List.getElem?_eq_getElem hlt) (dst_mem rfl h)
    rw [← Nat.add_assoc, h1.2 h2]
    exact Run.keeps hr k i (by omega) fun j cj h3 h4 h5 => hn j cj h3 (by omega) h5
theorem val_still {C : Cfg} {cf : CallF} {co : COp} {e : Env} {h h' : AH} {v : AV} (hs : ∀ vs, opEv C cf co.k vs h = some (v, h') → h' = h) (hv : val C cf co e h = some (v, h')) : h' = h := by
  have key : ∀ (ys : List Opd) (f : List AV → Option (AV × AH)), (∀ vs, f vs = some (v, h') → h' = h) → evs e ys f = some (v, h') → h' = h := by
    intro ys
    induction ys with
    | nil => intro f hf hy; exact hf [] hy
    | cons y ys ih => intro f hf hy; obtain ⟨u, _, hy⟩ := obind_some.1 hy; exact ih _ (fun vs hvs => hf _ hvs) hy
  unfold val at hv
  cases hg : co.g with
  | none => rw [hg] at hv; exact key _ _ hs hv
  | some g =>
    rw [hg] at hv
    have hv : valG e g.1 g.2 h (evs e co.xs fun vs => opEv C cf co.k vs h) = some (v, h') := hv
    unfold valG at hv
    split at hv
    · rename_i b _
      cases hb : bsel g.2 b (!b) with
      | true => rw [hb] at hv; exact key _ _ hs hv
      | false => rw [hb] at hv; cases hv; rfl
    · cases hv; rfl
    · cases hv
/-- As an operation yields at one heap, it yields at another. -/
theorem val_move {C : Cfg} {cf cf' : CallF} {co : COp} {e : Env} {h h2 : AH} {v : AV} (hs : ∀ vs, opEv C cf co.k vs h = some (v, h) → opEv C cf' co.k vs h2 = some (v, h2)) (hv : val C cf co e h = some (v, h)) : val C cf' co e h2 = some (v, h2) := by
  have key : ∀ (ys : List Opd) (f g : List AV → Option (AV × AH)), (∀ vs, f vs = some (v, h) → g vs = some (v, h2)) → evs e ys f = some (v, h) → evs e ys g = some (v, h2) := by
    intro ys
    induction ys with
    | nil => intro f g hf hy; exact hf [] hy
    | cons y ys ih =>
      intro f g hf hy
      obtain ⟨u, hu, hy⟩ := obind_some.1 hy
      exact obind_some.2 ⟨u, hu, ih _ _ (fun vs hvs => hf _ hvs) hy⟩
  unfold val at hv ⊢
  cases hg : co.g with
  | none => rw [hg] at hv; exact key _ _ _ hs hv
  | some g =>
    rw [hg] at hv
    have hv : valG e g.1 g.2 h (evs e co.xs fun vs => opEv C cf co.k vs h) = some (v, h) := hv
    show valG e g.1 g.2 h2 (evs e co.xs fun vs => opEv C cf' co.k vs h2) = some (v, h2)
    unfold valG at hv ⊢
    split at hv
    · rename_i b hb
      cases hq : bsel g.2 b (!b) with
      | true => rw [hq] at hv; exact key _ _ _ hs hv
      | false => rw [hq] at hv; cases hv; rfl
    · cases hv; rfl
    · cases hv
end Go.Vm
namespace Go.Vm
open Go
theorem put_fits {β : Type} {e e2 : Env} {d : Dst} {v : AV} {f : Env → Option β} {r : β} (h : put e d v f = some r) (u : AV) : ∃ e', put e2 d u some = some e' := by
  cases d with
  | no => exact ⟨e2, rfl⟩
  | loc t => exact ⟨_, rfl⟩
  | var t => obtain ⟨t', _, h2⟩ := Tr.set_spec dpt e2.var t (some u) (fun w => some (Env.mk e2.loc w)); exact ⟨_, h2⟩
section
variable {N : Names} {F : Nat → Option Obj} {w0 : World} {P : Program}

/-- Which operations are listed. -/
def Ls (L : Array Bool) (j : Nat) : Prop := L.getD j false = true
/-- Where a run in another order stands. -/
structure St (C : Cfg) (F : Nat → Option Obj) (w0 : World) (P : Program) (N : Names) (mask nt : Nat) (ops : Array Oper) (cs : List COp) (E : Nat → Env) (H : Nat → AH) (μ0 : Mp) (L : Array Bool) (ec : Env) (hc : AH) (μ : Mp) (a : Act) (w : World) : Prop where
  size : L.size = ops.size
  closed : ∀ j o e, Ls L j → ops.toList[j]? = some o → e ∈ o.after.toList → Region.binds .any e = true → Ls L e.on
  env : ∀ b t m, m ≤ cs.length → (∀ j cj, cs[j]? = some cj → t ∈ dstOf cj → (j < m ↔ Ls L j)) → pl b t ec = pl b t (E m)
  heap : ∀ m, m ≤ cs.length → (∀ j cj, cs[j]? = some cj → isEff cj.k = true → (j < m ↔ Ls L j)) → hc = H m
  rel : R N C.glb F w0 μ hc w
  envOk : EnvOk N mask nt μ hc.nx ec a
  agree : Mp.agree (H 0).nx μ0 μ
  nx : (H 0).nx ≤ hc.nx

theorem Ls_set {L : Array Bool} {i j : Nat} (hi : i < L.size) : Ls (L.setIfInBounds i true) j ↔ (j = i ∨ Ls L j) := by
  unfold Ls
  simp only [Array.getD_eq_getD_getElem?]
  rw [Array.getElem?_setIfInBounds]
  by_cases hij : i = j
  · subst hij; simp [hi]
  · rw [if_neg hij]
    constructor
    · intro h; exact .inr h
    · rintro (h | h)
      · exact absurd h.symm hij
      · exact h
theorem ready_mem {ops : Array Oper} {L : Array Bool} (hs : L.size = ops.size) {i : Nat} (hi : i ∈ Region.ready .any ops L) : ∃ o, ops[i]? = some o ∧ i < ops.size ∧ ¬ Ls L i ∧ ∀ e ∈ o.after.toList, Region.binds .any e = true → Ls L e.on := by
  unfold Region.ready at hi
  obtain ⟨h1, h2⟩ := List.mem_filter.1 hi
  have hlt : i < ops.size := by simpa using h1
  simp only [Bool.and_eq_true] at h2
  obtain ⟨h3, h4⟩ := h2
  rw [Array.getElem?_eq_getElem hlt] at h4
  refine ⟨ops[i], Array.getElem?_eq_getElem hlt, hlt, fun hl => ?_, fun e he hb => ?_⟩
  · unfold Ls at hl
    have hL : i < L.size := by omega
    simp only [Array.getD_eq_getD_getElem?, Array.getElem?_eq_getElem hL, Option.getD_some] at h3 hl
    rw [hl] at h3; cases h3
  · simp only [Option.map_some, Option.getD_some] at h4
    rw [← Array.all_toList] at h4
    have := List.all_eq_true.1 h4 e he
    rw [hb] at this
    simp only [Bool.not_true, Bool.false_or] at this
    exact this
theorem ready_nil {ops : Array Oper} {L : Array Bool} (hs : L.size = ops.size) (hr : risesFrom ops.toList 0 = true) (hnil : Region.ready .any ops L = []) : ∀ i, i < ops.size → Ls L i := by
  intro i
  induction i using Nat.strongRecOn with
  | _ i ih =>
    intro hi
    apply Classical.byContradiction
    intro hn
    have hL : i < L.size := by omega
    have : i ∈ Region.ready .any ops L := by
      unfold Region.ready
      refine List.mem_filter.2 ⟨by simpa using hi, ?_⟩
      simp only [Bool.and_eq_true]
      constructor
      · unfold Ls at hn
        simp only [Array.getD_eq_getD_getElem?, Array.getElem?_eq_getElem hL, Option.getD_some] at hn ⊢
        simpa using hn
      · rw [Array.getElem?_eq_getElem hi]
        simp only [Option.map_some, Option.getD_some]
        rw [← Array.all_toList]
        refine List.all_eq_true.2 fun e he => ?_
        cases hb : Region.binds .any e with
        | false => rfl
        | true =>
          have hlt := rises_spec ops.toList 0 hr i ops[i] (by simp [hi]) e he hb
          have := ih e.on (by omega) (by omega)
          unfold Ls at this
          rw [this]; rfl
    rw [hnil] at this
    cases this
end
end Go.Vm
namespace Go.Vm
open Go
section
variable {N : Names} {F : Nat → Option Obj} {w0 : World} {P : Program}

theorem kind_form {o : Oper} : (kindOf P N o).1 = .bad ∨ ((kindOf P N o).1.ok = true ∧ ((kindOf P N o).1.calls = true → isEff (kindOf P N o).1 = true)) := by
  have hc : ∀ k : Kd, k.calls = true → isEff k = true := fun k h => by cases k <;> first | rfl | cases h
  unfold kindOf
  cases hk : callK P N o with
  | some q =>
    refine .inr ⟨?_, hc _⟩
    unfold callK at hk
    split at hk
    · split at hk
      · rename_i f _
        cases hp : plainF P f <;> rw [hp] at hk <;> cases hk
        rfl
      · cases hk; rfl
      · rename_i m _
        cases hi : nidx m N 0 <;> rw [hi] at hk <;> cases hk
        rfl
      · cases hk
    · cases hk
  | none =>
    dsimp only
    cases hq : ckind P N o with
    | none => exact .inl rfl
    | some q =>
      dsimp only
      cases hb : (q.1.ok && !q.1.calls) with
      | false => exact .inl rfl
      | true =>
        simp only [Bool.and_eq_true, Bool.not_eq_true'] at hb
        exact .inr ⟨hb.1, hc _⟩
theorem cop_form {mask nt : Nat} {ops : Array Oper} {o : Oper} {co : COp} (hc : cop P N mask nt ops o = some co) : co.k = .bad ∨ (co.k.ok = true ∧ (co.k.calls = true → isEff co.k = true)) := by
  rw [(cop_some hc).1]; exact kind_form

/-- Nobody writes a place: it keeps what it holds. -/
theorem Run.keeps' {C : Cfg} {cf : CallF} {cs : List COp} {E : Nat → Env} {H : Nat → AH} {v : Nat → AV} (hr : Run C cf cs E H v) {b : Bool} {t : Nat} : ∀ (k i : Nat), i + k ≤ cs.length → (∀ (j : Nat) (cj : COp), i ≤ j → j < i + k → cs[j]? = some cj → cj.d ≠ dplace b t) → pl b t (E (i + k)) = pl b t (E i)
  | 0, i, _, _ => rfl
  | k + 1, i, hl, hn => by
    have hlt : i + k < cs.length := by omega
    have h1 := hr.put (i + k) cs[i + k] (List.getElem?_eq_getElem hlt) b t
    have h2 : cs[i + k].d ≠ dplace b t := hn (i + k) _ (by omega) (by omega) (List.getElem?_eq_getElem hlt)
    rw [← Nat.add_assoc, h1.2 h2]
    exact Run.keeps' hr k i (by omega) fun j cj h3 h4 h5 => hn j cj h3 (by omega) h5

/-- All that is known of a drawn region's run in the text's order. -/
structure Known (P : Program) (N : Names) (C : Cfg) (cf : CallF) (mask nt : Nat) (ops : Array Oper) (cs : List COp) (l : List (Nat × Nat)) (E : Nat → Env) (H : Nat → AH) (v : Nat → AV) : Prop where
  cops : ops.toList.mapM (cop P N mask nt ops) = some cs
  form : Form ops.toList cs l
  run : Run C cf cs E H v
  looks : ∀ (i j : Nat) (co : COp), (i, j) ∈ l → j ≤ cs.length → cs[i]? = some co → isRd co.k = true → isEff co.k = false → Vm.val C cf co (E i) (H j) = some (v i, H j)

section
variable {C : Cfg} {cf : CallF} {mask nt : Nat} {ops : Array Oper} {cs : List COp} {l : List (Nat × Nat)} {E : Nat → Env} {H : Nat → AH} {v : Nat → AV}

theorem Known.size (K : Known P N C cf mask nt ops cs l E H v) : cs.length = ops.size := by
  have := (mapM_get K.cops).1
  simpa using this
theorem Known.still (K : Known P N C cf mask nt ops cs l E H v) {i : Nat} {co : COp} (hi : cs[i]? = some co) (he : isEff co.k = false) : H (i + 1) = H i := by
  obtain ⟨o, _, ho⟩ := mapM_back K.cops i co hi
  refine val_still (fun vs hvs => ?_) (K.run.val i co hi)
  rcases cop_form ho with hb | ⟨h1, _⟩
  · rw [hb] at hvs; cases hvs
  · exact kd_still h1 he hvs
theorem Known.heaps (K : Known P N C cf mask nt ops cs l E H v) : ∀ (k i : Nat), i + k ≤ cs.length → (∀ (j : Nat) (cj : COp), i ≤ j → j < i + k → cs[j]? = some cj → isEff cj.k = false) → H (i + k) = H i
  | 0, i, _, _ => rfl
  | k + 1, i, hl, hn => by
    have hlt : i + k < cs.length := by omega
    rw [← Nat.add_assoc, K.still (List.getElem?_eq_getElem hlt) (hn (i + k) _ (by omega) (by omega) (List.getElem?_eq_getElem hlt))]
    exact Known.heaps K k i (by omega) fun j cj h3 h4 h5 => hn j cj h3 (by omega) h5

/-- Where a run in another order stands. -/
structure At (C : Cfg) (F : Nat → Option Obj) (w0 : World) (N : Names) (mask nt : Nat) (ops : Array Oper) (cs : List COp) (E : Nat → Env) (H : Nat → AH) (μ0 : Mp) (L : Array Bool) (ec : Env) (hc : AH) (μ : Mp) (a : Act) (w : World) : Prop where
  size : L.size = ops.size
  closed : ∀ j o e, Ls L j → ops.toList[j]? = some o → e ∈ o.after.toList → Region.binds .any e = true → Ls L e.on
  env : ∀ (b : Bool) (t m : Nat), m ≤ cs.length → (∀ (j : Nat) (cj : COp), cs[j]? = some cj → cj.d = dplace b t → (j < m ↔ Ls L j)) → pl b t ec = pl b t (E m)
  heap : ∀ m, m ≤ cs.length → (∀ (j : Nat) (cj : COp), cs[j]? = some cj → isEff cj.k = true → (j < m ↔ Ls L j)) → hc = H m
  rel : R N C.glb F w0 μ hc w
  envOk : EnvOk N mask nt μ hc.nx ec a
  agree : Mp.agree (H 0).nx μ0 μ
  nx : (H 0).nx ≤ hc.nx

theorem At.before (K : Known P N C cf mask nt ops cs l E H v) {μ0 μ : Mp} {L : Array Bool} {ec : Env} {hc : AH} {a : Act} {w : World} (A : At C F w0 N mask nt ops cs E H μ0 L ec hc μ a w) {i j : Nat} (hb : bef ops.toList i j = true) (hj : ∀ o e, ops.toList[j]? = some o → e ∈ o.after.toList → Region.binds .any e = true → Ls L e.on) (hjl : j < ops.size) : Ls L i :=
  ahead_listed (L := Ls L) (aheads_ok K.form.rise) A.closed j hj (by simpa using hjl) i hb
theorem At.before' (K : Known P N C cf mask nt ops cs l E H v) {μ0 μ : Mp} {L : Array Bool} {ec : Env} {hc : AH} {a : Act} {w : World} (A : At C F w0 N mask nt ops cs E H μ0 L ec hc μ a w) {i j : Nat} (hb : bef ops.toList i j = true) (hj : Ls L j) (hjl : j < ops.size) : Ls L i :=
  A.before K hb (fun o e h1 h2 h3 => A.closed j o e hj h1 h2 h3) hjl

/-- What the next operation yields. -/
theorem At.yields (K : Known P N C cf mask nt ops cs l E H v) {μ0 μ : Mp} {L : Array Bool} {ec : Env} {hc : AH} {a : Act} {w : World} (A : At C F w0 N mask nt ops cs E H μ0 L ec hc μ a w) {i : Nat} {o : Oper} (hoi : ops[i]? = some o) {co : COp} (hci : cs[i]? = some co) (hnl : ¬ Ls L i) (hp : ∀ e ∈ o.after.toList, Region.binds .any e = true → Ls L e.on) :
    Vm.val C cf co ec hc = some (v i, if isEff co.k = true then H (i + 1) else hc) := by
  have hil : i < cs.length := (List.getElem?_eq_some_iff.1 hci).1
  have hio : i < ops.size := by rw [← K.size]; exact hil
  have hlt : ∀ {j : Nat} {cj : COp}, cs[j]? = some cj → j < ops.size := fun h => by rw [← K.size]; exact (List.getElem?_eq_some_iff.1 h).1
  have hpi : ∀ o' e, ops.toList[i]? = some o' → e ∈ o'.after.toList → Region.binds .any e = true → Ls L e.on := fun o' e h1 h2 h3 => by
    rw [Array.getElem?_toList, hoi] at h1
    cases h1
    exact hp e h2 h3
  have hreads : ∀ t ∈ readsOf co, ∀ b, pl b t ec = pl b t (E i) := fun t ht b => by
    refine A.env b t i (Nat.le_of_lt hil) fun j cj hcj hd => ?_
    have hmem : t ∈ dstOf cj := dst_mem rfl hd
    constructor
    · intro hji
      rcases K.form.apart j i cj co hcj hci hji with h | ⟨h, _⟩
      · exact A.before K h hpi hio
      · exact absurd ht (h t hmem).2
    · intro hlj
      rcases Nat.lt_trichotomy j i with h | h | h
      · exact h
      · subst h; exact absurd hlj hnl
      · rcases K.form.apart i j co cj hci hcj h with h1 | ⟨_, h1⟩
        · exact absurd (A.before' K h1 hlj (hlt hcj)) hnl
        · exact absurd ht (h1 t hmem)
  rw [val_congr hreads]
  have hv := K.run.val i co hci
  obtain ⟨o', ho', hcop⟩ := mapM_back K.cops i co hci
  cases he : isEff co.k with
  | true =>
    have hh : hc = H i := A.heap i (Nat.le_of_lt hil) fun j cj hcj hej => by
      constructor
      · intro hji; exact A.before K (K.form.chain j i cj co hcj hci hej he hji) hpi hio
      · intro hlj
        rcases Nat.lt_trichotomy j i with h | h | h
        · exact h
        · subst h; exact absurd hlj hnl
        · exact absurd (A.before' K (K.form.chain i j co cj hci hcj he hej h) hlj (hlt hcj)) hnl
    rw [hh, hv]
    simp
  | false =>
    have hst : H (i + 1) = H i := K.still hci he
    rw [hst] at hv
    simp only [Bool.false_eq_true, if_false]
    cases hrd : isRd co.k with
    | false =>
      refine val_move (fun vs hvs => ?_) hv
      rcases cop_form hcop with hb | ⟨h1, _⟩
      · rw [hb] at hvs; cases hvs
      · exact kd_calm h1 he hrd hvs hc
    | true =>
      by_cases h1 : ∃ (e : Nat) (ce : COp), cs[e]? = some ce ∧ isEff ce.k = true ∧ e < i ∧ ¬ Ls L e
      · -- the least effect ahead that is not listed
        have hwf : ∃ e, (∃ (ce : COp), cs[e]? = some ce ∧ isEff ce.k = true ∧ e < i ∧ ¬ Ls L e) ∧ ∀ j, (∃ (cj : COp), cs[j]? = some cj ∧ isEff cj.k = true ∧ j < i ∧ ¬ Ls L j) → e ≤ j := by
          obtain ⟨e, he1⟩ := h1
          induction e using Nat.strongRecOn with
          | _ e ih =>
            by_cases hx : ∃ j, j < e ∧ ∃ (cj : COp), cs[j]? = some cj ∧ isEff cj.k = true ∧ j < i ∧ ¬ Ls L j
            · obtain ⟨j, hj, hj2⟩ := hx; exact ih j hj hj2
            · exact ⟨e, he1, fun j hj => Nat.not_lt.1 fun hlt => hx ⟨j, hlt, hj⟩⟩
        obtain ⟨e, ⟨ce, hce, hee, hei, hle⟩, hmin⟩ := hwf
        have hh : hc = H e := A.heap e (by omega) fun j cj hcj hej => by
          constructor
          · intro hje
            apply Classical.byContradiction
            intro hn
            exact Nat.lt_irrefl _ (Nat.lt_of_lt_of_le hje (hmin j ⟨cj, hcj, hej, by omega, hn⟩))
          · intro hlj
            rcases Nat.lt_trichotomy j e with h | h | h
            · exact h
            · subst h; exact absurd hlj hle
            · exact absurd (A.before' K (K.form.chain e j ce cj hce hcj hee hej h) hlj (hlt hcj)) hle
        have hb : bef ops.toList e i = false := by
          cases hq : bef ops.toList e i with
          | false => rfl
          | true => exact absurd (A.before K hq hpi hio) hle
        rw [hh]
        exact K.looks i e co ((K.form.look i e co ce hci hce hrd hee).1 hei hb) (by omega) hci hrd he
      · by_cases h2 : ∃ (e : Nat) (ce : COp), cs[e]? = some ce ∧ isEff ce.k = true ∧ i < e ∧ Ls L e
        · have hwf : ∃ e, (∃ (ce : COp), cs[e]? = some ce ∧ isEff ce.k = true ∧ i < e ∧ Ls L e) ∧ ∀ j, (∃ (cj : COp), cs[j]? = some cj ∧ isEff cj.k = true ∧ i < j ∧ Ls L j) → j ≤ e := by
            obtain ⟨e, he1⟩ := h2
            have : ∀ (k e : Nat), cs.length - e ≤ k → (∃ (ce : COp), cs[e]? = some ce ∧ isEff ce.k = true ∧ i < e ∧ Ls L e) → ∃ e, (∃ (ce : COp), cs[e]? = some ce ∧ isEff ce.k = true ∧ i < e ∧ Ls L e) ∧ ∀ j, (∃ (cj : COp), cs[j]? = some cj ∧ isEff cj.k = true ∧ i < j ∧ Ls L j) → j ≤ e := by
              intro k
              induction k with
              | zero => intro e hk ⟨ce, hce, _⟩; have := (List.getElem?_eq_some_iff.1 hce).1; omega
              | succ k ih =>
                intro e hk he1
                by_cases hx : ∃ j, e < j ∧ ∃ (cj : COp), cs[j]? = some cj ∧ isEff cj.k = true ∧ i < j ∧ Ls L j
                · obtain ⟨j, hj, hj2⟩ := hx; exact ih j (by omega) hj2
                · exact ⟨e, he1, fun j hj => Nat.not_lt.1 fun hlt => hx ⟨j, hlt, hj⟩⟩
            exact this _ e (Nat.le_refl _) he1
          obtain ⟨e, ⟨ce, hce, hee, hei, hle⟩, hmax⟩ := hwf
          have hel : e < cs.length := (List.getElem?_eq_some_iff.1 hce).1
          have hh : hc = H (e + 1) := A.heap (e + 1) (by omega) fun j cj hcj hej => by
            constructor
            · intro hje
              by_cases hq : j = e
              · subst hq; exact hle
              · exact A.before' K (K.form.chain j e cj ce hcj hce hej hee (by omega)) hle (hlt hce)
            · intro hlj
              by_cases hq : j < e + 1
              · exact hq
              · exact absurd (hmax j ⟨cj, hcj, hej, by omega, hlj⟩) (by omega)
          have hb : bef ops.toList i e = false := by
            cases hq : bef ops.toList i e with
            | false => rfl
            | true => exact absurd (A.before' K hq hle (hlt hce)) hnl
          rw [hh]
          exact K.looks i (e + 1) co ((K.form.look i e co ce hci hce hrd hee).2 hei hb) (by omega) hci hrd he
        · have hh : hc = H i := A.heap i (Nat.le_of_lt hil) fun j cj hcj hej => by
            constructor
            · intro hji
              apply Classical.byContradiction
              intro hn
              exact h1 ⟨j, cj, hcj, hej, hji, hn⟩
            · intro hlj
              rcases Nat.lt_trichotomy j i with h | h | h
              · exact h
              · subst h; exact absurd hlj hnl
              · exact absurd ⟨j, cj, hcj, hej, h, hlj⟩ h2
          rw [hh]; exact hv
end
end
end Go.Vm
namespace Go.Vm
open Go
section
variable {N : Names} {F : Nat → Option Obj} {w0 : World} {P : Program} {C : Cfg} {cf : CallF} {mask nt : Nat} {ops : Array Oper} {cs : List COp} {l : List (Nat × Nat)} {E : Nat → Env} {H : Nat → AH} {v : Nat → AV}

theorem At.step (K : Known P N C cf mask nt ops cs l E H v) {μ0 μ μ' : Mp} {L : Array Bool} {ec : Env} {hc : AH} {a : Act} {w w' : World} (A : At C F w0 N mask nt ops cs E H μ0 L ec hc μ a w) {i : Nat} {o : Oper} (hoi : ops[i]? = some o) {co : COp} (hci : cs[i]? = some co) (hnl : ¬ Ls L i) (hp : ∀ e ∈ o.after.toList, Region.binds .any e = true → Ls L e.on)
    {x : Value} (hd : cdst mask nt o.dst = some co.d) (ha : Mp.agree hc.nx μ μ') (hle : hc.nx ≤ (if isEff co.k = true then H (i + 1) else hc).nx) (hR : R N C.glb F w0 μ' (if isEff co.k = true then H (i + 1) else hc) w') (hx : V N μ' (if isEff co.k = true then H (i + 1) else hc).nx (v i) x) :
    ∃ ec', At C F w0 N mask nt ops cs E H μ0 (L.setIfInBounds i true) ec' (if isEff co.k = true then H (i + 1) else hc) μ' (a.put o.dst x) w' := by
  have hil : i < cs.length := (List.getElem?_eq_some_iff.1 hci).1
  have hio : i < ops.size := by rw [← K.size]; exact hil
  have hiL : i < L.size := by rw [A.size]; exact hio
  obtain ⟨q1, q2, q3, q4, hfit⟩ := K.run.fit i co hci
  obtain ⟨ec', hput⟩ := put_fits hfit (e2 := ec) (v i)
  obtain ⟨ec1, he1, hw⟩ := put_wrote hput
  cases he1
  obtain ⟨ec2, he2, hEnv, _⟩ := put_ok (A.envOk.mono ha hle) hd hx hput
  cases he2
  refine ⟨ec', ⟨by rw [Array.size_setIfInBounds]; exact A.size, ?_, ?_, ?_, hR, hEnv, A.agree.trans ha A.nx, Nat.le_trans A.nx hle⟩⟩
  · intro j o' e hlj ho' he hb
    rw [Ls_set hiL] at hlj ⊢
    rcases hlj with rfl | hlj
    · rw [Array.getElem?_toList, hoi] at ho'
      cases ho'
      exact .inr (hp e he hb)
    · exact .inr (A.closed j o' e hlj ho' he hb)
  · intro b t m hm hcond
    by_cases hdt : co.d = dplace b t
    · rw [(hw b t).1 hdt]
      have him : i < m := (hcond i co hci hdt).2 ((Ls_set hiL).2 (.inl rfl))
      have hkeep := K.run.keeps' (b := b) (t := t) (m - (i + 1)) (i + 1) (by omega) fun j cj h1 h2 hcj hdj => by
        have hlj : Ls L j := by
          rcases (Ls_set hiL).1 ((hcond j cj hcj hdj).1 (by omega)) with h | h
          · omega
          · exact h
        have hjl : j < ops.size := by rw [← K.size]; exact (List.getElem?_eq_some_iff.1 hcj).1
        rcases K.form.apart i j co cj hci hcj (by omega) with h | ⟨h, _⟩
        · exact hnl (A.before' K h hlj hjl)
        · exact (h t (dst_mem rfl hdt)).1 (dst_mem rfl hdj)
      rw [show i + 1 + (m - (i + 1)) = m by omega] at hkeep
      rw [hkeep, ((K.run.put i co hci) b t).1 hdt]
    · rw [(hw b t).2 hdt]
      refine A.env b t m hm fun j cj hcj hdj => ?_
      rw [hcond j cj hcj hdj, Ls_set hiL]
      constructor
      · rintro (h | h)
        · subst h; rw [hci] at hcj; cases hcj; exact absurd hdj hdt
        · exact h
      · exact .inr
  · intro m hm hcond
    cases he : isEff co.k with
    | true =>
      simp only [if_true]
      have him : i < m := (hcond i co hci he).2 ((Ls_set hiL).2 (.inl rfl))
      have := K.heaps (m - (i + 1)) (i + 1) (by omega) fun j cj h1 h2 hcj => by
        cases hej : isEff cj.k with
        | false => rfl
        | true =>
          have hlj : Ls L j := by
            rcases (Ls_set hiL).1 ((hcond j cj hcj hej).1 (by omega)) with h | h
            · omega
            · exact h
          have hjl : j < ops.size := by rw [← K.size]; exact (List.getElem?_eq_some_iff.1 hcj).1
          exact absurd (A.before' K (K.form.chain i j co cj hci hcj he hej (by omega)) hlj hjl) hnl
      rw [show i + 1 + (m - (i + 1)) = m by omega] at this
      exact this.symm
    | false =>
      simp only [Bool.false_eq_true, if_false]
      refine A.heap m hm fun j cj hcj hej => ?_
      rw [hcond j cj hcj hej, Ls_set hiL]
      constructor
      · rintro (h | h)
        · subst h; rw [hci] at hcj; cases hcj; rw [he] at hej; cases hej
        · exact h
      · exact .inr

/-- How many are not listed. -/
def owed (L : Array Bool) : Nat := L.toList.count false
theorem owed_set {L : Array Bool} {i : Nat} (hi : i < L.size) (hn : ¬ Ls L i) : owed (L.setIfInBounds i true) + 1 = owed L := by
  unfold owed
  rw [Array.toList_setIfInBounds]
  have hf : L.toList[i]? = some false := by
    unfold Ls at hn
    rw [Array.getElem?_toList, Array.getElem?_eq_getElem hi]
    rw [Array.getD_eq_getD_getElem?, Array.getElem?_eq_getElem hi] at hn
    simpa using hn
  generalize L.toList = t at hf
  clear hn hi
  induction t generalizing i with
  | nil => simp at hf
  | cons b t ih =>
    cases i with
    | zero => simp at hf; subst hf; simp
    | succ i =>
      simp only [List.getElem?_cons_succ] at hf
      have := ih hf
      rw [List.set_cons_succ, List.count_cons, List.count_cons]
      omega
theorem owed_none {L : Array Bool} (h : owed L = 0) {i : Nat} (hi : i < L.size) : Ls L i := by
  unfold owed at h
  rw [List.count_eq_zero] at h
  unfold Ls
  rw [Array.getD_eq_getD_getElem?, Array.getElem?_eq_getElem hi]
  simp only [Option.getD_some]
  cases hb : L[i] with
  | true => rfl
  | false => exact absurd (hb ▸ Array.getElem_mem_toList hi) h

theorem drawn_any (S : Sound P N C F w0 cf) (K : Known P N C cf mask nt ops cs l E H v) {μ0 : Mp} {Q : Exit → Act → World → Prop}
    (hQ : ∀ μ a w, Mp.agree (H 0).nx μ0 μ → (H 0).nx ≤ (H cs.length).nx → R N C.glb F w0 μ (H cs.length) w → EnvOk N mask nt μ (H cs.length).nx (E cs.length) a → Q .normal a w) :
    ∀ (fuel : Nat) (L : Array Bool) (ec : Env) (hc : AH) (μ : Mp) (a : Act) (w : World), owed L ≤ fuel → At C F w0 N mask nt ops cs E H μ0 L ec hc μ a w → wpAny P .any ops Q fuel L a w := by
  have fin : ∀ (L : Array Bool) (ec : Env) (hc : AH) (μ : Mp) (a : Act) (w : World), At C F w0 N mask nt ops cs E H μ0 L ec hc μ a w → Region.ready .any ops L = [] → Q .normal a w := fun L ec hc μ a w A hr => by
    have hall := ready_nil A.size K.form.rise hr
    have hcl : ∀ {j : Nat} {cj : COp}, cs[j]? = some cj → (j < cs.length ↔ Ls L j) := fun {j cj} hcj => by
      have hj := (List.getElem?_eq_some_iff.1 hcj).1
      exact ⟨fun _ => hall j (by rw [← K.size]; exact hj), fun _ => hj⟩
    have hh : hc = H cs.length := A.heap _ (Nat.le_refl _) fun j cj hcj _ => hcl hcj
    have hpl : ∀ b t, pl b t ec = pl b t (E cs.length) := fun b t => A.env b t _ (Nat.le_refl _) fun j cj hcj _ => hcl hcj
    have hE := A.envOk
    have hR := A.rel
    have hn := A.nx
    rw [hh] at hE hR hn
    exact hQ μ a w A.agree hn hR ⟨hE.def_, hE.size, fun t u h1 h2 => hE.loc t u ((hpl false t).trans h1) h2, fun t u h1 h2 => hE.var t u ((hpl true t).trans h1) h2⟩
  intro fuel
  induction fuel with
  | zero =>
    intro L ec hc μ a w ho A
    have hr : Region.ready .any ops L = [] := by
      apply List.eq_nil_iff_forall_not_mem.2
      intro i hi
      obtain ⟨_, _, h2, h3, _⟩ := ready_mem A.size hi
      exact h3 (owed_none (by omega) (by rw [A.size]; exact h2))
    exact ⟨hr, fin L ec hc μ a w A hr⟩
  | succ fuel ih =>
    intro L ec hc μ a w ho A
    refine ⟨fin L ec hc μ a w A, fun i hi => ?_⟩
    obtain ⟨o, h1, h2, h3, h4⟩ := ready_mem A.size hi
    obtain ⟨co, hci, hcop⟩ := mapM_at K.cops i o (by rw [Array.getElem?_toList]; exact h1)
    have hy := A.yields K h1 hci h3 h4
    have hsz := owed_set (by rw [A.size]; exact h2) h3
    unfold wpOp
    rw [h1]
    refine op_ok S A.rel A.envOk hcop hy fun x w' μ' ha hle hR hx => ?_
    obtain ⟨ec', A'⟩ := A.step K h1 hci h3 h4 (cop_some hcop).2.2.1 ha hle hR hx
    exact ih _ ec' _ μ' _ w' (by omega) A'

theorem agains_at {eN : Env} {hs : List AH} : ∀ {l : List (Nat × Nat)}, agains C cs eN hs l = true → ∀ i j, (i, j) ∈ l → ∃ o h, cs[i]? = some o ∧ hs[cs.length - j]? = some h ∧ again C o eN h = true := by
  intro l
  induction l with
  | nil => intro _ i j hm; cases hm
  | cons q l ih =>
    obtain ⟨p, r⟩ := q
    intro h i j hm
    simp only [agains] at h
    split at h
    · rename_i o hh h1 h2
      simp only [Bool.and_eq_true] at h
      rcases List.mem_cons.1 hm with heq | hm
      · cases heq; exact ⟨o, hh, h1, h2, h.1⟩
      · exact ih h.2 i j hm
    · cases h

theorem drawn_ok (hm : P.follows .mixedOrders = true) (S : Sound P N C F w0 cf) : DrwOk P N C F w0 cf := by
  intro mask nt id ops cs l hcs hl e h a w μ r hR hE hx
  obtain ⟨⟨eN, hs⟩, ht, hx⟩ := obind_some.1 hx
  obtain ⟨E, H, v, e0, h0, eN', hrun, hhs⟩ := trail_spec cs _ h [] eN hs ht
  have hform := looks_form hl
  have hlast : hs = H cs.length :: ((List.range cs.length).map H).reverse := by
    rw [hhs, List.range_succ, List.map_append, List.reverse_append]; simp
  unfold x_drw at hx
  rw [hlast] at hx
  obtain ⟨hag, hx⟩ := grd_of hx
  cases hx
  have K : Known P N C cf mask nt ops cs l E H v := ⟨hcs, hform, hrun, fun i j co hij hj hci hrd hef => by
    obtain ⟨o, hh, h1, h2, h3⟩ := agains_at hag i j hij
    rw [hci] at h1
    cases h1
    have hget := heaps_get (H := H) hj
    rw [hhs] at hlast
    rw [hlast] at hget
    rw [hget] at h2
    cases h2
    have hil : i < cs.length := (List.getElem?_eq_some_iff.1 hci).1
    obtain ⟨hc1, hc2⟩ := hform.calm (i, j) hij co hci
    unfold again at h3
    split at h3
    · rename_i v' hq u hv' hcur
      have hsame := same_eq _ _ _ h3
      subst hsame
      have hreads : ∀ t ∈ readsOf co, ∀ b, pl b t eN = pl b t (E i) := fun t ht b => by
        have h1 := hrun.keeps' (b := b) (t := t) (cs.length - (i + 1)) (i + 1) (by omega) fun k ck h4 h5 hck hd => (hc2 k ck (by omega) hck t (dst_mem rfl hd)).1 ht
        rw [show i + 1 + (cs.length - (i + 1)) = cs.length by omega, eN'] at h1
        rw [h1]
        exact ((hrun.put i co hci) b t).2 fun hd => hc1 t (dst_mem rfl hd) ht
      have hvi : v' = v i := by
        have key : ∀ b t, co.d = dplace b t → pl b t eN = some (v i) := fun b t hd => by
          have h1 := hrun.keeps' (b := b) (t := t) (cs.length - (i + 1)) (i + 1) (by omega) fun k ck h4 h5 hck hdk => (hc2 k ck (by omega) hck t (dst_mem rfl hdk)).2 (dst_mem rfl hd)
          rw [show i + 1 + (cs.length - (i + 1)) = cs.length by omega, eN'] at h1
          rw [h1]
          exact ((hrun.put i co hci) b t).1 hd
        cases hd : co.d with
        | no => rw [hd] at hcur; cases hcur
        | loc t =>
          rw [hd] at hcur
          have hk := key false t hd
          have hcur : lfind t eN.loc = some v' := hcur
          have hk : lfind t eN.loc = some (v i) := hk
          rw [hcur] at hk
          exact Option.some.inj hk
        | var t =>
          rw [hd] at hcur
          have hk := key true t hd
          have hcur : eN.var.get t = some v' := hcur
          have hk : eN.var.get t = some (v i) := hk
          rw [hcur] at hk
          exact Option.some.inj hk
      subst hvi
      rw [val_congr hreads] at hv'
      obtain ⟨o', _, hcop⟩ := mapM_back hcs i co hci
      have hcalls : co.k.calls = false := by
        cases hq : co.k <;> first | rfl | (rw [hq] at hef; cases hef)
      have hq2 : hq = H j := val_still (fun vs hvs => by
        rcases cop_form hcop with hb | ⟨h4, _⟩
        · rw [hb] at hvs; cases hvs
        · exact kd_still h4 hef hvs) hv'
      subst hq2
      exact val_move (fun vs hvs => by rw [kd_cf (fun _ _ _ => none) hcalls]; exact hvs) hv'
    · cases h3⟩
  refine wp_region_any hm (drawn_any (μ0 := μ) S K (fun μ' a' w' p1 p2 p3 p4 => ?_) ops.size _ (E 0) (H 0) μ a _ ?_ ?_)
  · rw [h0] at p1 p2
    refine ⟨trivial, μ', p1, p2, p3, ?_⟩
    rw [← eN']; exact p4
  · unfold owed
    rw [Array.toList_replicate, List.count_replicate]
    simp
  · have hno : ∀ j, ¬ Ls (Array.replicate ops.size false) j := fun j hj => by
      unfold Ls at hj
      rw [Array.getD_eq_getD_getElem?, Array.getElem?_replicate] at hj
      split at hj <;> cases hj
    refine ⟨by simp, fun j o e hj => absurd hj (hno j), fun b t m hm' hcond => ?_, fun m hm' hcond => ?_, ?_, ?_, .refl, Nat.le_refl _⟩
    · have := hrun.keeps' (b := b) (t := t) m 0 (by omega) fun j cj h1 h2 hcj hd => hno j ((hcond j cj hcj hd).1 (by omega))
      rw [Nat.zero_add] at this
      exact this.symm
    · have := K.heaps m 0 (by omega) fun j cj h1 h2 hcj => by
        cases hej : isEff cj.k with
        | false => rfl
        | true => exact absurd ((hcond j cj hcj hej).1 (by omega)) (hno j)
      rw [Nat.zero_add] at this
      exact this.symm
    · rw [h0]; exact hR.drew
    · rw [h0, e0]; exact hE.fresh
end
end Go.Vm
