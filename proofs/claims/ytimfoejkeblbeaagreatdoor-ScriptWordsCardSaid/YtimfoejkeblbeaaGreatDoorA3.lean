/- The evaluator is right: operations, the second part. -/
import Derived.Test.YtimfoejkeblbeaaGreatDoorA2
import Derived.Laws.RangeString
import Derived.Laws.IdiomRangeMap
import Derived.Laws.Externs
import Derived.KernelRfl
import Derived.Lib.Bytealg
set_option linter.all false
namespace Go.Vm
open Go
section
variable {N : Names} {G : Tr (Tr AV)} {F : Nat → Option Obj} {w0 : World} {P : Program} {μ : Mp} {h h' : AH} {w : World} {n : Nat}

theorem args1 {args : Array Value} {X : Value} (h : args.toList = [X]) : args = #[X] := by
  cases args; simp at h; subst h; rfl
theorem args2 {args : Array Value} {X Y : Value} (h : args.toList = [X, Y]) : args = #[X, Y] := by
  cases args; simp at h; subst h; rfl

theorem mobj_some {β : Type} {i : Nat} {f : List AE → Nat → Option β} {r : β} (h0 : mobj h i f = some r) : ∃ es c, h.t.get i = some (.map es c) ∧ f es c = some r := by
  unfold mobj at h0
  split at h0
  · exact ⟨_, _, by assumption, h0⟩
  · cases h0
theorem R.map (r : R N G F w0 μ h w) {i : Nat} {es : List AE} {c : Nat} (hg : h.t.get i = some (.map es c)) : i < h.nx ∧ ∃ en, w.heap[μ.blk i]? = some (.map en c) ∧ en.size = es.length ∧
    ∀ (j : Nat) (e : AE) (x : MapEntry), es[j]? = some e → en[j]? = some x → V N μ h.nx e.key x.key ∧ V N μ h.nx e.val x.val ∧ x.born = e.born := ⟨r.ids i _ hg, r.obj i _ hg⟩
theorem run_getObj {b : Nat} {o : Obj} (hb : w.heap[b]? = some o) (hn : ∀ c e f, o ≠ .cells c e f) : (getObj b).run P w = .ok o w := by
  unfold getObj
  unfold Sem.run
  rw [hb]
  cases o <;> first | exact absurd rfl (hn _ _ _) | rfl

theorem len_ok (r : R N G F w0 μ h w) {k : Nat} {t ty : TypeId} {ts : Array TypeId} (ht : ts[0]? = some t)
    (hk : (P.underlying t = some .string ∧ k = 0) ∨ ((∃ e, P.underlying t = some (.slice e)) ∧ k = 1) ∨ ((∃ a e, P.underlying t = some (.map a e)) ∧ k = 2) ∨ (∃ n e, P.underlying t = some (.array n e) ∧ k = n + 3))
    {vs : List AV} {v : AV} {args : Array Value} (hk0 : k_len k vs h = some (v, h')) (hv0 : Vs N μ h.nx vs args.toList) :
    h' = h ∧ ∃ x, (Builtin.len_ ts ty args).run P w = .ok x w ∧ V N μ h.nx v x := by
  obtain ⟨a, rfl, hk1⟩ := arg1_some hk0
  obtain ⟨X, e1, ha⟩ := hv0.one_inv
  have := args1 e1; subst this
  have ha0 : (#[X] : Array Value)[0]? = some X := rfl
  rcases hk with ⟨hu, rfl⟩ | ⟨⟨e, hu⟩, rfl⟩ | ⟨⟨a', e, hu⟩, rfl⟩ | ⟨n, e, hu, rfl⟩
  · cases ha with
    | str l m s hm hs =>
      cases hk1
      have hz : s.size = l := by rw [ba_size, hs, sb_length]
      exact ⟨rfl, .int .i64 (Int.ofNat l), by simp [Builtin.len_, ht, run_underlying hu, goInt, hz], .int _ _⟩
    | _ => cases hk1
  · cases ha with
    | nils => cases hk1; exact ⟨rfl, .int .i64 (Int.ofNat 0), by simp [Builtin.len_, ht, run_underlying hu, goInt], .int _ _⟩
    | slc i o l c x hi hl hx => cases hk1; exact ⟨rfl, .int .i64 (Int.ofNat l), by simp [Builtin.len_, ht, run_underlying hu, goInt], .int _ _⟩
    | slo i o l s c x hi hl hx => cases hk1; exact ⟨rfl, .int .i64 (Int.ofNat l), by simp [Builtin.len_, ht, run_underlying hu, goInt], .int _ _⟩
    | _ => cases hk1
  · cases ha with
    | nilm => cases hk1; exact ⟨rfl, .int .i64 (Int.ofNat 0), by simp [Builtin.len_, ht, run_underlying hu, goInt], .int _ _⟩
    | map i hi =>
      obtain ⟨es, c, hg, hk2⟩ := mobj_some hk1
      rw [nat_eq] at hk2
      cases hk2
      obtain ⟨_, en, hb, hsz, _⟩ := r.map hg
      refine ⟨rfl, .int .i64 (Int.ofNat es.length), ?_, .int _ _⟩
      simp [Builtin.len_, ht, run_underlying hu, goInt, run_getObj hb (fun _ _ _ h => by cases h), hsz]
    | _ => cases hk1
  · have : k_len (n + 3) [a] h = some (.int .i64 (Int.ofNat n), h) := rfl
    rw [this] at hk0
    cases hk0
    exact ⟨rfl, .int .i64 (Int.ofNat n), by simp [Builtin.len_, ht, run_underlying hu, goInt], .int _ _⟩
theorem cap_ok {t ty e : TypeId} {ts : Array TypeId} (ht : ts[0]? = some t) (hu : P.underlying t = some (.slice e)) {vs : List AV} {v : AV} {args : Array Value} (hk0 : k_cap vs h = some (v, h')) (hv0 : Vs N μ h.nx vs args.toList) :
    h' = h ∧ ∃ x, (Builtin.cap_ ts ty args).run P w = .ok x w ∧ V N μ h.nx v x := by
  obtain ⟨a, rfl, hk1⟩ := arg1_some hk0
  obtain ⟨X, e1, ha⟩ := hv0.one_inv
  have := args1 e1; subst this
  cases ha with
  | nils => cases hk1; exact ⟨rfl, .int .i64 (Int.ofNat 0), by simp [Builtin.cap_, ht, run_underlying hu, goInt], .int _ _⟩
  | slc i o l c x hi hl hx => cases hk1; exact ⟨rfl, .int .i64 (Int.ofNat c), by simp [Builtin.cap_, ht, run_underlying hu, goInt], .int _ _⟩
  | _ => cases hk1
theorem mx_ok {ty : TypeId} {ts : Array TypeId} {mx : Bool} {vs : List AV} {v : AV} {args : Array Value} (hk0 : k_mx mx vs h = some (v, h')) (hv0 : Vs N μ h.nx vs args.toList) :
    h' = h ∧ ∃ x, (bsel mx (Builtin.max_ ts ty args) (Builtin.min_ ts ty args)).run P w = .ok x w ∧ V N μ h.nx v x := by
  obtain ⟨a, b, rfl, hk1⟩ := arg2_some hk0
  obtain ⟨X, Y, e1, ha, hb⟩ := hv0.two_inv
  have := args2 e1; subst this
  obtain ⟨hq, rfl⟩ := yld_some hk1
  refine ⟨rfl, ?_⟩
  cases ha with
  | int k i =>
    cases hb with
    | int k' j =>
      obtain ⟨le, hle, hq2⟩ := obind_some.1 hq
      cases hq2
      have := ile_some hle
      subst this
      cases mx with
      | true =>
        refine ⟨.int k (if j > i then j else i), by simp [bsel, Builtin.max_, Builtin.max2], ?_⟩
        have : bsel (decide (i ≤ j)) (bsel true j i) (bsel true i j) = if j > i then j else i := by
          by_cases h1 : i ≤ j
          · by_cases h2 : j > i
            · simp [bsel, h1, h2]
            · have : i = j := by omega
              subst this; simp [bsel]
          · have h2 : ¬ j > i := by omega
            simp [bsel, h1, h2]
        rw [this]; exact .int _ _
      | false =>
        refine ⟨.int k (if j < i then j else i), by simp [bsel, Builtin.min_, Builtin.min2], ?_⟩
        have : bsel (decide (i ≤ j)) (bsel false j i) (bsel false i j) = if j < i then j else i := by
          by_cases h1 : i ≤ j
          · have h2 : ¬ j < i := by omega
            simp [bsel, h1, h2]
          · have h2 : j < i := by omega
            simp [bsel, h1, h2]
        rw [this]; exact .int _ _
    | _ => cases hq
  | _ => cases hq
theorem mkf_ok {f : FnV} {g : Fn} (hf : FnOk N f g) {ρ : Operand → Value} {a b : Array Operand} {vs : List AV} {v : AV} (hk0 : k_mkf f a.size vs h = some (v, h')) (hv0 : Vs N μ h.nx vs ((a.toList ++ b.toList).map ρ)) :
    h' = h ∧ ∃ x, (Instr.makeFunc g (a.map ρ) (b.map ρ)).run P w = .ok x w ∧ V N μ h.nx v x := by
  cases hk0
  refine ⟨rfl, _, rfl, ?_⟩
  have h1 : Vs N μ h.nx (vs.take a.size) (a.map ρ).toList := by
    have := hv0.take a.size
    rw [List.map_append] at this
    simpa [List.take_append] using this
  have h2 : Vs N μ h.nx (vs.drop a.size) (b.map ρ).toList := by
    have := hv0.drop a.size
    rw [List.map_append] at this
    simpa [List.drop_append] using this
  refine .fn f g _ _ _ _ hf ?_ ?_ ?_ ?_
  · have := h1.1; simpa using this
  · have := h2.1; simpa using this
  · intro j p q hp hq; exact h1.2 j p q hp (by simpa using hq)
  · intro j p q hp hq; exact h2.2 j p q hp (by simpa using hq)
end
end Go.Vm
namespace Go.Vm
open Go
section
variable {N : Names} {G : Tr (Tr AV)} {F : Nat → Option Obj} {w0 : World} {P : Program} {μ : Mp} {h h' : AH} {w : World} {n : Nat}

/-- One block, not a row, changed. -/
theorem R.setObj (r : R N G F w0 μ h w) {i : Nat} {ob ob' : AObj} (hg : h.t.get i = some ob) (hro : ob.ro = false) (htag : ob.tag = 0) (htag' : ob'.tag = 0) {t : Tr AObj} (ht : ∀ j, t.get j = if j = i then some ob' else h.t.get j) (o' : Obj)
    (hold : Holds N μ { h with t := t } i { w with heap := w.heap.setIfInBounds (μ.blk i) o' } ob') : R N G F w0 μ { h with t := t } { w with heap := w.heap.setIfInBounds (μ.blk i) o' } := by
  have hget : ∀ j a, t.get j = some a → (j = i ∧ a = ob') ∨ (j ≠ i ∧ h.t.get j = some a) := fun j a hj => by
    rw [ht] at hj
    by_cases hji : j = i
    · rw [if_pos hji] at hj; cases hj; exact .inl ⟨hji, rfl⟩
    · rw [if_neg hji] at hj; exact .inr ⟨hji, hj⟩
  have hoth : ∀ k, k ≠ μ.blk i → (w.heap.setIfInBounds (μ.blk i) o')[k]? = w.heap[k]? := fun k hk => by rw [Array.getElem?_setIfInBounds, if_neg (fun h => hk h.symm)]
  have hne : ∀ j a, h.t.get j = some a → j ≠ i → μ.blk j ≠ μ.blk i := fun j a hj hji hb => (r.apart j i a ob hj hg hji hb).1 (by
    have := (r.apart j i a ob hj hg hji hb).2; rw [this]; exact htag)
  have hfi : F (μ.blk i) = none := r.own i ob hg hro
  refine ⟨r.os, r.out, by simpa using r.lo, fun b o hF => ?_, fun j a hj => ?_, fun j a hj => ?_, fun j k a b hj hk hjk hblk => ?_, fun j a hj hro' => ?_, fun j a hj ht0 => ?_,
    fun j a tg hj htg => ?_, fun g c o v hG hv => ?_, r.gfr, fun j k a b hj hk hjk ht0 hblk => ?_, r.fnone, r.mxl⟩
  · have hb : b ≠ μ.blk i := fun h => by rw [h, hfi] at hF; cases hF
    show (w.heap.setIfInBounds _ _)[b]? = _
    rw [hoth b hb]; exact r.fr b o hF
  · rcases hget j a hj with ⟨rfl, _⟩ | ⟨_, h2⟩
    · exact r.ids j _ hg
    · exact r.ids j a h2
  · rcases hget j a hj with ⟨rfl, rfl⟩ | ⟨h1, h2⟩
    · exact hold
    · exact (r.obj j a h2).keep (hoth _ (hne j a h2 h1)) (Nat.le_refl _) fun _ _ _ _ _ _ _ _ hr => hr
  · rcases hget j a hj with ⟨rfl, rfl⟩ | ⟨h1, h2⟩ <;> rcases hget k b hk with ⟨rfl, rfl⟩ | ⟨h3, h4⟩
    · exact absurd rfl hjk
    · exact absurd hblk.symm (hne k b h4 h3)
    · exact absurd hblk (hne j a h2 h1)
    · exact r.apart j k a b h2 h4 hjk hblk
  · rcases hget j a hj with ⟨rfl, rfl⟩ | ⟨h1, h2⟩
    · exact hfi
    · exact r.own j a h2 hro'
  · rcases hget j a hj with ⟨rfl, rfl⟩ | ⟨h1, h2⟩
    · exact absurd htag' ht0
    · exact r.grp j a h2 ht0
  · rcases hget j a hj with ⟨rfl, rfl⟩ | ⟨h1, h2⟩
    · rw [htag'] at htg; cases htg
    · obtain ⟨p, hp, hpt⟩ := r.tags j a tg h2 htg
      have : tg ≠ i := fun h => by subst h; rw [hg] at hp; cases hp; rw [htag] at hpt; cases hpt
      exact ⟨p, by show t.get tg = _; rw [ht, if_neg this]; exact hp, hpt⟩
  · obtain ⟨x, hx, hv', h1⟩ := r.glb g c o v hG hv
    obtain ⟨ob, hF⟩ := r.gfr g c hG
    refine ⟨x, ?_, hv', h1⟩
    have hb : g ≠ μ.blk i := fun h => by rw [h, hfi] at hF; cases hF
    simp only [World.cell?] at hx ⊢
    rw [hoth g hb]; exact hx
  · rcases hget j a hj with ⟨rfl, rfl⟩ | ⟨h1, h2⟩
    · exact absurd htag' ht0
    · rcases hget k b hk with ⟨rfl, rfl⟩ | ⟨h3, h4⟩
      · exact absurd hblk (hne j a h2 h1)
      · exact r.inc j k a b h2 h4 hjk ht0 hblk
theorem run_setObj {b : Nat} {o o' : Obj} (hb : w.heap[b]? = some o) (hn : ∀ c e f, o ≠ .cells c e f) : (Go.setObj b o').run P w = .ok () { w with heap := w.heap.setIfInBounds b o' } := by
  unfold Go.setObj
  unfold Sem.run
  rw [hb]
  cases o <;> first | exact absurd rfl (hn _ _ _) | rfl

theorem keyeq_some {x y : AV} {b : Bool} (h : keyeq x y = some b) {X Y : Value} (hx : V N μ n x X) (hy : V N μ n y Y) (st : Bool) (hi : iskey st x = true) (kd : TypeDesc) (hkd : st = true ∧ kd = .string ∨ st = false ∧ ∃ k, kd = .int k) :
    Instr.sameNow kd X Y = some b := by
  unfold keyeq at h
  split at h
  · have := hx.int_inv; subst this
    have := hy.int_inv; subst this
    obtain ⟨rfl, rfl⟩ := isame_some h
    rcases hkd with ⟨rfl, rfl⟩ | ⟨rfl, k, rfl⟩
    · cases hi
    · simp [Instr.sameNow]
  · obtain ⟨s, rfl, h1, h2⟩ := hx.str_inv
    obtain ⟨s', rfl, h3, h4⟩ := hy.str_inv
    cases h
    rcases hkd with ⟨rfl, rfl⟩ | ⟨rfl, k, rfl⟩
    · rw [seq_eq h1 h3, ← h2, ← h4]
      show some (s == s') = _
      congr 1
      have e : (s == s') = (s.data == s'.data) := by cases s; cases s'; rfl
      rw [e, Bool.eq_iff_iff, beq_iff_eq, beq_iff_eq]
      exact ⟨fun h => by rw [h], fun h => Array.toList_inj.1 h⟩
    · cases hi
  · cases h
theorem mfind_some {k : AV} {K : Value} (hk : V N μ n k K) (st : Bool) (hi : iskey st k = true) (kd : TypeDesc) (hkd : st = true ∧ kd = .string ∨ st = false ∧ ∃ k, kd = .int k) : ∀ (es : List AE) (en : List MapEntry) (i : Nat) (r : Option (Nat × AV)),
    es.length = en.length → (∀ (j : Nat) (e : AE) (x : MapEntry), es[j]? = some e → en[j]? = some x → V N μ n e.key x.key ∧ V N μ n e.val x.val) → mfind k es i = some r →
    (r = none ∧ Instr.findNow kd K en i = some none) ∨ ∃ j e x, es[j]? = some e ∧ en[j]? = some x ∧ r = some (i + j, e.val) ∧ Instr.findNow kd K en i = some (some (i + j, x.val)) ∧ keyeq k e.key = some true
  | [], en, i, r, hl, _, h => by
    have : en = [] := List.length_eq_zero_iff.1 (by simpa using hl.symm)
    subst this
    cases h; exact .inl ⟨rfl, rfl⟩
  | e :: es, [], i, r, hl, _, h => by simp at hl
  | e :: es, x :: en, i, r, hl, hall, h => by
    obtain ⟨h1, h2⟩ := hall 0 e x rfl rfl
    simp only [mfind] at h
    cases hq : keyeq k e.key with
    | none => simp [hq] at h
    | some b =>
      have hs := keyeq_some hq hk h1 st hi kd hkd
      simp only [hq] at h
      cases b with
      | true =>
        cases h
        exact .inr ⟨0, e, x, rfl, rfl, rfl, by simp [Instr.findNow, hs], hq⟩
      | false =>
        rcases mfind_some hk st hi kd hkd es en (i + 1) r (by simpa using hl) (fun j a b ha hb => hall (j + 1) a b (by simpa using ha) (by simpa using hb)) h with ⟨rfl, h3⟩ | ⟨j, a, b, h3, h4, h5, h6, h7⟩
        · exact .inl ⟨rfl, by simp [Instr.findNow, hs, h3]⟩
        · exact .inr ⟨j + 1, a, b, by simpa using h3, by simpa using h4, by rw [h5]; congr 2; omega, by simp only [Instr.findNow, hs]; rw [h6]; congr 3; omega, h7⟩
theorem run_checkKey {kt : TypeId} {kd : TypeDesc} (hu : P.underlying kt = some kd) (hkd : kd = .string ∨ ∃ k, kd = .int k) (b : Bool) (K : Value) : ∀ m, (Instr.checkKey b (m + 1) kt K).run P w = .ok () w := fun m => by
  rcases hkd with rfl | ⟨k, rfl⟩ <;> simp [Instr.checkKey, run_underlying hu]
theorem keyT_some {t : TypeId} {st : Bool} (h : keyT P t = some st) : ∃ kd, P.underlying t = some kd ∧ (st = true ∧ kd = .string ∨ st = false ∧ ∃ k, kd = .int k) ∧ (kd = .string ∨ ∃ k, kd = .int k) := by
  unfold keyT at h
  split at h
  · rename_i k hu; cases h; exact ⟨_, hu, .inr ⟨rfl, k, rfl⟩, .inr ⟨k, rfl⟩⟩
  · rename_i hu; cases h; exact ⟨_, hu, .inl ⟨rfl, rfl⟩, .inl rfl⟩
  · cases h
theorem run_findKey {kt : TypeId} {kd : TypeDesc} {K : Value} {es : List MapEntry} {q : Option (Nat × Value)} (hu : P.underlying kt = some kd) (hf : Instr.findNow kd K es 0 = some q) : (Instr.findKey kt K es).run P w = .ok q w := by
  simp [Instr.findKey, run_underlying hu, hf]

theorem lkp_ok (r : R N G F w0 μ h w) {t kt e : TypeId} {z : AV} {ok st : Bool} (hu : P.underlying t = some (.map kt e)) (hz : tzero P e = some z) (hkt : keyT P kt = some st)
    {vs : List AV} {v : AV} {X K : Value} (hk0 : k_lkp z ok st vs h = some (v, h')) (hv0 : Vs N μ h.nx vs [X, K]) :
    h' = h ∧ ∃ x, (Instr.lookup t X K ok).run P w = .ok x w ∧ V N μ h.nx v x := by
  obtain ⟨a, k, rfl, hk1⟩ := arg2_some hk0
  obtain ⟨_, _, e1, ha, hk⟩ := hv0.two_inv
  cases e1
  obtain ⟨kd, hkd, hst, hkd'⟩ := keyT_some hkt
  obtain ⟨zx, hz1, hz2⟩ := tzero_ok hz
  have res : ∀ {q : AV} {y : Value} {b : Bool}, V N μ h.nx q y → V N μ h.nx (bsel ok (.tup [q, .bool b]) q) (if ok then .tuple #[y, .bool b] else y) := fun {q y b} hq => by
    cases ok with
    | true => exact .tup2 hq (.bool b)
    | false => exact hq
  have chk : ∀ b, (Instr.checkKey b 10000 kt K).run P w = .ok () w := fun b => run_checkKey hkd hkd' b K 9999
  cases hl : look st h a k with
  | none => rw [hl] at hk1; cases hk1
  | some p =>
    have hl2 := hl
    unfold look at hl2
    obtain ⟨hik, hl3⟩ := grd_of hl2
    cases ha with
    | nilm =>
      cases hl3
      rw [hl] at hk1
      cases hk1
      refine ⟨rfl, if ok then .tuple #[zx, .bool false] else zx, ?_, res (hz2 _ _ _)⟩
      have hf : (Instr.findKey kt K []).run P w = .ok none w := run_findKey hkd rfl
      simp [Instr.lookup, run_underlying hu, chk, hf, hz1]
    | map i hi =>
      obtain ⟨es, c, hg, hm⟩ := mobj_some hl3
      obtain ⟨_, en, hb, hsz, hall⟩ := r.map hg
      rcases mfind_some hk st hik kd hst es en.toList 0 p (by simpa using hsz.symm) (fun j e x he hx => let ⟨a, b, _⟩ := hall j e x he (by simpa using hx); ⟨a, b⟩) hm with ⟨rfl, hf⟩ | ⟨j, e', x, h3, h4, rfl, hf, _⟩
      · rw [hl] at hk1
        cases hk1
        refine ⟨rfl, if ok then .tuple #[zx, .bool false] else zx, ?_, res (hz2 _ _ _)⟩
        simp [Instr.lookup, run_underlying hu, run_getObj hb (fun _ _ _ h => by cases h), chk, run_findKey hkd hf, hz1]
      · rw [hl] at hk1
        cases hk1
        obtain ⟨_, hv, _⟩ := hall j e' x h3 (by simpa using h4)
        refine ⟨rfl, if ok then .tuple #[x.val, .bool true] else x.val, ?_, res hv⟩
        simp [Instr.lookup, run_underlying hu, run_getObj hb (fun _ _ _ h => by cases h), chk, run_findKey hkd hf]
    | _ => cases hl3

theorem R.mset (r : R N G F w0 μ h w) {i : Nat} {es es' : List AE} {c c' : Nat} (hg : h.t.get i = some (.map es c)) (hm : mset h i es' c' = some h') (en' : Array MapEntry) (hsz : en'.size = es'.length)
    (hall : ∀ (j : Nat) (e : AE) (x : MapEntry), es'[j]? = some e → en'[j]? = some x → V N μ h.nx e.key x.key ∧ V N μ h.nx e.val x.val ∧ x.born = e.born) :
    h'.nx = h.nx ∧ R N G F w0 μ h' { w with heap := w.heap.setIfInBounds (μ.blk i) (.map en' c') } := by
  obtain ⟨t, ht, hm⟩ := Tr.setK_get hm
  cases hm
  obtain ⟨_, en, hb, _, _⟩ := r.map hg
  refine ⟨rfl, r.setObj hg rfl rfl rfl ht _ ⟨en', ?_, hsz, hall⟩⟩
  show (w.heap.setIfInBounds _ _)[_]? = _
  rw [Array.getElem?_setIfInBounds, if_pos rfl, if_pos (Array.getElem?_eq_some_iff.1 hb).1]
theorem mput_spec (k v : AV) : ∀ (es : List AE) (i j : Nat) , (mput k v es i).length = es.length ∧ (mput k v es i)[j]? = if j = i then es[j]?.map (fun e => ⟨k, v, e.born⟩) else es[j]?
  | [], i, j => by simp [mput]
  | e :: es, 0, j => by
    refine ⟨rfl, ?_⟩
    cases j with
    | zero => simp [mput]
    | succ j => simp [mput]
  | e :: es, i + 1, j => by
    obtain ⟨h1, _⟩ := mput_spec k v es i 0
    refine ⟨by simp [mput, h1], ?_⟩
    cases j with
    | zero => simp [mput]
    | succ j => simp [mput, (mput_spec k v es i j).2]
theorem run_stays {k : AV} {K X : Value} {x : AV} (hk : V N μ n k K) (hx : V N μ n x X) (h : keyeq k x = some true) : (Instr.keyThatStays X K).run P w = .ok K w := by
  have : Instr.sameBits 10000 X K = true := by
    unfold keyeq at h
    split at h
    · have := hk.int_inv; subst this
      have := hx.int_inv; subst this
      obtain ⟨rfl, h2⟩ := isame_some h
      have h3 := beq_iff_eq.1 h2.symm
      subst h3
      unfold Instr.sameBits
      simp
    · obtain ⟨s, rfl, h1, h2⟩ := hk.str_inv
      obtain ⟨s', rfl, h3, h4⟩ := hx.str_inv
      have hh := Option.some.inj h
      have e1 := seq_eq h1 h3
      have e2 : (s' == s) = true := by
        have e : (s' == s) = (s'.data == s.data) := by cases s; cases s'; rfl
        rw [e, beq_iff_eq]
        apply Array.toList_inj.1
        rw [h2, h4]
        have hh2 := hh
        rw [e1] at hh2
        exact (beq_iff_eq.1 hh2).symm
      unfold Instr.sameBits
      exact e2
    · cases h
  simp [Instr.keyThatStays, this]
theorem mup_ok (r : R N G F w0 μ h w) {t kt e : TypeId} {st : Bool} (hu : P.underlying t = some (.map kt e)) (hkt : keyT P kt = some st)
    {vs : List AV} {v : AV} {X K Y : Value} (hk0 : k_mup st vs h = some (v, h')) (hv0 : Vs N μ h.nx vs [X, K, Y]) :
    Does N G F w0 P (Instr.mapUpdate t X K Y) w μ h h' (fun _ _ => v = .und) := by
  obtain ⟨a, k, y, rfl, hk1⟩ := arg3_some hk0
  obtain ⟨_, _, _, e1, ha, hk, hy⟩ := hv0.three_inv
  cases e1
  obtain ⟨kd, hkd, hst, hkd'⟩ := keyT_some hkt
  have chk : ∀ b, (Instr.checkKey b 10000 kt K).run P w = .ok () w := fun b => run_checkKey hkd hkd' b K 9999
  cases ha with
  | map i hi =>
    obtain ⟨hik, hk2⟩ := grd_of hk1
    obtain ⟨es, c, hg, hm⟩ := mobj_some hk2
    obtain ⟨_, en, hb, hsz, hall⟩ := r.map hg
    cases hf0 : mfind k es 0 with
    | none => rw [hf0] at hm; cases hm
    | some p =>
      rw [hf0] at hm
      have hnc : ∀ a b d, Obj.map en c ≠ .cells a b d := fun _ _ _ h => by cases h
      rcases mfind_some hk st hik kd hst es en.toList 0 p (by simpa using hsz.symm) (fun j e x he hx => let ⟨a, b, _⟩ := hall j e x he (by simpa using hx); ⟨a, b⟩) hf0 with ⟨rfl, hf⟩ | ⟨j, e', x, h3, h4, rfl, hf, hkq⟩
      · dsimp only at hm
        rw [nat_eq] at hm
        obtain ⟨hs, rfl⟩ := yund_some hm
        obtain ⟨hnx, hR⟩ := r.mset hg hs (en.push { key := K, val := Y, born := c }) (by simp [hsz]) (fun j e x he hx => by
          rw [List.getElem?_append] at he
          rw [Array.getElem?_push] at hx
          by_cases hj : j < es.length
          · rw [if_pos hj] at he
            rw [if_neg (by omega)] at hx
            exact hall j e x he hx
          · rw [if_neg hj] at he
            have hj0 : j - es.length = 0 := by
              rcases Nat.eq_zero_or_pos (j - es.length) with h | h
              · exact h
              · rw [List.getElem?_eq_none (by show 1 ≤ _; omega)] at he; cases he
            rw [hj0] at he
            rw [if_pos (by omega)] at hx
            cases he; cases hx
            exact ⟨hk, hy, rfl⟩)
        refine ⟨(), _, μ, ?_, .refl, by omega, hR, rfl⟩
        simp [Instr.mapUpdate, run_underlying hu, run_getObj hb hnc, chk, run_findKey hkd hf, run_setObj hb hnc]
      · obtain ⟨hs, rfl⟩ := yund_some hm
        have hbx := hall j e' x h3 (by simpa using h4)
        obtain ⟨hnx, hR⟩ := r.mset hg hs (en.modify j fun e => { e with key := K, val := Y }) (by rw [(mput_spec k y es _ 0).1]; simp [hsz]) (fun i' e x he hx => by
          dsimp only at he
          rw [Nat.zero_add, (mput_spec k y es j i').2] at he
          rw [Array.getElem?_modify] at hx
          by_cases hij : i' = j
          · subst hij
            rw [if_pos rfl] at he hx
            cases he2 : es[i']? with
            | none => simp [he2] at he
            | some ee =>
              cases hx2 : en[i']? with
              | none => simp [hx2] at hx
              | some xx =>
                simp [he2] at he
                simp [hx2] at hx
                subst he; subst hx
                exact ⟨hk, hy, (hall i' ee xx he2 hx2).2.2⟩
          · rw [if_neg hij] at he
            rw [if_neg (fun h => hij h.symm)] at hx
            exact hall i' e x he hx)
        have hen : en[j]? = some x := by simpa using h4
        refine ⟨(), _, μ, ?_, .refl, by omega, hR, rfl⟩
        rw [Nat.zero_add] at hf
        have hstay := run_stays (P := P) (w := w) hk hbx.1 hkq
        simp [Instr.mapUpdate, run_underlying hu, run_getObj hb hnc, chk, run_findKey hkd hf, hen, hstay, run_setObj hb hnc]
  | _ => cases hk1
theorem mkm_ok (r : R N G F w0 μ h w) {t : TypeId} {vs : List AV} {v : AV} (hk0 : k_mkm vs h = some (v, h')) : Does N G F w0 P (Instr.makeMap t none) w μ h h' (Yv N h' v) := by
  obtain ⟨⟨j, hj⟩, hq, hk⟩ := obind_some.1 hk0
  cases hk
  obtain ⟨rfl, h2, h3⟩ := r.alloc hq (.map #[] 0) 0 0 rfl rfl fun h'' hnx _ => ⟨#[], by rw [Mp.ext_blk]; show (w.heap.push _)[_]? = _; exact Array.getElem?_push_size, rfl, fun j e x he => by simp at he⟩
  refine ⟨.map (some w.heap.size), _, _, by simp [Instr.makeMap], μ.ext_agree _ _ _ _, by show h.nx ≤ hj.nx; omega, h3, ?_⟩
  have := V.map (N := N) (μ := μ.ext h.nx w.heap.size 0 0) (n := hj.nx) h.nx (by omega)
  rw [Mp.ext_blk] at this; exact this
theorem del_ok (r : R N G F w0 μ h w) {ts : Array TypeId} {t kt e ty : TypeId} {st : Bool} (ht : ts[0]? = some t) (hu : P.underlying t = some (.map kt e)) (hkt : keyT P kt = some st)
    {vs : List AV} {v : AV} {args : Array Value} (hk0 : k_del st vs h = some (v, h')) (hv0 : Vs N μ h.nx vs args.toList) :
    Does N G F w0 P (Builtin.delete_ ts ty args) w μ h h' (Yv N h' v) := by
  obtain ⟨a, k, rfl, hk1⟩ := arg2_some hk0
  obtain ⟨X, K, e1, ha, hk⟩ := hv0.two_inv
  have := args2 e1; subst this
  obtain ⟨kd, hkd, hst, hkd'⟩ := keyT_some hkt
  have chk : ∀ b, (Instr.checkKey b 10000 kt K).run P w = .ok () w := fun b => run_checkKey hkd hkd' b K 9999
  cases ha with
  | map i hi =>
    obtain ⟨hik, hk2⟩ := grd_of hk1
    obtain ⟨es, c, hg, hm⟩ := mobj_some hk2
    obtain ⟨_, en, hb, hsz, hall⟩ := r.map hg
    cases hf0 : mfind k es 0 with
    | none => rw [hf0] at hm; cases hm
    | some p =>
      rw [hf0] at hm
      have hnc : ∀ a b d, Obj.map en c ≠ .cells a b d := fun _ _ _ h => by cases h
      rcases mfind_some hk st hik kd hst es en.toList 0 p (by simpa using hsz.symm) (fun j e x he hx => let ⟨a, b, _⟩ := hall j e x he (by simpa using hx); ⟨a, b⟩) hf0 with ⟨rfl, hf⟩ | ⟨j, e', x, h3, h4, rfl, hf, hkq⟩
      · obtain ⟨hs, rfl⟩ := yund_some hm
        obtain ⟨hnx, hR⟩ := r.mset hg hs en hsz hall
        refine ⟨.tuple #[], _, μ, ?_, .refl, by omega, hR, .und⟩
        simp [Builtin.delete_, ht, run_underlying hu, run_getObj hb hnc, chk, run_findKey hkd hf, run_setObj hb hnc]
      · obtain ⟨hs, rfl⟩ := yund_some hm
        have hj : j < en.size := by
          have := (List.getElem?_eq_some_iff.1 h4).1; simpa using this
        have hel : (en.eraseIdxIfInBounds j).toList = en.toList.eraseIdx j := by rw [Array.eraseIdxIfInBounds, dif_pos hj, Array.toList_eraseIdx]
        obtain ⟨hnx, hR⟩ := r.mset hg hs (en.eraseIdxIfInBounds j) (by
            rw [Nat.zero_add, ← Array.length_toList, hel, List.length_eraseIdx, List.length_eraseIdx, if_pos (by simpa using hj), if_pos (by omega), Array.length_toList, hsz]) (fun i' e x he hx => by
          dsimp only at he
          rw [Nat.zero_add, List.getElem?_eraseIdx] at he
          have hx2 : (en.toList.eraseIdx j)[i']? = some x := by
            rw [← hel, Array.getElem?_toList]; exact hx
          rw [List.getElem?_eraseIdx] at hx2
          by_cases hij : i' < j
          · rw [if_pos hij] at he hx2
            exact hall i' e x he (by simpa using hx2)
          · rw [if_neg hij] at he hx2
            exact hall (i' + 1) e x he (by simpa using hx2))
        refine ⟨.tuple #[], _, μ, ?_, .refl, by omega, hR, .und⟩
        rw [Nat.zero_add] at hf
        simp [Builtin.delete_, ht, run_underlying hu, run_getObj hb hnc, chk, run_findKey hkd hf, run_setObj hb hnc]
  | _ => cases hk1
end
end Go.Vm
namespace Go.Vm
open Go
section
variable {N : Names} {G : Tr (Tr AV)} {F : Nat → Option Obj} {w0 : World} {P : Program} {μ : Mp} {h h' : AH} {w : World} {n : Nat}

theorem rngs_ok (r : R N G F w0 μ h w) {t : TypeId} (hu : P.underlying t = some .string) {vs : List AV} {v : AV} {X : Value} (hk0 : k_rngs vs h = some (v, h')) (hv0 : Vs N μ h.nx vs [X]) :
    Does N G F w0 P (Instr.range t X) w μ h h' (Yv N h' v) := by
  obtain ⟨a, rfl, hk1⟩ := arg1_some hk0
  obtain ⟨_, e1, ha⟩ := hv0.one_inv
  cases e1
  cases ha with
  | str l m s hm hs =>
    obtain ⟨j, hq, rfl⟩ := yptr_some hk1
    obtain ⟨rfl, h2, h3⟩ := r.alloc hq (.stringIter s 0) 0 0 rfl rfl fun h'' hnx _ => ⟨s, by rw [Mp.ext_blk]; show (w.heap.push _)[_]? = _; exact Array.getElem?_push_size, hm, hs, by rw [Mp.ext_bas]⟩
    refine ⟨.pointer (some ⟨w.heap.size, 0, none⟩), _, _, by simp [Instr.range, run_underlying hu], μ.ext_agree _ _ _ _, by omega, h3, ?_⟩
    show V N _ h'.nx _ _
    rw [h2]; exact V.newptr w 0
  | _ => cases hk1
theorem rngm_ok (r : R N G F w0 μ h w) {t a b : TypeId} (hu : P.underlying t = some (.map a b)) {vs : List AV} {v : AV} {X : Value} (hk0 : k_rngm vs h = some (v, h')) (hv0 : Vs N μ h.nx vs [X]) :
    Does N G F w0 P (Instr.range t X) w μ h h' (Yv N h' v) := by
  obtain ⟨a, rfl, hk1⟩ := arg1_some hk0
  obtain ⟨_, e1, ha⟩ := hv0.one_inv
  cases e1
  cases ha with
  | nilm =>
    obtain ⟨j, hq, rfl⟩ := yptr_some hk1
    obtain ⟨rfl, h2, h3⟩ := r.alloc hq (.mapIter none 0 #[] 0) 0 0 rfl rfl fun h'' hnx _ => ⟨by rw [Mp.ext_blk]; show (w.heap.push _)[_]? = _; exact Array.getElem?_push_size, (fun j hj => by cases hj), by rw [Mp.ext_bas]⟩
    refine ⟨.pointer (some ⟨w.heap.size, 0, none⟩), _, _, by simp [Instr.range, run_underlying hu], μ.ext_agree _ _ _ _, by omega, h3, ?_⟩
    show V N _ h'.nx _ _
    rw [h2]; exact V.newptr w 0
  | map i hi =>
    obtain ⟨es, c, hg, hk2⟩ := mobj_some hk1
    obtain ⟨_, en, hb, hsz, hall⟩ := r.map hg
    obtain ⟨j, hq, rfl⟩ := yptr_some hk2
    obtain ⟨rfl, h2, h3⟩ := r.alloc hq (.mapIter (some (μ.blk i)) c #[] c) 0 0 rfl rfl fun h'' hnx _ => ⟨by
        rw [Mp.ext_blk]; show (w.heap.push _)[_]? = _
        rw [Array.getElem?_push_size]
        simp [(μ.ext_agree h.nx w.heap.size 0 0 i hi).1], (fun j hj => by cases hj; omega), by rw [Mp.ext_bas]⟩
    refine ⟨.pointer (some ⟨w.heap.size, 0, none⟩), _, _, by simp [Instr.range, run_underlying hu, run_getObj hb (fun _ _ _ h => by cases h)], μ.ext_agree _ _ _ _, by omega, h3, ?_⟩
    show V N _ h'.nx _ _
    rw [h2]; exact V.newptr w 0
  | _ => cases hk1
theorem nxs_ok (r : R N G F w0 μ h w) {ty : TypeId} {vs : List AV} {v : AV} {X : Value} (hk0 : k_nxs vs h = some (v, h')) (hv0 : Vs N μ h.nx vs [X]) :
    Does N G F w0 P (Instr.next X true ty) w μ h h' (Yv N h' v) := by
  obtain ⟨a, rfl, hk1⟩ := arg1_some hk0
  obtain ⟨_, e1, ha⟩ := hv0.one_inv
  cases e1
  obtain ⟨i, o, rfl, hk2⟩ := asP_some hk1
  obtain ⟨hi, rfl⟩ := ha.ptr_inv
  obtain ⟨ho, hk3⟩ := grd_of hk2
  have ho : o = 0 := Nat.eq_of_beq_eq_true ho
  subst ho
  split at hk3
  · rename_i l m p hg
    obtain ⟨s, hb, hm, hs, hbas⟩ := r.obj i _ hg
    rw [hbas, Nat.add_zero]
    have hz : s.size = l := by rw [ba_size, hs, sb_length]
    have hnc : ∀ a b d, Obj.stringIter s p ≠ .cells a b d := fun _ _ _ h => by cases h
    unfold nxs at hk3
    rw [bcase] at hk3
    split at hk3
    · rename_i hp
      have hp : p < s.size := by have : p + 1 ≤ l := by simpa using hp
                                 omega
      rw [nat_eq] at hk3
      obtain ⟨hc, hk4⟩ := grd_of hk3
      rw [nat_eq] at hk4
      obtain ⟨t, ht, hk5⟩ := Tr.setK_get hk4
      cases hk5
      have hc : sidx l m p ≤ 127 := by simpa using hc
      have hbyte : (s[p]'hp).toNat = sidx l m p := by
        have h1 : s.data.toList[p]? = some (UInt8.ofNat (sidx l m p)) := by rw [hs]; exact sb_sidx l m p (by omega)
        rw [Array.getElem?_toList] at h1
        have h2 : s.data[p]? = some (s[p]'hp) := Array.getElem?_eq_getElem hp
        rw [h2] at h1
        rw [Option.some.inj h1, UInt8.toNat_ofNat', Nat.mod_eq_of_lt (sidx_lt l m p)]
      have hdec : Utf8.decode s p = (sidx l m p, 1) := by rw [decode_ascii s p hp (by omega), hbyte]
      refine ⟨.tuple #[.bool true, .int .i64 (Int.ofNat p), .int .i32 (Int.ofNat (sidx l m p))], _, μ, ?_, .refl, Nat.le_refl _, r.setObj hg rfl rfl rfl ht (.stringIter s (p + 1)) ⟨s, ?_, hm, hs, hbas⟩, .tup3 (.bool _) (.int _ _) (.int _ _)⟩
      · simp [Instr.next, run_getObj hb hnc, hp, hdec, run_setObj hb hnc, goInt]
      · show (w.heap.setIfInBounds _ _)[_]? = _
        rw [Array.getElem?_setIfInBounds, if_pos rfl, if_pos (Array.getElem?_eq_some_iff.1 hb).1]
    · rename_i hp
      cases hk3
      have hp : ¬ p < s.size := fun h => hp (by show Nat.ble (p + 1) l = true; rw [Nat.ble_eq]; omega)
      refine .stay r (.tuple #[.bool false]) ?_ (.tup1 (.bool _))
      simp [Instr.next, run_getObj hb hnc, hp]
  · cases hk3

theorem filter_rel (p : Nat → Bool) : ∀ (es : List AE) (en : List MapEntry), es.length = en.length → (∀ (j : Nat) (e : AE) (x : MapEntry), es[j]? = some e → en[j]? = some x → V N μ n e.key x.key ∧ V N μ n e.val x.val ∧ x.born = e.born) →
    (es.filter fun e => p e.born).length = (en.filter fun e => p e.born).length ∧ ∀ (j : Nat) (e : AE) (x : MapEntry), (es.filter fun e => p e.born)[j]? = some e → (en.filter fun e => p e.born)[j]? = some x → V N μ n e.key x.key ∧ V N μ n e.val x.val ∧ x.born = e.born
  | [], en, hl, _ => by
    have : en = [] := List.length_eq_zero_iff.1 (by simpa using hl.symm)
    subst this; exact ⟨rfl, fun j e x he => by simp at he⟩
  | e :: es, [], hl, _ => by simp at hl
  | e :: es, x :: en, hl, hall => by
    obtain ⟨h1, h2⟩ := filter_rel p es en (by simpa using hl) (fun j a b ha hb => hall (j + 1) a b (by simpa using ha) (by simpa using hb))
    have h0 := hall 0 e x rfl rfl
    rw [List.filter_cons, List.filter_cons, h0.2.2]
    cases hp : p e.born with
    | false => exact ⟨h1, h2⟩
    | true =>
      refine ⟨by simp [h1], fun j a b ha hb => ?_⟩
      cases j with
      | zero => cases ha; cases hb; exact h0
      | succ j => exact h2 j a b (by simpa using ha) (by simpa using hb)
theorem nxm_ok (r : R N G F w0 μ h w) {ty : TypeId} {vs : List AV} {v : AV} {X : Value} (hk0 : k_nxm vs h = some (v, h')) (hv0 : Vs N μ h.nx vs [X]) :
    Does N G F w0 P (Instr.next X false ty) w μ h h' (Yv N h' v) := by
  obtain ⟨a, rfl, hk1⟩ := arg1_some hk0
  obtain ⟨_, e1, ha⟩ := hv0.one_inv
  cases e1
  obtain ⟨i, o, rfl, hk2⟩ := asP_some hk1
  obtain ⟨hi, rfl⟩ := ha.ptr_inv
  obtain ⟨ho, hk3⟩ := grd_of hk2
  have ho : o = 0 := Nat.eq_of_beq_eq_true ho
  subst ho
  split at hk3
  · rename_i si se la hg
    cases hk3
    obtain ⟨hb, _, hbas⟩ := r.obj i _ hg
    rw [hbas, Nat.add_zero]
    have hnc : ∀ a b d, Obj.mapIter none si se.toArray la ≠ .cells a b d := fun _ _ _ h => by cases h
    refine .stay r (.tuple #[.bool false]) ?_ (.tup1 (.bool _))
    simp [Instr.next, run_getObj hb hnc]
  · rename_i m si se la hg
    obtain ⟨hla, hk4⟩ := grd_of hk3
    have hla : si ≤ la := by simpa using hla
    obtain ⟨es, c, hgm, hk5⟩ := mobj_some hk4
    obtain ⟨hb, hmm, hbas⟩ := r.obj i _ hg
    obtain ⟨_, en, hbm, hsz, hall⟩ := r.map hgm
    rw [hbas, Nat.add_zero]
    have hnc : ∀ a b d, Obj.mapIter (some (μ.blk m)) si se.toArray la ≠ .cells a b d := fun _ _ _ h => by cases h
    have hnc2 : ∀ a b d, Obj.map en c ≠ .cells a b d := fun _ _ _ h => by cases h
    unfold nxm at hk5
    obtain ⟨hold, hk6⟩ := grd_of hk5
    obtain ⟨hf1, hf2⟩ := filter_rel (N := N) (μ := μ) (n := h.nx) (fun b => !se.contains b) es en.toList (by simpa using hsz.symm) (fun j e x he hx => hall j e x he (by simpa using hx))
    have hborn : ∀ x ∈ en.toList, x.born < si := fun x hx => by
      obtain ⟨j, hj⟩ := List.getElem?_of_mem hx
      have hjl : j < es.length := by have := (List.getElem?_eq_some_iff.1 hj).1; simp at this; omega
      have h3 := hall j es[j] x (List.getElem?_eq_getElem hjl) (by simpa using hj)
      have h4 := List.all_eq_true.1 hold es[j] (List.getElem_mem _)
      rw [h3.2.2]
      have : es[j].born + 1 ≤ si := by simpa using h4
      omega
    have hguard := next_test_false se.toArray en si la hborn hla
    have hmem : ∀ x ∈ (en.filter fun e => !se.toArray.contains e.born).toList, x.born < si := fun x hx => hborn x (by simp at hx ⊢; exact hx.1)
    have hleft : (en.filter fun e => !se.toArray.contains e.born).toList = en.toList.filter fun e => !se.contains e.born := by simp
    have e1 : (en.filter fun e => !se.toArray.contains e.born).filter (fun x => decide (x.born < si)) = en.filter fun e => !se.toArray.contains e.born := Array.filter_eq_self.2 (fun x hx => by simpa using hmem x (Array.mem_toList_iff.2 hx))
    have e2 : (en.filter fun e => !se.toArray.contains e.born).filter (fun x => decide (x.born ≥ si)) = #[] := by
      rw [Array.filter_eq_empty_iff]
      intro x hx
      have := hmem x (Array.mem_toList_iff.2 hx)
      simp
      omega
    have hb' : w.heap[μ.blk i]? = some (.mapIter (some (μ.blk m)) si se.toArray la) := hb
    split at hk6
    · rename_i hnil
      cases hk6
      have hL : (en.filter fun e => !se.toArray.contains e.born) = #[] := by
        apply Array.toList_inj.1
        rw [hleft]
        rw [hnil] at hf1
        exact List.length_eq_zero_iff.1 hf1.symm
      refine .stay r (.tuple #[.bool false]) ?_ (.tup1 (.bool _))
      simp only [Instr.next, Sem.run_bind, run_getObj hb' hnc, Result.andThen_ok, run_getObj hbm hnc2, hguard, Bool.false_eq_true, if_false]
      rw [e1, e2, hL]
      simp [choose, Sem.run, Question.forced]
    · rename_i e hone
      obtain ⟨t, ht, hk7⟩ := Tr.setK_get hk6
      cases hk7
      rw [hone] at hf1 hf2
      obtain ⟨x, hx⟩ : ∃ x, (en.toList.filter fun e => !se.contains e.born) = [x] := List.length_eq_one_iff.1 hf1.symm
      have hL : (en.filter fun e => !se.toArray.contains e.born) = #[x] := by
        apply Array.toList_inj.1
        rw [hleft, hx]
      have hrel := hf2 0 e x rfl (by rw [hx]; rfl)
      refine ⟨.tuple #[.bool true, x.key, x.val], _, μ, ?_, .refl, Nat.le_refl _, r.setObj hg rfl rfl rfl ht (.mapIter (some (μ.blk m)) si (se.toArray.push x.born) c) ⟨?_, hmm, hbas⟩, .tup3 (.bool _) hrel.1 hrel.2.1⟩
      · simp only [Instr.next, Sem.run_bind, run_getObj hb' hnc, Result.andThen_ok, run_getObj hbm hnc2, hguard, Bool.false_eq_true, if_false]
        rw [e1, e2, hL]
        have hch : (choose (Question.mapNext 1)).run P w = .ok 0 w := by simp [choose, Sem.run, Question.forced]
        have hset := run_setObj (P := P) hb' hnc (o' := .mapIter (some (μ.blk m)) si (se.toArray.push x.born) c)
        simp only [Array.append_empty, List.isEmpty_toArray, List.isEmpty_cons, Bool.false_eq_true, if_false, Array.empty_append, Array.size_map, List.size_toArray, List.length_cons, List.length_nil, Nat.zero_add, hch, Result.andThen_ok]
        have hx0 : (Array.map some #[x])[0]? = some (some x) := by simp
        rw [hx0]
        simp only [Sem.run_bind, hset, Result.andThen_ok, Sem.run_pure]
      · show (w.heap.setIfInBounds _ _)[_]? = _
        rw [Array.getElem?_setIfInBounds, if_pos rfl, if_pos (Array.getElem?_eq_some_iff.1 hb).1, hrel.2.2]
        simp
    · cases hk6
  · cases hk3

/-! Methods -/
/-- What the table of methods says is so. -/
def InvOk (P : Program) (N : Names) (C : Cfg) : Prop := ∀ m t f l, C.inv.get m = some l → ifind t l = some f →
  ∃ name i row ptr d, N[m]? = some name ∧ P.info? t = some i ∧ i.methods.find? (·.name == name) = some row ∧ row.path = #[] ∧ row.func = some (f, ptr) ∧ P.underlying t = some d ∧
    ((ptr = true ∧ ∃ e, d = .pointer e) ∨ (ptr = false ∧ ∀ e, d ≠ .pointer e))
theorem meth_some {β : Type} {C : Cfg} {m t : Nat} {f : Nat → Option β} {r : β} (h0 : C.meth m t f = some r) : ∃ l g, C.inv.get m = some l ∧ ifind t l = some g ∧ f g = some r := by
  unfold Cfg.meth at h0
  obtain ⟨l, h1, h0⟩ := obind_some.1 h0
  obtain ⟨g, h2, h0⟩ := obind_some.1 h0
  exact ⟨l, g, h1, h2, h0⟩
theorem InvOk.method {C : Cfg} (hI : InvOk P N C) {m t f : Nat} {l : List (Nat × Nat)} (h1 : C.inv.get m = some l) (h2 : ifind t l = some f) {name : String} (hn : N[m]? = some name) (v : Value) (fuel : Nat) :
    (Go.method (fuel + 1) t v name).run P w = .ok (f, v) w := by
  obtain ⟨name', i, row, ptr, d, e1, e2, e3, e4, e5, e6, e7⟩ := hI m t f l h1 h2
  rw [hn] at e1
  cases e1
  unfold Go.method
  simp only [Sem.run_bind, run_typeInfo e2, Result.andThen_ok, e3, e4, e5]
  rcases e7 with ⟨rfl, e, rfl⟩ | ⟨rfl, hne⟩
  · simp [follow, receiverAt, run_underlying e6, Place.get]
  · cases d <;> first | exact absurd rfl (hne _) | simp [follow, receiverAt, run_underlying e6, Place.get]
theorem InvOk.ahead {C : Cfg} (hI : InvOk P N C) {m t f : Nat} {l : List (Nat × Nat)} (h1 : C.inv.get m = some l) (h2 : ifind t l = some f) {name : String} (hn : N[m]? = some name) (v : Value) (fuel : Nat) :
    (Go.nilAhead (fuel + 1) t v name).run P w = .ok (some false) w := by
  obtain ⟨name', i, row, ptr, d, e1, e2, e3, e4, e5, e6, e7⟩ := hI m t f l h1 h2
  rw [hn] at e1
  cases e1
  unfold Go.nilAhead
  simp only [Sem.run_bind, run_typeInfo e2, Result.andThen_ok, e3, e4, e5]
  rcases e7 with ⟨rfl, e, rfl⟩ | ⟨rfl, hne⟩
  · simp [followBlind]
  · cases d <;> first | exact absurd rfl (hne _) | simp [followBlind, run_underlying e6]
theorem nil_ok {C : Cfg} (hI : InvOk P N C) {ρ : Operand → Value} {x : Operand} {vs : List AV} {v : AV} {o : Oper} (ho : o.op = .nilCheck x) (hk0 : k_nil C vs h = some (v, h')) (hv0 : Vs N μ h.nx vs [ρ x]) :
    h' = h ∧ (execOp ρ o).run P w = .ok (.value (ρ x)) w ∧ V N μ h.nx v (ρ x) := by
  obtain ⟨a, rfl, hk1⟩ := arg1_some hk0
  obtain ⟨X, e1, ha⟩ := hv0.one_inv
  have hX : ρ x = X := by cases e1; rfl
  rw [hX]
  unfold execOp
  rw [ho]
  dsimp only
  rw [hX]
  cases ha with
  | ptr i o hi => cases hk1; exact ⟨rfl, rfl, .ptr i o hi⟩
  | ifc t u y hy => cases hk1; exact ⟨rfl, rfl, .ifc t u y hy⟩
  | fn f g a b p q hf hpa hqb hxa hyb =>
    cases f with
    | func f =>
      cases hk1
      cases g <;> first | exact hf.elim | skip
      exact ⟨rfl, rfl, .fn _ _ _ _ _ _ hf hpa hqb hxa hyb⟩
    | meth m =>
      cases g <;> first | exact hf.elim | skip
      rename_i name
      cases a with
      | nil => cases hk1
      | cons a0 a =>
        cases a0 with
        | ifc t u =>
          obtain ⟨l, f, h1, h2, hk2⟩ := meth_some hk1
          cases hk2
          have hp0 : 0 < p.size := by rw [← hpa]; simp
          have h0 := hxa 0 _ p[0] rfl (Array.getElem?_eq_getElem hp0)
          cases hq : p[0] with
          | iface t' y =>
            rw [hq] at h0
            cases h0
            refine ⟨rfl, ?_, .fn _ _ _ _ _ _ hf hpa hqb hxa hyb⟩
            have hp : (p[0]? : Option Value) = some (.iface t y) := by rw [Array.getElem?_eq_getElem hp0, hq]
            have hah := hI.ahead (w := w) h1 h2 hf y (P.types.size + 99)
            have hd : P.types.size + Made.depth = (P.types.size + 99) + 1 := rfl
            simp only [hp]
            simp only [Sem.run_bind, run_program, Result.andThen_ok, hd, hah]
            rfl
          | _ => rw [hq] at h0; cases h0
        | _ => cases hk1
  | _ => cases hk1
end
end Go.Vm
namespace Go.Vm
open Go
section
variable {N : Names} {G : Tr (Tr AV)} {F : Nat → Option Obj} {w0 : World} {P : Program} {μ : Mp} {h h' : AH} {w : World} {n : Nat}

theorem src_some {s : Nat} {str : Bool} {y : AV} {p : Nat × List AV} (h0 : src h s str y = some p) : elems h s y = some p ∧ ((∃ l m, y = .str l m) ↔ str = true) := by
  unfold src at h0
  split at h0
  · obtain ⟨hs, h1⟩ := grd_of h0
    exact ⟨h1, fun _ => hs, fun _ => ⟨_, _, rfl⟩⟩
  · rename_i hns
    rw [bcase] at h0
    split at h0
    · cases h0
    · rename_i hs
      exact ⟨h0, fun ⟨l, m, he⟩ => absurd he (hns l m), fun h => absurd h hs⟩
theorem ba_extract (t : ByteArray) (k : Nat) : ((t.extract 0 k).data.map fun b => Value.int .u8 b.toNat) = ((t.data.toList.take k).map fun b => Value.int .u8 b.toNat).toArray := by
  apply Array.toList_inj.1
  rw [Array.toList_map, ByteArray.data_extract, Array.toList_extract, List.extract_eq_take_drop]
  simp
/-- What an append or a copy takes from its second operand: how long it is, its cells. -/
theorem src_ok (r : R N G F w0 μ h w) {s : Nat} {str : Bool} {y : AV} {l : Nat} {cs : List AV} (h0 : src h s str y = some (l, cs)) (hstr : str = true → l ≠ 0 → s = 1) {Y : Value} (hv : V N μ h.nx y Y) :
    (Builtin.lenOf Y).run P w = .ok l w ∧ ∃ xs, xs.length = l * s ∧ Vs N μ h.nx cs xs ∧ ∀ w' : World, w'.heap = w.heap → ∀ m, m ≤ l → (Builtin.firstCells s m Y).run P w' = .ok (xs.take (m * s)).toArray w' := by
  obtain ⟨he, hst⟩ := src_some h0
  rcases elems_ok (P := P) r he hv with ⟨rfl, rfl, rfl, rfl⟩ | ⟨n, m, t, rfl, rfl, rfl, rfl, hd⟩ | ⟨b, o, c, xs, rfl, h1, h2, h3, h4, h5⟩
  · exact ⟨rfl, [], by simp, Vs.nil, fun w' _ m hm => by simp [Builtin.firstCells]⟩
  · have hs := hstr (hst.1 ⟨_, _, rfl⟩)
    have hz : t.size = l := by rw [ba_size, hd, sb_length]
    refine ⟨by simp [Builtin.lenOf, hz], (sb l m).map (fun b => Value.int .u8 b.toNat), ?_, Vs.bytes _, fun w' _ k hk => ?_⟩
    · by_cases hl : l = 0
      · subst hl; simp [sb_length]
      · rw [hs hl]; simp [sb_length]
    · simp only [Builtin.firstCells, Sem.run_pure]
      rw [ba_extract, hd]
      by_cases hl : l = 0
      · subst hl
        have : k = 0 := by omega
        subst this; simp
      · rw [hs hl, Nat.mul_one, List.map_take]
  · exact ⟨by simp [Builtin.lenOf], xs, h2, h5, fun w' hw' m hm => by
      simp only [Builtin.firstCells]
      exact h3 w' hw' _ (Nat.mul_le_mul_right _ hm)⟩

theorem cpy_ok (r : R N G F w0 μ h w) {ts : Array TypeId} {t e ty : TypeId} {s : Nat} {str : Bool} (ht : ts[0]? = some t) (hu : P.underlying t = some (.slice e)) (hs : tsize P e = some s) (hstr : str = true → s = 1)
    {vs : List AV} {v : AV} {args : Array Value} (hk0 : k_cpy s str vs h = some (v, h')) (hv0 : Vs N μ h.nx vs args.toList) :
    Does N G F w0 P (Builtin.copy_ ts ty args) w μ h h' (Yv N h' v) := by
  obtain ⟨a, y, rfl, hk1⟩ := arg2_some hk0
  obtain ⟨X, Y, e1, ha, hy⟩ := hv0.two_inv
  have := args2 e1; subst this
  obtain ⟨⟨l, cs⟩, hsrc, hk2⟩ := obind_some.1 hk1
  obtain ⟨s1, xs, s2, s3, s4⟩ := src_ok (P := P) r hsrc (fun h _ => hstr h) hy
  have key : ∀ (i o dl dc x : Nat), (dl ≤ dc) → (dc ≠ 0 → x = μ.bas i + o) → cpyC s h i o dl l cs = some (v, h') → Does N G F w0 P (Builtin.copy_ ts ty #[.slice (some ⟨μ.blk i, x, none⟩) dl dc, Y]) w μ h h' (Yv N h' v) := fun i o dl dc x hdl hx hc => by
    unfold cpyC at hc
    rw [nat_eq] at hc
    have hm : (Bool.casesOn (Nat.ble l dl) dl l : Nat) = min l dl := by
      rw [bcase]
      split
      · rename_i h; have : l ≤ dl := by simpa using h
        omega
      · rename_i h; have : ¬ l ≤ dl := fun h' => h (by simpa using h')
        omega
    rw [hm] at hc
    obtain ⟨h1, hst, hc2⟩ := obind_some.1 hc
    cases hc2
    have hle : min l dl ≤ l := Nat.min_le_left _ _
    have hvs := s3.take (min l dl * s)
    obtain ⟨w', q1, q2, q3⟩ := r.store P hst hvs (x := x) (fun hne => hx (fun h0 => hne (by
      have : min l dl = 0 := by omega
      show cs.take (min l dl * s) = []
      rw [this, Nat.zero_mul, List.take_zero])))
    refine ⟨.int .i64 (Int.ofNat (min l dl)), w', μ, ?_, .refl, by omega, q2, .int _ _⟩
    have h4 := s4 w rfl (min l dl) hle
    have q1' : (storeCells ⟨μ.blk i, x, none⟩ (xs.take (min l dl * s)) 0).run P w = .ok () w' := q1
    have hmm : Nat.min l dl = min l dl := rfl
    unfold Builtin.copy_
    simp only [ht, List.getElem?_toArray, List.getElem?_cons_zero, List.getElem?_cons_succ, Sem.run_bind, run_underlying hu, Result.andThen_ok, s1, run_sizeOf hs, hmm, h4, q1', Sem.run_pure, goInt]
    rfl
  cases ha with
  | nils =>
    cases hk2
    refine .stay r (.int .i64 (Int.ofNat 0)) ?_ (.int _ _)
    have h4 := s4 w rfl 0 (Nat.zero_le _)
    have hmm : Nat.min l 0 = 0 := Nat.min_zero l
    unfold Builtin.copy_
    simp only [ht, List.getElem?_toArray, List.getElem?_cons_zero, List.getElem?_cons_succ, Sem.run_bind, run_underlying hu, Result.andThen_ok, s1, run_sizeOf hs, hmm, h4, Sem.run_pure, goInt]
    rfl
  | slc i o dl dc x hi hdl hx => exact key i o dl dc x hdl hx hk2
  | slo i o dl s' dc x hi hdl ht' hx =>
    obtain ⟨_, hk3⟩ := grd_of hk2
    exact key i o dl dc x hdl hx hk3
  | _ => cases hk2

theorem zero_like {z : AV} {zx : Value} (hz : V N μ n z zx) (k : Nat) : Vs N μ n ((List.replicate k z.cells).flatten) (Builtin.zeroCells zx.cells k).toList := by
  have hsz : z.cells.length = zx.cells.size := by have := hz.cells.1; simpa using this
  unfold Builtin.zeroCells
  exact like_ok hz (by rw [hsz])
theorem clr_ok (r : R N G F w0 μ h w) {ts : Array TypeId} {t e ty : TypeId} {s : Nat} {z : AV} (ht : ts[0]? = some t) (hu : P.underlying t = some (.slice e)) (hz : tzero P e = some z)
    {vs : List AV} {v : AV} {args : Array Value} (hk0 : k_clr s z.cells vs h = some (v, h')) (hv0 : Vs N μ h.nx vs args.toList) :
    Does N G F w0 P (Builtin.clear_ ts ty args) w μ h h' (Yv N h' v) := by
  obtain ⟨a, rfl, hk1⟩ := arg1_some hk0
  obtain ⟨X, e1, ha⟩ := hv0.one_inv
  have := args1 e1; subst this
  obtain ⟨zx, hz1, hz2⟩ := tzero_ok hz
  have key : ∀ (i o l c x : Nat), l ≤ c → (c ≠ 0 → x = μ.bas i + o) → yund (hstore h i o ((List.replicate l z.cells).flatten)) = some (v, h') →
      Does N G F w0 P (Builtin.clear_ ts ty #[.slice (some ⟨μ.blk i, x, none⟩) l c]) w μ h h' (Yv N h' v) := fun i o l c x hl hx hk => by
    obtain ⟨hst, rfl⟩ := yund_some hk
    cases l with
    | zero =>
      cases hst
      exact .stay r (.tuple #[]) (by simp [Builtin.clear_, ht, run_underlying hu]) .und
    | succ l =>
      obtain ⟨w', q1, q2, q3⟩ := r.store P hst (zero_like (hz2 N μ h.nx) (l + 1)) (x := x) (fun _ => hx (by omega))
      exact ⟨.tuple #[], w', μ, by simp [Builtin.clear_, ht, run_underlying hu, hz1, q1], .refl, by omega, q2, .und⟩
  cases ha with
  | nils =>
    cases hk1
    exact .stay r (.tuple #[]) (by simp [Builtin.clear_, ht, run_underlying hu]) .und
  | slc i o l c x hi hl hx => exact key i o l c x hl hx hk1
  | slo i o l s' c x hi hl ht' hx =>
    obtain ⟨_, hk2⟩ := grd_of hk1
    exact key i o l c x hl hx hk2
  | _ => cases hk1
end
end Go.Vm
namespace Go.Vm
open Go
section
variable {N : Names} {G : Tr (Tr AV)} {F : Nat → Option Obj} {w0 : World} {P : Program} {μ : Mp} {h h' : AH} {w : World} {n : Nat}

theorem growBy_le (need : Nat) : ∀ (r c : Nat), Builtin.growBy need r c ≤ max c (need + (need + 768) / 4)
  | 0, c => by simp only [Builtin.growBy]; exact Nat.le_max_left _ _
  | r + 1, c => by
    simp only [Builtin.growBy]
    split
    · exact Nat.le_max_left _ _
    · rename_i hc
      have h1 := growBy_le need r (c + (c + 768) / 4)
      have h2 : c + (c + 768) / 4 ≤ need + (need + 768) / 4 := by omega
      have h3 := Nat.le_max_right c (need + (need + 768) / 4)
      omega
theorem nextcap_le {need c : Nat} (h : c < need) : Builtin.nextslicecap need c ≤ 2 * need + 192 := by
  unfold Builtin.nextslicecap
  split
  · omega
  · split
    · omega
    · have := growBy_le need 4 c
      omega
theorem nextcap_fits {need c b : Nat} (h : c < need) (hb : need * b ≤ 1099511627776) : Builtin.nextslicecap need c * b ≤ 2 ^ 48 := by
  have h1 := Nat.mul_le_mul_right b (nextcap_le h)
  have h2 : b ≤ need * b := by
    have := Nat.mul_le_mul_right b (show 1 ≤ need by omega)
    rwa [Nat.one_mul] at this
  have h3 : (2 * need + 192) * b = 2 * (need * b) + 192 * b := by rw [Nat.add_mul, Nat.mul_assoc]
  omega

/-- The second operand of an append: how many elements, their cells. -/
def Adds (P : Program) (ts : Array TypeId) (e : TypeId) (s : Nat) (Y : Value) (w : World) (m : Nat) (new : Array Value) : Prop :=
  ∃ u d, ts[1]? = some u ∧ P.underlying u = some d ∧
    (((∀ k, d ≠ .int k) ∧ (Builtin.lenOf Y).run P w = .ok m w ∧ ∀ w', w' = w ∨ w' = w.drew → (Builtin.firstCells s m Y).run P w' = .ok new w') ∨
     ((∃ k, d = .int k) ∧ (∃ k, Y = .int k (Int.ofNat m)) ∧ m ≤ 1099511627776 ∧ ∃ i zx, P.info? e = some i ∧ m * i.bytes ≤ 1099511627776 ∧ (∀ w, (zeroValue e).run P w = .ok zx w) ∧ new = if m * s = 0 then #[] else Builtin.zeroCells zx.cells m))

theorem append_in {ts : Array TypeId} {t e ty : TypeId} {s : Nat} (ht : ts[0]? = some t) (hu : P.underlying t = some (.slice e)) (hs : tsize P e = some s) {Y : Value} {m : Nat} {new : Array Value} (ha : Adds P ts e s Y w m new)
    {base : Option Addr} {l c : Nat} (hle : l + m ≤ c) :
    (Builtin.append_ ts ty #[.slice base l c, Y]).run P w = ((match base with | some a => storeCells (a.add (l * s)) new.toList | none => pure () : Sem Unit).run P w).andThen fun _ w' => .ok (.slice base (l + m) c) w' := by
  obtain ⟨u, d, h1, h2, h3⟩ := ha
  have hd0 : ∀ (k : IntKind), True := fun _ => trivial
  unfold Builtin.append_
  simp only [ht, List.getElem?_toArray, List.getElem?_cons_zero, List.getElem?_cons_succ, Sem.run_bind, run_underlying hu, Result.andThen_ok, run_sizeOf hs, h1, run_underlying h2, Sem.run_pure]
  rcases h3 with ⟨hd, h4, h5⟩ | ⟨⟨k, rfl⟩, ⟨k', rfl⟩, h4, i, zx, hi, h5, h6, h7⟩
  · have hz : (d matches .int _) = false := by cases d <;> first | rfl | exact absurd rfl (hd _)
    have h6 := h5 w (.inl rfl)
    simp only [hz, Bool.false_eq_true, if_false, Bool.not_false, if_true, Sem.run_bind, h4, Result.andThen_ok, if_pos hle, h6]
    cases base <;> simp
  · have w1 : IntKind.i64.wrap (Int.ofNat m) = (m : Int) := imax_wrap (k := .i64) (by simp [imax]; omega)
    have hbig : ((m : Int) * (i.bytes : Int) > 2 ^ 48) = False := by
      have : (m : Int) * (i.bytes : Int) = ((m * i.bytes : Nat) : Int) := by push_cast; rfl
      rw [this]; simp; omega
    have hneg : ((m : Int) < 0) = False := by simp
    simp only [if_true, Bool.not_true, Bool.false_eq_true, if_false, Sem.run_bind, asInt, asIntOf, Sem.run_pure, Result.andThen_ok, w1, hneg, run_typeInfo hi, hbig, Int.toNat_natCast, if_pos hle]
    by_cases h0 : m * s = 0
    · rw [if_pos h0] at h7
      subst h7
      simp only [if_pos h0, Sem.run_pure, Result.andThen_ok]
      cases base <;> simp
    · rw [if_neg h0] at h7
      subst h7
      simp only [if_neg h0, Sem.run_bind, Sem.run_pure]
      cases base <;> simp [h6]
theorem append_grow {ts : Array TypeId} {t e ty : TypeId} {s : Nat} (ht : ts[0]? = some t) (hu : P.underlying t = some (.slice e)) (hs : tsize P e = some s) {Y : Value} {m : Nat} {new : Array Value} (ha : Adds P ts e s Y w m new)
    {base : Option Addr} {l c : Nat} (hgt : ¬ l + m ≤ c) {i : TypeInfo} (hi : P.info? e = some i) (hb : (l + m) * i.bytes ≤ 1099511627776) (hm : l + m ≤ 1099511627776) {old : Array Value} (hold : (Builtin.firstCells s l (.slice base l c)).run P w.drew = .ok old w.drew)
    {zx : Value} (hz : ∀ w, (zeroValue e).run P w = .ok zx w) :
    ∃ cap, l + m ≤ cap ∧ (Builtin.append_ ts ty #[.slice base l c, Y]).run P w = .ok (.slice (some ⟨w.heap.size, 0, none⟩) (l + m) cap) (w.drew.alloc (.cells (old ++ new ++ Builtin.zeroCells zx.cells (cap - (l + m))) e)) := by
  obtain ⟨u, d, h1, h2, h3⟩ := ha
  have hnf : (Question.appendCap (l + m) c e).forced = false := rfl
  have hfit : (Builtin.nextslicecap (l + m) c * i.bytes > 2 ^ 48) = False := by
    have := nextcap_fits (need := l + m) (c := c) (b := i.bytes) (by omega) hb
    simp; omega
  have hmaxi : (((l + m : Nat) : Int) > IntKind.i64.max) = False := by
    have : IntKind.i64.max = 9223372036854775807 := by decide
    rw [this]; simp; omega
  refine ⟨(Question.appendCap (l + m) c e).cut (w.tape w.drawn (.appendCap (l + m) c e)), Nat.le_add_right _ _, ?_⟩
  unfold Builtin.append_
  simp only [ht, List.getElem?_toArray, List.getElem?_cons_zero, List.getElem?_cons_succ, Sem.run_bind, run_underlying hu, Result.andThen_ok, run_sizeOf hs, h1, run_underlying h2, Sem.run_pure]
  rcases h3 with ⟨hd, h4, h5⟩ | ⟨⟨k, rfl⟩, ⟨k', rfl⟩, h4, i', zx', hi', h5, h6, h7⟩
  · have hzr : (d matches .int _) = false := by cases d <;> first | rfl | exact absurd rfl (hd _)
    have h6 := h5 w.drew (.inr rfl)
    simp only [hzr, Bool.false_eq_true, if_false, Bool.not_false, if_true, Sem.run_bind, h4, Result.andThen_ok, if_neg hgt, run_typeInfo hi, hmaxi, false_and, hfit, run_choose, hnf, World.drew_eq, run_askRoom, hold, h6, hz, newRow, run_newObj, Sem.run_pure]
    rfl
  · have w1 : IntKind.i64.wrap (Int.ofNat m) = (m : Int) := imax_wrap (k := .i64) (by simp [imax]; omega)
    rw [hi] at hi'
    cases hi'
    have hbig : ((m : Int) * (i.bytes : Int) > 2 ^ 48) = False := by
      have : (m : Int) * (i.bytes : Int) = ((m * i.bytes : Nat) : Int) := by push_cast; rfl
      rw [this]; simp; omega
    have hneg : ((m : Int) < 0) = False := by simp
    simp only [if_true, Bool.not_true, Bool.false_eq_true, if_false, Sem.run_bind, asInt, asIntOf, Sem.run_pure, Result.andThen_ok, w1, hneg, run_typeInfo hi, hbig, Int.toNat_natCast, if_neg hgt, hmaxi, false_and, hfit, run_choose, hnf, World.drew_eq, run_askRoom, hold, hz]
    by_cases h0 : m * s = 0
    · rw [if_pos h0] at h7
      subst h7
      simp only [if_pos h0, Sem.run_pure, Result.andThen_ok, Sem.run_bind, hz, newRow, run_newObj]
      rfl
    · rw [if_neg h0] at h7
      subst h7
      have := h6 w
      rw [hz] at this
      cases this
      simp only [if_neg h0, Sem.run_pure, Result.andThen_ok, Sem.run_bind, hz, newRow, run_newObj]
      rfl
end
end Go.Vm
namespace Go.Vm
open Go
section
variable {N : Names} {G : Tr (Tr AV)} {F : Nat → Option Obj} {w0 : World} {P : Program} {μ : Mp} {h h' : AH} {w : World} {n : Nat}

theorem mkslo_some {i o l m s : Nat} {v : AV} (hk : mkslo i o l m s h = some (v, h')) : v = .slo i o (l + m) s ∧ h' = h := by
  unfold mkslo at hk
  rw [nat_eq] at hk
  cases hk; exact ⟨rfl, rfl⟩

/-- What an append whose room is not known does to the evaluator's heap. -/
theorem happG_some {i l s m : Nat} {c : Tr AV} {n e fl fh tag k : Nat} {c' : Tr AV} {v : AV} (hg : h.t.get i = some (.cells c n e fl fh tag false)) (hlt : i < h.nx) (hlast : lastOf h i tag = true) (hk : happG h i l s m c n e fl fh tag k c' = some (v, h')) :
    v = .slo h.nx 0 (l + m) s ∧ h'.nx = h.nx + 1 ∧ ∃ tag' f, tag' ≠ 0 ∧ (tag = 0 ∧ tag' = i + 1 ∧ f = 0 ∨ tag ≠ 0 ∧ tag' = tag ∧ h.g.get tag = some (i, f)) ∧
      (∀ j, h'.t.get j = if j = h.nx then some (.cells c' k e fl fh tag' false) else if j = i then some (.cells c n e fl fh tag' false) else h.t.get j) ∧
      (∀ q, h'.g.get q = if q = tag' then some (h.nx, f) else h.g.get q) := by
  unfold happG at hk
  rw [bcase] at hk
  split at hk
  · rename_i h0
    have h0 : tag = 0 := Nat.eq_of_beq_eq_true h0
    obtain ⟨t, ht, hk⟩ := Tr.setK_get hk
    obtain ⟨g, hgg, hk⟩ := Tr.setK_get hk
    obtain ⟨⟨j, hj⟩, hn, hk⟩ := obind_some.1 hk
    obtain ⟨t2, ht2, hn⟩ := Tr.setK_get hn
    rw [nat_eq] at hn
    cases hn
    obtain ⟨rfl, rfl⟩ := mkslo_some hk
    refine ⟨rfl, rfl, i + 1, 0, by omega, .inl ⟨h0, rfl, rfl⟩, fun j => ?_, fun q => ?_⟩
    · show t2.get j = _
      rw [ht2, ht]
    · show g.get q = _
      rw [hgg]
  · rename_i h0
    have h0 : tag ≠ 0 := fun h => h0 (by rw [h]; rfl)
    obtain ⟨⟨a, f⟩, hgt, hk⟩ := obind_some.1 hk
    obtain ⟨f', hl⟩ := lastOf_spec hlast h0
    rw [hl] at hgt
    cases hgt
    obtain ⟨g, hgg, hk⟩ := Tr.setK_get hk
    obtain ⟨⟨j, hj⟩, hn, hk⟩ := obind_some.1 hk
    obtain ⟨t2, ht2, hn⟩ := Tr.setK_get hn
    rw [nat_eq] at hn
    cases hn
    obtain ⟨rfl, rfl⟩ := mkslo_some hk
    refine ⟨rfl, rfl, tag, f, h0, .inr ⟨h0, rfl, hl⟩, fun j => ?_, fun q => ?_⟩
    · show t2.get j = _
      rw [ht2]
      by_cases hji : j = i
      · subst hji
        rw [if_neg (show ¬ j = h.nx by omega), if_neg (show ¬ j = h.nx by omega), if_pos rfl, hg]
      · rw [if_neg hji]
    · show g.get q = _
      rw [hgg]

/- The relation behind such an append: the old block as it was up to its known end, the new block's row in it or in a new block. -/
set_option maxHeartbeats 800000 in
theorem R.hang (r : R N G F w0 μ h w) {i : Nat} {c : Tr AV} {n e fl fh tag k : Nat} {c' : Tr AV} (hg : h.t.get i = some (.cells c n e fl fh tag false)) (hrd : readable h i tag = true) (hlast : lastOf h i tag = true)
    (hnx : h'.nx = h.nx + 1) {tag' f : Nat} (ht0 : tag' ≠ 0) (htg : tag = 0 ∧ tag' = i + 1 ∧ f = 0 ∨ tag ≠ 0 ∧ tag' = tag ∧ h.g.get tag = some (i, f))
    (ht : ∀ j, h'.t.get j = if j = h.nx then some (.cells c' k e fl fh tag' false) else if j = i then some (.cells c n e fl fh tag' false) else h.t.get j) (hgg : ∀ q, h'.g.get q = if q = tag' then some (h.nx, f) else h.g.get q)
    {w' : World} (hos : w'.os = w.os) (htp : w'.tape = w.tape) (hout : w'.output = w.output) (hsz : w.heap.size ≤ w'.heap.size) (hoth : ∀ q, q ≠ μ.blk i → q < w.heap.size → w'.heap[q]? = w.heap[q]?)
    {arr arr' : Array Value} {lo hi : Nat} (hb : w.heap[μ.blk i]? = some (.cells arr e (lo, hi))) (hb' : w'.heap[μ.blk i]? = some (.cells arr' e (lo, hi))) (hasz : arr'.size = arr.size) (hpre : ∀ q, q < μ.bas i + n → arr'[q]? = arr[q]?)
    {b x tt : Nat} (hbx : (b = μ.blk i ∧ μ.bas i + n ≤ x + k) ∨ b = w.heap.size) (hnew : Holds N (μ.ext h.nx b x tt) h' h.nx w' (.cells c' k e fl fh tag' false)) : R N G F w0 (μ.ext h.nx b x tt) h' w' := by
  have hag := μ.ext_agree h.nx b x tt
  have hlt := r.ids i _ hg
  have hin : i ≠ h.nx := by omega
  have hget : ∀ j a, h'.t.get j = some a → (j = h.nx ∧ a = .cells c' k e fl fh tag' false) ∨ (j = i ∧ a = .cells c n e fl fh tag' false) ∨ (j < h.nx ∧ j ≠ i ∧ h.t.get j = some a) := fun j a hj => by
    rw [ht] at hj
    by_cases h1 : j = h.nx
    · rw [if_pos h1] at hj; cases hj; exact .inl ⟨h1, rfl⟩
    · rw [if_neg h1] at hj
      by_cases h2 : j = i
      · rw [if_pos h2] at hj; cases hj; exact .inr (.inl ⟨h2, rfl⟩)
      · rw [if_neg h2] at hj; exact .inr (.inr ⟨r.ids j a hj, h2, hj⟩)
  -- who shares the old block is of its group, and older
  have hshare : ∀ j a, h.t.get j = some a → j ≠ i → μ.blk j = μ.blk i → tag ≠ 0 ∧ a.tag = tag ∧ j ≤ i := fun j a hj hji hbl => by
    obtain ⟨h1, h2⟩ := r.apart j i a _ hj hg hji hbl
    have h2 : a.tag = tag := h2
    have h0 : tag ≠ 0 := h2 ▸ h1
    obtain ⟨a', f', h3, h4, _⟩ := r.grp j a hj h1
    obtain ⟨f'', h5⟩ := lastOf_spec hlast h0
    rw [h2, h5] at h3
    cases h3
    exact ⟨h0, h2, h4⟩
  have hnotag : ∀ j a, h.t.get j = some a → j ≠ i → tag = 0 → a.tag ≠ tag' := fun j a hj hji h0 hat => by
    rcases htg with ⟨_, h1, _⟩ | ⟨h1, _⟩
    · rw [h1] at hat
      obtain ⟨p, hp, hpt⟩ := r.tags j a i hj hat
      rw [hg] at hp
      cases hp
      have : tag = i + 1 := hpt
      omega
    · exact h1 h0
  have hread : ∀ j a, h.t.get j = some a → j ≠ i → readable h' j a.tag = true → readable h j a.tag = true := fun j a hj hji hr => by
    by_cases ha0 : a.tag = 0
    · rw [ha0]; rfl
    · by_cases hat : a.tag = tag'
      · rcases htg with ⟨h1, h2, h3⟩ | ⟨h1, h2, h3⟩
        · exact absurd hat (hnotag j a hj hji h1)
        · have h4 : h'.g.get a.tag = some (h.nx, f) := by rw [hgg, if_pos hat]
          rw [readable_spec ha0 h4] at hr
          rw [hat, h2]
          exact (readable_spec h1 h3).2 hr
      · unfold readable at hr ⊢
        rw [hgg, if_neg hat] at hr
        exact hr
  have hFi : F (μ.blk i) = none := r.own i _ hg rfl
  have hblt : ∀ j a, h.t.get j = some a → μ.blk j < w.heap.size := fun j a hj => r.blk_lt hj
  refine ⟨hos.trans r.os, hout.trans r.out, Nat.le_trans r.lo hsz, fun q o hF => ?_, fun j a hj => ?_, fun j a hj => ?_, fun j q a d hj hq hjq hbl => ?_, fun j a hj hro => ?_,
    fun j a hj h0 => ?_, fun j a tg hj htg' => ?_, fun g cc o v hG hv => ?_, r.gfr, fun j q a d hj hq hjq h0 hbl => ?_, r.fnone, r.mxl⟩
  · have hne : q ≠ μ.blk i := fun h => by rw [h, hFi] at hF; cases hF
    have := r.fr q o hF
    rw [hoth q hne (Array.getElem?_eq_some_iff.1 this).1]; exact this
  · rcases hget j a hj with ⟨rfl, _⟩ | ⟨rfl, _⟩ | ⟨h1, _, _⟩ <;> omega
  · rcases hget j a hj with ⟨rfl, rfl⟩ | ⟨rfl, rfl⟩ | ⟨h1, h2, h3⟩
    · exact hnew
    · obtain ⟨arr0, lo0, hi0, q1, q2, q3, q4, q5⟩ := r.obj j _ hg
      rw [hb] at q1
      cases q1
      obtain ⟨a1, a2, a3⟩ := hag j hlt
      refine ⟨arr', lo, hi, by rw [← a1]; exact hb', by rw [← a3, hasz]; exact q2, by rw [← a2, hasz]; exact q3, by rw [← a2, hasz]; exact q4, fun _ q v hq hv => ?_⟩
      obtain ⟨y, y1, y2, y3⟩ := q5 hrd q v hq hv
      have hq1 : μ.bas j + q < μ.bas j + n := by omega
      exact ⟨y, by rw [← a2, hpre _ hq1]; exact y1, y2.mono hag (by omega), y3⟩
    · by_cases hbl : μ.blk j = μ.blk i
      · obtain ⟨h4, h5, h6⟩ := hshare j a h3 h2 hbl
        have hinc := r.inc j i a _ h3 hg h6 (h5 ▸ h4) hbl
        cases a with
        | cells c1 n1 e1 fl1 fh1 tag1 ro1 =>
          obtain ⟨arr0, lo0, hi0, q1, q2, q3, q4, q5⟩ := r.obj j _ h3
          rw [hbl, hb] at q1
          cases q1
          obtain ⟨a1, a2, a3⟩ := hag j h1
          have hinc : μ.bas j + n1 ≤ μ.bas i + n := hinc
          refine ⟨arr', lo, hi, by rw [← a1, hbl]; exact hb', by rw [← a3, hasz]; exact q2, by rw [← a2, hasz]; exact q3, by rw [← a2, hasz]; exact q4, fun hr q v hq hv => ?_⟩
          have hr1 : readable h' j (AObj.cells c1 n1 e fl1 fh1 tag1 ro1).tag = true := hr
          have hr2 := hread j (AObj.cells c1 n1 e fl1 fh1 tag1 ro1) h3 h2 hr1
          have hr3 : readable h j tag1 = true := hr2
          obtain ⟨y, y1, y2, y3⟩ := q5 hr3 q v hq hv
          have hq1 : μ.bas j + q < μ.bas i + n := by clear hb hb' hnew y1 q2 q4; omega
          exact ⟨y, by rw [← a2, hpre _ hq1]; exact y1, y2.mono hag (by omega), y3⟩
        | map _ _ => exact absurd h5.symm h4
        | siter _ _ _ => exact absurd h5.symm h4
        | miter _ _ _ _ => exact absurd h5.symm h4
      · exact (r.obj j a h3).ext hag h1 (hoth _ hbl (hblt j a h3)) (by omega) (hread j a h3 h2)
  · have hold : ∀ q d, (q = i ∧ d = .cells c n e fl fh tag' false) ∨ (q < h.nx ∧ q ≠ i ∧ h.t.get q = some d) → (μ.ext h.nx b x tt).blk q = μ.blk q ∧ (μ.blk q = b → d.tag = tag') := fun q d hqd => by
      rcases hqd with ⟨rfl, rfl⟩ | ⟨h1, h2, h3⟩
      · exact ⟨(hag q hlt).1.symm, fun _ => rfl⟩
      · refine ⟨(hag q h1).1.symm, fun hqb => ?_⟩
        rcases hbx with ⟨h4, _⟩ | h4
        · rw [h4] at hqb
          obtain ⟨h5, h6, _⟩ := hshare q d h3 h2 hqb
          rcases htg with ⟨h7, _⟩ | ⟨_, h7, _⟩
          · exact absurd h7 h5
          · rw [h7]; exact h6
        · have := hblt q d h3; omega
    rcases hget j a hj with ⟨rfl, rfl⟩ | h1 <;> rcases hget q d hq with ⟨rfl, rfl⟩ | h2
    · exact absurd rfl hjq
    · obtain ⟨h3, h4⟩ := hold q d h2
      rw [Mp.ext_blk, h3] at hbl
      exact ⟨ht0, (h4 hbl.symm).symm⟩
    · obtain ⟨h3, h4⟩ := hold j a h1
      rw [Mp.ext_blk, h3] at hbl
      have := h4 hbl
      exact ⟨by rw [this]; exact ht0, this⟩
    · rw [(hold j a h1).1, (hold q d h2).1] at hbl
      have h0t : ∀ p, p ≠ i → ∀ u, h.t.get p = some u → μ.blk p = μ.blk i → u.tag = tag' := fun p hp u hu hpb => by
        obtain ⟨h5, h6, _⟩ := hshare p u hu hp hpb
        rcases htg with ⟨h7, _⟩ | ⟨_, h7, _⟩
        · exact absurd h7 h5
        · rw [h7]; exact h6
      rcases h1 with ⟨rfl, rfl⟩ | ⟨h3, h4, h5⟩ <;> rcases h2 with ⟨rfl, rfl⟩ | ⟨h6, h7, h8⟩
      · exact absurd rfl hjq
      · exact ⟨ht0, (h0t q h7 d h8 hbl.symm).symm⟩
      · have := h0t j h4 a h5 hbl
        exact ⟨by rw [this]; exact ht0, this⟩
      · exact r.apart j q a d h5 h8 hjq hbl
  · rcases hget j a hj with ⟨rfl, rfl⟩ | ⟨rfl, rfl⟩ | ⟨h1, h2, h3⟩
    · rw [Mp.ext_blk]
      rcases hbx with ⟨h4, _⟩ | h4
      · rw [h4]; exact hFi
      · rw [h4]; exact r.fnone _ r.lo
    · rw [← (hag j hlt).1]; exact hFi
    · rw [← (hag j h1).1]; exact r.own j a h3 hro
  · rcases hget j a hj with ⟨rfl, rfl⟩ | ⟨rfl, rfl⟩ | ⟨h1, h2, h3⟩
    · refine ⟨h.nx, f, by rw [hgg]; exact if_pos rfl, Nat.le_refl _, ?_⟩
      rcases htg with ⟨_, _, h4⟩ | ⟨h4, _, h5⟩
      · omega
      · obtain ⟨a', f', h6, h7, h8⟩ := r.grp i _ hg h4
        have h6 : h.g.get tag = some (a', f') := h6
        rw [h5] at h6; cases h6; omega
    · refine ⟨h.nx, f, by rw [hgg]; exact if_pos rfl, by omega, ?_⟩
      rcases htg with ⟨_, _, h4⟩ | ⟨h4, _, h5⟩
      · omega
      · obtain ⟨a', f', h6, h7, h8⟩ := r.grp j _ hg h4
        have h6 : h.g.get tag = some (a', f') := h6
        rw [h5] at h6; cases h6; omega
    · obtain ⟨a', f', h4, h5, h6⟩ := r.grp j a h3 h0
      by_cases hat : a.tag = tag'
      · refine ⟨h.nx, f, by rw [hgg, if_pos hat], by omega, ?_⟩
        rcases htg with ⟨_, _, h4⟩ | ⟨h7, h8, h9⟩
        · omega
        · rw [hat, h8, h9] at h4; cases h4; omega
      · exact ⟨a', f', by rw [hgg, if_neg hat]; exact h4, h5, h6⟩
  · have hself : ∀ p, h.t.get tg = some p → p.tag = tg + 1 → ∃ p', h'.t.get tg = some p' ∧ p'.tag = tg + 1 := fun p hp hpt => by
      have hl := r.ids tg p hp
      by_cases hti : tg = i
      · subst hti
        rw [hg] at hp; cases hp
        have hpt : tag = tg + 1 := hpt
        refine ⟨_, by rw [ht, if_neg (by omega), if_pos rfl], ?_⟩
        show tag' = tg + 1
        rcases htg with ⟨h1, _⟩ | ⟨_, h1, _⟩ <;> omega
      · exact ⟨p, by rw [ht, if_neg (by omega), if_neg hti]; exact hp, hpt⟩
    have hnewtag : tag' = tg + 1 → ∃ p', h'.t.get tg = some p' ∧ p'.tag = tg + 1 := fun hq => by
      rcases htg with ⟨h1, h2, _⟩ | ⟨h1, h2, _⟩
      · have : tg = i := by omega
        subst this
        exact ⟨.cells c n e fl fh tag' false, by rw [ht, if_neg (by omega), if_pos rfl], hq⟩
      · obtain ⟨p, hp, hpt⟩ := r.tags i _ tg hg (h2 ▸ hq)
        exact hself p hp hpt
    rcases hget j a hj with ⟨rfl, rfl⟩ | ⟨rfl, rfl⟩ | ⟨h1, h2, h3⟩
    · exact hnewtag htg'
    · exact hnewtag htg'
    · obtain ⟨p, hp, hpt⟩ := r.tags j a tg h3 htg'
      exact hself p hp hpt
  · obtain ⟨y, hy, hv', h1⟩ := r.glb g cc o v hG hv
    obtain ⟨ob, hF⟩ := r.gfr g cc hG
    have hne : g ≠ μ.blk i := fun h => by rw [h, hFi] at hF; cases hF
    refine ⟨y, ?_, hv'.mono (fun i hi => absurd hi (Nat.not_lt_zero _)) (Nat.zero_le _), h1⟩
    have hlt' := World.block_lt_of_cell? w _ hy
    simp only [World.cell?] at hy ⊢
    rw [hoth g hne hlt']; exact hy
  · rcases hget j a hj with ⟨rfl, rfl⟩ | ⟨rfl, rfl⟩ | ⟨h1, h2, h3⟩ <;> rcases hget q d hq with ⟨rfl, rfl⟩ | ⟨rfl, rfl⟩ | ⟨h4, h5, h6⟩
    · exact Nat.le_refl _
    · omega
    · omega
    · rw [Mp.ext_blk, ← (hag j hlt).1] at hbl
      rw [Mp.ext_bas, ← (hag j hlt).2.1]
      rcases hbx with ⟨_, h7⟩ | h7
      · exact h7
      · have := hblt j _ hg; omega
    · exact Nat.le_refl _
    · rw [← (hag j hlt).1, ← (hag q h4).1] at hbl
      rw [← (hag j hlt).2.1, ← (hag q h4).2.1]
      obtain ⟨h7, h8, h9⟩ := hshare q d h6 h5 hbl.symm
      have : j = q := by omega
      subst this; exact absurd rfl h5
    · rw [Mp.ext_blk, ← (hag j h1).1] at hbl
      rw [Mp.ext_bas, ← (hag j h1).2.1]
      rcases hbx with ⟨h7, h8⟩ | h7
      · rw [h7] at hbl
        obtain ⟨h9, h10, h11⟩ := hshare j a h3 h2 hbl
        have := r.inc j i a _ h3 hg h11 h0 hbl
        exact Nat.le_trans this h8
      · have := hblt j a h3; omega
    · rw [← (hag j h1).1, ← (hag q hlt).1] at hbl
      rw [← (hag j h1).2.1, ← (hag q hlt).2.1]
      exact r.inc j q a (.cells c n e fl fh tag false) h3 hg hjq h0 hbl
    · rw [← (hag j h1).1, ← (hag q h4).1] at hbl
      rw [← (hag j h1).2.1, ← (hag q h4).2.1]
      exact r.inc j q a d h3 h6 hjq h0 hbl
end
end Go.Vm
namespace Go.Vm
open Go
section
variable {N : Names} {G : Tr (Tr AV)} {F : Nat → Option Obj} {w0 : World} {P : Program} {μ : Mp} {h h' : AH} {w : World} {n : Nat}

theorem zeroCells_size (z : Array Value) (k : Nat) : (Builtin.zeroCells z k).size = k * z.size := by simp [Builtin.zeroCells]
/-- The capacity of a row that an append lays. -/
theorem grown_size {z : AV} {zx : Value} {s m l cap : Nat} {old new : Array Value} (hz : V N μ n z zx) (hzl : z.cells.length = s) (ho : old.size = l * s) (hn : new.size = m * s) (hcap : l + m ≤ cap) :
    (old ++ new ++ Builtin.zeroCells zx.cells (cap - (l + m))).size = cap * s := by
  have hsz : zx.cells.size = s := by have := hz.cells.1; simp at this; omega
  rw [Array.size_append, Array.size_append, ho, hn, zeroCells_size, hsz, ← Nat.add_mul, ← Nat.add_mul]
  congr 1; omega

/-- An append that grows, its old cells known. -/
theorem grow_ok (r : R N G F w0 μ h w) {ts : Array TypeId} {t e ty : TypeId} {i : TypeInfo} {z : AV} (ht : ts[0]? = some t) (hu : P.underlying t = some (.slice e)) (hi : P.info? e = some i) (hz : tzero P e = some z) (hzl : z.cells.length = i.size)
    {Y : Value} {m : Nat} {new : Array Value} (ha : Adds P ts e i.size Y w m new) {base : Option Addr} {l c : Nat} (hgt : ¬ l + m ≤ c) (hb : (l + m) * i.bytes ≤ 1099511627776) (hm : l + m ≤ 1099511627776)
    {old : Array Value} (hold : (Builtin.firstCells i.size l (.slice base l c)).run P w.drew = .ok old w.drew) (hos : old.size = l * i.size) (hns : new.size = m * i.size) {vs : List AV} (hvs : Vs N μ h.nx vs (old ++ new).toList)
    {j : Nat} (hq : hrow h e vs = some (j, h')) : Does N G F w0 P (Builtin.append_ ts ty #[.slice base l c, Y]) w μ h h' (Yv N h' (.slo j 0 (l + m) i.size)) := by
  obtain ⟨zx, hz1, hz2⟩ := tzero_ok hz
  obtain ⟨cap, hcap, hrun⟩ := append_grow (ty := ty) ht hu (show tsize P e = some i.size by simp [tsize, hi]) ha hgt hi hb hm hold hz1
  have hsz := grown_size (hz2 N μ h.nx) hzl hos hns hcap
  obtain ⟨rfl, h2, h3⟩ := r.drew.row hq hvs (old ++ new ++ Builtin.zeroCells zx.cells (cap - (l + m))) (fun j x hx => by
    rw [Array.getElem?_toList] at hx
    rw [Array.getElem?_append_left (Array.getElem?_eq_some_iff.1 hx).1]; exact hx) (by simp)
  refine ⟨_, _, _, hrun, μ.ext_agree _ _ _ _, by omega, h3, ?_⟩
  have := V.slo (N := N) (μ := μ.ext h.nx w.drew.heap.size 0 (old ++ new ++ Builtin.zeroCells zx.cells (cap - (l + m))).size) (n := h'.nx) h.nx 0 (l + m) i.size cap 0 (by omega) hcap (by rw [Mp.ext_bas, Mp.ext_tot, hsz]; omega) (fun _ => by rw [Mp.ext_bas])
  rw [Mp.ext_blk] at this
  exact this

/-- An append to a row whose room is not known. -/
theorem open_ok (r : R N G F w0 μ h w) {ts : Array TypeId} {t e ty : TypeId} {i : TypeInfo} {z : AV} (ht : ts[0]? = some t) (hu : P.underlying t = some (.slice e)) (hi : P.info? e = some i) (hz : tzero P e = some z) (hzl : z.cells.length = i.size)
    (hs1 : 1 ≤ i.size) {Y : Value} {m : Nat} {new : Array Value} (ha : Adds P ts e i.size Y w m new) {vs : List AV} (hvs : Vs N μ h.nx vs new.toList) (hlen : vs.length = m * i.size) (hm0 : m ≠ 0)
    {q o l x cap : Nat} (hlc : l ≤ cap) (htot : μ.bas q + o + cap * i.size = μ.tot q) (hx : cap ≠ 0 → x = μ.bas q + o) {v : AV}
    (hk : aappOpen h e i.bytes q o l i.size m vs = some (v, h')) :
    Does N G F w0 P (Builtin.append_ ts ty #[.slice (some ⟨μ.blk q, x, none⟩) l cap, Y]) w μ h h' (Yv N h' v) := by
  have hsz : tsize P e = some i.size := by simp [tsize, hi]
  have hns : new.size = m * i.size := by have := hvs.1; simp at this; omega
  unfold aappOpen at hk
  split at hk
  case h_2 => cases hk
  rename_i c nn e' fl fh tag hg
  obtain ⟨arr, lo, hi', hb, hasz, hle, hfz, hcl⟩ := r.obj q _ hg
  have hlm : (l + m) * i.size = l * i.size + m * i.size := Nat.add_mul _ _ _
  rw [bcase] at hk
  split at hk
  · -- all the room is known
    rename_i hroom
    have hroom : o + (l + m) * i.size ≤ nn := by simpa using hroom
    unfold aappIn at hk
    obtain ⟨h1, hst, hk2⟩ := obind_some.1 hk
    rw [nat_eq] at hk2
    cases hk2
    have hcap : l + m ≤ cap := by
      have : (l + m) * i.size ≤ cap * i.size := by omega
      exact Nat.le_of_mul_le_mul_right this hs1
    have hx := hx (by omega)
    obtain ⟨w', q1, q2, q3⟩ := r.store P hst hvs (x := x + l * i.size) (fun _ => by rw [hx]; exact Nat.add_assoc _ _ _)
    refine ⟨.slice (some ⟨μ.blk q, x, none⟩) (l + m) cap, w', μ, ?_, .refl, by omega, q2, ?_⟩
    · rw [append_in ht hu hsz ha hcap]
      simp only [addr_add, q1, Result.andThen_ok]
    · exact .slo q o _ _ _ _ (by rw [q3]; exact r.ids q _ hg) hcap htot (fun _ => hx)
  · rename_i hroom
    obtain ⟨he, hk2⟩ := grd_of hk
    have he : e' = e := Nat.eq_of_beq_eq_true he
    subst he
    obtain ⟨hb1, hk3⟩ := grd_of hk2
    obtain ⟨hb2, hk4⟩ := grd_of hk3
    have hb1 : (l + m) * i.bytes ≤ 1099511627776 := by simpa [maxB] using hb1
    have hb2 : l + m ≤ 1099511627776 := by simpa [maxB] using hb2
    unfold happC at hk4
    obtain ⟨hend, hk5⟩ := grd_of hk4
    obtain ⟨hfh, hk6⟩ := grd_of hk5
    obtain ⟨hlast, hk7⟩ := grd_of hk6
    obtain ⟨hrd, hk8⟩ := grd_of hk7
    have hend : o + l * i.size = nn := Nat.eq_of_beq_eq_true hend
    have hfh : fh ≤ fl := by simpa using hfh
    -- what is known of the old cells
    have hS : ∃ c0, (∀ j v, j < l * i.size → c0.get j = some v → c.get (o + j) = some v) ∧ happS h q l i.size m vs c nn e' fl fh tag c0 = some (v, h') := by
      rw [bcase] at hk8
      split at hk8
      · rename_i ho
        have ho : o = 0 := Nat.eq_of_beq_eq_true ho
        subst ho
        exact ⟨c, fun j v _ hv => by rw [Nat.zero_add]; exact hv, hk8⟩
      · obtain ⟨old, hl, hk9⟩ := obind_some.1 hk8
        obtain ⟨c0, hc0, _, hk10⟩ := ofList_spec hk9
        refine ⟨c0, fun j v hj hv => ?_, hk10⟩
        rw [hc0] at hv
        obtain ⟨k, e1, e2, e3⟩ := R.loads r _ _ _ _ hl
        simp at e1
        subst e1
        have := e3 j v hv
        unfold hload at this
        rw [hg] at this
        simp only [bcase, hrd, if_true] at this
        split at this
        · exact this
        · cases this
    obtain ⟨c0, hc0, hk9⟩ := hS
    unfold happS at hk9
    rw [nat_eq] at hk9
    obtain ⟨c', hc', hfit, hone, hk10⟩ := setAll_spec _ _ _ hk9
    have hqlt := r.ids q _ hg
    obtain ⟨rfl, hnx, tag', f, ht0, htg, hget, hgg⟩ := happG_some hg hqlt hlast hk10
    have hk : (Nat.mul l i.size).add vs.length = (l + m) * i.size := by rw [hlm, ← hlen]; rfl
    have hml : Nat.mul l i.size = l * i.size := rfl
    rw [hml] at hc'
    have hxs : ∀ x ∈ new.toList, x.oneCell' = true := Vs.ones hvs hone
    have hnfz : ∀ j, j < arr.size → ¬ (lo ≤ j ∧ j < hi') := fun j hj => by
      obtain ⟨z1, z2, z3⟩ := hfz
      rcases Nat.lt_or_ge fh fl with h1 | h1
      · exact z3 h1 j hj
      · have := z1 (by omega); omega
    by_cases hcap : l + m ≤ cap
    · -- in place
      have hx := hx (by omega)
      have hroom2 : μ.bas q + nn + new.toList.length ≤ arr.size := by
        have h1 : (l + m) * i.size ≤ cap * i.size := Nat.mul_le_mul_right _ hcap
        rw [hasz, ← htot]
        simp only [Array.length_toList, hns]
        omega
      obtain ⟨w', arr', q1, q2, q3, q4, q5, q6, q7, q8, q9⟩ := run_storeCells P (μ.blk q) (μ.bas q + nn) e' lo hi' new.toList 0 w arr hb (by omega) (fun j hj => hnfz _ (by omega)) hxs
      have hnew : Holds N (μ.ext h.nx (μ.blk q) (μ.bas q + o) (μ.tot q)) h' h.nx w' (.cells c' ((Nat.mul l i.size).add vs.length) e' fl fh tag' false) := by
        refine ⟨arr', lo, hi', by rw [Mp.ext_blk]; exact q2, by rw [Mp.ext_tot, q3]; exact hasz, ?_, ?_, fun _ j v hj hv => ?_⟩
        · rw [Mp.ext_bas, q3, hk]
          simp only [Array.length_toList, hns] at hroom2
          omega
        · rw [Mp.ext_bas]
          obtain ⟨z1, z2, z3⟩ := hfz
          exact ⟨z1, fun h1 => absurd h1 (by omega), fun h1 => by rw [q3]; exact z3 h1⟩
        · rw [hk] at hj
          rw [hc'] at hv
          rw [Mp.ext_bas, q4]
          simp only [Array.length_toList, hns]
          by_cases hj2 : l * i.size ≤ j ∧ j < l * i.size + vs.length
          · rw [if_pos hj2] at hv
            rw [if_pos (by omega)]
            obtain ⟨y, hy, hvy⟩ := hvs.get hv
            refine ⟨y, ?_, hvy.mono (μ.ext_agree _ _ _ _) (by omega), hxs y (List.mem_of_getElem? hy)⟩
            rw [show μ.bas q + o + j - (μ.bas q + nn + 0) = j - l * i.size by omega]; exact hy
          · rw [if_neg hj2] at hv
            have hj3 : j < l * i.size := by omega
            rw [if_neg (by omega)]
            obtain ⟨y, hy1, hy2, hy3⟩ := hcl hrd (o + j) v (by omega) (hc0 j v hj3 hv)
            exact ⟨y, by rw [Nat.add_assoc]; exact hy1, hy2.mono (μ.ext_agree _ _ _ _) (by omega), hy3⟩
      have hR := r.hang hg hrd hlast hnx ht0 htg hget hgg q7 q8 q9 (by rw [q6]; exact Nat.le_refl _) (fun k hk _ => q5 k hk) hb q2 q3 (fun k hk => by rw [q4, if_neg (by omega)]) (.inl ⟨rfl, by rw [hk]; omega⟩) hnew
      refine ⟨.slice (some ⟨μ.blk q, x, none⟩) (l + m) cap, w', _, ?_, μ.ext_agree _ _ _ _, by omega, hR, ?_⟩
      · rw [append_in ht hu hsz ha hcap]
        have q1' : (storeCells ⟨μ.blk q, x + l * i.size, none⟩ new.toList 0).run P w = .ok () w' := by
          rw [show x + l * i.size = μ.bas q + nn by omega]; exact q1
        simp only [addr_add, q1', Result.andThen_ok]
      · have := V.slo (N := N) (μ := μ.ext h.nx (μ.blk q) (μ.bas q + o) (μ.tot q)) (n := h'.nx) h.nx 0 (l + m) i.size cap x (by omega) hcap (by rw [Mp.ext_bas, Mp.ext_tot]; exact htot) (fun _ => by rw [Mp.ext_bas]; exact hx)
        rw [Mp.ext_blk] at this
        exact this
    · -- in a new block
      obtain ⟨zx, hz1, hz2⟩ := tzero_ok hz
      let cs : List Value := (arr.toList.drop (μ.bas q + o)).take (l * i.size)
      have hcl2 : l * i.size ≤ arr.size - (μ.bas q + o) := by omega
      have hcs : cs.length = l * i.size := by simp [cs]; omega
      have hcsg : ∀ j, j < l * i.size → cs[j]? = arr[μ.bas q + o + j]? := fun j hj => by
        show ((arr.toList.drop (μ.bas q + o)).take (l * i.size))[j]? = _
        rw [List.getElem?_take_of_lt hj, List.getElem?_drop, Array.getElem?_toList]
      have hold : (Builtin.firstCells i.size l (.slice (some ⟨μ.blk q, x, none⟩) l cap)).run P w.drew = .ok cs.toArray w.drew := by
        simp only [Builtin.firstCells]
        by_cases hl0 : l = 0
        · subst hl0
          have : cs = [] := List.length_eq_zero_iff.1 (by rw [hcs]; omega)
          rw [this, Nat.zero_mul]; rfl
        · have := run_loadCells_list (P := P) w.drew ⟨μ.blk q, x, none⟩ cs (fun j v hj => by
            have hjl : j < l * i.size := by rw [← hcs]; exact (List.getElem?_eq_some_iff.1 hj).1
            rw [addr_add, hx (by omega)]
            rw [hcsg j hjl] at hj
            have hb' : w.drew.heap[μ.blk q]? = some (.cells arr e' (lo, hi')) := hb
            simp only [World.cell?, hb']
            exact hj)
          rw [hcs] at this
          exact this
      obtain ⟨ncap, hncap, hrun⟩ := append_grow (ty := ty) ht hu hsz ha hcap hi hb1 hb2 hold hz1
      have hosz : cs.toArray.size = l * i.size := by simp [hcs]
      have hgs := grown_size (hz2 N μ h.nx) hzl hosz hns hncap
      generalize harr : cs.toArray ++ new ++ Builtin.zeroCells zx.cells (ncap - (l + m)) = narr at hgs hrun
      have hng1 : ∀ j, j < l * i.size → narr[j]? = arr[μ.bas q + o + j]? := fun j hj => by
        rw [← harr, Array.getElem?_append_left (by rw [Array.size_append, hosz]; omega), Array.getElem?_append_left (by rw [hosz]; omega), List.getElem?_toArray, hcsg j hj]
      have hng2 : ∀ j, l * i.size ≤ j → j < (l + m) * i.size → narr[j]? = new[j - l * i.size]? := fun j h1 h2 => by
        rw [← harr, Array.getElem?_append_left (by rw [Array.size_append, hosz, hns]; omega), Array.getElem?_append_right (by rw [hosz]; omega), hosz]
      have hncs : (l + m) * i.size ≤ narr.size := by rw [hgs]; exact Nat.mul_le_mul_right _ hncap
      have hnew : Holds N (μ.ext h.nx w.heap.size 0 narr.size) h' h.nx (w.drew.alloc (.cells narr e')) (.cells c' ((Nat.mul l i.size).add vs.length) e' fl fh tag' false) := by
        refine ⟨narr, 0, 0, by rw [Mp.ext_blk]; show (w.heap.push _)[_]? = _; exact Array.getElem?_push_size, by rw [Mp.ext_tot], by rw [Mp.ext_bas, hk]; omega, ?_, fun _ j v hj hv => ?_⟩
        · exact ⟨fun _ => rfl, fun h1 => absurd h1 (by omega), fun h1 j _ => by omega⟩
        · rw [hk] at hj
          rw [hc'] at hv
          rw [Mp.ext_bas, Nat.zero_add]
          by_cases hj2 : l * i.size ≤ j ∧ j < l * i.size + vs.length
          · rw [if_pos hj2] at hv
            obtain ⟨y, hy, hvy⟩ := hvs.get hv
            refine ⟨y, ?_, hvy.mono (μ.ext_agree _ _ _ _) (by omega), hxs y (List.mem_of_getElem? hy)⟩
            rw [hng2 j hj2.1 hj]
            rw [Array.getElem?_toList] at hy; exact hy
          · rw [if_neg hj2] at hv
            have hj3 : j < l * i.size := by omega
            obtain ⟨y, hy1, hy2, hy3⟩ := hcl hrd (o + j) v (by omega) (hc0 j v hj3 hv)
            exact ⟨y, by rw [hng1 j hj3, Nat.add_assoc]; exact hy1, hy2.mono (μ.ext_agree _ _ _ _) (by omega), hy3⟩
      have hheap : ∀ k, k < w.heap.size → (w.drew.alloc (.cells narr e')).heap[k]? = w.heap[k]? := fun k hk => RowKit.Below.heap_alloc w.drew _ k hk
      have hbl := r.blk_lt hg
      have hR := r.hang (w' := w.drew.alloc (.cells narr e')) hg hrd hlast hnx ht0 htg hget hgg rfl rfl rfl (by rw [World.size_alloc]; show w.heap.size ≤ w.heap.size + 1; omega) (fun k _ hk => hheap k hk) hb (by rw [hheap _ hbl]; exact hb) rfl (fun k _ => rfl) (.inr rfl) hnew
      refine ⟨_, _, _, hrun, μ.ext_agree _ _ _ _, by omega, hR, ?_⟩
      have := V.slo (N := N) (μ := μ.ext h.nx w.heap.size 0 narr.size) (n := h'.nx) h.nx 0 (l + m) i.size ncap 0 (by omega) hncap (by rw [Mp.ext_bas, Mp.ext_tot, hgs]; omega) (fun _ => by rw [Mp.ext_bas])
      rw [Mp.ext_blk] at this
      exact this

theorem aapp_ok (r : R N G F w0 μ h w) {ts : Array TypeId} {t e ty : TypeId} {i : TypeInfo} {z : AV} (ht : ts[0]? = some t) (hu : P.underlying t = some (.slice e)) (hi : P.info? e = some i) (hz : tzero P e = some z) (hzl : z.cells.length = i.size)
    {X Y : Value} {m : Nat} {new : Array Value} (ha : Adds P ts e i.size Y w m new) {vs : List AV} (hvs : Vs N μ h.nx vs new.toList) {x v : AV} (hX : V N μ h.nx x X) (hk : aapp h e i.size i.bytes x m vs = some (v, h')) :
    Does N G F w0 P (Builtin.append_ ts ty #[X, Y]) w μ h h' (Yv N h' v) := by
  have hsz : tsize P e = some i.size := by simp [tsize, hi]
  unfold aapp at hk
  obtain ⟨hlen, hk1⟩ := grd_of hk
  obtain ⟨hs1, hk2⟩ := grd_of hk1
  have hlen : vs.length = m * i.size := Nat.eq_of_beq_eq_true hlen
  have hs1 : 1 ≤ i.size := by simpa using hs1
  have hns : new.size = m * i.size := by have := hvs.1; simp at this; omega
  -- nothing is added
  have none_ : ∀ base l c, m = 0 → l ≤ c → (Builtin.append_ ts ty #[.slice base l c, Y]).run P w = .ok (.slice base l c) w := fun base l c hm hl => by
    subst hm
    have hnew : new = #[] := Array.eq_empty_of_size_eq_zero (by omega)
    subst hnew
    rw [append_in ht hu hsz ha (by omega)]
    cases base <;> rfl
  cases hX with
  | nils =>
    dsimp only at hk2
    unfold aappNil at hk2
    rw [bcase] at hk2
    split at hk2
    · rename_i hm
      have hm : m = 0 := Nat.eq_of_beq_eq_true hm
      cases hk2
      exact .stay r _ (none_ _ _ _ hm (Nat.le_refl _)) .nils
    · rename_i hm
      have hm : m ≠ 0 := fun h => hm (by rw [h]; rfl)
      obtain ⟨g1, hk3⟩ := grd_of hk2
      obtain ⟨g2, hk4⟩ := grd_of hk3
      obtain ⟨⟨j, hj⟩, hq, hk5⟩ := obind_some.1 hk4
      cases hk5
      have g1 : m * i.bytes ≤ 1099511627776 := by simpa [maxB] using g1
      have g2 : m ≤ 1099511627776 := by simpa [maxB] using g2
      have := grow_ok (base := none) (l := 0) (c := 0) (old := #[]) (ty := ty) r ht hu hi hz hzl ha (by omega) (by rw [Nat.zero_add]; exact g1) (by omega) rfl (by simp) hns (by simpa using hvs) hq
      rw [Nat.zero_add] at this
      exact this
  | slc q o l c x hq hl hx =>
    dsimp only at hk2
    rw [brec] at hk2
    split at hk2
    · rename_i hle
      have hle : l + m ≤ c := by simpa using hle
      unfold aappIn at hk2
      obtain ⟨h1, hst, hk3⟩ := obind_some.1 hk2
      rw [nat_eq] at hk3
      cases hk3
      obtain ⟨w', q1, q2, q3⟩ := r.store P hst hvs (x := x + l * i.size) (fun hne => by
        have : c ≠ 0 := fun h0 => hne (List.length_eq_zero_iff.1 (by rw [hlen, show m = 0 by omega, Nat.zero_mul]))
        rw [hx this]; exact Nat.add_assoc _ _ _)
      refine ⟨.slice (some ⟨μ.blk q, x, none⟩) (l + m) c, w', μ, ?_, .refl, by omega, q2, ?_⟩
      · rw [append_in ht hu hsz ha hle]
        simp only [addr_add, q1, Result.andThen_ok]
      · exact .slc q o _ _ _ (by rw [q3]; exact hq) hle hx
    · rename_i hle
      have hle : ¬ l + m ≤ c := fun h => hle (by simpa using h)
      unfold aappGrow at hk2
      obtain ⟨g1, hk3⟩ := grd_of hk2
      obtain ⟨g2, hk4⟩ := grd_of hk3
      obtain ⟨old, hold, hk5⟩ := obind_some.1 hk4
      obtain ⟨⟨j, hj⟩, hrow, hk6⟩ := obind_some.1 hk5
      obtain ⟨rfl, rfl⟩ := mkslo_some hk6
      have g1 : (l + m) * i.bytes ≤ 1099511627776 := by simpa [maxB] using g1
      have g2 : l + m ≤ 1099511627776 := by simpa [maxB] using g2
      obtain ⟨xs, p1, p2, p3⟩ := loadCells_pre (P := P) r.drew hold (x := x) (fun hne => hx (fun h0 => hne (by
        have : l = 0 := by omega
        show l * i.size = 0
        rw [this, Nat.zero_mul])))
      have p2 : xs.length = l * i.size := p2
      have p4 := p1 w.drew rfl (l * i.size) (Nat.le_refl _)
      rw [List.take_of_length_le (by omega)] at p4
      have := grow_ok (base := some ⟨μ.blk q, x, none⟩) (l := l) (c := c) (old := xs.toArray) (ty := ty) r ht hu hi hz hzl ha hle g1 g2 (by simp only [Builtin.firstCells]; exact p4) (by simpa using p2) hns (by simpa using p3.append hvs) hrow
      exact this
  | slo q o l s' c x hq hl ht' hx =>
    obtain ⟨hss, hk3⟩ := grd_of hk2
    have hss : i.size = s' := Nat.eq_of_beq_eq_true hss
    subst hss
    rw [bcase] at hk3
    split at hk3
    · rename_i hm
      have hm : m = 0 := Nat.eq_of_beq_eq_true hm
      cases hk3
      exact .stay r _ (none_ _ _ _ hm hl) (.slo q o l i.size c x hq hl ht' hx)
    · rename_i hm
      have hm : m ≠ 0 := fun h => hm (by rw [h]; rfl)
      exact open_ok r ht hu hi hz hzl hs1 ha hvs hlen hm hl ht' hx hk3
  | _ => cases hk2
theorem app_ok (r : R N G F w0 μ h w) {ts : Array TypeId} {t e ty u : TypeId} {d : TypeDesc} {i : TypeInfo} {z : AV} {str : Bool} (ht : ts[0]? = some t) (hu : P.underlying t = some (.slice e)) (hi : P.info? e = some i) (hz : tzero P e = some z) (hzl : z.cells.length = i.size)
    (hu1 : ts[1]? = some u) (hd : P.underlying u = some d) (hdn : ∀ k, d ≠ .int k) {vs : List AV} {v : AV} {args : Array Value} (hk0 : k_app e i.size i.bytes str vs h = some (v, h')) (hv0 : Vs N μ h.nx vs args.toList) :
    Does N G F w0 P (Builtin.append_ ts ty args) w μ h h' (Yv N h' v) := by
  obtain ⟨x, y, rfl, hk1⟩ := arg2_some hk0
  obtain ⟨X, Y, e1, hx, hy⟩ := hv0.two_inv
  have := args2 e1; subst this
  obtain ⟨⟨l, cs⟩, hsrc, hk2⟩ := obind_some.1 hk1
  have hlen : cs.length = l * i.size := by
    unfold aapp at hk2
    obtain ⟨hlen, _⟩ := grd_of hk2
    exact Nat.eq_of_beq_eq_true hlen
  have hstr : str = true → l ≠ 0 → i.size = 1 := fun hs hl => by
    obtain ⟨he, hst⟩ := src_some hsrc
    obtain ⟨n, m, rfl⟩ := hst.2 hs
    simp only [elems, Option.some.injEq, Prod.mk.injEq] at he
    obtain ⟨rfl, rfl⟩ := he
    rw [sbl_eq] at hlen
    simp [sb_length] at hlen
    have : n * 1 = n * i.size := by omega
    exact (Nat.eq_of_mul_eq_mul_left (Nat.pos_of_ne_zero hl) this).symm
  obtain ⟨s1, xs, s2, s3, s4⟩ := src_ok (P := P) r hsrc hstr hy
  have h4 : ∀ w' : World, w'.heap = w.heap → (Builtin.firstCells i.size l Y).run P w' = .ok xs.toArray w' := fun w' hw' => by
    have := s4 w' hw' l (Nat.le_refl _)
    rw [List.take_of_length_le (by omega)] at this
    exact this
  have hA : Adds P ts e i.size Y w l xs.toArray := ⟨u, d, hu1, hd, .inl ⟨hdn, s1, fun w' hw' => by
    rcases hw' with rfl | rfl
    · exact h4 _ rfl
    · exact h4 _ rfl⟩⟩
  exact aapp_ok r ht hu hi hz hzl hA (by simpa using s3) hx hk2
theorem appz_ok (r : R N G F w0 μ h w) {ts : Array TypeId} {t e ty u : TypeId} {k : IntKind} {i : TypeInfo} {z : AV} (ht : ts[0]? = some t) (hu : P.underlying t = some (.slice e)) (hi : P.info? e = some i) (hz : tzero P e = some z) (hzl : z.cells.length = i.size)
    (hu1 : ts[1]? = some u) (hd : P.underlying u = some (.int k)) {vs : List AV} {v : AV} {args : Array Value} (hk0 : k_appz e i.size i.bytes z.cells vs h = some (v, h')) (hv0 : Vs N μ h.nx vs args.toList) :
    Does N G F w0 P (Builtin.append_ ts ty args) w μ h h' (Yv N h' v) := by
  obtain ⟨x, y, rfl, hk1⟩ := arg2_some hk0
  obtain ⟨X, Y, e1, hx, hy⟩ := hv0.two_inv
  have := args2 e1; subst this
  obtain ⟨k', m, rfl, hk2⟩ := inat_some hk1
  have := hy.int_inv; subst this
  obtain ⟨g1, hk3⟩ := grd_of hk2
  obtain ⟨g2, hk4⟩ := grd_of hk3
  have g1 : m * i.bytes ≤ 1099511627776 := by simpa [maxB] using g1
  have g2 : m ≤ 1099511627776 := by simpa [maxB] using g2
  obtain ⟨zx, hz1, hz2⟩ := tzero_ok hz
  have hA : Adds P ts e i.size (.int k' (Int.ofNat m)) w m (if m * i.size = 0 then #[] else Builtin.zeroCells zx.cells m) := ⟨u, _, hu1, hd, .inr ⟨⟨k, rfl⟩, ⟨k', rfl⟩, g2, i, zx, hi, g1, hz1, rfl⟩⟩
  refine aapp_ok r ht hu hi hz hzl hA ?_ hx hk4
  by_cases h0 : m * i.size = 0
  · rw [if_pos h0]
    have hl : ((List.replicate m z.cells).flatten) = [] := List.length_eq_zero_iff.1 (by rw [flat_len, hzl]; exact h0)
    rw [hl]; exact Vs.nil
  · rw [if_neg h0]; exact zero_like (hz2 _ _ _) m
end
end Go.Vm
namespace Go.Vm
open Go

theorem next_empty : Extern.allNextRows.lookup "" = none := by kernel_rfl
theorem n_ib : Extern.allNextRows.lookup "internal/bytealg.IndexByte" = none := by kernel_rfl
theorem n_ibs : Extern.allNextRows.lookup "internal/bytealg.IndexByteString" = none := by kernel_rfl
theorem n_c : Extern.allNextRows.lookup "internal/bytealg.Count" = none := by kernel_rfl
theorem n_cs : Extern.allNextRows.lookup "internal/bytealg.CountString" = none := by kernel_rfl
theorem n_mc : Extern.allNextRows.lookup "maps.clone" = none := by kernel_rfl
theorem n_ne : Extern.allNextRows.lookup "internal/abi.NoEscape" = none := by kernel_rfl
theorem g_ib : Extern.allGenericRows.lookup "internal/bytealg.IndexByte" = none := by kernel_rfl
theorem g_ibs : Extern.allGenericRows.lookup "internal/bytealg.IndexByteString" = none := by kernel_rfl
theorem g_c : Extern.allGenericRows.lookup "internal/bytealg.Count" = none := by kernel_rfl
theorem g_cs : Extern.allGenericRows.lookup "internal/bytealg.CountString" = none := by kernel_rfl
theorem g_mc : Extern.allGenericRows.lookup "maps.clone" = none := by kernel_rfl
theorem g_ne : Extern.allGenericRows.lookup "internal/abi.NoEscape" = none := by kernel_rfl
theorem t_ib : Extern.allTypedRows.lookup "internal/bytealg.IndexByte" = none := by kernel_rfl
theorem t_ibs : Extern.allTypedRows.lookup "internal/bytealg.IndexByteString" = none := by kernel_rfl
theorem t_c : Extern.allTypedRows.lookup "internal/bytealg.Count" = none := by kernel_rfl
theorem t_cs : Extern.allTypedRows.lookup "internal/bytealg.CountString" = none := by kernel_rfl
theorem t_mc : Extern.allTypedRows.lookup "maps.clone" = none := by kernel_rfl
theorem t_ne : Extern.allTypedRows.lookup "internal/abi.NoEscape" = none := by kernel_rfl
theorem r_ib : Extern.allRows.lookup "internal/bytealg.IndexByte" = some Extern.BytealgIndexByte.indexByte := by kernel_rfl
theorem r_ibs : Extern.allRows.lookup "internal/bytealg.IndexByteString" = some Extern.BytealgIndexByte.indexByte := by kernel_rfl
theorem r_c : Extern.allRows.lookup "internal/bytealg.Count" = some Extern.BytealgCount.count := by kernel_rfl
theorem r_cs : Extern.allRows.lookup "internal/bytealg.CountString" = some Extern.BytealgCount.count := by kernel_rfl
theorem r_mc : Extern.allRows.lookup "maps.clone" = some Extern.MapsClone.clone := by kernel_rfl
theorem r_ne : Extern.allRows.lookup "internal/abi.NoEscape" = some Extern.AbiNoEscape.same := by kernel_rfl

section
variable {N : Names} {G : Tr (Tr AV)} {F : Nat → Option Obj} {w0 : World} {P : Program} {μ : Mp} {h h' : AH} {w : World} {n : Nat}

theorem run_loadBytes (b : Nat) : ∀ (bs : List UInt8) (o : Nat) (acc : ByteArray), (∀ j c, bs[j]? = some c → w.cell? ⟨b, o + j, none⟩ = some (.int .u8 c.toNat)) →
    (Extern.Bytes.loadBytes ⟨b, o, none⟩ bs.length acc).run P w = .ok ⟨acc.data ++ bs.toArray⟩ w
  | [], o, acc, _ => by simp [Extern.Bytes.loadBytes]
  | c :: bs, o, acc, h => by
    have h0 := h 0 c rfl
    rw [Nat.add_zero] at h0
    have ih := run_loadBytes b bs (o + 1) (acc.push c.toNat.toUInt8) (fun j d hd => by
      rw [Nat.add_assoc, Nat.add_comm 1 j]; exact h (j + 1) d (by simpa using hd))
    simp only [List.length_cons, Extern.Bytes.loadBytes, Sem.run_bind, run_load, h0, Result.andThen_ok]
    simp only [Int.toNat_natCast, addr_add]
    rw [ih]
    simp [ByteArray.push]
theorem bytesV_ok (r : R N G F w0 μ h w) {β : Type} {x : AV} {f : Nat → Nat → Option β} {q : β} (h0 : bytesV h x f = some q) {X : Value} (hv : V N μ h.nx x X) :
    ∃ l m b, m < 256 ^ l ∧ f l m = some q ∧ b.data.toList = sb l m ∧ (Extern.Bytes.bytesOf X).run P w = .ok b w := by
  unfold bytesV at h0
  split at h0
  · rename_i l m
    obtain ⟨s, rfl, h1, h2⟩ := hv.str_inv
    exact ⟨l, m, s, h1, h0, h2, rfl⟩
  · rename_i hns
    obtain ⟨⟨l, cs⟩, he, h1⟩ := obind_some.1 h0
    split at h1
    · rename_i l' m' hp
      obtain ⟨bs, e1, m, e2, e3, e4⟩ := pack_spec cs 0 0 _ [] hp (by decide) rfl
      rw [Nat.zero_add] at e2 e3 e4
      injection e2 with e5 e6
      subst e5; subst e6
      have e4 : sb bs.length m' = bs := by simpa using e4
      refine ⟨_, _, ⟨bs.toArray⟩, e3, h1, by rw [e4], ?_⟩
      have key : ∀ (i o l' c x : Nat), l' ≤ c → (c ≠ 0 → x = μ.bas i + o) → elemsC h i o l' 1 = some (l, cs) → (Extern.Bytes.bytesOf (.slice (some ⟨μ.blk i, x, none⟩) l' c)).run P w = .ok ⟨bs.toArray⟩ w := fun i o l' c x hl hx he => by
        obtain ⟨q, hq, he2⟩ := obind_some.1 he
        cases he2
        obtain ⟨p1, _, xs, p2, p3, _⟩ := r.cellsOf hq
        have e1 : cs = _ := e1
        rw [e1] at p2
        have := p2.bytes_inv
        subst this
        have hlen : bs.length = l := by rw [e1] at p1; simpa using p1
        show (Extern.Bytes.loadBytes ⟨μ.blk i, x, none⟩ l .empty).run P w = _
        rw [← hlen, run_loadBytes (μ.blk i) bs x .empty (fun j d hd => by
          have hjl : j < bs.length := (List.getElem?_eq_some_iff.1 hd).1
          have := p3 j (.int .u8 d.toNat) (by rw [List.getElem?_map, hd]; rfl)
          rw [addr_add] at this
          rw [hx (by omega)]; exact this)]
        have he0 : ByteArray.empty.data = #[] := rfl
        rw [he0]; simp
      cases hv with
      | nils =>
        cases he
        have : bs = [] := by simpa using e1.symm
        subst this; rfl
      | str l m s hm hs => exact absurd rfl (hns _ _)
      | slc i o l' c x hi hl hx => exact key i o l' c x hl hx he
      | slo i o l' s' c x hi hl ht hx =>
        obtain ⟨_, he2⟩ := grd_of he
        exact key i o l' c x hl hx he2
      | _ => cases he
    · cases h1
theorem ba_get {b : ByteArray} {l m : Nat} (hb : b.data.toList = sb l m) {i : Nat} (hi : i < l) : b[i]! = UInt8.ofNat (sidx l m i) := by
  have hz : b.size = l := by rw [ba_size, hb, sb_length]
  have h1 : b.data.toList[i]? = some (UInt8.ofNat (sidx l m i)) := by rw [hb]; exact sb_sidx l m i hi
  rw [Array.getElem?_toList] at h1
  have h2 : i < b.size := by omega
  rw [getElem!_pos b i h2]
  have h3 : b.data[i]? = some (b[i]'h2) := Array.getElem?_eq_getElem h2
  rw [h3] at h1
  exact Option.some.inj h1
theorem byte_eq {x c : Nat} (hx : x < 256) (hc : c ≤ 255) : (UInt8.ofNat x == UInt8.ofNat c) = Nat.beq x c := by
  rw [Bool.eq_iff_iff, beq_iff_eq]
  constructor
  · intro h
    have := congrArg UInt8.toNat h
    rw [UInt8.toNat_ofNat', UInt8.toNat_ofNat', Nat.mod_eq_of_lt hx, Nat.mod_eq_of_lt (by omega)] at this
    rw [this]; exact Nat.beq_refl _
  · intro h; rw [Nat.eq_of_beq_eq_true h]
theorem findB_eq {b : ByteArray} {l m c : Nat} (hb : b.data.toList = sb l m) (hc : c ≤ 255) : ∀ (f i : Nat), i + f = l → findB l m c f i = (List.range' i f).find? fun j => b[j]! == UInt8.ofNat c
  | 0, i, _ => rfl
  | f + 1, i, h => by
    rw [List.range'_succ, List.find?_cons]
    simp only [findB]
    rw [brec, ba_get hb (show i < l by omega), byte_eq (sidx_lt l m i) hc]
    cases hq : Nat.beq (sidx l m i) c with
    | true => rfl
    | false => exact findB_eq hb hc f (i + 1) (by omega)
theorem cntB_eq {b : ByteArray} {l m c : Nat} (hb : b.data.toList = sb l m) (hc : c ≤ 255) : ∀ (f i k : Nat), i + f = l → cntB l m c f i k = ((sb l m).drop i).foldl (fun n x => if x == UInt8.ofNat c then n + 1 else n) k
  | 0, i, k, h => by rw [List.drop_of_length_le (by rw [sb_length]; omega)]; rfl
  | f + 1, i, k, h => by
    have hi : i < (sb l m).length := by rw [sb_length]; omega
    rw [List.drop_eq_getElem_cons hi, List.foldl_cons]
    simp only [cntB]
    rw [brec, cntB_eq hb hc f (i + 1) _ (by omega)]
    have hg : (sb l m)[i] = UInt8.ofNat (sidx l m i) := by
      have := sb_sidx l m i (by omega)
      rw [List.getElem?_eq_getElem hi] at this
      exact Option.some.inj this
    rw [hg, byte_eq (sidx_lt l m i) hc]
theorem fold_cast (c : UInt8) : ∀ (l : List UInt8) (k : Nat), l.foldl (fun (n : Int) x => if x == c then n + 1 else n) (k : Int) = ((l.foldl (fun (n : Nat) x => if x == c then n + 1 else n) k : Nat) : Int)
  | [], k => rfl
  | b :: l, k => by
    rw [List.foldl_cons, List.foldl_cons]
    cases hb : b == c with
    | true => exact fold_cast c l (k + 1)
    | false => exact fold_cast c l k
theorem asU8_some {β : Type} {x : AV} {f : Nat → Option β} {q : β} (h0 : asU8 x f = some q) : ∃ c, x = .int .u8 (Int.ofNat c) ∧ c ≤ 255 ∧ f c = some q := by
  unfold asU8 at h0
  split at h0
  · rename_i i
    cases i with
    | ofNat c => obtain ⟨h1, h2⟩ := grd_of h0; exact ⟨c, rfl, by simpa using h1, h2⟩
    | negSucc c => cases h0
  · cases h0
theorem xib_ok (r : R N G F w0 μ h w) {vs : List AV} {v : AV} {args : Array Value} (hk0 : k_xib vs h = some (v, h')) (hv0 : Vs N μ h.nx vs args.toList) : h' = h ∧ ∃ x, (Extern.BytealgIndexByte.indexByte args).run P w = .ok x w ∧ V N μ h.nx v x := by
  obtain ⟨x, y, rfl, hk1⟩ := arg2_some hk0
  obtain ⟨X, Y, e1, hx, hy⟩ := hv0.two_inv
  have := args2 e1; subst this
  obtain ⟨c, rfl, hc, hk2⟩ := asU8_some hk1
  have := hy.int_inv; subst this
  obtain ⟨l, m, b, h1, h2, h3, h4⟩ := bytesV_ok (P := P) r hk2 hx
  have hz : b.size = l := by rw [ba_size, h3, sb_length]
  rw [findB_eq h3 hc l 0 (by omega), ← List.range_eq_range', ← hz] at h2
  have e8 : (Int.ofNat c).toNat.toUInt8 = UInt8.ofNat c := rfl
  unfold found at h2
  have hrun : (Extern.BytealgIndexByte.indexByte #[X, .int .u8 (Int.ofNat c)]).run P w = (match (List.range b.size).find? fun i => b[i]! == UInt8.ofNat c with
      | some i => pure (goInt i)
      | none => pure (goInt (-1)) : Sem Value).run P w := by
    change Sem.run P (do
      let b ← Extern.Bytes.bytesOf X
      let c ← Extern.Bytes.asByte (.int .u8 (Int.ofNat c))
      match (List.range b.size).find? fun i => b[i]! == c with
      | some i => pure (goInt i)
      | none => pure (goInt (-1))) w = _
    simp only [Sem.run_bind, h4, Result.andThen_ok, Extern.Bytes.asByte, Sem.run_pure, e8]
  rw [hrun]
  split at h2
  · rename_i i hf
    rw [nat_eq] at h2
    cases h2
    rw [hf]
    exact ⟨rfl, _, rfl, .int _ _⟩
  · rename_i hf
    cases h2
    rw [hf]
    exact ⟨rfl, _, rfl, .int _ _⟩
theorem xcnt_ok (r : R N G F w0 μ h w) {vs : List AV} {v : AV} {args : Array Value} (hk0 : k_xcnt vs h = some (v, h')) (hv0 : Vs N μ h.nx vs args.toList) : h' = h ∧ ∃ x, (Extern.BytealgCount.count args).run P w = .ok x w ∧ V N μ h.nx v x := by
  obtain ⟨x, y, rfl, hk1⟩ := arg2_some hk0
  obtain ⟨X, Y, e1, hx, hy⟩ := hv0.two_inv
  have := args2 e1; subst this
  obtain ⟨c, rfl, hc, hk2⟩ := asU8_some hk1
  have := hy.int_inv; subst this
  obtain ⟨l, m, b, h1, h2, h3, h4⟩ := bytesV_ok (P := P) r hk2 hx
  rw [nat_eq, cntB_eq h3 hc l 0 0 (by omega), List.drop_zero, ← h3] at h2
  cases h2
  have e8 : (Int.ofNat c).toNat.toUInt8 = UInt8.ofNat c := rfl
  refine ⟨rfl, .int .i64 (Int.ofNat (b.foldl (fun n x => if x == UInt8.ofNat c then n + 1 else n) (0 : Nat))), ?_, ?_⟩
  · change Sem.run P (do
      let b ← Extern.Bytes.bytesOf X
      let c ← Extern.Bytes.asByte (.int .u8 (Int.ofNat c))
      pure (goInt (b.foldl (fun n x => if x == c then n + 1 else n) (0 : Nat)))) w = _
    simp only [Sem.run_bind, h4, Result.andThen_ok, Extern.Bytes.asByte, Sem.run_pure, e8, goInt]
    rw [Lib.foldl_data, Lib.foldl_data, fold_cast]
    rfl
  · rw [Lib.foldl_data]
    exact .int _ _
theorem xcl_ok (r : R N G F w0 μ h w) {vs : List AV} {v : AV} {args : Array Value} (hk0 : k_xcl vs h = some (v, h')) (hv0 : Vs N μ h.nx vs args.toList) : Does N G F w0 P (Extern.MapsClone.clone args) w μ h h' (Yv N h' v) := by
  obtain ⟨x, rfl, hk1⟩ := arg1_some hk0
  obtain ⟨X, e1, hx⟩ := hv0.one_inv
  have := args1 e1; subst this
  split at hk1
  · rename_i t i
    obtain ⟨es, c, hg, hk2⟩ := mobj_some hk1
    obtain ⟨_, en, hb, hsz, hall⟩ := r.map hg
    obtain ⟨⟨j, hj⟩, hq, hk3⟩ := obind_some.1 hk2
    cases hk3
    cases hx with
    | ifc _ _ y hy =>
      cases hy with
      | map _ hi =>
        obtain ⟨rfl, h2, h3⟩ := r.alloc hq (.map en c) 0 0 rfl rfl fun h'' hnx _ => ⟨en, by rw [Mp.ext_blk]; show (w.heap.push _)[_]? = _; exact Array.getElem?_push_size, hsz, fun j e x he hx =>
          let ⟨a, b, d⟩ := hall j e x he hx; ⟨a.mono (μ.ext_agree _ _ _ _) (by omega), b.mono (μ.ext_agree _ _ _ _) (by omega), d⟩⟩
        refine ⟨.iface t (.map (some w.heap.size)), _, _, ?_, μ.ext_agree _ _ _ _, by show h.nx ≤ hj.nx; omega, h3, ?_⟩
        · change Sem.run P (do
            let .map entries clock ← getObj (μ.blk i) | stuck "maps.clone: a map expected"
            pure (Value.iface t (.map (some (← newObj (.map entries clock)))))) w = _
          simp only [Sem.run_bind, run_getObj hb (fun _ _ _ h => by cases h), Result.andThen_ok, run_newObj, Sem.run_pure]
          rfl
        · have := V.map (N := N) (μ := μ.ext h.nx w.heap.size 0 0) (n := hj.nx) h.nx (by omega)
          rw [Mp.ext_blk] at this
          exact .ifc t _ _ this
  · cases hk1
end
end Go.Vm
