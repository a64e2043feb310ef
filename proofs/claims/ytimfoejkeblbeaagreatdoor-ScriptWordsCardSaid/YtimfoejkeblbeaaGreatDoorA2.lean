/- The evaluator is right: operations, the first part. -/
import Derived.Test.YtimfoejkeblbeaaGreatDoorA1
import GoSem.Dispatch
import Derived.Laws.Strings
import Derived.Laws.IdiomStrings
set_option linter.all false
namespace Go.Vm
open Go

theorem run_underlying {P : Program} {t : TypeId} {d : TypeDesc} {w : World} (h : P.underlying t = some d) : (underlying t).run P w = .ok d w := by
  simp [underlying, h]
theorem run_typeInfo {P : Program} {t : TypeId} {i : TypeInfo} {w : World} (h : P.info? t = some i) : (typeInfo t).run P w = .ok i w := by
  simp [typeInfo, h]
theorem run_sizeOf {P : Program} {t : TypeId} {s : Nat} {w : World} (h : tsize P t = some s) : (sizeOf t).run P w = .ok s w := by
  unfold tsize at h
  cases hi : P.info? t with
  | none => simp [hi] at h
  | some i => simp [hi] at h; simp [sizeOf, run_typeInfo hi, h]
theorem run_zeroValue {P : Program} {t : TypeId} {z : Value} {w : World} (h : (P.info? t).bind (·.zero) = some z) : (zeroValue t).run P w = .ok z w := by
  cases hi : P.info? t with
  | none => simp [hi] at h
  | some i => simp [hi] at h; simp [zeroValue, run_typeInfo hi, h]
theorem run_isAgg {P : Program} {t : TypeId} {g : Option Nat} {w : World} (h : tagg P t = some g) : (isAgg t).run P w = .ok g.isSome w := by
  unfold tagg at h
  cases hu : P.underlying t with
  | none => simp [hu] at h
  | some d =>
    cases hs : tsize P t with
    | none => cases d <;> simp [hu, hs] at h
    | some s => cases d <;> simp [hu, hs] at h <;> subst h <;> simp [isAgg, run_underlying hu]
theorem tagg_size {P : Program} {t : TypeId} {s : Nat} (h : tagg P t = some (some s)) : tsize P t = some s := by
  unfold tagg at h
  cases hu : P.underlying t with
  | none => simp [hu] at h
  | some d =>
    cases hs : tsize P t with
    | none => cases d <;> simp [hu, hs] at h
    | some s' => cases d <;> simp [hu, hs] at h <;> rw [h]

theorem sb_packB (l : List UInt8) : packB l < 256 ^ l.length ∧ sb l.length (packB l) = l := by
  suffices ∀ (l : List UInt8) (k n : Nat) (pre : List UInt8), pre.length = k → n < 256 ^ k → sb k n = pre →
      (l.foldl (fun n b => n * 256 + b.toNat) n) < 256 ^ (k + l.length) ∧ sb (k + l.length) (l.foldl (fun n b => n * 256 + b.toNat) n) = pre ++ l by
    have := this l 0 0 [] rfl (by simp) rfl
    simpa [packB] using this
  intro l
  induction l with
  | nil => intro k n pre hl hn hs; simpa using ⟨hn, hs⟩
  | cons b l ih =>
    intro k n pre hl hn hs
    have hb := UInt8.toNat_lt b
    have h1 : n * 256 + b.toNat < 256 ^ (k + 1) := by rw [Nat.pow_succ]; omega
    have h2 : sb (k + 1) (n * 256 + b.toNat) = pre ++ [b] := by
      simp only [sb]
      rw [show (n * 256 + b.toNat) / 256 = n by omega, hs]
      congr 2
      rw [← ofNat_mod, show (n * 256 + b.toNat) % 256 = b.toNat by omega]; simp
    have := ih (k + 1) _ (pre ++ [b]) (by simp [hl]) h1 h2
    simpa [Nat.add_assoc, Nat.add_comm 1] using this

theorem cval1_ok {N : Names} {μ : Mp} {n : Nat} {x : Value} {v : AV} (h : cval1 x = some v) : V N μ n v x := by
  unfold cval1 at h
  split at h
  · cases h; exact .bool _
  · cases h; exact .int _ _
  · rename_i s
    cases h
    obtain ⟨h1, h2⟩ := sb_packB s.data.toList
    exact .str _ _ _ (by simpa using h1) (by simpa using h2.symm)
  · cases h; exact .nilp
  · cases h; exact .nils
  · cases h; exact .nilm
  · cases h; exact .nilf
  · cases h; exact .nili
  · cases h

theorem mapM_vs {N : Names} {μ : Mp} {n : Nat} : ∀ {l : List Value} {r : List AV}, l.mapM cval1 = some r → Vs N μ n r l
  | [], r, h => by simp at h; subst h; exact Vs.nil
  | x :: l, r, h => by
    rw [List.mapM_cons] at h
    cases h1 : cval1 x with
    | none => simp [h1] at h
    | some v =>
      cases h2 : l.mapM cval1 with
      | none => simp [h1, h2] at h
      | some vs => simp [h1, h2] at h; subst h; exact Vs.cons (cval1_ok h1) (mapM_vs h2)
theorem cval_ok {N : Names} {μ : Mp} {n : Nat} {x : Value} {v : AV} (h : cval x = some v) : V N μ n v x := by
  unfold cval at h
  split at h
  · rename_i cs
    cases hm : cs.toList.mapM cval1 with
    | none => simp [hm] at h
    | some r => simp [hm] at h; subst h; simpa using V.agg' (mapM_vs hm)
  · rename_i vs
    split at h
    · rename_i he; cases h
      have : vs = #[] := by simpa using he
      subst this; exact V.und
    · cases h
  · exact cval1_ok h
theorem cval1_one {x : Value} {v : AV} (h : cval1 x = some v) : v.one = true := by
  unfold cval1 at h
  split at h <;> cases h <;> rfl
theorem tzero_ok {P : Program} {t : TypeId} {v : AV} (h : tzero P t = some v) : ∃ z, (∀ w, (zeroValue t).run P w = .ok z w) ∧ ∀ (N : Names) (μ : Mp) (n : Nat), V N μ n v z := by
  unfold tzero at h
  cases hz : (P.info? t).bind (·.zero) with
  | none => simp [hz] at h
  | some z => simp [hz] at h; exact ⟨z, fun w => run_zeroValue hz, fun N μ n => cval_ok h⟩

theorem arg1_some {β : Type} {vs : List AV} {f : AV → Option β} {r : β} (h : arg1 vs f = some r) : ∃ x, vs = [x] ∧ f x = some r := by
  cases vs with
  | nil => cases h
  | cons x l => cases l with
    | nil => exact ⟨x, rfl, h⟩
    | cons y l => cases h
theorem arg2_some {β : Type} {vs : List AV} {f : AV → AV → Option β} {r : β} (h : arg2 vs f = some r) : ∃ x y, vs = [x, y] ∧ f x y = some r := by
  cases vs with
  | nil => cases h
  | cons x l => obtain ⟨y, rfl, h⟩ := arg1_some (vs := l) h; exact ⟨x, y, rfl, h⟩
theorem arg3_some {β : Type} {vs : List AV} {f : AV → AV → AV → Option β} {r : β} (h : arg3 vs f = some r) : ∃ x y z, vs = [x, y, z] ∧ f x y z = some r := by
  cases vs with
  | nil => cases h
  | cons x l => obtain ⟨y, z, rfl, h⟩ := arg2_some (vs := l) h; exact ⟨x, y, z, rfl, h⟩
theorem Vs.one_inv {N : Names} {μ : Mp} {n : Nat} {v : AV} {xs : List Value} (h : Vs N μ n [v] xs) : ∃ x, xs = [x] ∧ V N μ n v x := by
  obtain ⟨x, xs, rfl, hv, h⟩ := h.cons_inv; have := h.nil_inv; subst this; exact ⟨x, rfl, hv⟩
theorem Vs.two_inv {N : Names} {μ : Mp} {n : Nat} {v u : AV} {xs : List Value} (h : Vs N μ n [v, u] xs) : ∃ x y, xs = [x, y] ∧ V N μ n v x ∧ V N μ n u y := by
  obtain ⟨x, xs, rfl, hv, h⟩ := h.cons_inv; obtain ⟨y, rfl, hu⟩ := h.one_inv; exact ⟨x, y, rfl, hv, hu⟩
theorem Vs.three_inv {N : Names} {μ : Mp} {n : Nat} {v u t : AV} {xs : List Value} (h : Vs N μ n [v, u, t] xs) : ∃ x y z, xs = [x, y, z] ∧ V N μ n v x ∧ V N μ n u y ∧ V N μ n t z := by
  obtain ⟨x, xs, rfl, hv, h⟩ := h.cons_inv; obtain ⟨y, z, rfl, hu, ht⟩ := h.two_inv; exact ⟨x, y, z, rfl, hv, hu, ht⟩
theorem yld_some {h h' : AH} {x : Option AV} {v : AV} (hy : yld h x = some (v, h')) : x = some v ∧ h' = h := by
  unfold yld at hy; obtain ⟨a, h1, h2⟩ := obind_some.1 hy; cases h2; exact ⟨h1, rfl⟩
theorem yptr_some {q : Option (Nat × AH)} {h' : AH} {v : AV} (hy : yptr q = some (v, h')) : ∃ j, q = some (j, h') ∧ v = .ptr j 0 := by
  unfold yptr at hy; obtain ⟨a, h1, h2⟩ := obind_some.1 hy; cases h2; exact ⟨_, h1, rfl⟩
theorem yund_some {q : Option AH} {h' : AH} {v : AV} (hy : yund q = some (v, h')) : q = some h' ∧ v = .und := by
  unfold yund at hy; obtain ⟨a, h1, h2⟩ := obind_some.1 hy; cases h2; exact ⟨h1, rfl⟩
theorem asP_some {β : Type} {x : AV} {f : Nat → Nat → Option β} {r : β} (h : asP x f = some r) : ∃ i o, x = .ptr i o ∧ f i o = some r := by
  unfold asP at h; split at h
  · exact ⟨_, _, rfl, h⟩
  · cases h
theorem inat_some {β : Type} {x : AV} {f : Nat → Option β} {r : β} (h : inat x f = some r) : ∃ k n, x = .int k (Int.ofNat n) ∧ f n = some r := by
  unfold inat at h; split at h
  · rename_i k n; cases n with
    | ofNat n => exact ⟨k, n, rfl, h⟩
    | negSucc n => cases h
  · cases h
theorem V.ptr_inv {N : Names} {μ : Mp} {n i o : Nat} {x : Value} (h : V N μ n (.ptr i o) x) : i < n ∧ x = .pointer (some ⟨μ.blk i, μ.bas i + o, none⟩) := by
  cases h with | ptr _ _ hi => exact ⟨hi, rfl⟩
theorem V.int_inv {N : Names} {μ : Mp} {n : Nat} {k : IntKind} {i : Int} {x : Value} (h : V N μ n (.int k i) x) : x = .int k i := by cases h; rfl
theorem V.bool_inv {N : Names} {μ : Mp} {n : Nat} {b : Bool} {x : Value} (h : V N μ n (.bool b) x) : x = .bool b := by cases h; rfl
theorem V.str_inv {N : Names} {μ : Mp} {n l m : Nat} {x : Value} (h : V N μ n (.str l m) x) : ∃ s, x = .string s ∧ m < 256 ^ l ∧ s.data.toList = sb l m := by
  cases h with | str _ _ s hm hs => exact ⟨s, rfl, hm, hs⟩

section
variable (N : Names) (G : Tr (Tr AV)) (F : Nat → Option Obj) (w0 : World) (P : Program)
/-- A computation gives a result; the evaluator's heap goes along. -/
def Does {α : Type} (s : Sem α) (w : World) (μ : Mp) (h h' : AH) (Q : Mp → α → Prop) : Prop :=
  ∃ a w' μ', s.run P w = .ok a w' ∧ Mp.agree h.nx μ μ' ∧ h.nx ≤ h'.nx ∧ R N G F w0 μ' h' w' ∧ Q μ' a
end
section
variable {N : Names} {G : Tr (Tr AV)} {F : Nat → Option Obj} {w0 : World} {P : Program} {μ : Mp} {h h' : AH} {w : World}
theorem Does.stay {α : Type} {s : Sem α} {Q : Mp → α → Prop} (r : R N G F w0 μ h w) (a : α) (hs : s.run P w = .ok a w) (hq : Q μ a) : Does N G F w0 P s w μ h h Q :=
  ⟨a, w, μ, hs, .refl, Nat.le_refl _, r, hq⟩
theorem Does.bind {α β : Type} {s : Sem α} {f : α → Sem β} {Q : Mp → α → Prop} {Q' : Mp → β → Prop} (hd : Does N G F w0 P s w μ h h' Q)
    (hf : ∀ a w' μ', R N G F w0 μ' h' w' → Q μ' a → ∃ b, (f a).run P w' = .ok b w' ∧ Q' μ' b) : Does N G F w0 P (s >>= f) w μ h h' Q' := by
  obtain ⟨a, w', μ', h1, h2, h3, h4, h5⟩ := hd
  obtain ⟨b, h6, h7⟩ := hf a w' μ' h4 h5
  exact ⟨b, w', μ', by simp [h1, h6], h2, h3, h4, h7⟩
theorem Does.mono {α : Type} {s : Sem α} {Q Q' : Mp → α → Prop} (hd : Does N G F w0 P s w μ h h' Q) (hq : ∀ μ' a, Q μ' a → Q' μ' a) : Does N G F w0 P s w μ h h' Q' := by
  obtain ⟨a, w', μ', h1, h2, h3, h4, h5⟩ := hd
  exact ⟨a, w', μ', h1, h2, h3, h4, hq _ _ h5⟩

theorem ofList_spec {β : Type} {vs : List AV} {f : Tr AV → Nat → Option β} {r : β} (h : ofList vs f = some r) :
    ∃ c, (∀ j, c.get j = vs[j]?) ∧ (∀ v ∈ vs, v.one = true) ∧ f c vs.length = some r := by
  unfold ofList at h
  rw [nat_eq] at h
  obtain ⟨c, h1, h2, h3, h4⟩ := setAll_spec _ _ _ h
  refine ⟨c, fun j => ?_, h3, h4⟩
  rw [h1, Tr.get_e]
  by_cases hj : j < vs.length
  · rw [if_pos ⟨Nat.zero_le _, by omega⟩]; rfl
  · rw [if_neg (by omega), List.getElem?_eq_none (by omega)]

theorem Vs.ones {n : Nat} {vs : List AV} {xs : List Value} (hv : Vs N μ n vs xs) (h1 : ∀ v ∈ vs, v.one = true) : ∀ x ∈ xs, x.oneCell' = true := fun x hx => by
  obtain ⟨j, hj⟩ := List.getElem?_of_mem hx
  have hl : j < vs.length := by rw [hv.1]; exact (List.getElem?_eq_some_iff.1 hj).1
  rw [← (hv.2 j _ x (List.getElem?_eq_getElem hl) hj).one]
  exact h1 _ (List.getElem_mem _)

/-- A new row of cells: known ones ahead of others. -/
theorem R.row_ (r : R N G F w0 μ h w) {c : Tr AV} {n t fl fh : Nat} {j : Nat} (hn : hnew h (.cells c n t fl fh 0 false) = some (j, h')) (arr : Array Value) (lo hi : Nat)
    (hsz : n ≤ arr.size) (hfz : Fz fl fh 0 arr.size lo hi) (hc : ∀ j v, j < n → c.get j = some v → ∃ x, arr[j]? = some x ∧ V N μ h.nx v x ∧ x.oneCell' = true) :
    j = h.nx ∧ h'.nx = h.nx + 1 ∧ R N G F w0 (μ.ext h.nx w.heap.size 0 arr.size) h' (w.alloc (.cells arr t (lo, hi))) := by
  refine r.alloc hn _ _ _ rfl rfl fun h'' hnx _ => ?_
  refine ⟨arr, lo, hi, by rw [Mp.ext_blk]; show (w.heap.push _)[_]? = _; exact Array.getElem?_push_size, by rw [Mp.ext_tot], by rw [Mp.ext_bas]; omega, by rw [Mp.ext_bas]; exact hfz, fun _ j v hj hv => ?_⟩
  obtain ⟨x, hx, hvx, h1⟩ := hc j v hj hv
  exact ⟨x, by rw [Mp.ext_bas, Nat.zero_add]; exact hx, hvx.mono (μ.ext_agree h.nx w.heap.size 0 arr.size) (by rw [hnx]; exact Nat.le_succ _), h1⟩
theorem R.row (r : R N G F w0 μ h w) {t : Nat} {vs : List AV} {j : Nat} (hq : hrow h t vs = some (j, h')) {xs : List Value} (hv : Vs N μ h.nx vs xs) (arr : Array Value)
    (harr : ∀ (j : Nat) (x : Value), xs[j]? = some x → arr[j]? = some x) (hs : xs.length ≤ arr.size) :
    j = h.nx ∧ h'.nx = h.nx + 1 ∧ R N G F w0 (μ.ext h.nx w.heap.size 0 arr.size) h' (w.alloc (.cells arr t)) := by
  unfold hrow at hq
  obtain ⟨c, h1, h2, h3⟩ := ofList_spec hq
  refine r.row_ h3 arr 0 0 (by rw [hv.1]; exact hs) ⟨fun _ => rfl, fun h => absurd h (by omega), fun h => absurd h (by omega)⟩ fun j v hj hjv => ?_
  rw [h1] at hjv
  obtain ⟨x, hx, hvx⟩ := hv.get hjv
  exact ⟨x, harr j x hx, hvx, Vs.ones hv h2 x (List.mem_of_getElem? hx)⟩
theorem V.newptr (w : World) (t : Nat) : V N (μ.ext h.nx w.heap.size 0 t) (h.nx + 1) (.ptr h.nx 0) (.pointer (some ⟨w.heap.size, 0, none⟩)) := by
  have := V.ptr (N := N) (μ := μ.ext h.nx w.heap.size 0 t) (n := h.nx + 1) h.nx 0 (Nat.lt_succ_self _)
  rwa [Mp.ext_blk, Mp.ext_bas] at this

theorem newRow_ok (r : R N G F w0 μ h w) {t : Nat} {vs : List AV} {j : Nat} (hq : hrow h t vs = some (j, h')) (arr : Array Value) (hv : Vs N μ h.nx vs arr.toList) :
    Does N G F w0 P (newRow t arr) w μ h h' (fun μ' a => V N μ' h'.nx (.ptr j 0) (.pointer (some a)) ∧ j < h'.nx ∧ a = ⟨μ'.blk j, 0, none⟩ ∧ μ'.bas j = 0 ∧ μ'.tot j = arr.size) := by
  obtain ⟨rfl, h2, h3⟩ := r.row hq hv arr (fun j x hx => by simpa using hx) (by simp)
  refine ⟨⟨w.heap.size, 0, none⟩, _, _, by simp [newRow], μ.ext_agree _ _ _ _, by omega, h3, ?_, by omega, ?_, ?_, ?_⟩
  · rw [h2]; exact V.newptr w arr.size
  · rw [Mp.ext_blk]
  · rw [Mp.ext_bas]
  · rw [Mp.ext_tot]

/-- What is yielded: an operation's value. -/
def Yv (N : Names) (h' : AH) (v : AV) : Mp → Value → Prop := fun μ' x => V N μ' h'.nx v x

theorem alloc_ok (r : R N G F w0 μ h w) {e : TypeId} {z v : AV} (hz : tzero P e = some z) {vs : List AV} (hk : k_alloc e z.cells vs h = some (v, h')) :
    Does N G F w0 P (Instr.alloc e true (.tuple #[])) w μ h h' (Yv N h' v) := by
  obtain ⟨j, hq, rfl⟩ := yptr_some hk
  obtain ⟨zx, hz1, hz2⟩ := tzero_ok hz
  obtain ⟨a, w', μ', h1, h2, h3, h4, h5⟩ := newRow_ok (P := P) r hq zx.cells ((hz2 N μ h.nx).cells)
  exact ⟨.pointer (some a), w', μ', by simp [Instr.alloc, hz1, newVar, h1], h2, h3, h4, h5.1⟩
theorem box_ok (r : R N G F w0 μ h w) {e : TypeId} {v : AV} {vs : List AV} {x : Value} (hv : Vs N μ h.nx vs [x]) (hk : k_box e vs h = some (v, h')) :
    Does N G F w0 P (Instr.box e x) w μ h h' (Yv N h' v) := by
  obtain ⟨y, rfl, hk⟩ := arg1_some hk
  obtain ⟨j, hq, rfl⟩ := yptr_some hk
  obtain ⟨_, e1, hv⟩ := hv.one_inv; cases e1
  obtain ⟨a, w', μ', h1, h2, h3, h4, h5⟩ := newRow_ok (P := P) r hq x.cells hv.cells
  exact ⟨.pointer (some a), w', μ', by simp [Instr.box, newVar, h1], h2, h3, h4, h5.1⟩

theorem cell_of_load (r : R N G F w0 μ h w) {i o : Nat} {v : AV} (hl : hload h i o = some v) : ∃ x, w.cell? ⟨μ.blk i, μ.bas i + o, none⟩ = some x ∧ V N μ h.nx v x := by
  obtain ⟨_, x, h1, h2, _⟩ := r.load hl; exact ⟨x, h1, h2⟩
theorem loadCells_pre (r : R N G F w0 μ h w) {i o m : Nat} {l : List AV} (hl : hloads h i o m [] = some l) {x : Nat} (hx : m ≠ 0 → x = μ.bas i + o) :
    ∃ xs : List Value, (∀ w' : World, w'.heap = w.heap → ∀ k, k ≤ m → (loadCells ⟨μ.blk i, x, none⟩ k).run P w' = .ok (xs.take k).toArray w') ∧ xs.length = m ∧ Vs N μ h.nx l xs := by
  obtain ⟨h1, _, xs, h2, h3, _⟩ := r.cellsOf hl
  have hlen : xs.length = m := by rw [← h2.1]; exact h1
  refine ⟨xs, fun w' hw' k hk => ?_, hlen, h2⟩
  by_cases hk0 : k = 0
  · subst hk0; rfl
  · rw [hx (by omega)]
    have := run_loadCells_list (P := P) w' ⟨μ.blk i, μ.bas i + o, none⟩ (xs.take k) (fun j v hj => by
      rw [List.getElem?_take] at hj
      split at hj
      · have := h3 j v hj
        simp only [World.cell?, hw'] at this ⊢
        exact this
      · cases hj)
    rw [List.length_take, Nat.min_eq_left (by omega)] at this
    exact this
theorem loadCells_ok (r : R N G F w0 μ h w) {i o m : Nat} {l : List AV} (hl : hloads h i o m [] = some l) {x : Nat} (hx : m ≠ 0 → x = μ.bas i + o) :
    ∃ xs : List Value, (loadCells ⟨μ.blk i, x, none⟩ m).run P w = .ok xs.toArray w ∧ Vs N μ h.nx l xs := by
  obtain ⟨xs, h1, h2, h3⟩ := loadCells_pre (P := P) r hl hx
  have := h1 w rfl m (Nat.le_refl _)
  rw [List.take_of_length_le (by omega)] at this
  exact ⟨xs, this, h3⟩
theorem ld_ok (C : Cfg) (r : R N C.glb F w0 μ h w) {t : TypeId} {g : Option Nat} (hg : tagg P t = some g) {v : AV} {vs : List AV} {x : Value} (hv : Vs N μ h.nx vs [x])
    (hk : (Option.casesOn g (k_ld C) k_ldn : KF) vs h = some (v, h')) :
    Does N C.glb F w0 P (Instr.loadAt t x) w μ h h' (Yv N h' v) := by
  cases g with
  | none =>
    obtain ⟨y, rfl, hk⟩ := arg1_some hk
    obtain ⟨_, e1, hv⟩ := hv.one_inv; cases e1
    cases hv with
    | ptr i o hi =>
      obtain ⟨hl, rfl⟩ := yld_some hk
      obtain ⟨y, hc, hvy⟩ := cell_of_load r hl
      exact .stay r y (by simp [Instr.loadAt, Instr.sureAddr, loadVar, run_isAgg hg, hc]) hvy
    | glob g o =>
      obtain ⟨hl, rfl⟩ := yld_some hk
      obtain ⟨c, hc, hl⟩ := obind_some.1 hl
      obtain ⟨y, hc, hvy, _⟩ := r.glb g c o v hc hl
      exact .stay r y (by simp [Instr.loadAt, Instr.sureAddr, loadVar, run_isAgg hg, hc]) (hvy.mono (fun i hi => absurd hi (Nat.not_lt_zero _)) (Nat.zero_le _))
    | _ => cases hk
  | some n =>
    obtain ⟨y, rfl, hk⟩ := arg1_some hk
    obtain ⟨_, e1, hv⟩ := hv.one_inv; cases e1
    obtain ⟨i, o, rfl, hk⟩ := asP_some hk
    obtain ⟨hi, rfl⟩ := hv.ptr_inv
    obtain ⟨l, hl, hk⟩ := obind_some.1 hk
    cases hk
    obtain ⟨xs, h1, h2⟩ := loadCells_ok (P := P) r hl (x := μ.bas i + o) (fun _ => rfl)
    exact .stay r (.agg xs.toArray) (by simp [Instr.loadAt, Instr.sureAddr, loadVar, run_isAgg hg, run_sizeOf (tagg_size hg), h1]) (V.agg' h2)
theorem st_ok (r : R N G F w0 μ h w) {t : TypeId} {s : Nat} (hs : tsize P t = some s) {v : AV} {vs : List AV} {a x : Value} (hv : Vs N μ h.nx vs [a, x])
    (hk : k_st s vs h = some (v, h')) : Does N G F w0 P (Instr.storeAt t a x) w μ h h' (fun _ _ => v = .und) := by
  obtain ⟨p, y, rfl, hk⟩ := arg2_some hk
  obtain ⟨_, _, e1, hp, hy⟩ := hv.two_inv; cases e1
  obtain ⟨i, o, rfl, hk⟩ := asP_some hk
  obtain ⟨hi, rfl⟩ := hp.ptr_inv
  obtain ⟨hlen, hk⟩ := grd_some.1 hk
  obtain ⟨hst, rfl⟩ := yund_some hk
  obtain ⟨w', h1, h2, h3⟩ := r.store P hst hy.cells (x := μ.bas i + o) (fun _ => rfl)
  have hlen : x.cells.size = s := by have := hy.cells.1; simp at this hlen; omega
  exact ⟨(), w', μ, by simp [Instr.storeAt, Instr.sureAddr, storeVar, run_sizeOf hs, hlen, h1], .refl, by omega, h2, rfl⟩
end
end Go.Vm
namespace Go.Vm
open Go

theorem brec {β : Type} (b : Bool) (x y : β) : (Bool.rec (motive := fun _ => β) x y b : β) = if b = true then y else x := by cases b <;> rfl
theorem mkN_some {k : IntKind} {n : Nat} {v : AV} (h : mkN k n = some v) : v = .int k (Int.ofNat n) := by
  unfold mkN at h; rw [nat_eq] at h; cases h; rfl
theorem mkI_some {k : IntKind} {x : Int} {v : AV} (h : mkI k x = some v) : v = .int k (k.wrap x) := by
  unfold mkI at h; rw [int_eq] at h; cases h; rfl
theorem mkB_some {b : Bool} {v : AV} (h : mkB b = some v) : v = .bool b := by
  unfold mkB at h; rw [bool_eq] at h; cases h; rfl
theorem imax_wrap {k : IntKind} {n : Nat} (h : n ≤ imax k) : k.wrap (Int.ofNat n) = Int.ofNat n := by
  have h2 : Int.ofNat n = (n : Int) := rfl
  rw [h2]
  cases k <;> simp [IntKind.wrap, IntKind.bits, IntKind.signed, imax] at h ⊢ <;> (first | omega | skip)
theorem wrapN_some {k : IntKind} {n : Nat} {v : AV} (h : wrapN k n = some v) : v = .int k (k.wrap (Int.ofNat n)) := by
  unfold wrapN at h; rw [bcase] at h
  split at h
  · rename_i hn
    rw [mkN_some h, imax_wrap (by simpa using hn)]
  · exact mkI_some h
theorem wrapI_some {k : IntKind} {n : Int} {v : AV} (h : wrapI k n = some v) : v = .int k (k.wrap n) := by
  unfold wrapI at h
  cases n with
  | ofNat n => exact wrapN_some h
  | negSucc n => exact mkI_some h
theorem kbeq_iff {a b : IntKind} : kbeq a b = true ↔ a = b := by cases a <;> cases b <;> simp [kbeq]

theorem i2_add {k : IntKind} {x y : Int} {v : AV} (h : iadd k x y = some v) : v = .int k (k.wrap (x + y)) := by
  unfold iadd i2 at h
  cases x <;> cases y <;> first | exact mkI_some h | (rw [wrapN_some h]; rfl)
theorem i2_sub {k : IntKind} {x y : Int} {v : AV} (h : isub k x y = some v) : v = .int k (k.wrap (x - y)) := by
  unfold isub i2 at h
  cases x with
  | ofNat a => cases y with
    | ofNat b =>
      dsimp only at h
      rw [brec] at h
      split at h
      · rename_i hle
        rw [wrapN_some h]
        congr 2
        have : b ≤ a := by simpa using hle
        exact Int.ofNat_sub this
      · exact mkI_some h
    | negSucc b => exact mkI_some h
  | negSucc a => exact mkI_some h
theorem i2_mul {k : IntKind} {x y : Int} {v : AV} (h : imul k x y = some v) : v = .int k (k.wrap (x * y)) := by
  unfold imul i2 at h
  cases x <;> cases y <;> first | exact mkI_some h | (rw [wrapN_some h]; rfl)
theorem i2_quo {k : IntKind} {x y : Int} {v : AV} (h : iquo k x y = some v) : y ≠ 0 ∧ v = .int k (k.wrap (x.tdiv y)) := by
  unfold iquo i2 at h
  have key : ∀ x y : Int, (Bool.casesOn (decide (y = 0)) (mkI k (x.tdiv y)) none : Option AV) = some v → y ≠ 0 ∧ v = .int k (k.wrap (x.tdiv y)) := fun x y h => by
    rw [bcase] at h
    split at h
    · cases h
    · rename_i h0; exact ⟨by simpa using h0, mkI_some h⟩
  cases x with
  | ofNat a => cases y with
    | ofNat b =>
      dsimp only at h
      rw [brec] at h
      split at h
      · cases h
      · rename_i h0
        refine ⟨fun hb => h0 ?_, by rw [wrapN_some h]; rfl⟩
        have : b = 0 := Int.ofNat.inj hb
        subst this; rfl
    | negSucc b => exact key _ _ h
  | negSucc a => exact key _ _ h
theorem i2_rem {k : IntKind} {x y : Int} {v : AV} (h : irem k x y = some v) : y ≠ 0 ∧ v = .int k (x.tmod y) := by
  unfold irem i2 at h
  have key : ∀ x y : Int, (Bool.casesOn (decide (y = 0)) (int! (x.tmod y) fun r => some (.int k r)) none : Option AV) = some v → y ≠ 0 ∧ v = .int k (x.tmod y) := fun x y h => by
    rw [bcase] at h
    split at h
    · cases h
    · rename_i h0; rw [int_eq] at h; cases h; exact ⟨by simpa using h0, rfl⟩
  cases x with
  | ofNat a => cases y with
    | ofNat b =>
      dsimp only at h
      rw [brec] at h
      split at h
      · cases h
      · rename_i h0
        refine ⟨fun hb => h0 ?_, by rw [mkN_some h]; rfl⟩
        have : b = 0 := Int.ofNat.inj hb
        subst this; rfl
    | negSucc b => exact key _ _ h
  | negSucc a => exact key _ _ h
theorem ieq_some {x y : Int} {b : Bool} (h : ieq x y = some b) : b = (x == y) := by
  unfold ieq i2 at h
  cases x with
  | ofNat a => cases y with
    | ofNat c =>
      cases h
      rw [Bool.eq_iff_iff]
      constructor
      · intro h; have := Nat.eq_of_beq_eq_true h; subst this; simp
      · intro h; have := Int.ofNat.inj (beq_iff_eq.1 h); subst this; exact Nat.beq_refl a
    | negSucc c => cases h; simp
  | negSucc a => cases h; rfl
theorem ile_some {x y : Int} {b : Bool} (h : ile x y = some b) : b = decide (x ≤ y) := by
  unfold ile i2 at h
  cases x with
  | ofNat a => cases y with
    | ofNat c =>
      cases h
      rw [Bool.eq_iff_iff]
      simp
    | negSucc c => cases h; rfl
  | negSucc a => cases h; rfl
theorem bnot_some {x : Option Bool} {b : Bool} (h : bnot x = some b) : x = some (!b) := by
  unfold bnot at h
  obtain ⟨c, rfl, h⟩ := obind_some.1 h
  cases h; cases c <;> rfl

theorem bit2_some {k : IntKind} {f : Nat → Nat → Nat} {x y : Int} {v : AV} (h : bit2 k f x y = some v) : v = .int k (k.wrap (Int.ofNat (f (x % (2 : Int) ^ k.bits).toNat (y % (2 : Int) ^ k.bits).toNat))) := by
  unfold bit2 at h; exact mkI_some h
theorem imax_pow (k : IntKind) : ∃ j, j ≤ k.bits ∧ imax k + 1 = 2 ^ j := by
  cases k
  · exact ⟨7, by decide, by decide⟩
  · exact ⟨15, by decide, by decide⟩
  · exact ⟨31, by decide, by decide⟩
  · exact ⟨63, by decide, by decide⟩
  · exact ⟨8, by decide, by decide⟩
  · exact ⟨16, by decide, by decide⟩
  · exact ⟨32, by decide, by decide⟩
  · exact ⟨64, by decide, by decide⟩
theorem ibit_some {k : IntKind} {f : Nat → Nat → Nat} (hf : ∀ a b j, a < 2 ^ j → b < 2 ^ j → f a b < 2 ^ j) {x y : Int} {v : AV} (h : ibit f k x y = some v) :
    v = .int k (k.wrap (Int.ofNat (f (x % (2 : Int) ^ k.bits).toNat (y % (2 : Int) ^ k.bits).toNat))) := by
  unfold ibit i2 at h
  cases x with
  | ofNat a => cases y with
    | ofNat b =>
      dsimp only at h
      rw [brec] at h
      split at h
      · rename_i ha
        rw [brec] at h
        split at h
        · rename_i hb
          obtain ⟨j, hj, hp⟩ := imax_pow k
          have ha' : a < 2 ^ j := by have : a ≤ imax k := by simpa using ha
                                     omega
          have hb' : b < 2 ^ j := by have : b ≤ imax k := by simpa using hb
                                     omega
          have hle : (2 : Nat) ^ j ≤ 2 ^ k.bits := Nat.pow_le_pow_right (by decide) hj
          have e : ∀ c : Nat, c < 2 ^ j → (Int.ofNat c % (2 : Int) ^ k.bits).toNat = c := fun c hc => by
            have : (Int.ofNat c % (2 : Int) ^ k.bits) = ((c % 2 ^ k.bits : Nat) : Int) := by push_cast; rfl
            rw [this, Nat.mod_eq_of_lt (by omega)]; rfl
          rw [mkN_some h, e a ha', e b hb', imax_wrap]
          have := hf a b j ha' hb'
          omega
        · exact bit2_some h
      · exact bit2_some h
    | negSucc b => exact bit2_some h
  | negSucc a => exact bit2_some h
end Go.Vm
namespace Go.Vm
open Go

/-! Packed strings against each other -/
theorem packB_sb (l n : Nat) (h : n < 256 ^ l) : packB (sb l n) = n := by
  have h1 := sb_packB (sb l n)
  rw [sb_length] at h1
  exact sb_inj l _ _ h1.1 h h1.2
theorem packB_cons (b : UInt8) (l : List UInt8) : packB (b :: l) = b.toNat * 256 ^ l.length + packB l := by
  suffices ∀ (l : List UInt8) (n : Nat), l.foldl (fun n b => n * 256 + b.toNat) n = n * 256 ^ l.length + packB l by
    have := this l b.toNat
    simpa [packB] using this
  intro l
  induction l with
  | nil => intro n; simp [packB]
  | cons c l ih =>
    intro n
    have h1 := ih (n * 256 + c.toNat)
    have h2 := ih c.toNat
    simp only [List.foldl_cons, List.length_cons, packB, Nat.zero_mul, Nat.zero_add] at *
    rw [h1, h2, Nat.pow_succ, Nat.add_mul, Nat.mul_assoc, Nat.mul_comm 256]
    omega
theorem less_packB : ∀ (x y : List UInt8), Op.bytesLess x y = if packB x * 256 ^ y.length = packB y * 256 ^ x.length then decide (x.length < y.length) else decide (packB x * 256 ^ y.length < packB y * 256 ^ x.length)
  | x, [] => by
    have : packB ([] : List UInt8) = 0 := rfl
    cases x with
    | nil => rfl
    | cons a x => simp [Op.bytesLess, this]
  | [], b :: y => by
    have h0 : packB ([] : List UInt8) = 0 := rfl
    simp [Op.bytesLess, h0]
    omega
  | a :: x, b :: y => by
    have ih := less_packB x y
    have hx := (sb_packB x).1
    have hy := (sb_packB y).1
    simp only [Op.bytesLess, packB_cons, List.length_cons, Nat.pow_succ]
    have hab : a < b ↔ a.toNat < b.toNat := UInt8.lt_iff_toNat_lt
    have heq : a = b ↔ a.toNat = b.toNat := ⟨fun h => by rw [h], UInt8.toNat.inj⟩
    generalize a.toNat = p at *
    generalize b.toNat = q at *
    generalize hX : (256 : Nat) ^ x.length = X at *
    generalize hY : (256 : Nat) ^ y.length = Y at *
    generalize packB x = u at *
    generalize packB y = v at *
    have e1 : (p * X + u) * (Y * 256) = (p * (X * Y) + u * Y) * 256 := by
      rw [Nat.add_mul, Nat.add_mul]; ac_rfl
    have e2 : (q * Y + v) * (X * 256) = (q * (X * Y) + v * X) * 256 := by
      rw [Nat.add_mul, Nat.add_mul]; ac_rfl
    rw [e1, e2]
    have b1 : u * Y < X * Y := Nat.mul_lt_mul_of_pos_right hx (by rw [← hY]; exact Nat.pow_pos (by decide))
    have b2 : v * X < X * Y := by rw [Nat.mul_comm v]; exact Nat.mul_lt_mul_of_pos_left hy (by rw [← hX]; exact Nat.pow_pos (by decide))
    generalize X * Y = Z at *
    rw [ih]
    generalize u * Y = s at *
    generalize v * X = t at *
    rcases Nat.lt_trichotomy p q with hlt | he | hgt
    · have h1 : p * Z + Z ≤ q * Z := by
        have := Nat.mul_le_mul_right Z (show p + 1 ≤ q from hlt)
        rwa [Nat.add_mul, Nat.one_mul] at this
      have h2 : a < b := hab.2 hlt
      have h3 : ¬ (p * Z + s) * 256 = (q * Z + t) * 256 := by omega
      have h4 : (p * Z + s) * 256 < (q * Z + t) * 256 := by omega
      simp [h2, h3, h4]
    · subst he
      have h1 : a = b := heq.2 rfl
      have h2 : ¬ a < b := fun h => by have := hab.1 h; omega
      have h3 : ((p * Z + s) * 256 = (p * Z + t) * 256) ↔ s = t := by omega
      have h4 : ((p * Z + s) * 256 < (p * Z + t) * 256) ↔ s < t := by omega
      simp only [h3, h4]
      simp [h1]
    · have h1 : q * Z + Z ≤ p * Z := by
        have := Nat.mul_le_mul_right Z (show q + 1 ≤ p from hgt)
        rwa [Nat.add_mul, Nat.one_mul] at this
      have h2 : ¬ a < b := fun h => by have := hab.1 h; omega
      have h3 : ¬ a = b := fun h => by have := heq.1 h; omega
      have h4 : ¬ (p * Z + s) * 256 = (q * Z + t) * 256 := by omega
      have h5 : ¬ (p * Z + s) * 256 < (q * Z + t) * 256 := by omega
      simp [h2, h3, h4, h5]
theorem slt_eq {l n l' n' : Nat} (h : n < 256 ^ l) (h' : n' < 256 ^ l') : slt' l n l' n' = Op.bytesLess (sb l n) (sb l' n') := by
  rw [less_packB, packB_sb l n h, packB_sb l' n' h', sb_length, sb_length]
  have e : ∀ a b : Nat, Nat.shiftLeft a (Nat.mul 8 b) = a * 256 ^ b := fun a b => by
    show a <<< (8 * b) = _
    rw [Nat.shiftLeft_eq, show (256 : Nat) = 2 ^ 8 by rfl, ← Nat.pow_mul]
  unfold slt'
  simp only [e, bcase]
  by_cases he : n * 256 ^ l' = n' * 256 ^ l
  · have : Nat.beq (n * 256 ^ l') (n' * 256 ^ l) = true := by rw [he]; exact Nat.beq_refl _
    rw [if_pos this, if_pos he, Bool.eq_iff_iff]; simp; omega
  · have : ¬ Nat.beq (n * 256 ^ l') (n' * 256 ^ l) = true := fun h => he (Nat.eq_of_beq_eq_true h)
    rw [if_neg this, if_neg he, Bool.eq_iff_iff]; simp; omega
theorem seq_eq {l n l' n' : Nat} (h : n < 256 ^ l) (h' : n' < 256 ^ l') : seq' l n l' n' = (sb l n == sb l' n') := by
  unfold seq'
  rw [bcase, Bool.eq_iff_iff, beq_iff_eq]
  by_cases hl : l = l'
  · subst hl
    rw [if_pos (Nat.beq_refl _)]
    exact ⟨fun hn => by rw [Nat.eq_of_beq_eq_true hn], fun hs => by rw [sb_inj l n n' h h' hs]; exact Nat.beq_refl _⟩
  · rw [if_neg (fun hb => hl (Nat.eq_of_beq_eq_true hb))]
    constructor
    · intro hf; cases hf
    · intro hs
      have h3 := congrArg List.length hs
      rw [sb_length, sb_length] at h3
      exact absurd h3 hl

/-! The operators -/
section
variable {N : Names} {μ : Mp} {n : Nat} {P : Program}

theorem str_some {l n : Nat} {v : AV} (h : str! l n some = some v) : v = .str l n := by
  unfold str! at h; rw [nat_eq, nat_eq] at h; cases h; rfl
theorem grd_of {β : Type} {b : Bool} {x : Option β} {r : β} (h : grd b x = some r) : b = true ∧ x = some r := grd_some.1 h

theorem ba_size (s : ByteArray) : s.size = s.data.toList.length := by cases s; rfl
theorem sbin_ok {op : BinOp} {l m l' m' : Nat} {v : AV} (h : sbin op l m l' m' = some v) {s t : ByteArray} (h1 : m < 256 ^ l) (h2 : s.data.toList = sb l m) (h3 : m' < 256 ^ l') (h4 : t.data.toList = sb l' m')
    (w : World) : ∃ x, (Op.stringOp op s t).run P w = .ok x w ∧ V N μ n v x := by
  have e1 : (s.toList == t.toList) = seq' l m l' m' := by rw [ByteArray.toList_eq, ByteArray.toList_eq, h2, h4, seq_eq h1 h3]
  have e2 : Op.bytesLess s.toList t.toList = slt' l m l' m' := by rw [ByteArray.toList_eq, ByteArray.toList_eq, h2, h4, slt_eq h1 h3]
  unfold sbin at h
  cases op <;> dsimp only at h <;> first
    | (rw [mkB_some h]; refine ⟨_, ?_, .bool _⟩; simp only [Op.stringOp, e1, e2]; rfl)
    | cases h
    | skip
  obtain ⟨hb, h⟩ := grd_of h
  have hv := str_some h
  subst hv
  have z1 : s.size = l := by rw [ba_size, h2, sb_length]
  have z2 : t.size = l' := by rw [ba_size, h4, sb_length]
  have hle : l + l' ≤ 1099511627776 := by simpa using hb
  refine ⟨.string (s ++ t), ?_, .str _ _ _ (scat_lt l m l' m' h1 h3) ?_⟩
  · simp only [Op.stringOp]
    rw [if_neg ?_]
    · rfl
    · rw [z1, z2]
      have : IntKind.i64.max = 9223372036854775807 := by decide
      rw [this]; omega
  · show _ = sb (l + l') (scat m l' m')
    rw [scat_eq, sb_append _ _ _ _ h3, ← h2, ← h4]
    simp
theorem int_kinds {k k' : IntKind} {o : Option AV} {v : AV} (h : (Bool.casesOn (kbeq k k') none o : Option AV) = some v) : k = k' ∧ o = some v := by
  rw [bcase] at h
  split at h
  · rename_i hk; exact ⟨kbeq_iff.1 hk, h⟩
  · cases h
theorem isame_some {k k' : IntKind} {a b : Int} {c : Bool} (h : isame k k' a b = some c) : k = k' ∧ c = (a == b) := by
  unfold isame at h
  rw [bcase] at h
  split at h
  · rename_i hk; exact ⟨kbeq_iff.1 hk, ieq_some h⟩
  · cases h
theorem ibin_ok {op : BinOp} {k : IntKind} {x y : Int} {v : AV} (h : ibin op k x y = some v) (t : TypeId) (w : World) : ∃ z, (binOp op t (.int k x) (.int k y)).run P w = .ok z w ∧ V N μ n v z := by
  unfold ibin at h
  have e : ∀ c : Int, BitVec.toNat (BitVec.ofInt k.bits c) = (c % (2 : Int) ^ k.bits).toNat := fun c => by
    rw [BitVec.toNat_ofInt]; push_cast; rfl
  cases op <;> dsimp only at h
  case add => rw [i2_add h]; exact ⟨_, by simp [binOp, Op.intArith], .int _ _⟩
  case sub => rw [i2_sub h]; exact ⟨_, by simp [binOp, Op.intArith], .int _ _⟩
  case mul => rw [i2_mul h]; exact ⟨_, by simp [binOp, Op.intArith], .int _ _⟩
  case quo => obtain ⟨h0, rfl⟩ := i2_quo h; exact ⟨_, by simp [binOp, Op.intDiv, h0], .int _ _⟩
  case rem => obtain ⟨h0, rfl⟩ := i2_rem h; exact ⟨_, by simp [binOp, Op.intDiv, h0], .int _ _⟩
  case and =>
    rw [ibit_some (fun a b j _ hb => Nat.and_lt_two_pow a hb) h]
    refine ⟨_, by simp only [binOp, Op.intBits, ne_eq, not_true_eq_false, if_false]; rfl, ?_⟩
    rw [BitVec.toNat_and, e, e]; exact .int _ _
  case or =>
    rw [ibit_some (fun a b j ha hb => Nat.or_lt_two_pow ha hb) h]
    refine ⟨_, by simp only [binOp, Op.intBits, ne_eq, not_true_eq_false, if_false]; rfl, ?_⟩
    rw [BitVec.toNat_or, e, e]; exact .int _ _
  case xor =>
    rw [ibit_some (fun a b j ha hb => Nat.xor_lt_two_pow ha hb) h]
    refine ⟨_, by simp only [binOp, Op.intBits, ne_eq, not_true_eq_false, if_false]; rfl, ?_⟩
    rw [BitVec.toNat_xor, e, e]; exact .int _ _
  case andNot =>
    unfold iandn at h
    rw [mkI_some h]
    refine ⟨_, by simp only [binOp, Op.intBits, ne_eq, not_true_eq_false, if_false]; rfl, ?_⟩
    rw [BitVec.toNat_and, ← BitVec.xor_allOnes, BitVec.toNat_xor, BitVec.toNat_allOnes, e, e]; exact .int _ _
  case shl => cases h
  case shr => cases h
  case eql => obtain ⟨b, hb, h⟩ := obind_some.1 h; rw [mkB_some h]; have := ieq_some hb; subst this; exact ⟨_, by simp [binOp, Op.intCmp], .bool _⟩
  case neq =>
    obtain ⟨b, hb, h⟩ := obind_some.1 h
    rw [mkB_some h]
    have := ieq_some (bnot_some hb)
    have hb' : b = (x != y) := by cases b <;> simp at this ⊢ <;> exact this
    subst hb'; exact ⟨_, by simp [binOp, Op.intCmp], .bool _⟩
  case lss =>
    obtain ⟨b, hb, h⟩ := obind_some.1 h
    rw [mkB_some h]
    have := ile_some (bnot_some hb)
    have hb' : b = decide (x < y) := by cases b <;> simp at this ⊢ <;> omega
    subst hb'; exact ⟨.bool (decide (x < y)), by simp [binOp, Op.intCmp], .bool _⟩
  case gtr =>
    obtain ⟨b, hb, h⟩ := obind_some.1 h
    rw [mkB_some h]
    have := ile_some (bnot_some hb)
    have hb' : b = decide (x > y) := by cases b <;> simp at this ⊢ <;> omega
    subst hb'; exact ⟨.bool (decide (x > y)), by simp [binOp, Op.intCmp], .bool _⟩
  case leq => obtain ⟨b, hb, h⟩ := obind_some.1 h; rw [mkB_some h]; have := ile_some hb; subst this; exact ⟨.bool (decide (x ≤ y)), by simp [binOp, Op.intCmp], .bool _⟩
  case geq => obtain ⟨b, hb, h⟩ := obind_some.1 h; rw [mkB_some h]; have := ile_some hb; subst this; exact ⟨.bool (decide (y ≤ x)), by simp [binOp, Op.intCmp], .bool _⟩
end
end Go.Vm
namespace Go.Vm
open Go
section
variable {N : Names} {μ : Mp} {n : Nat} {P : Program}

theorem shlim_eq (k : IntKind) (m : Nat) : shlim k m = min m k.bits := by
  unfold shlim
  rw [bcase]
  split
  · rename_i hm
    have : m ≤ k.bits := by simpa using hm
    omega
  · rename_i hm
    have : ¬ m ≤ k.bits := fun h => hm (by simpa using h)
    omega
theorem ishf_ok {l : Bool} {k yk : IntKind} {x y : Int} {v : AV} (h : ishf l k x y = some v) (w : World) :
    ∃ z, (Op.shift (bsel l .shl .shr) k x yk y).run P w = .ok z w ∧ V N μ n v z := by
  unfold ishf at h
  cases y with
  | negSucc m => cases h
  | ofNat m =>
    dsimp only at h
    rw [nat_eq, shlim_eq] at h
    have hy : ¬ (Int.ofNat m < 0) := Int.not_lt.2 (Int.natCast_nonneg m)
    have ht : (Int.ofNat m).toNat = m := rfl
    generalize hn : min m k.bits = j at h
    cases l with
    | true =>
      dsimp only [bsel] at h ⊢
      have hv : v = .int k (k.wrap (x * 2 ^ j)) := by
        unfold ishl at h
        cases x with
        | ofNat a =>
          rw [wrapN_some h]
          congr 2
          show ((a <<< j : Nat) : Int) = _
          rw [Nat.shiftLeft_eq]; push_cast; rfl
        | negSucc a =>
          rw [mkI_some h]
          congr 2
      subst hv
      exact ⟨_, by simp only [Op.shift, if_neg hy, ht, hn]; rfl, .int _ _⟩
    | false =>
      dsimp only [bsel] at h ⊢
      have hv : v = .int k (x.fdiv (2 ^ j)) := by
        unfold ishr at h
        cases x with
        | ofNat a =>
          rw [mkN_some h]
          congr 1
          show ((a >>> j : Nat) : Int) = _
          rw [Nat.shiftRight_eq_div_pow]
          rw [Int.fdiv_eq_ediv_of_nonneg _ (by exact Int.le_of_lt (Int.pow_pos (by decide)))]
          push_cast; rfl
        | negSucc a =>
          dsimp only at h
          rw [int_eq] at h
          cases h
          congr 2
      subst hv
      exact ⟨_, by simp only [Op.shift, if_neg hy, ht, hn]; rfl, .int _ _⟩

theorem equal_eq (t : TypeId) (X Y : Value) : Op.equal t X Y = Op.equalIn (9999 + 1) t X Y := rfl
set_option maxHeartbeats 2000000 in
theorem aeql_ok {t : TypeId} {c : Bool} {x y : AV} {b : Bool} (h : aeql (eqd P 2 t) c x y = some b) {X Y : Value} (hx : V N μ n x X) (hy : V N μ n y Y) (hi : ∀ k a, x ≠ .int k a) (hs : ∀ l a, x ≠ .str l a) (w : World) :
    (∀ d, (Op.equalIn (d + 1) t X Y).run P w = .ok b w) ∧ (X = .nilIface → Y = .nilIface → c = true) ∧ (∀ cs, X ≠ .agg cs) := by
  have hc : X = .nilIface → Y = .nilIface → c = true := fun h1 h2 => by
    subst h1; subst h2
    cases hx with
    | nili => cases hy with
      | nili => cases c with
        | true => rfl
        | false => cases h
  have h : aeq 4 (eqd P 2 t) x y = some b := by
    unfold aeql at h
    split at h
    · cases h
    · exact h
  have fall : ∀ e, e = eqd P 2 t → (∀ l, e ≠ .st l) → e ≠ .no → True := fun _ _ _ _ => trivial
  cases hu : P.underlying t with
  | none => simp [eqd, hu, aeq, eqN] at h
  | some d =>
    cases d with
    | bool =>
      simp only [eqd, hu, aeq] at h
      cases hx
      case int k i => exact absurd rfl (hi _ _)
      case str => exact absurd rfl (hs _ _)
      case bool a =>
        cases hy
        case bool a' =>
          simp only [eqB, Option.some.injEq] at h
          subst h
          exact ⟨fun d => by simp [Op.equalIn, run_underlying hu], hc, fun cs h => by cases h⟩
        all_goals cases h
      all_goals cases h
    | pointer e =>
      cases hz : tsize P e with
      | none => simp [eqd, hu, hz, aeq, eqN] at h
      | some z =>
        cases z with
        | zero => simp [eqd, hu, hz, aeq, eqN] at h
        | succ z =>
          simp only [eqd, hu, hz, aeq] at h
          cases hx <;> cases hy <;> (try (cases h; done))
          case ptr.ptr i o hi' j q hj =>
            simp only [eqP] at h
            rw [brec] at h
            split at h
            · rename_i hij
              have hij := Nat.eq_of_beq_eq_true hij
              subst hij
              cases h
              have hne : (z + 1 = 0) = False := by simp
              refine ⟨fun d => ?_, hc, fun cs h => by cases h⟩
              simp only [Op.equalIn, Sem.run_bind, run_underlying hu, Result.andThen_ok, run_sizeOf hz]
              simp [sameAddr]
              rw [Bool.eq_iff_iff]
              simp
            · cases h
          all_goals (cases h; exact ⟨fun d => by simp [Op.equalIn, run_underlying hu], hc, fun cs h => by cases h⟩)
    | interface ms =>
      simp only [eqd, hu, aeq] at h
      cases hx <;> cases hy <;> (try (cases h; done))
      all_goals (cases h; exact ⟨fun d => by simp [Op.equalIn, run_underlying hu], hc, fun cs h => by cases h⟩)
    | slice e =>
      simp only [eqd, hu, aeq] at h
      cases hx <;> cases hy <;> (try (cases h; done))
      all_goals (cases h; exact ⟨fun d => by simp [Op.equalIn, run_underlying hu], hc, fun cs h => by cases h⟩)
    | map k e =>
      simp only [eqd, hu, aeq] at h
      cases hx <;> cases hy <;> (try (cases h; done))
      all_goals (cases h; exact ⟨fun d => by simp [Op.equalIn, run_underlying hu], hc, fun cs h => by cases h⟩)
    | func p q v =>
      simp only [eqd, hu, aeq] at h
      cases hx <;> cases hy <;> (try (cases h; done))
      all_goals (cases h; exact ⟨fun d => by simp [Op.equalIn, run_underlying hu], hc, fun cs h => by cases h⟩)
    | _ => simp [eqd, hu, aeq, eqN] at h

theorem guard_not {op : BinOp} {t : TypeId} {x y : Operand} {X Y : Value} {w : World} (h : op ≠ .eql) (h' : op ≠ .neq) : (eqGuard op t x y X Y).run P w = .ok () w := by
  cases op <;> first | exact absurd rfl h | exact absurd rfl h' | rfl
theorem guard_ok {op : BinOp} {t : TypeId} {x y : Operand} {X Y : Value} {w : World} (h : X = .nilIface → Y = .nilIface → (isConstant x || isConstant y) = true) (ha : ∀ cs, X ≠ .agg cs) :
    (eqGuard op t x y X Y).run P w = .ok () w := by
  cases op <;> first | rfl | skip
  all_goals
    cases X <;> first | rfl | exact absurd rfl (ha _) | skip
    cases Y <;> first | rfl | skip
    have := h rfl rfl
    cases x <;> cases y <;> first | rfl | (simp [isConstant] at this; done)
theorem bin_ok {op : BinOp} {t : TypeId} {x y : Operand} {X Y : Value} {vs : List AV} {h h' : AH} {v : AV} (hk : k_bin op (eqd P 2 t) (isConstant x || isConstant y) vs h = some (v, h')) (hv : Vs N μ h.nx vs [X, Y]) (w : World) :
    h' = h ∧ ∃ z, (do eqGuard op t x y X Y; binOp op t X Y : Sem Value).run P w = .ok z w ∧ V N μ h.nx v z := by
  obtain ⟨a, b, rfl, hk⟩ := arg2_some hk
  obtain ⟨_, _, e1, ha, hb⟩ := hv.two_inv
  cases e1
  obtain ⟨hk2, rfl⟩ := yld_some hk
  replace hk := hk2
  clear hk2
  refine ⟨rfl, ?_⟩
  have fin : ∀ z, (eqGuard op t x y X Y).run P w = .ok () w → (binOp op t X Y).run P w = .ok z w → (do eqGuard op t x y X Y; binOp op t X Y : Sem Value).run P w = .ok z w := fun z h1 h2 => by
    simp only [Sem.run_bind, h1, Result.andThen_ok, h2]
  by_cases hi : ∃ k i, a = .int k i
  · obtain ⟨k, i, rfl⟩ := hi
    have eX := ha.int_inv; subst eX
    have hg : (eqGuard op t x y (.int k i) Y).run P w = .ok () w := guard_ok (fun h => by cases h) (fun cs h => by cases h)
    by_cases hj : ∃ k' j, b = .int k' j
    · obtain ⟨k', j, rfl⟩ := hj
      have eY := hb.int_inv; subst eY
      cases op <;> simp only [abin, bothI] at hk
      case shl => obtain ⟨z, h1, h2⟩ := ishf_ok (N := N) (μ := μ) (n := h'.nx) (P := P) (yk := k') hk w; exact ⟨z, fin z hg h1, h2⟩
      case shr => obtain ⟨z, h1, h2⟩ := ishf_ok (N := N) (μ := μ) (n := h'.nx) (P := P) (yk := k') hk w; exact ⟨z, fin z hg h1, h2⟩
      case eql =>
        obtain ⟨q, hq, hk⟩ := obind_some.1 hk
        obtain ⟨rfl, rfl⟩ := isame_some hq
        rw [mkB_some hk]
        exact ⟨_, fin _ hg (by simp [binOp, Op.intCmp]), .bool _⟩
      case neq =>
        obtain ⟨q, hq, hk2⟩ := obind_some.1 hk
        obtain ⟨rfl, hq2⟩ := isame_some (bnot_some hq)
        rw [mkB_some hk2]
        have hb' : q = (i != j) := by cases q <;> simp at hq2 ⊢ <;> exact hq2
        subst hb'
        exact ⟨_, fin _ hg (by simp [binOp, Op.intCmp]), .bool _⟩
      all_goals
        obtain ⟨rfl, hk2⟩ := int_kinds hk
        obtain ⟨z, h1, h2⟩ := ibin_ok (N := N) (μ := μ) (n := h'.nx) (P := P) hk2 t w
        exact ⟨z, fin z hg h1, h2⟩
    · exfalso
      cases b with
      | int k' j => exact hj ⟨k', j, rfl⟩
      | _ => cases op <;> cases hk
  · by_cases hs : ∃ l m, a = .str l m
    · obtain ⟨l, m, rfl⟩ := hs
      obtain ⟨s, rfl, s1, s2⟩ := ha.str_inv
      have hg : (eqGuard op t x y (.string s) Y).run P w = .ok () w := guard_ok (fun h => by cases h) (fun cs h => by cases h)
      by_cases hj : ∃ l' m', b = .str l' m'
      · obtain ⟨l', m', rfl⟩ := hj
        obtain ⟨s', rfl, s3, s4⟩ := hb.str_inv
        have hk : sbin op l m l' m' = some v := by cases op <;> first | exact hk | cases hk
        obtain ⟨z, h1, h2⟩ := sbin_ok (N := N) (μ := μ) (n := h'.nx) (P := P) hk s1 s2 s3 s4 w
        refine ⟨z, fin z hg ?_, h2⟩
        cases op <;> first | exact h1 | (simp [sbin] at hk; done)
      · exfalso
        cases b with
        | str k' j => exact hj ⟨k', j, rfl⟩
        | _ => cases op <;> cases hk
    · have hi' : ∀ k i, a ≠ .int k i := fun k i h => hi ⟨k, i, h⟩
      have hs' : ∀ k i, a ≠ .str k i := fun k i h => hs ⟨k, i, h⟩
      have e1 : ∀ f g, bothI a b f g = g := fun f g => by cases a <;> first | rfl | exact absurd rfl (hi' _ _)
      have e2 : ∀ f g, bothS a b f g = g := fun f g => by cases a <;> first | rfl | exact absurd rfl (hs' _ _)
      have hX1 : ∀ k i, X ≠ .int k i := fun k i h => by subst h; cases ha; exact hi' _ _ rfl
      have hX2 : ∀ s, X ≠ .string s := fun s h => by subst h; cases ha; exact hs' _ _ rfl
      cases op <;> simp only [abin, e1, e2] at hk <;> (try (cases hk; done))
      case eql =>
        obtain ⟨q, hq, hk⟩ := obind_some.1 hk
        obtain ⟨h1, h2, h3⟩ := aeql_ok hq ha hb hi' hs' w
        rw [mkB_some hk]
        refine ⟨_, fin _ (guard_ok h2 h3) ?_, .bool _⟩
        have : binOp .eql t X Y = (do pure (.bool (← Op.equal t X Y))) := by
          cases ha <;> first | rfl | exact absurd rfl (hi' _ _) | exact absurd rfl (hs' _ _)
        rw [this, equal_eq, Sem.run_bind, h1]; rfl
      case neq =>
        obtain ⟨q, hq, hk⟩ := obind_some.1 hk
        obtain ⟨h1, h2, h3⟩ := aeql_ok (bnot_some hq) ha hb hi' hs' w
        rw [mkB_some hk]
        refine ⟨_, fin _ (guard_ok h2 h3) ?_, .bool _⟩
        have : binOp .neq t X Y = (do pure (.bool (!(← Op.equal t X Y)))) := by
          cases ha <;> first | rfl | exact absurd rfl (hi' _ _) | exact absurd rfl (hs' _ _)
        rw [this, equal_eq, Sem.run_bind, h1]; simp
theorem un_ok {op : UnOp} {X : Value} {vs : List AV} {h h' : AH} {v : AV} (hk : k_un op vs h = some (v, h')) (hv : Vs N μ h.nx vs [X]) (w : World) :
    h' = h ∧ ∃ z, (Op.unary op X).run P w = .ok z w ∧ V N μ h.nx v z := by
  obtain ⟨a, rfl, hk⟩ := arg1_some hk
  obtain ⟨_, e1, ha⟩ := hv.one_inv
  cases e1
  obtain ⟨hk2, rfl⟩ := yld_some hk
  replace hk := hk2
  clear hk2
  refine ⟨rfl, ?_⟩
  unfold aun at hk
  split at hk
  · have := ha.int_inv; subst this
    rw [i2_sub hk]; exact ⟨_, by simp [Op.unary, Op.intArith], .int _ _⟩
  · have := ha.int_inv; subst this
    rw [bit2_some hk]
    refine ⟨_, by simp only [Op.unary, Op.intBits]; rfl, ?_⟩
    have e : ∀ (k : IntKind) (c : Int), BitVec.toNat (BitVec.ofInt k.bits c) = (c % (2 : Int) ^ k.bits).toNat := fun k c => by
      rw [BitVec.toNat_ofInt]; push_cast; rfl
    rw [BitVec.toNat_xor, e, e]; exact .int _ _
  · have := ha.bool_inv; subst this
    rw [mkB_some hk]; exact ⟨_, by simp [Op.unary], .bool _⟩
  · cases hk
end
end Go.Vm
namespace Go.Vm
open Go
section
variable {N : Names} {G : Tr (Tr AV)} {F : Nat → Option Obj} {w0 : World} {P : Program} {μ : Mp} {h h' : AH} {w : World} {n : Nat}

theorem addr_add (b o k : Nat) : (⟨b, o, none⟩ : Addr).add k = ⟨b, o + k, none⟩ := by
  unfold Addr.add
  split
  · rename_i hk; subst hk; rfl
  · rfl
theorem V.ptr' {i o o' : Nat} (hi : i < n) (ho : o' = μ.bas i + o) : V N μ n (.ptr i o) (.pointer (some ⟨μ.blk i, o', none⟩)) := by subst ho; exact .ptr i o hi

theorem part_ok {t : TypeId} {g : Option Nat} (hg : tagg P t = some g) {l : List AV} {cs : List Value} (hv : Vs N μ n l cs) {o : Nat} {v : AV} (hp : part? l o g = some v) (w : World) :
    ∃ x, (part t cs.toArray o).run P w = .ok x w ∧ V N μ n v x := by
  cases g with
  | none =>
    obtain ⟨x, hx, hvx⟩ := hv.get (show l[o]? = some v from hp)
    exact ⟨x, by simp [part, run_isAgg hg, hx], hvx⟩
  | some s =>
    simp only [part?] at hp
    split at hp
    · cases hp
      refine ⟨.agg (cs.toArray.extract o (o + s)), by simp [part, run_isAgg hg, run_sizeOf (tagg_size hg)], ?_⟩
      have := V.agg' ((hv.drop o).take s)
      have e : (List.take s (List.drop o cs)).toArray = cs.toArray.extract o (o + s) := by
        simp [List.extract_toArray]
      rw [← e]; exact this
    · cases hp

theorem fld_ok {t : TypeId} {fs : Array Field} {i : Nat} {f : Field} {g : Option Nat} (hu : P.underlying t = some (.struct fs)) (hf : fs[i]? = some f) (hg : tagg P f.type = some g)
    {vs : List AV} {v : AV} {X : Value} (hk0 : k_fld f.offset g vs h = some (v, h')) (hv0 : Vs N μ h.nx vs [X]) (w : World) :
    h' = h ∧ ∃ x, (Instr.field t X i).run P w = .ok x w ∧ V N μ h.nx v x := by
  obtain ⟨a, rfl, hk⟩ := arg1_some hk0
  obtain ⟨_, e1, ha⟩ := hv0.one_inv
  cases e1
  cases a with
  | agg l =>
    obtain ⟨hq, rfl⟩ := yld_some hk
    obtain ⟨cs, rfl, hcs⟩ := ha.agg_inv
    obtain ⟨x, h1, h2⟩ := part_ok hg hcs hq w
    exact ⟨rfl, x, by simpa [Instr.field, run_underlying hu, hf, asAgg] using h1, h2⟩
  | _ => cases hk

theorem ixv_ok {t e : TypeId} {m s : Nat} {g : Option Nat} (hu : P.underlying t = some (.array m e)) (hs : tsize P e = some s) (hg : tagg P e = some g)
    {vs : List AV} {v : AV} {X Y : Value} (hk0 : k_ixv m s g.isSome vs h = some (v, h')) (hv0 : Vs N μ h.nx vs [X, Y]) (w : World) :
    h' = h ∧ ∃ x, (Instr.index t X Y).run P w = .ok x w ∧ V N μ h.nx v x := by
  obtain ⟨a, b, rfl, hk⟩ := arg2_some hk0
  obtain ⟨_, _, e1, ha, hb⟩ := hv0.two_inv
  cases e1
  obtain ⟨k, j, rfl, hk⟩ := inat_some hk
  have := hb.int_inv; subst this
  cases a with
  | agg l =>
    obtain ⟨hj, hk⟩ := grd_of hk
    obtain ⟨hq, rfl⟩ := yld_some hk
    obtain ⟨cs, rfl, hcs⟩ := ha.agg_inv
    have hg' : bsel g.isSome (some s) none = g := by
      cases g with
      | none => rfl
      | some s' => have := tagg_size hg; rw [hs] at this; cases this; rfl
    rw [hg'] at hq
    obtain ⟨x, h1, h2⟩ := part_ok hg hcs hq w
    have hlt : j < m := by have : j + 1 ≤ m := by simpa using hj
                           omega
    refine ⟨rfl, x, ?_, h2⟩
    have hc : (0 : Int) ≤ Int.ofNat j ∧ Int.ofNat j < (m : Int) := ⟨Int.natCast_nonneg j, Int.ofNat_lt.2 hlt⟩
    simp only [Instr.index, asIntOf, Sem.run_bind, Sem.run_pure, Result.andThen_ok, run_underlying hu, if_pos hc, run_sizeOf hs]
    exact h1
  | _ => cases hk

theorem fda_ok {t : TypeId} {fs : Array Field} {i : Nat} {f : Field} {s : Nat} (hu : P.underlying t = some (.struct fs)) (hf : fs[i]? = some f) (hs : tsize P f.type = some (s + 1))
    {vs : List AV} {v : AV} {X : Value} (hk0 : k_fda f.offset vs h = some (v, h')) (hv0 : Vs N μ h.nx vs [X]) (w : World) :
    h' = h ∧ ∃ x, (Instr.fieldAt t X i).run P w = .ok x w ∧ V N μ h.nx v x := by
  obtain ⟨a, rfl, hk⟩ := arg1_some hk0
  obtain ⟨_, e1, ha⟩ := hv0.one_inv
  cases e1
  have key : ∀ b o, (Instr.fieldAt t (.pointer (some ⟨b, o, none⟩)) i).run P w = .ok (.pointer (some ⟨b, o + f.offset, none⟩)) w := fun b o => by
    simp [Instr.fieldAt, run_underlying hu, hf, Instr.sureAddr, fieldPlace, run_sizeOf hs, addr_add]
  cases ha with
  | ptr j o hj =>
    try dsimp only at hk
    rw [nat_eq] at hk
    cases hk
    exact ⟨rfl, _, key _ _, V.ptr' hj (Nat.add_assoc _ _ _)⟩
  | glob g o =>
    try dsimp only at hk
    rw [nat_eq] at hk
    cases hk
    exact ⟨rfl, _, key _ _, .glob _ _⟩
  | _ => cases hk

theorem ixa_ok {t e : TypeId} {m s : Nat} (hu : P.underlying t = some (.array m e)) (hs : tsize P e = some s)
    {vs : List AV} {v : AV} {X Y : Value} (hk0 : k_ixa m s vs h = some (v, h')) (hv0 : Vs N μ h.nx vs [X, Y]) (w : World) :
    h' = h ∧ ∃ x, (Instr.indexAt t X Y).run P w = .ok x w ∧ V N μ h.nx v x := by
  obtain ⟨a, b, rfl, hk⟩ := arg2_some hk0
  obtain ⟨_, _, e1, ha, hb⟩ := hv0.two_inv
  cases e1
  obtain ⟨k, j, rfl, hk⟩ := inat_some hk
  have := hb.int_inv; subst this
  obtain ⟨hj, hk⟩ := grd_of hk
  have hlt : j < m := by have : j + 1 ≤ m := by simpa using hj
                         omega
  have hc : (0 : Int) ≤ Int.ofNat j ∧ Int.ofNat j < (m : Int) := ⟨Int.natCast_nonneg j, Int.ofNat_lt.2 hlt⟩
  have key : ∀ b o, (Instr.indexAt t (.pointer (some ⟨b, o, none⟩)) (.int k (Int.ofNat j))).run P w = .ok (.pointer (some ⟨b, o + j * s, none⟩)) w := fun b o => by
    simp only [Instr.indexAt, asIntOf, Sem.run_bind, Sem.run_pure, Result.andThen_ok, run_underlying hu, Instr.sureAddr, if_pos hc, run_sizeOf hs, addr_add]
    rfl
  cases ha with
  | ptr j o hj =>
    try dsimp only at hk
    rw [nat_eq] at hk
    cases hk
    exact ⟨rfl, _, key _ _, V.ptr' hj (Nat.add_assoc _ _ _)⟩
  | glob g o =>
    try dsimp only at hk
    rw [nat_eq] at hk
    cases hk
    exact ⟨rfl, _, key _ _, .glob _ _⟩
  | _ => cases hk

theorem ixs_ok {t e : TypeId} {s : Nat} (hu : P.underlying t = some (.slice e)) (hs : tsize P e = some s)
    {vs : List AV} {v : AV} {X Y : Value} (hk0 : k_ixs s vs h = some (v, h')) (hv0 : Vs N μ h.nx vs [X, Y]) (w : World) :
    h' = h ∧ ∃ x, (Instr.indexAt t X Y).run P w = .ok x w ∧ V N μ h.nx v x := by
  obtain ⟨a, b, rfl, hk⟩ := arg2_some hk0
  obtain ⟨_, _, e1, ha, hb⟩ := hv0.two_inv
  cases e1
  obtain ⟨k, j, rfl, hk⟩ := inat_some hk
  have := hb.int_inv; subst this
  have key : ∀ b o l c, j < l → (Instr.indexAt t (.slice (some ⟨b, o, none⟩) l c) (.int k (Int.ofNat j))).run P w = .ok (.pointer (some ⟨b, o + j * s, none⟩)) w := fun b o l c hlt => by
    have hc : (0 : Int) ≤ Int.ofNat j ∧ Int.ofNat j < (l : Int) := ⟨Int.natCast_nonneg j, Int.ofNat_lt.2 hlt⟩
    simp only [Instr.indexAt, asIntOf, Sem.run_bind, Sem.run_pure, Result.andThen_ok, run_underlying hu, if_pos hc, run_sizeOf hs, addr_add]
    rfl
  cases ha with
  | slc i o l c x hi hl hx =>
    obtain ⟨hj, hk⟩ := grd_of hk
    rw [nat_eq] at hk
    cases hk
    have hlt : j < l := by have : j + 1 ≤ l := by simpa using hj
                           omega
    exact ⟨rfl, _, key _ _ _ _ hlt, V.ptr' hi (by rw [hx (by omega)]; exact Nat.add_assoc _ _ _)⟩
  | slo i o l s' c x hi hl ht hx =>
    obtain ⟨_, hk⟩ := grd_of hk
    obtain ⟨hj, hk⟩ := grd_of hk
    rw [nat_eq] at hk
    cases hk
    have hlt : j < l := by have : j + 1 ≤ l := by simpa using hj
                           omega
    exact ⟨rfl, _, key _ _ _ _ hlt, V.ptr' hi (by rw [hx (by omega)]; exact Nat.add_assoc _ _ _)⟩
  | _ => cases hk

theorem ixt_ok {t : TypeId} (hu : P.underlying t = some .string)
    {vs : List AV} {v : AV} {X Y : Value} (hk0 : k_ixt vs h = some (v, h')) (hv0 : Vs N μ h.nx vs [X, Y]) (w : World) :
    h' = h ∧ ∃ x, (Instr.index t X Y).run P w = .ok x w ∧ V N μ h.nx v x := by
  obtain ⟨a, b, rfl, hk⟩ := arg2_some hk0
  obtain ⟨_, _, e1, ha, hb⟩ := hv0.two_inv
  cases e1
  obtain ⟨k, j, rfl, hk⟩ := inat_some hk
  have := hb.int_inv; subst this
  cases ha with
  | str l m s hm hs =>
    obtain ⟨hj, hk⟩ := grd_of hk
    rw [nat_eq] at hk
    cases hk
    have hlt : j < l := by have : j + 1 ≤ l := by simpa using hj
                           omega
    have hz : s.size = l := by rw [ba_size, hs, sb_length]
    have hb : s[(Int.ofNat j).toNat]? = some (UInt8.ofNat (sidx l m j)) := by
      have h1 : s.data.toList[j]? = some (UInt8.ofNat (sidx l m j)) := by rw [hs]; exact sb_sidx l m j hlt
      have h2 : j < s.size := by omega
      show s[j]? = _
      rw [getElem?_pos s j h2]
      rw [show s[j] = s.data[j]'h2 from rfl]
      rw [Array.getElem?_toList] at h1
      rw [← h1]
      exact (Array.getElem?_eq_getElem h2).symm
    refine ⟨rfl, .int .u8 (Int.ofNat (sidx l m j)), ?_, .int _ _⟩
    have hc : (0 : Int) ≤ Int.ofNat j := Int.natCast_nonneg j
    simp only [Instr.index, asIntOf, Sem.run_bind, Sem.run_pure, Result.andThen_ok, run_underlying hu, if_pos hc, hb]
    congr 2
    rw [UInt8.toNat_ofNat', Nat.mod_eq_of_lt (sidx_lt l m j)]; rfl
  | _ => cases hk

/-! Slicing -/
theorem bnd_some {β : Type} {b : Bool} {d : Nat} {vs : List AV} {f : Nat → List AV → Option β} {r : β} (h : bnd b d vs f = some r) :
    (b = false ∧ f d vs = some r) ∨ (b = true ∧ ∃ k m vs', vs = .int k (Int.ofNat m) :: vs' ∧ f m vs' = some r) := by
  unfold bnd at h
  cases b with
  | false => exact .inl ⟨rfl, h⟩
  | true =>
    cases vs with
    | nil => cases h
    | cons v vs => obtain ⟨k, m, rfl, h⟩ := inat_some h; exact .inr ⟨rfl, k, m, vs, rfl, h⟩
/-- An operand that may be there. -/
def opt : Option Value → List Value := Option.toList
theorem run_bound {k : IntKind} {i y : Nat} {c : BoundsCode} (h : i ≤ y) (w : World) : (Instr.sliceBound (.int k (Int.ofNat i)) y c).run P w = .ok i w := by
  have hc : (0 : Int) ≤ Int.ofNat i ∧ Int.ofNat i ≤ (y : Int) := ⟨Int.natCast_nonneg i, Int.ofNat_le.2 h⟩
  simp only [Instr.sliceBound, asIntOf, Sem.run_bind, Sem.run_pure, Result.andThen_ok, if_pos hc]
  rfl
theorem run_boundn {k : IntKind} {i y : Nat} {c : BoundsCode} (h : i ≤ y) (w : World) : (Instr.sliceBound (.int k (i : Int)) y c).run P w = .ok i w := run_bound h w
theorem bnds_ok {β : Type} {lo hi mx : Option Value} (hmx : (mx.isSome && !hi.isSome) = false) {vs : List AV} {l c : Nat} {f : Nat → Nat → Nat → Option β} {r : β}
    (hk : bnds lo.isSome hi.isSome mx.isSome vs l c f = some r) (hv0 : Vs N μ n vs (lo.toList ++ hi.toList ++ mx.toList)) :
    ∃ a b m, a ≤ b ∧ b ≤ m ∧ m ≤ c ∧ f a b m = some r ∧ (mx.isSome = false → m = c) ∧
      ∀ (is : Bool) (C : Nat) (w : World), (mx.isSome = false → c ≤ C) → (mx.isSome = true → c ≤ C) →
        (Instr.sliceBounds is l C lo hi mx).run P w = .ok (a, b, if mx.isSome then m else C) w := by
  unfold bnds at hk
  cases lo with
  | none =>
    rcases bnd_some hk with ⟨_, h1⟩ | ⟨hf, _⟩
    case inr => cases hf
    cases hi with
    | none =>
      cases mx with
      | some _ => cases hmx
      | none =>
        rcases bnd_some h1 with ⟨_, h2⟩ | ⟨hf, _⟩
        case inr => cases hf
        rcases bnd_some h2 with ⟨_, h3⟩ | ⟨hf, _⟩
        case inr => cases hf
        obtain ⟨e1, h3⟩ := grd_of h3
        obtain ⟨e2, h3⟩ := grd_of h3
        obtain ⟨e3, h3⟩ := grd_of h3
        simp only [Nat.ble_eq] at e1 e2 e3
        exact ⟨_, _, _, e1, e2, e3, h3, fun _ => rfl, fun is C w hC _ => by simp [Instr.sliceBounds]⟩
    | some hi =>
      rcases bnd_some h1 with ⟨hf, _⟩ | ⟨_, k, b, vs', rfl, h2⟩
      · cases hf
      cases mx with
      | none =>
        rcases bnd_some h2 with ⟨_, h3⟩ | ⟨hf, _⟩
        case inr => cases hf
        obtain ⟨e1, h3⟩ := grd_of h3
        obtain ⟨e2, h3⟩ := grd_of h3
        obtain ⟨e3, h3⟩ := grd_of h3
        simp only [Nat.ble_eq] at e1 e2 e3
        obtain ⟨_, _, e, hvi, _⟩ := hv0.cons_inv
        cases e; have := hvi.int_inv; subst this
        exact ⟨_, _, _, e1, e2, e3, h3, fun _ => rfl, fun is C w hC _ => by
          have : b ≤ C := Nat.le_trans e2 (hC rfl)
          simp [Instr.sliceBounds, run_boundn this]⟩
      | some mx =>
        rcases bnd_some h2 with ⟨hf, _⟩ | ⟨_, k', m, vs'', rfl, h3⟩
        · cases hf
        obtain ⟨e1, h3⟩ := grd_of h3
        obtain ⟨e2, h3⟩ := grd_of h3
        obtain ⟨e3, h3⟩ := grd_of h3
        simp only [Nat.ble_eq] at e1 e2 e3
        obtain ⟨_, _, e, hvi, hv2⟩ := hv0.cons_inv
        cases e; have := hvi.int_inv; subst this
        obtain ⟨_, _, e, hvm, _⟩ := hv2.cons_inv
        cases e; have := hvm.int_inv; subst this
        exact ⟨_, _, _, e1, e2, e3, h3, (fun h => by cases h), fun is C w _ hC => by
          have : m ≤ C := Nat.le_trans e3 (hC rfl)
          simp [Instr.sliceBounds, run_boundn this, run_boundn e2]⟩
  | some lo =>
    rcases bnd_some hk with ⟨hf, _⟩ | ⟨_, k0, a, vs0, rfl, h1⟩
    · cases hf
    obtain ⟨_, _, e, hvl, hv1⟩ := hv0.cons_inv
    cases e; have := hvl.int_inv; subst this
    cases hi with
    | none =>
      cases mx with
      | some _ => cases hmx
      | none =>
        rcases bnd_some h1 with ⟨_, h2⟩ | ⟨hf, _⟩
        case inr => cases hf
        rcases bnd_some h2 with ⟨_, h3⟩ | ⟨hf, _⟩
        case inr => cases hf
        obtain ⟨e1, h3⟩ := grd_of h3
        obtain ⟨e2, h3⟩ := grd_of h3
        obtain ⟨e3, h3⟩ := grd_of h3
        simp only [Nat.ble_eq] at e1 e2 e3
        exact ⟨_, _, _, e1, e2, e3, h3, fun _ => rfl, fun is C w hC _ => by simp [Instr.sliceBounds, run_boundn e1]⟩
    | some hi =>
      rcases bnd_some h1 with ⟨hf, _⟩ | ⟨_, k, b, vs', rfl, h2⟩
      · cases hf
      cases mx with
      | none =>
        rcases bnd_some h2 with ⟨_, h3⟩ | ⟨hf, _⟩
        case inr => cases hf
        obtain ⟨e1, h3⟩ := grd_of h3
        obtain ⟨e2, h3⟩ := grd_of h3
        obtain ⟨e3, h3⟩ := grd_of h3
        simp only [Nat.ble_eq] at e1 e2 e3
        obtain ⟨_, _, e, hvi, _⟩ := hv1.cons_inv
        cases e; have := hvi.int_inv; subst this
        exact ⟨_, _, _, e1, e2, e3, h3, fun _ => rfl, fun is C w hC _ => by
          have : b ≤ C := Nat.le_trans e2 (hC rfl)
          simp [Instr.sliceBounds, run_boundn this, run_boundn e1]⟩
      | some mx =>
        rcases bnd_some h2 with ⟨hf, _⟩ | ⟨_, k', m, vs'', rfl, h3⟩
        · cases hf
        obtain ⟨e1, h3⟩ := grd_of h3
        obtain ⟨e2, h3⟩ := grd_of h3
        obtain ⟨e3, h3⟩ := grd_of h3
        simp only [Nat.ble_eq] at e1 e2 e3
        obtain ⟨_, _, e, hvi, hv2⟩ := hv1.cons_inv
        cases e; have := hvi.int_inv; subst this
        obtain ⟨_, _, e, hvm, _⟩ := hv2.cons_inv
        cases e; have := hvm.int_inv; subst this
        exact ⟨_, _, _, e1, e2, e3, h3, (fun h => by cases h), fun is C w _ hC => by
          have : m ≤ C := Nat.le_trans e3 (hC rfl)
          simp [Instr.sliceBounds, run_boundn this, run_boundn e2, run_boundn e1]⟩
end
end Go.Vm
namespace Go.Vm
open Go
section
variable {N : Names} {G : Tr (Tr AV)} {F : Nat → Option Obj} {w0 : World} {P : Program} {μ : Mp} {h h' : AH} {w : World} {n : Nat}

theorem mkslc_some {i o a b m s : Nat} {v : AV} (h : mkslc i o a b m s = some v) : v = .slc i (cutAt o a m s) (b - a) (m - a) := by
  unfold mkslc at h
  rw [nat_eq, nat_eq, nat_eq] at h
  cases h; rfl
theorem V.cut {i o a b m s x : Nat} (hi : i < n) (hab : a ≤ b) (hbm : b ≤ m) (hx : m ≠ 0 → x = μ.bas i + o) {v : AV} (h : mkslc i o a b m s = some v) :
    V N μ n v (.slice (if m = a then some ⟨μ.blk i, x, none⟩ else some (Addr.add ⟨μ.blk i, x, none⟩ (a * s))) (b - a) (m - a)) := by
  rw [mkslc_some h]
  by_cases hma : m = a
  · rw [if_pos hma]
    exact .slc i _ _ _ x hi (by omega) (fun hne => absurd (by omega) hne)
  · rw [if_neg hma, addr_add]
    refine .slc i _ _ _ _ hi (by omega) (fun _ => ?_)
    have hb : Nat.beq m a = false := by
      cases hb : Nat.beq m a with
      | false => rfl
      | true => exact absurd (Nat.eq_of_beq_eq_true hb) hma
    unfold cutAt
    rw [hb, hx (by omega)]
    exact Nat.add_assoc _ _ _

theorem sls_ok {t e : TypeId} {s : Nat} (hu : P.underlying t = some (.slice e)) (hs : tsize P e = some s) {lo hi mx : Option Value} (hmx : (mx.isSome && !hi.isSome) = false)
    {vs : List AV} {v : AV} {X : Value} (hk0 : k_sls s lo.isSome hi.isSome mx.isSome vs h = some (v, h')) (hv0 : Vs N μ h.nx vs (X :: (lo.toList ++ hi.toList ++ mx.toList))) (w : World) :
    h' = h ∧ ∃ x, (Instr.sliceAt t X lo hi mx).run P w = .ok x w ∧ V N μ h.nx v x := by
  cases vs with
  | nil => cases hk0
  | cons a vs =>
  obtain ⟨_, _, e1, ha, hvs⟩ := hv0.cons_inv
  cases e1
  obtain ⟨hq, rfl⟩ := yld_some hk0
  refine ⟨rfl, ?_⟩
  have hat : ∀ x, Instr.slice t X lo hi mx = x → (Instr.sliceAt t X lo hi mx).run P w = x.run P w := fun x hx => by
    subst hx
    simp only [Instr.sliceAt, Sem.run_bind, run_underlying hu, Result.andThen_ok]
  rw [hat _ rfl]
  cases ha with
  | nils =>
    obtain ⟨a, b, m, h1, h2, h3, h4, h5, h6⟩ := bnds_ok (P := P) hmx hq hvs
    cases h4
    have r1 := h6 true 0 w (fun _ => Nat.le_refl _) (fun _ => Nat.le_refl _)
    have e1 : a = 0 := by omega
    have e2 : b = 0 := by omega
    have e3 : (if mx.isSome = true then m else 0) = 0 := by split <;> omega
    rw [e1, e2, e3] at r1
    refine ⟨.slice none 0 0, ?_, .nils⟩
    simp only [Instr.slice, Sem.run_bind, run_underlying hu, Result.andThen_ok, r1, run_sizeOf hs]
    simp
  | slc i o l c x hi' hl hx =>
    obtain ⟨a, b, m, h1, h2, h3, h4, h5, h6⟩ := bnds_ok (P := P) hmx hq hvs
    have r1 := h6 true c w (fun _ => Nat.le_refl _) (fun _ => Nat.le_refl _)
    have e3 : (if mx.isSome = true then m else c) = m := by
      cases hm : mx.isSome with
      | true => rfl
      | false => simp [h5 hm]
    rw [e3] at r1
    refine ⟨_, ?_, V.cut hi' h1 h2 (fun hm => hx (by omega)) h4⟩
    simp only [Instr.slice, Sem.run_bind, run_underlying hu, Result.andThen_ok, r1, run_sizeOf hs]
    simp
  | slo i o l s' c x hi' hl ht hx =>
    obtain ⟨hss, hq⟩ := grd_of hq
    have hss : s = s' := Nat.eq_of_beq_eq_true hss
    subst hss
    obtain ⟨a, b, m, h1, h2, h3, h4, h5, h6⟩ := bnds_ok (P := P) hmx hq hvs
    have r1 := h6 true c w (fun _ => hl) (fun _ => hl)
    cases hm : mx.isSome with
    | true =>
      rw [hm] at r1 h4
      simp only [if_true] at r1
      refine ⟨_, ?_, V.cut hi' h1 h2 (fun hm => hx (by omega)) h4⟩
      simp only [Instr.slice, Sem.run_bind, run_underlying hu, Result.andThen_ok, r1, run_sizeOf hs]
      simp
    | false =>
      rw [hm] at r1 h4
      simp only [Bool.false_eq_true, if_false] at r1
      rw [nat_eq, nat_eq] at h4
      cases h4
      refine ⟨.slice (if c = a then some ⟨μ.blk i, x, none⟩ else some (Addr.add ⟨μ.blk i, x, none⟩ (a * s))) (b - a) (c - a), ?_, ?_⟩
      · simp only [Instr.slice, Sem.run_bind, run_underlying hu, Result.andThen_ok, r1, run_sizeOf hs]
        simp
      · show V N μ h'.nx (.slo i (o + a * s) (b - a) s) _
        have hmul : a * s + (c - a) * s = c * s := by rw [← Nat.add_mul]; congr 1; omega
        have ht' : μ.bas i + (o + a * s) + (c - a) * s = μ.tot i := by omega
        by_cases hca : c = a
        · rw [if_pos hca]
          exact .slo i _ _ _ _ x hi' (by omega) ht' (fun hne => absurd (by omega) hne)
        · rw [if_neg hca, addr_add]
          exact .slo i _ _ _ _ _ hi' (by omega) ht' (fun _ => by rw [hx (by omega)]; exact Nat.add_assoc _ _ _)
  | _ => cases hq

theorem sla_ok {t e : TypeId} {m0 s : Nat} (hu : P.underlying t = some (.array m0 e)) (hs : tsize P e = some s) {lo hi mx : Option Value} (hmx : (mx.isSome && !hi.isSome) = false)
    {vs : List AV} {v : AV} {X : Value} (hk0 : k_sla m0 s lo.isSome hi.isSome mx.isSome vs h = some (v, h')) (hv0 : Vs N μ h.nx vs (X :: (lo.toList ++ hi.toList ++ mx.toList))) (w : World) :
    h' = h ∧ ∃ x, (Instr.sliceAt t X lo hi mx).run P w = .ok x w ∧ V N μ h.nx v x := by
  cases vs with
  | nil => cases hk0
  | cons a vs =>
  obtain ⟨_, _, e1, ha, hvs⟩ := hv0.cons_inv
  cases e1
  obtain ⟨i, o, rfl, hq⟩ := asP_some hk0
  obtain ⟨hi', rfl⟩ := ha.ptr_inv
  obtain ⟨a, b, m, h1, h2, h3, h4, h5, h6⟩ := bnds_ok (P := P) hmx hq hvs
  obtain ⟨h7, rfl⟩ := yld_some h4
  have r1 := h6 false m0 w (fun _ => Nat.le_refl _) (fun _ => Nat.le_refl _)
  have e3 : (if mx.isSome = true then m else m0) = m := by
    cases hm : mx.isSome with
    | true => rfl
    | false => simp [h5 hm]
  rw [e3] at r1
  have hc := V.cut (N := N) (μ := μ) (n := h'.nx) (x := μ.bas i + o) hi' h1 h2 (fun _ => rfl) h7
  refine ⟨rfl, _, ?_, hc⟩
  simp only [Instr.sliceAt, Sem.run_bind, run_underlying hu, Result.andThen_ok, Instr.sureAddr, Sem.run_pure, r1, run_sizeOf hs]
  congr 2
  split <;> rfl

theorem slt_ok {t : TypeId} (hu : P.underlying t = some .string) {lo hi : Option Value}
    {vs : List AV} {v : AV} {X : Value} (hk0 : k_slt lo.isSome hi.isSome vs h = some (v, h')) (hv0 : Vs N μ h.nx vs (X :: (lo.toList ++ hi.toList))) (w : World) :
    h' = h ∧ ∃ x, (Instr.sliceAt t X lo hi none).run P w = .ok x w ∧ V N μ h.nx v x := by
  cases vs with
  | nil => cases hk0
  | cons a vs =>
  obtain ⟨_, _, e1, ha, hvs⟩ := hv0.cons_inv
  cases e1
  cases ha with
  | str l m s hm hs =>
    have hk1 : bnds lo.isSome hi.isSome (Option.isSome (none : Option Value)) vs l l (fun a b _ => yld h (str! (Nat.sub b a) (ssub l m a b) some)) = some (v, h') := hk0
    obtain ⟨a, b, mm, h1, h2, h3, h4, h5, h6⟩ := bnds_ok (P := P) (mx := none) rfl hk1 (by simpa using hvs)
    obtain ⟨h7, rfl⟩ := yld_some h4
    have hz : s.size = l := by rw [ba_size, hs, sb_length]
    have r1 := h6 false s.size w (fun _ => by omega) (fun _ => by omega)
    rw [str_some h7]
    have hbl : b ≤ l := Nat.le_trans h2 h3
    refine ⟨rfl, .string (s.extract a b), ?_, .str _ _ _ (ssub_lt l m a b) ?_⟩
    · simp only [Instr.sliceAt, Instr.slice, Sem.run_bind, run_underlying hu, Result.andThen_ok]
      rw [← hz] at r1
      simp [hz] at r1 ⊢
      simp [r1]
    · show _ = sb (b - a) (ssub l m a b)
      rw [sb_ssub l m a b h1 hbl, ← hs, ByteArray.data_extract, Array.toList_extract, List.extract_eq_take_drop]
  | _ => cases hk0

/-! Small ones -/
theorem mov_ok {vs : List AV} {v : AV} {X : Value} (hk0 : k_mov vs h = some (v, h')) (hv0 : Vs N μ h.nx vs [X]) : h' = h ∧ V N μ h.nx v X := by
  obtain ⟨a, rfl, hk⟩ := arg1_some hk0
  obtain ⟨_, e1, ha⟩ := hv0.one_inv
  cases e1; cases hk
  exact ⟨rfl, ha⟩
theorem pick_ok {vs : List AV} {v : AV} {C A B : Value} (hk0 : k_pick vs h = some (v, h')) (hv0 : Vs N μ h.nx vs [C, A, B]) (w : World) :
    h' = h ∧ ∃ x, (do pure (if ← asBool C then A else B) : Sem Value).run P w = .ok x w ∧ V N μ h.nx v x := by
  obtain ⟨c, a, b, rfl, hk⟩ := arg3_some hk0
  obtain ⟨_, _, _, e1, hc, ha, hb⟩ := hv0.three_inv
  cases e1
  cases hc with
  | bool c =>
    cases hk
    cases c with
    | true => exact ⟨rfl, A, by simp [asBool], ha⟩
    | false => exact ⟨rfl, B, by simp [asBool], hb⟩
  | _ => cases hk
theorem cint_ok {t u : TypeId} {k0 k : IntKind} (hu : P.underlying t = some (.int k0)) (hd : P.underlying u = some (.int k)) {vs : List AV} {v : AV} {X : Value} (hk0 : k_cint k vs h = some (v, h')) (hv0 : Vs N μ h.nx vs [X]) (w : World) :
    h' = h ∧ ∃ x, (convert t u X).run P w = .ok x w ∧ V N μ h.nx v x := by
  obtain ⟨a, rfl, hk⟩ := arg1_some hk0
  obtain ⟨_, e1, ha⟩ := hv0.one_inv
  cases e1
  cases ha with
  | int k' i =>
    obtain ⟨h7, rfl⟩ := yld_some hk
    rw [wrapI_some h7]
    exact ⟨rfl, _, by simp [convert, run_underlying hu, run_underlying hd, Conv.intToInt], .int _ _⟩
  | _ => cases hk
theorem cid_ok {t u : TypeId} (hu : P.underlying t = some .string) (hd : P.underlying u = some .string) {vs : List AV} {v : AV} {X : Value} (hk0 : k_cid vs h = some (v, h')) (hv0 : Vs N μ h.nx vs [X]) (w : World) :
    h' = h ∧ ∃ x, (convert t u X).run P w = .ok x w ∧ V N μ h.nx v x := by
  obtain ⟨a, rfl, hk⟩ := arg1_some hk0
  obtain ⟨_, e1, ha⟩ := hv0.one_inv
  cases e1
  cases ha with
  | str l m s hm hs =>
    cases hk
    exact ⟨rfl, _, by simp [convert, run_underlying hu, run_underlying hd], .str l m s hm hs⟩
  | _ => cases hk
theorem mki_ok {t : TypeId} (hu : ∃ d, P.underlying t = some d ∧ ∀ ms, d ≠ .interface ms) {vs : List AV} {v : AV} {X : Value} (hk0 : k_mki t vs h = some (v, h')) (hv0 : Vs N μ h.nx vs [X]) (w : World) :
    h' = h ∧ ∃ x, (Instr.makeInterface t X).run P w = .ok x w ∧ V N μ h.nx v x := by
  obtain ⟨a, rfl, hk⟩ := arg1_some hk0
  obtain ⟨_, e1, ha⟩ := hv0.one_inv
  cases e1; cases hk
  obtain ⟨d, hd, hn⟩ := hu
  refine ⟨rfl, .iface t X, ?_, .ifc _ _ _ ha⟩
  unfold Instr.makeInterface
  simp only [Sem.run_bind, run_underlying hd, Result.andThen_ok]
  cases d <;> first | exact absurd rfl (hn _) | rfl
theorem ext_ok {i : Nat} {vs : List AV} {v : AV} {X : Value} (hk0 : k_ext i vs h = some (v, h')) (hv0 : Vs N μ h.nx vs [X]) (w : World) :
    h' = h ∧ ∃ x, (Instr.extract X i).run P w = .ok x w ∧ V N μ h.nx v x := by
  obtain ⟨a, rfl, hk⟩ := arg1_some hk0
  obtain ⟨_, e1, ha⟩ := hv0.one_inv
  cases e1
  cases a with
  | tup l =>
    obtain ⟨h7, rfl⟩ := yld_some hk
    obtain ⟨cs, rfl, hcs⟩ := ha.tup_inv
    obtain ⟨x, hx, hvx⟩ := hcs.get h7
    exact ⟨rfl, x, by simp [Instr.extract, show cs[i]? = some x by simpa using hx], hvx⟩
  | _ => cases hk
theorem V.tup2 {a b : AV} {x y : Value} (ha : V N μ n a x) (hb : V N μ n b y) : V N μ n (.tup [a, b]) (.tuple #[x, y]) := V.tup' (x := [x, y]) (.cons ha (.cons hb .nil))
theorem V.tup3 {a b c : AV} {x y z : Value} (ha : V N μ n a x) (hb : V N μ n b y) (hc : V N μ n c z) : V N μ n (.tup [a, b, c]) (.tuple #[x, y, z]) := V.tup' (x := [x, y, z]) (.cons ha (.cons hb (.cons hc .nil)))
theorem V.tup1 {a : AV} {x : Value} (ha : V N μ n a x) : V N μ n (.tup [a]) (.tuple #[x]) := V.tup' (x := [x]) (.cons ha .nil)
theorem tas_ok {t xt : TypeId} {z : AV} {ok : Bool} (hu : ∃ d, P.underlying t = some d ∧ ∀ ms, d ≠ .interface ms) (hz : ok = true → tzero P t = some z)
    {vs : List AV} {v : AV} {X : Value} (hk0 : k_tas t z ok vs h = some (v, h')) (hv0 : Vs N μ h.nx vs [X]) (w : World) :
    h' = h ∧ ∃ x, (Instr.typeAssert X xt t ok).run P w = .ok x w ∧ V N μ h.nx v x := by
  obtain ⟨a, rfl, hk⟩ := arg1_some hk0
  obtain ⟨_, e1, ha⟩ := hv0.one_inv
  cases e1
  obtain ⟨d, hd, hn⟩ := hu
  have fails : ∀ {X}, ok = true → (X = .nilIface ∨ ∃ t' y, X = .iface t' y ∧ t' ≠ t) → ∃ x, (Instr.typeAssert X xt t ok).run P w = .ok x w ∧ V N μ h.nx (.tup [z, .bool false]) x := fun {X} hok hX => by
    obtain ⟨zx, hz1, hz2⟩ := tzero_ok (hz hok)
    refine ⟨.tuple #[zx, .bool false], ?_, .tup2 (hz2 _ _ _) (.bool _)⟩
    subst hok
    unfold Instr.typeAssert
    simp only [Sem.run_bind, run_underlying hd, Result.andThen_ok]
    rcases hX with rfl | ⟨t', y, rfl, hne⟩
    · cases d <;> first | exact absurd rfl (hn _) | simp [hz1]
    · cases d <;> first | exact absurd rfl (hn _) | simp [hz1, hne]
  cases ha with
  | nili =>
    obtain ⟨hok, hk⟩ := grd_of hk
    cases hk
    obtain ⟨x, h1, h2⟩ := fails hok (.inl rfl)
    exact ⟨rfl, x, h1, h2⟩
  | ifc t' u y hy =>
    dsimp only at hk
    rw [brec] at hk
    split at hk
    · rename_i htt
      have htt : t' = t := Nat.eq_of_beq_eq_true htt
      subst htt
      cases hk
      refine ⟨rfl, if ok then .tuple #[y, .bool true] else y, ?_, ?_⟩
      · unfold Instr.typeAssert
        simp only [Sem.run_bind, run_underlying hd, Result.andThen_ok]
        cases d <;> first | exact absurd rfl (hn _) | (cases ok <;> simp)
      · cases ok with
        | true => exact .tup2 hy (.bool _)
        | false => exact hy
    · rename_i htt
      obtain ⟨hok, hk⟩ := grd_of hk
      cases hk
      obtain ⟨x, h1, h2⟩ := fails hok (.inr ⟨t', y, rfl, fun h => htt (by rw [h]; exact Nat.beq_refl _)⟩)
      exact ⟨rfl, x, h1, h2⟩
  | _ => cases hk
end
end Go.Vm
namespace Go.Vm
open Go
section
variable {N : Names} {G : Tr (Tr AV)} {F : Nat → Option Obj} {w0 : World} {P : Program} {μ : Mp} {h h' : AH} {w : World} {n : Nat}

/-! Parts laid over a row -/
theorem over_spec : ∀ (vs z : List AV) (o : Nat), (over z o vs).length = z.length ∧ ∀ j, (over z o vs)[j]? = if o ≤ j ∧ j < o + vs.length ∧ j < z.length then vs[j - o]? else z[j]?
  | [], z, o => ⟨rfl, fun j => by rw [if_neg (by simp; omega)]; rfl⟩
  | v :: vs, z, o => by
    obtain ⟨h1, h2⟩ := over_spec vs (z.set o v) (o + 1)
    refine ⟨by simp only [over]; rw [h1]; simp, fun j => ?_⟩
    simp only [over]
    rw [h2]
    simp only [List.length_set, List.length_cons]
    by_cases hj : o + 1 ≤ j ∧ j < o + 1 + vs.length ∧ j < z.length
    · rw [if_pos hj, if_pos (by omega), show j - o = (j - (o + 1)) + 1 by omega]; rfl
    · rw [if_neg hj, List.getElem?_set]
      by_cases hjo : o = j
      · subst hjo
        by_cases hz : o < z.length
        · rw [if_pos rfl, if_pos hz, if_pos ⟨Nat.le_refl _, by omega, hz⟩]; simp
        · rw [if_pos rfl, if_neg hz, if_neg (by omega), List.getElem?_eq_none (by omega)]
      · rw [if_neg hjo, if_neg (by omega)]
theorem foldl_set (cs : List Value) : ∀ (z : Array Value) (o k : Nat), ((cs.zipIdx k).foldl (fun cs (x : Value × Nat) => cs.setIfInBounds (o + x.2) x.1) z).size = z.size ∧
    ∀ j, ((cs.zipIdx k).foldl (fun cs (x : Value × Nat) => cs.setIfInBounds (o + x.2) x.1) z)[j]? = if o + k ≤ j ∧ j < o + k + cs.length ∧ j < z.size then cs[j - (o + k)]? else z[j]? := by
  induction cs with
  | nil => intro z o k; exact ⟨rfl, fun j => by rw [if_neg (by simp; omega)]; rfl⟩
  | cons c cs ih =>
    intro z o k
    rw [List.zipIdx_cons, List.foldl_cons]
    obtain ⟨h1, h2⟩ := ih (z.setIfInBounds (o + k) c) o (k + 1)
    refine ⟨by rw [h1]; simp, fun j => ?_⟩
    rw [h2]
    simp only [Array.size_setIfInBounds, List.length_cons]
    by_cases hj : o + (k + 1) ≤ j ∧ j < o + (k + 1) + cs.length ∧ j < z.size
    · rw [if_pos hj, if_pos (by omega), show j - (o + k) = (j - (o + (k + 1))) + 1 by omega]; rfl
    · rw [if_neg hj, Array.getElem?_setIfInBounds]
      by_cases hjo : o + k = j
      · subst hjo
        by_cases hz : o + k < z.size
        · rw [if_pos rfl, if_pos hz, if_pos ⟨Nat.le_refl _, by omega, hz⟩]; simp
        · rw [if_pos rfl, if_neg hz, if_neg (by omega), Array.getElem?_eq_none (by omega)]
      · rw [if_neg hjo, if_neg (by omega)]

theorem fills_ok (place : Nat → Option (Nat × Nat)) : ∀ (ps : List (Nat × Nat)) (vs z l : List AV) (parts : List (Nat × Value)) (Z : Array Value), fills z ps vs = some l → Vs N μ n z Z.toList → Vs N μ n vs (parts.map (·.2)) →
    (∀ (j : Nat) (p : Nat × Value) (q : Nat × Nat), parts[j]? = some p → ps[j]? = some q → place p.1 = some q) → ∃ L, Instr.fill place Z parts = some L ∧ Vs N μ n l L.toList
  | [], [], z, l, parts, Z, hf, hz, hv, hp => by
    simp only [fills] at hf
    cases hf
    have : parts = [] := by have := hv.nil_inv; simpa using this
    subst this
    exact ⟨Z, rfl, hz⟩
  | [], _ :: _, z, l, parts, Z, hf, hz, hv, hp => by cases hf
  | _ :: _, [], z, l, parts, Z, hf, hz, hv, hp => by cases hf
  | (o, s) :: ps, v :: vs, z, l, parts, Z, hf, hz, hv, hp => by
    simp only [fills] at hf
    obtain ⟨h1, hf⟩ := grd_of hf
    obtain ⟨h2, hf⟩ := grd_of hf
    cases parts with
    | nil => have := hv.1; simp at this
    | cons p parts =>
      obtain ⟨_, _, e1, hv1, hv2⟩ := hv.cons_inv
      cases e1
      have hpl := hp 0 p (o, s) rfl rfl
      have hc := hv1.cells
      have hs : p.2.cells.size = s := by have := hc.1; have := Nat.eq_of_beq_eq_true h1; simp at *; omega
      have hzl : z.length = Z.size := by have := hz.1; simpa using this
      have hle : o + s ≤ z.length := by simpa using h2
      obtain ⟨o1, o2⟩ := over_spec v.cells z o
      obtain ⟨f1, f2⟩ := foldl_set p.2.cells.toList Z o 0
      have hcl : v.cells.length = s := Nat.eq_of_beq_eq_true h1
      have hval : Vs N μ n (over z o v.cells) ((p.2.cells.toList.zipIdx 0).foldl (fun cs (x : Value × Nat) => cs.setIfInBounds (o + x.2) x.1) Z).toList := by
        refine ⟨by rw [o1, hzl, Array.length_toList, f1], fun j a b ha hb => ?_⟩
        rw [Array.getElem?_toList, f2] at hb
        rw [o2] at ha
        simp only [Nat.add_zero] at hb
        have hlen : p.2.cells.toList.length = v.cells.length := by rw [hcl]; simpa using hs
        rw [hlen, ← hzl] at hb
        split at ha
        · rename_i hc'; rw [if_pos hc'] at hb; exact hc.2 _ a b ha hb
        · rename_i hc'; rw [if_neg hc'] at hb; exact hz.2 _ a b ha (by rw [Array.getElem?_toList]; exact hb)
      obtain ⟨L, hL, hvL⟩ := fills_ok place ps vs _ l parts _ hf hval hv2 (fun j p q a b => hp (j + 1) p q a b)
      refine ⟨L, ?_, hvL⟩
      obtain ⟨pi, pv⟩ := p
      simp only [Instr.fill, hpl]
      have : (decide (pv.cells.size ≠ s) || decide (o + pv.cells.size > Z.size)) = false := by
        simp at hs; simp [hs]; omega
      rw [if_neg (by rw [this]; simp)]
      rw [← hL]
      congr 1
      rw [← Array.foldl_toList]
      simp [Array.toList_zipIdx]

theorem run_mapM {α β : Type} {g : α → Option β} {m : α → Sem β} (hm : ∀ a b, g a = some b → (m a).run P w = .ok b w) : ∀ {l : List α} {r : List β}, l.mapM g = some r → (l.mapM m).run P w = .ok r w
  | [], r, h => by simp at h; subst h; simp
  | a :: l, r, h => by
    rw [List.mapM_cons] at h
    cases h1 : g a with
    | none => simp [h1] at h
    | some b =>
      cases h2 : l.mapM g with
      | none => simp [h1, h2] at h
      | some bs =>
        simp [h1, h2] at h
        subst h
        rw [List.mapM_cons, Sem.run_bind, hm a b h1, Result.andThen_ok, Sem.run_bind, run_mapM hm h2]
        rfl
theorem run_mapMA {α β : Type} {g : α → Option β} {m : α → Sem β} (hm : ∀ a b, g a = some b → (m a).run P w = .ok b w) {l : Array α} {r : List β} (h : l.toList.mapM g = some r) : (l.mapM m).run P w = .ok r.toArray w := by
  rw [Array.mapM_eq_mapM_toList, Sem.run_map, run_mapM hm h]
  rfl
theorem mapM_get {α β : Type} {g : α → Option β} : ∀ {l : List α} {r : List β}, l.mapM g = some r → r.length = l.length ∧ ∀ (j : Nat) (a : α) (b : β), l[j]? = some a → r[j]? = some b → g a = some b
  | [], r, h => by simp at h; subst h; exact ⟨rfl, fun j a b h => by simp at h⟩
  | a :: l, r, h => by
    rw [List.mapM_cons] at h
    cases h1 : g a with
    | none => simp [h1] at h
    | some b =>
      cases h2 : l.mapM g with
      | none => simp [h1, h2] at h
      | some bs =>
        simp [h1, h2] at h
        subst h
        obtain ⟨h3, h4⟩ := mapM_get h2
        refine ⟨by simp [h3], fun j x y hx hy => ?_⟩
        cases j with
        | zero => simp at hx hy; subst hx; subst hy; exact h1
        | succ j => exact h4 j x y (by simpa using hx) (by simpa using hy)
theorem zip_parts {α : Type} (ps : List (Nat × α)) (ρ : α → Value) (j : Nat) (p : Nat × Value) (h : (ps.map fun p => (p.1, ρ p.2))[j]? = some p) : ∃ q, ps[j]? = some q ∧ p.1 = q.1 ∧ p.2 = ρ q.2 := by
  rw [List.getElem?_map] at h
  cases hq : ps[j]? with
  | none => simp [hq] at h
  | some q => simp [hq] at h; subst h; exact ⟨q, rfl, rfl, rfl⟩
theorem bldS_ok {ρ : Operand → Value} {t : TypeId} {z : AV} {fs : Array Field} {ps : Array (Nat × Operand)} {pl l : List (Nat × Nat)} (hz : tzero P t = some z) (hu : P.underlying t = some (.struct fs))
    (hpl : (fs.toList.mapM fun f => do let s ← tsize P f.type; some (f.offset, s)) = some pl) (hl : (ps.toList.mapM fun p => pl[p.1]?) = some l)
    {vs : List AV} {v : AV} (hk0 : k_bld z.cells l vs h = some (v, h')) (hv0 : Vs N μ h.nx vs ((ps.toList.map (·.2)).map ρ)) :
    h' = h ∧ ∃ x, (Instr.build t (ps.map fun (i, x) => (i, ρ x))).run P w = .ok x w ∧ V N μ h.nx v x := by
  obtain ⟨L, hf, hk⟩ := obind_some.1 hk0
  cases hk
  obtain ⟨zx, hz1, hz2⟩ := tzero_ok hz
  have hzc := (hz2 N μ h.nx).cells
  obtain ⟨m1, m2⟩ := mapM_get hl
  obtain ⟨R, hR, hvR⟩ := fills_ok (fun i => pl.toArray[i]?) l vs z.cells L (ps.toList.map fun p => (p.1, ρ p.2)) zx.cells hf hzc (by rw [List.map_map] at hv0 ⊢; exact hv0) (fun j p q hp hq => by
    obtain ⟨r, hr, e1, e2⟩ := zip_parts _ _ _ _ hp
    have := m2 j r q hr hq
    rw [e1]; simpa using this)
  refine ⟨rfl, .agg R, ?_, ?_⟩
  · have hpl' := run_mapMA (P := P) (w := w) (m := fun f : Field => do pure (f.offset, ← sizeOf f.type)) (fun f b hb => by
      cases hs : tsize P f.type with
      | none => simp [hs] at hb
      | some s => simp [hs] at hb; subst hb; simp [run_sizeOf hs]) hpl
    unfold Instr.build
    have e : (ps.map fun (x : Nat × Operand) => (x.1, ρ x.2)).toList = ps.toList.map fun p => (p.1, ρ p.2) := by simp
    simp only [Sem.run_bind, hz1, Result.andThen_ok, run_underlying hu, hpl', e, hR]
    rfl
  · have := V.agg' hvR
    simpa using this
theorem bldA_ok {ρ : Operand → Value} {t e : TypeId} {m s : Nat} {z : AV} {ps : Array (Nat × Operand)} (hz : tzero P t = some z) (hu : P.underlying t = some (.array m e)) (hs : tsize P e = some s)
    {vs : List AV} {v : AV} (hk0 : k_bld z.cells (ps.toList.map fun p => (p.1 * s, s)) vs h = some (v, h')) (hv0 : Vs N μ h.nx vs ((ps.toList.map (·.2)).map ρ)) :
    h' = h ∧ ∃ x, (Instr.build t (ps.map fun (i, x) => (i, ρ x))).run P w = .ok x w ∧ V N μ h.nx v x := by
  obtain ⟨L, hf, hk⟩ := obind_some.1 hk0
  cases hk
  obtain ⟨zx, hz1, hz2⟩ := tzero_ok hz
  have hzc := (hz2 N μ h.nx).cells
  obtain ⟨R, hR, hvR⟩ := fills_ok (fun i => some (i * s, s)) _ vs z.cells L (ps.toList.map fun p => (p.1, ρ p.2)) zx.cells hf hzc (by rw [List.map_map] at hv0 ⊢; exact hv0) (fun j p q hp hq => by
    obtain ⟨r, hr, e1, e2⟩ := zip_parts _ _ _ _ hp
    rw [List.getElem?_map, hr] at hq
    simp at hq
    rw [e1, hq])
  refine ⟨rfl, .agg R, ?_, ?_⟩
  · unfold Instr.build
    have e : (ps.map fun (x : Nat × Operand) => (x.1, ρ x.2)).toList = ps.toList.map fun p => (p.1, ρ p.2) := by simp
    simp only [Sem.run_bind, hz1, Result.andThen_ok, run_underlying hu, run_sizeOf hs, e, hR]
    rfl
  · have := V.agg' hvR
    simpa using this

/-! Rows of like cells -/
theorem flat_len {α : Type} (l : List α) : ∀ n, ((List.replicate n l).flatten).length = n * l.length
  | 0 => by simp
  | n + 1 => by rw [List.replicate_succ, List.flatten_cons, List.length_append, flat_len l n, Nat.add_mul, Nat.one_mul, Nat.add_comm]
theorem flat_get {α : Type} (l : List α) : ∀ (n j : Nat), j < n * l.length → ((List.replicate n l).flatten)[j]? = l[j % l.length]?
  | 0, j, h => by simp at h
  | n + 1, j, h => by
    rw [List.replicate_succ, List.flatten_cons]
    by_cases hj : j < l.length
    · rw [List.getElem?_append_left hj, Nat.mod_eq_of_lt hj]
    · rw [List.getElem?_append_right (by omega), flat_get l n _ (by rw [Nat.add_mul] at h; omega)]
      congr 1
      conv => rhs; rw [show j = (j - l.length) + l.length by omega]
      rw [Nat.add_mod_right]
/-- The model's row of like cells. -/
theorem like_get (z : Array Value) (n j : Nat) (x : Value) (h : ((Array.range n).map fun i => z[i % z.size]!)[j]? = some x) (hz : n ≠ 0 → z.size ≠ 0) : j < n ∧ z[j % z.size]? = some x := by
  rw [Array.getElem?_map] at h
  have hj : j < n := by
    rcases Nat.lt_or_ge j n with h' | h'
    · exact h'
    · rw [Array.getElem?_eq_none (by simpa using h')] at h; simp at h
  have hz := hz (by omega)
  have hlt : j % z.size < z.size := Nat.mod_lt _ (by omega)
  simp [hj] at h
  exact ⟨hj, by rw [← h]; simp [hlt]⟩
theorem like_ok {n k : Nat} {z : AV} {zx : Value} (hz : V N μ n z zx) {m : Nat} (hm : m = k * z.cells.length) : Vs N μ n ((List.replicate k z.cells).flatten) ((Array.range m).map fun i => zx.cells[i % zx.cells.size]!).toList := by
  have hc := hz.cells
  have hsz : z.cells.length = zx.cells.size := by have := hc.1; simpa using this
  refine ⟨by rw [flat_len, hm]; simp, fun j p q hp hq => ?_⟩
  rw [Array.getElem?_toList] at hq
  obtain ⟨h1, h2⟩ := like_get _ _ _ _ hq (fun hm0 hz0 => hm0 (by rw [hm, hsz, hz0, Nat.mul_zero]))
  rw [flat_get _ _ _ (by omega), hsz] at hp
  exact hc.2 _ p q hp (by rw [Array.getElem?_toList]; exact h2)
end
end Go.Vm
namespace Go.Vm
open Go
section
variable {N : Names} {G : Tr (Tr AV)} {F : Nat → Option Obj} {w0 : World} {P : Program} {μ : Mp} {h h' : AH} {w : World} {n : Nat}

theorem bsl_ok (r : R N G F w0 μ h w) {ρ : Operand → Value} {t e : TypeId} {m s : Nat} {z : AV} {ps : Array (Nat × Operand)} (hu : P.underlying t = some (.slice e)) (hs : tsize P e = some s) (hz : tzero P e = some z)
    (hn : ¬ (s = 0 ∨ m * s > 1000000 ∨ z.cells.length ≠ s)) {vs : List AV} {v : AV} (hk0 : k_bsl e s m z.cells (ps.toList.map (·.1)) vs h = some (v, h')) (hv0 : Vs N μ h.nx vs ((ps.toList.map (·.2)).map ρ)) :
    Does N G F w0 P (Instr.buildSlice t m (ps.map fun (i, x) => (i, ρ x))) w μ h h' (Yv N h' v) := by
  obtain ⟨L, hf, hk⟩ := obind_some.1 hk0
  obtain ⟨q, hq, hk⟩ := obind_some.1 hk
  obtain ⟨j, hj⟩ := q
  cases hk
  obtain ⟨zx, hz1, hz2⟩ := tzero_ok hz
  have hzc := (hz2 N μ h.nx).cells
  have n1 : s ≠ 0 := fun h => hn (.inl h)
  have n2 : m * s ≤ 1000000 := Nat.not_lt.1 fun h => hn (.inr (.inl h))
  have n3 : z.cells.length = s := Classical.byContradiction fun h => hn (.inr (.inr h))
  let zero : Array Value := if m * s = 0 then #[] else zx.cells
  have hzero : Vs N μ h.nx ((List.replicate m z.cells).flatten) ((Array.range (m * s)).map fun i => zero[i % zero.size]!).toList := by
    by_cases h0 : m * s = 0
    · have : m = 0 := by rcases Nat.mul_eq_zero.1 h0 with h | h; exact h; exact absurd h n1
      subst this; simpa using Vs.nil
    · have : zero = zx.cells := if_neg h0
      rw [this]
      exact like_ok (hz2 N μ h.nx) (by rw [n3])
  obtain ⟨R, hR, hvR⟩ := fills_ok (fun i => some (i * s, s)) _ vs _ L (ps.toList.map fun p => (p.1, ρ p.2)) _ hf hzero (by rw [List.map_map] at hv0 ⊢; exact hv0) (fun j p q hp hq => by
    obtain ⟨r, hr, e1, e2⟩ := zip_parts _ _ _ _ hp
    rw [List.map_map, List.getElem?_map, hr] at hq
    simp at hq
    rw [e1, hq])
  have ep : (ps.map fun (x : Nat × Operand) => (x.1, ρ x.2)).toList = ps.toList.map fun p => (p.1, ρ p.2) := by simp
  obtain ⟨a, w', μ', h1, h2, h3, h4, h5, h6, h7, h8, h9⟩ := newRow_ok (P := P) r hq R hvR
  refine ⟨.slice (some a) m m, w', μ', ?_, h2, h3, h4, ?_⟩
  · unfold Instr.buildSlice
    have hb : ¬ (m * s > 2 ^ 24) := by omega
    by_cases h0 : m * s = 0
    · have ez : zero = #[] := if_pos h0
      rw [ez] at hR
      simp only [Sem.run_bind, run_underlying hu, Result.andThen_ok, run_sizeOf hs, if_neg hb, if_pos h0, Sem.run_pure]
      rw [ep, hR]
      simp only [Sem.run_bind, h1, Result.andThen_ok, Sem.run_pure]
    · have ez : zero = zx.cells := if_neg h0
      rw [ez] at hR
      simp only [Sem.run_bind, run_underlying hu, Result.andThen_ok, run_sizeOf hs, if_neg hb, if_neg h0, Sem.run_pure, hz1]
      rw [ep, hR]
      simp only [Sem.run_bind, h1, Result.andThen_ok, Sem.run_pure]
  · show V N μ' hj.nx _ _
    rw [h7]
    exact .slc j 0 m m _ h6 (Nat.le_refl _) (fun _ => by rw [h8])

theorem zt_get (z : AV) : ∀ (d k : Nat), k < 2 ^ d → (zt d z).get k = some z
  | 0, k, hk => by
    have : k = 0 := by simpa using hk
    subst this
    rfl
  | d + 1, k, hk => by
    show (Tr.n (zt d z) (some z) (zt d z)).get k = some z
    rw [Tr.get_n]
    split
    · rfl
    · have := zt_get z d (k / 2) (by rw [Nat.pow_succ] at hk; omega)
      rw [this]; simp
/-- A row of like cells, laid anew. -/
theorem R.zero (r : R N G F w0 μ h w) {t m k : Nat} {z : AV} (hm : m = k * z.cells.length) {j : Nat} (hq : hzero h t m z.cells = some (j, h')) {zx : Value} (hz : V N μ h.nx z zx) (arr : Array Value)
    (harr : arr = (Array.range m).map fun i => (if m = 0 then #[] else zx.cells)[i % (if m = 0 then #[] else zx.cells).size]!) :
    j = h.nx ∧ h'.nx = h.nx + 1 ∧ R N G F w0 (μ.ext h.nx w.heap.size 0 arr.size) h' (w.alloc (.cells arr t)) := by
  have hsz : arr.size = m := by rw [harr]; simp
  have hfz : Fz 0 0 0 arr.size 0 0 := ⟨fun _ => rfl, fun h => absurd h (by omega), fun h => absurd h (by omega)⟩
  have key : ∀ (i : Nat) (x : Value), arr[i]? = some x → i < m ∧ zx.cells[i % zx.cells.size]? = some x := fun i x hx => by
    by_cases h0 : m = 0
    · subst h0; rw [Array.getElem?_eq_none (by omega)] at hx; cases hx
    · rw [harr, if_neg h0] at hx
      exact like_get _ _ _ _ hx (fun _ hz0 => by
        have := hz.cells.1
        simp at this
        rw [hm, this, hz0, Nat.mul_zero] at h0
        exact h0 rfl)
  unfold hzero at hq
  split at hq
  · rename_i v hzv
    split at hq
    · rename_i h1
      refine r.row_ hq arr 0 0 (by omega) hfz fun i u hi hu => ?_
      have hlt : i < arr.size := by omega
      obtain ⟨_, h3⟩ := key i arr[i] (Array.getElem?_eq_getElem hlt)
      have hzs : zx.cells.size = 1 := by have := hz.cells.1; rw [hzv] at this; simpa using this.symm
      rw [hzs, Nat.mod_one] at h3
      have hv := hz.cells.2 0 v arr[i] (by rw [hzv]; rfl) (by simpa using h3)
      have hu' : u = v := by
        have hb : i < 2 ^ (zbits m) := Nat.lt_of_lt_of_le hi (by unfold zbits; exact Nat.le_of_lt Nat.lt_log2_self)
        have h4 := zt_get v (zbits m) i hb
        have h7 : (zt (zbits m) v).get i = some u := hu
        rw [h4] at h7; cases h7; rfl
      subst hu'
      exact ⟨arr[i], Array.getElem?_eq_getElem hlt, hv, by rw [← hv.one]; exact h1⟩
    · cases hq
  · split at hq
    · rename_i hz0
      split at hq
      · rename_i hm0
        exact r.row_ hq arr 0 0 (by omega) hfz fun i u hi hu => by omega
      · cases hq
    · rename_i hz0
      have hdiv : m / z.cells.length = k := by rw [hm]; exact Nat.mul_div_cancel _ (Nat.pos_of_ne_zero hz0)
      rw [hdiv] at hq
      have hl := like_ok hz hm
      have hl' : Vs N μ h.nx ((List.replicate k z.cells).flatten) arr.toList := by
        by_cases h0 : m = 0
        · have e : arr = #[] := Array.eq_empty_of_size_eq_zero (by omega)
          have : k = 0 := by rcases Nat.mul_eq_zero.1 (hm ▸ h0) with h | h; exact h; exact absurd h hz0
          subst this; subst e; simpa using Vs.nil
        · rw [harr, if_neg h0]; exact hl
      exact r.row hq hl' arr (fun j x hx => by simpa using hx) (by simp)
theorem mks_ok (r : R N G F w0 μ h w) {t e : TypeId} {i : TypeInfo} {z : AV} (hu : P.underlying t = some (.slice e)) (hi : P.info? e = some i) (hz : tzero P e = some z) (hzl : z.cells.length = i.size)
    {vs : List AV} {v : AV} {X Y : Value} (hk0 : k_mks e i.size i.bytes z.cells vs h = some (v, h')) (hv0 : Vs N μ h.nx vs [X, Y]) :
    Does N G F w0 P (Instr.makeSlice t X Y) w μ h h' (Yv N h' v) := by
  obtain ⟨a, b, rfl, hk⟩ := arg2_some hk0
  obtain ⟨_, _, e1, ha, hb⟩ := hv0.two_inv
  cases e1
  obtain ⟨ka, l, rfl, hk1⟩ := inat_some hk
  obtain ⟨kb, c, rfl, hk2⟩ := inat_some hk1
  have := ha.int_inv; subst this
  have := hb.int_inv; subst this
  obtain ⟨g1, hk3⟩ := grd_of hk2
  obtain ⟨g2, hk4⟩ := grd_of hk3
  obtain ⟨g3, hk5⟩ := grd_of hk4
  rw [nat_eq] at hk5
  obtain ⟨⟨j, hj⟩, hq, hk6⟩ := obind_some.1 hk5
  cases hk6
  obtain ⟨zx, hz1, hz2⟩ := tzero_ok hz
  have g1 : c * i.bytes ≤ 1099511627776 := by simpa [maxB] using g1
  have g2 : c ≤ 1099511627776 := by simpa [maxB] using g2
  have g3 : l ≤ c := by simpa using g3
  obtain ⟨rfl, h2, h3⟩ := R.zero r (m := c * i.size) (k := c) (by rw [hzl]) hq (hz2 N μ h.nx) _ rfl
  generalize harr : ((Array.range (c * i.size)).map fun j => (if c * i.size = 0 then #[] else zx.cells)[j % (if c * i.size = 0 then #[] else zx.cells).size]! : Array Value) = arr at h3
  refine ⟨.slice (some ⟨w.heap.size, 0, none⟩) l c, w.alloc (.cells arr e), μ.ext h.nx w.heap.size 0 arr.size, ?_, μ.ext_agree _ _ _ _, by show h.nx ≤ hj.nx; omega, h3, ?_⟩
  · have w1 : IntKind.i64.wrap (Int.ofNat l) = (l : Int) := imax_wrap (k := .i64) (by simp [imax]; omega)
    have w2 : IntKind.i64.wrap (Int.ofNat c) = (c : Int) := imax_wrap (k := .i64) (by simp [imax]; omega)
    have hbig : ((i.bytes : Int) * (c : Int) > 2 ^ 48) = False := by
      have : (i.bytes : Int) * (c : Int) = ((c * i.bytes : Nat) : Int) := by push_cast; exact Int.mul_comm _ _
      rw [this]; simp; omega
    have hneg : ((c : Int) < 0) = False := by simp
    have hneg2 : ((l : Int) < 0) = False := by simp
    have hlc : ((l : Int) > (c : Int)) = False := by simp; omega
    unfold Instr.makeSlice
    simp only [Sem.run_bind, run_underlying hu, Result.andThen_ok, asInt, asIntOf, Sem.run_pure, run_typeInfo hi, w1, w2, hbig, hneg, hneg2, hlc]
    have hsz : (sizeOf e).run P w = .ok i.size w := run_sizeOf (by simp [tsize, hi])
    by_cases h0 : c * i.size = 0
    · rw [if_pos h0] at harr
      simp only [decide_false, Bool.or_self, Bool.false_eq_true, if_false, run_askRoom, Result.andThen_ok, Sem.run_bind, hsz, Sem.run_pure, Int.toNat_natCast, if_pos h0, newRow, run_newObj, harr]
      rfl
    · rw [if_neg h0] at harr
      simp only [decide_false, Bool.or_self, Bool.false_eq_true, if_false, run_askRoom, Result.andThen_ok, Sem.run_bind, hsz, Sem.run_pure, Int.toNat_natCast, if_neg h0, hz1, newRow, run_newObj, harr]
      rfl
  · show V N _ _ _ _
    have hnx : h.nx < hj.nx := by omega
    have := V.slc (N := N) (μ := μ.ext h.nx w.heap.size 0 arr.size) (n := hj.nx) h.nx 0 l c 0 hnx g3 (fun _ => by rw [Mp.ext_bas])
    rwa [Mp.ext_blk] at this
end
end Go.Vm
namespace Go.Vm
open Go
section
variable {N : Names} {G : Tr (Tr AV)} {F : Nat → Option Obj} {w0 : World} {P : Program} {μ : Mp} {h h' : AH} {w : World} {n : Nat}

theorem sbl_eq : ∀ (l m : Nat) (acc : List AV), sbl l m acc = (sb l m).map (fun b => AV.int .u8 (Int.ofNat b.toNat)) ++ acc
  | 0, _, _ => rfl
  | l + 1, m, acc => by
    simp only [sbl]
    rw [sbl_eq l]
    simp only [sb, List.map_append, List.append_assoc, List.map_cons, List.map_nil, List.cons_append, List.nil_append]
    congr 2
    · show sb l (m >>> 8) = _
      rw [Nat.shiftRight_eq_div_pow]
    · congr 2
      show m &&& 255 = _
      rw [show (255 : Nat) = 2 ^ 8 - 1 by rfl, Nat.and_two_pow_sub_one_eq_mod, UInt8.toNat_ofNat']
theorem Vs.bytes (l : List UInt8) : Vs N μ n (l.map fun b => AV.int .u8 (Int.ofNat b.toNat)) (l.map fun b => Value.int .u8 b.toNat) :=
  ⟨by simp, fun j p q hp hq => by
    rw [List.getElem?_map] at hp hq
    cases hl : l[j]? with
    | none => simp [hl] at hp
    | some b => simp [hl] at hp hq; subst hp; subst hq; exact .int _ _⟩
theorem freeze_alloc (w : World) (arr : Array Value) (t : TypeId) (k : Nat) : (w.alloc (.cells arr t)).freeze ⟨w.heap.size, k, none⟩ 1 = w.alloc (.cells arr t (k, k + 1)) := by
  unfold World.freeze
  rw [if_neg (by decide)]
  have : (w.alloc (.cells arr t)).heap.modify w.heap.size (fun
      | .cells c elem (lo, hi) => .cells c elem (if lo == hi then (k, k + 1) else (min lo k, max hi (k + 1)))
      | o => o) = (w.alloc (.cells arr t (k, k + 1))).heap := by
    apply Array.ext_getElem?
    intro i
    rw [Array.getElem?_modify]
    show (if w.heap.size = i then Option.map _ (w.heap.push _)[i]? else (w.heap.push _)[i]?) = (w.heap.push _)[i]?
    by_cases hi : w.heap.size = i
    · subst hi; simp
    · rw [if_neg hi, Array.getElem?_push, Array.getElem?_push, if_neg (fun h => hi h.symm), if_neg (fun h => hi h.symm)]
  exact congrArg (fun a => ({ (w.alloc (.cells arr t)) with heap := a } : World)) this

theorem cs2b_ok (r : R N G F w0 μ h w) {t u e : TypeId} (hu : P.underlying t = some .string) (hd : P.underlying u = some (.slice e)) (he : P.underlying e = some (.int .u8)) {vs : List AV} {v : AV} {X : Value} (hk0 : k_cs2b e vs h = some (v, h')) (hv0 : Vs N μ h.nx vs [X]) :
    Does N G F w0 P (convert t u X) w μ h h' (Yv N h' v) := by
  obtain ⟨a, rfl, hk⟩ := arg1_some hk0
  obtain ⟨_, e1, ha⟩ := hv0.one_inv
  cases e1
  cases ha with
  | str l m s hm hs =>
    obtain ⟨g1, hk1⟩ := grd_of hk
    obtain ⟨c, c1, c2, hk2⟩ := ofList_spec hk1
    obtain ⟨⟨j, hj⟩, hq, hk3⟩ := obind_some.1 hk2
    cases hk3
    have hz : s.size = l := by rw [ba_size, hs, sb_length]
    rw [sbl_eq, List.append_nil] at c1 hq
    have g1 : l ≤ 1099511627776 := by simpa [maxB] using g1
    have hlen : ((sb l m).map (fun b => AV.int .u8 (Int.ofNat b.toNat))).length = l := by simp [sb_length]
    rw [hlen] at hq
    let cap := (Question.appendCap s.size 0 e).cut (w.tape w.drawn (.appendCap s.size 0 e))
    have hcap : s.size ≤ cap := Nat.le_add_right _ _
    let arr : Array Value := (s.data.map fun b => Value.int .u8 b.toNat) ++ Array.replicate (cap - s.size) (.int .u8 0)
    have hasz : arr.size = cap := by
      have : s.data.size = s.size := rfl
      simp [arr]; omega
    have hfz : Fz 1 0 0 arr.size arr.size (arr.size + 1) := ⟨fun h => absurd h (by decide), fun h => absurd h (by decide), fun _ j hj => by omega⟩
    obtain ⟨rfl, h2, h3⟩ := r.drew.row_ hq arr arr.size (arr.size + 1) (by omega) hfz fun i u hi hu => by
      rw [c1] at hu
      obtain ⟨x, hx, hvx⟩ := (Vs.bytes (N := N) (μ := μ) (n := h.nx) (sb l m)).get hu
      have hx' : (s.data.map fun b => Value.int .u8 b.toNat)[i]? = some x := by rw [← hs] at hx; simpa using hx
      refine ⟨x, ?_, hvx, ?_⟩
      · have hlt : i < (s.data.map fun b => Value.int .u8 b.toNat).size := (Array.getElem?_eq_some_iff.1 hx').1
        show ((s.data.map fun b => Value.int .u8 b.toNat) ++ _)[i]? = _
        rw [Array.getElem?_append_left hlt]; exact hx'
      · rw [Array.getElem?_map] at hx'
        cases hd : s.data[i]? with
        | none => simp [hd] at hx'
        | some b => simp [hd] at hx'; subst hx'; rfl
    have hsz2 : w.drew.heap.size = w.heap.size := rfl
    refine ⟨.slice (some ⟨w.heap.size, 0, none⟩) l cap, _, _, ?_, (μ.ext_agree _ _ _ _), by show h.nx ≤ hj.nx; omega, h3, ?_⟩
    · have hnf : (Question.appendCap s.size 0 e).forced = false := rfl
      unfold convert
      simp only [Sem.run_bind, run_underlying hu, run_underlying hd, run_underlying he, Result.andThen_ok, Conv.stringToBytes, run_choose, hnf, Bool.false_eq_true, if_false, World.drew_eq]
      show (Result.andThen ((newRow e arr).run P w.drew) _) = _
      have e1 : (newRow e arr).run P w.drew = .ok ⟨w.heap.size, 0, none⟩ (w.drew.alloc (.cells arr e)) := rfl
      have e2 : (markStringish ⟨w.heap.size, 0, none⟩).run P (w.drew.alloc (.cells arr e)) = .ok () (w.drew.alloc (.cells arr e (arr.size, arr.size + 1))) := by
        have hsh : (w.drew.alloc (.cells arr e)).shape? w.heap.size = some (e, arr.size) := by
          have : (w.drew.alloc (.cells arr e)).heap[w.heap.size]? = some (.cells arr e) := by
            show (w.heap.push _)[w.heap.size]? = _
            exact Array.getElem?_push_size
          unfold World.shape?
          rw [this]
        simp only [markStringish, Sem.run_bind, run_shape, Result.andThen_ok, hsh, run_freeze]
        rw [← freeze_alloc]; rfl
      rw [e1]
      simp only [Result.andThen_ok, e2, Sem.run_pure]
      exact congrArg (fun q => Result.ok (Value.slice (some ⟨w.heap.size, 0, none⟩) q cap) (w.drew.alloc (.cells arr e (arr.size, arr.size + 1)))) hz
    · show V N _ hj.nx _ _
      have := V.slo (N := N) (μ := μ.ext h.nx w.drew.heap.size 0 arr.size) (n := hj.nx) h.nx 0 l 1 cap 0 (by omega) (by omega) (by rw [Mp.ext_bas, Mp.ext_tot]; omega) (fun _ => by rw [Mp.ext_bas])
      rwa [Mp.ext_blk] at this
  | _ => cases hk

/-- The cells of a slice, in the world; the bytes of a string. -/
theorem elems_ok (r : R N G F w0 μ h w) {s : Nat} {x : AV} {l : Nat} {vs : List AV} (he : elems h s x = some (l, vs)) {X : Value} (hv : V N μ h.nx x X) :
    (x = .nils ∧ X = .slice none 0 0 ∧ l = 0 ∧ vs = []) ∨ (∃ n m t, x = .str n m ∧ X = .string t ∧ l = n ∧ vs = (sb n m).map (fun b => AV.int .u8 (Int.ofNat b.toNat)) ∧ t.data.toList = sb n m) ∨
    (∃ b o c xs, X = .slice (some ⟨b, o, none⟩) l c ∧ l ≤ c ∧ xs.length = l * s ∧ (∀ w' : World, w'.heap = w.heap → ∀ k, k ≤ l * s → (loadCells ⟨b, o, none⟩ k).run P w' = .ok (List.toArray (xs.take k)) w') ∧ (loadCells ⟨b, o, none⟩ (l * s)).run P w = .ok (List.toArray xs) w ∧ Vs N μ h.nx vs xs) := by
  cases hv with
  | nils => cases he; exact .inl ⟨rfl, rfl, rfl, rfl⟩
  | str n m t hm hs =>
    simp only [elems, Option.some.injEq, Prod.mk.injEq] at he
    obtain ⟨rfl, rfl⟩ := he
    exact .inr (.inl ⟨_, _, _, rfl, rfl, rfl, by rw [sbl_eq, List.append_nil], hs⟩)
  | slc i o l' c x hi hl hx =>
    obtain ⟨q, hq, he⟩ := obind_some.1 he
    cases he
    by_cases hc : c = 0
    · have h0 : l = 0 := by omega
      subst h0
      rw [show Nat.mul 0 s = 0 from Nat.zero_mul s] at hq
      cases hq
      exact .inr (.inr ⟨_, _, c, [], rfl, hl, by simp, fun _ _ k hk => by rw [Nat.zero_mul] at hk; rw [Nat.le_zero.1 hk]; rfl, by rw [Nat.zero_mul]; rfl, Vs.nil⟩)
    · obtain ⟨xs, h1, h2, h3⟩ := loadCells_pre (P := P) r hq (x := x) (fun _ => hx hc)
      have h4 := h1 w rfl _ (Nat.le_refl _)
      rw [List.take_of_length_le (by omega)] at h4
      exact .inr (.inr ⟨_, _, c, xs, rfl, hl, h2, h1, h4, h3⟩)
  | slo i o l' s' c x hi hl ht hx =>
    obtain ⟨_, he⟩ := grd_of he
    obtain ⟨q, hq, he⟩ := obind_some.1 he
    cases he
    by_cases hc : c = 0
    · have h0 : l = 0 := by omega
      subst h0
      rw [show Nat.mul 0 s = 0 from Nat.zero_mul s] at hq
      cases hq
      exact .inr (.inr ⟨_, _, c, [], rfl, hl, by simp, fun _ _ k hk => by rw [Nat.zero_mul] at hk; rw [Nat.le_zero.1 hk]; rfl, by rw [Nat.zero_mul]; rfl, Vs.nil⟩)
    · obtain ⟨xs, h1, h2, h3⟩ := loadCells_pre (P := P) r hq (x := x) (fun _ => hx hc)
      have h4 := h1 w rfl _ (Nat.le_refl _)
      rw [List.take_of_length_le (by omega)] at h4
      exact .inr (.inr ⟨_, _, c, xs, rfl, hl, h2, h1, h4, h3⟩)
  | _ => cases he

theorem pack_spec : ∀ (vs : List AV) (l n : Nat) (v : AV) (pre : List UInt8), pack vs l n = some v → n < 256 ^ l → sb l n = pre → ∃ bs : List UInt8, vs = bs.map (fun b => AV.int .u8 (Int.ofNat b.toNat)) ∧ ∃ m, v = .str (l + bs.length) m ∧ m < 256 ^ (l + bs.length) ∧ sb (l + bs.length) m = pre ++ bs
  | [], l, n, v, pre, h, hn, hs => ⟨[], rfl, n, str_some h, hn, by simpa using hs⟩
  | x :: vs, l, n, v, pre, h, hn, hs => by
    simp only [pack] at h
    split at h
    · rename_i b
      cases b with
      | negSucc b => cases h
      | ofNat b =>
        obtain ⟨hb, h⟩ := grd_of h
        have hb : b < 256 := by have : b ≤ 255 := by simpa using hb
                                omega
        have h1 : n * 256 + b < 256 ^ (l + 1) := by rw [Nat.pow_succ]; omega
        have h2 : sb (l + 1) (n * 256 + b) = pre ++ [UInt8.ofNat b] := by
          simp only [sb]
          rw [show (n * 256 + b) / 256 = n by omega, hs]
          congr 2
          rw [← ofNat_mod, show (n * 256 + b) % 256 = b by omega]
        obtain ⟨bs, e1, m, e2, e3, e4⟩ := pack_spec vs (l + 1) _ v _ h h1 h2
        refine ⟨UInt8.ofNat b :: bs, ?_, m, ?_, ?_, ?_⟩
        · rw [e1, List.map_cons, UInt8.toNat_ofNat', Nat.mod_eq_of_lt hb]
        · rw [e2, List.length_cons]; congr 1; omega
        · rw [List.length_cons, show l + (bs.length + 1) = l + 1 + bs.length by omega]; exact e3
        · rw [List.length_cons, show l + (bs.length + 1) = l + 1 + bs.length by omega, e4]; simp
    · cases h
/-- Bytes in cells. -/
theorem Vs.bytes_inv {bs : List UInt8} {xs : List Value} (h : Vs N μ n (bs.map fun b => AV.int .u8 (Int.ofNat b.toNat)) xs) : xs = bs.map fun b => Value.int .u8 b.toNat := by
  apply List.ext_getElem?
  intro j
  rw [List.getElem?_map]
  cases hb : bs[j]? with
  | none =>
    have : bs.length ≤ j := List.getElem?_eq_none_iff.1 hb
    rw [List.getElem?_eq_none (by rw [← h.1]; simpa using this)]; rfl
  | some b =>
    have hj : j < bs.length := (List.getElem?_eq_some_iff.1 hb).1
    have hj' : j < xs.length := by rw [← h.1]; simpa using hj
    have h1 := h.2 j (AV.int .u8 (Int.ofNat b.toNat)) xs[j] (by rw [List.getElem?_map, hb]; rfl) (List.getElem?_eq_getElem hj')
    rw [List.getElem?_eq_getElem hj', h1.int_inv]; rfl
theorem cb2s_ok (r : R N G F w0 μ h w) {t u e : TypeId} (hu : P.underlying t = some (.slice e)) (hd : P.underlying u = some .string) (he : P.underlying e = some (.int .u8)) {vs : List AV} {v : AV} {X : Value} (hk0 : k_cb2s vs h = some (v, h')) (hv0 : Vs N μ h.nx vs [X]) :
    h' = h ∧ ∃ x, (convert t u X).run P w = .ok x w ∧ V N μ h.nx v x := by
  obtain ⟨a, rfl, hk⟩ := arg1_some hk0
  obtain ⟨_, e1, ha⟩ := hv0.one_inv
  cases e1
  have hns : ∀ l m, a ≠ .str l m := fun l m h => by subst h; cases hk
  have hk1 : (obind (elems h 1 a) fun p => yld h (pack p.2 0 0)) = some (v, h') := by
    cases a <;> first | exact hk | exact absurd rfl (hns _ _)
  obtain ⟨⟨l, cs⟩, he1, hk2⟩ := obind_some.1 hk1
  obtain ⟨hp, rfl⟩ := yld_some hk2
  obtain ⟨bs, e1, m, e2, e3, e4⟩ := pack_spec cs 0 0 v [] hp (by decide) rfl
  refine ⟨rfl, ?_⟩
  rw [Nat.zero_add] at e2 e3 e4
  subst e2
  rcases elems_ok (P := P) r he1 ha with ⟨rfl, rfl, rfl, rfl⟩ | ⟨n, m, t, rfl, _⟩ | ⟨b, o, c, xs, rfl, h1, _, _, h2, h3⟩
  · have : bs = [] := by simpa using e1.symm
    subst this
    refine ⟨.string .empty, ?_, .str _ _ _ e3 (by rw [e4]; rfl)⟩
    simp [convert, run_underlying hu, run_underlying hd, run_underlying he, Conv.bytesToString]
  · exact absurd rfl (hns _ _)
  · have e1 : cs = _ := e1
    rw [e1] at h3
    have := h3.bytes_inv
    subst this
    rw [Nat.mul_one] at h2
    refine ⟨.string ⟨bs.toArray⟩, ?_, .str _ _ _ e3 (by rw [e4]; rfl)⟩
    rw [run_convert_bytes_string w t u e _ l c hu he hd]
    have h4 : (bs.map fun b => Value.int .u8 b.toNat) = (bs.map (fun b => (b.toNat : Int))).map (Value.int .u8) := by rw [List.map_map]; rfl
    rw [h4] at h2
    rw [run_bytesToString w _ l c _ h2, foldl_push_byteCells]
    have he0 : ByteArray.empty.data = #[] := rfl
    rw [he0]
    simp
end
end Go.Vm
