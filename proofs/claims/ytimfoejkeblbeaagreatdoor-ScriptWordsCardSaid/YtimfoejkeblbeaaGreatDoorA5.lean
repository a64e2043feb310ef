/- The evaluator that the kernel runs, and its laws. -/
import Derived.Test.YtimfoejkeblbeaaGreatDoorA4
import Derived.Lib.Index
set_option linter.all false
namespace Go.Vm
open Go
section
variable {N : Names} {G : Tr (Tr AV)} {F : Nat → Option Obj} {w0 : World} {μ : Mp} {h : AH} {w w' : World}

/-- A world that has grown. -/
structure Grew (w w' : World) : Prop where
  os : w'.os = w.os
  out : w'.output = w.output
  size : w.heap.size ≤ w'.heap.size
  heap : ∀ k, k < w.heap.size → w'.heap[k]? = w.heap[k]?
theorem Grew.cell (g : Grew w w') {a : Addr} {v : Value} (hc : w.cell? a = some v) : w'.cell? a = some v := by
  have hlt := World.block_lt_of_cell? w a hc
  unfold World.cell? at hc ⊢
  rw [g.heap _ hlt]; exact hc
theorem R.grew (r : R N G F w0 μ h w) (g : Grew w w') : R N G F w0 μ h w' := by
  refine ⟨g.os.trans r.os, g.out.trans r.out, Nat.le_trans r.lo g.size, fun b o hF => ?_, r.ids, fun i o hi => ?_, r.apart, r.own, r.grp, r.tags, fun gg c o v hG hv => ?_, r.gfr, r.inc, r.fnone, r.mxl⟩
  · have := r.fr b o hF
    rw [g.heap b (Array.getElem?_eq_some_iff.1 this).1]; exact this
  · exact (r.obj i o hi).keep (g.heap _ (r.blk_lt hi)) (Nat.le_refl _) fun _ _ _ _ _ _ _ _ hr => hr
  · obtain ⟨x, hx, h1, h2⟩ := r.glb gg c o v hG hv
    exact ⟨x, g.cell hx, h1, h2⟩
/-- A block that was made meanwhile. -/
theorem R.adopt (r : R N G F w0 μ h w) (gr : Grew w w') {ob : AObj} {j : Nat} {h' : AH} (hn : hnew h ob = some (j, h')) (b x t : Nat) (hb : w.heap.size ≤ b) (hro : ob.ro = false) (htag : ob.tag = 0)
    (hold : ∀ h' : AH, h'.nx = h.nx + 1 → Holds N (μ.ext h.nx b x t) h' h.nx w' ob) :
    j = h.nx ∧ h'.nx = h.nx + 1 ∧ R N G F w0 (μ.ext h.nx b x t) h' w' := by
  unfold hnew at hn
  obtain ⟨t', ht, hn⟩ := Tr.setK_get hn
  rw [nat_eq] at hn
  cases hn
  have hag : Mp.agree h.nx μ (μ.ext h.nx b x t) := fun i hi => by
    have : i ≠ h.nx := by omega
    simp [Mp.ext, this]
  have hold := hold { h with t := t', nx := h.nx + 1 } rfl
  have hget : ∀ j a, t'.get j = some a → (j = h.nx ∧ a = ob) ∨ (j < h.nx ∧ h.t.get j = some a) := fun j a hj => by
    rw [ht] at hj
    by_cases hjn : j = h.nx
    · rw [if_pos hjn] at hj; cases hj; exact .inl ⟨hjn, rfl⟩
    · rw [if_neg hjn] at hj; exact .inr ⟨r.ids j a hj, hj⟩
  have hB : (μ.ext h.nx b x t).blk h.nx = b := by simp [Mp.ext]
  refine ⟨rfl, rfl, ⟨gr.os.trans r.os, gr.out.trans r.out, Nat.le_trans r.lo gr.size, fun b o' hF' => ?_, fun j a hj => ?_, fun j a hj => ?_, fun j k a c hj hk hjk hblk => ?_, fun j a hj hro => ?_,
    fun j a hj ht0 => ?_, fun j a tg hj htg => ?_, fun g c x v hG hv => ?_, r.gfr, fun j k a c hj hk hjk ht0 hblk => ?_, r.fnone, r.mxl⟩⟩
  · have := r.fr b o' hF'
    rw [gr.heap b (Array.getElem?_eq_some_iff.1 this).1]; exact this
  · rcases hget j a hj with ⟨rfl, _⟩ | ⟨h1, _⟩ <;> (show _ < h.nx + 1; omega)
  · rcases hget j a hj with ⟨rfl, rfl⟩ | ⟨h1, h2⟩
    · exact hold
    · exact (r.obj j a h2).ext hag h1 (gr.heap _ (r.blk_lt h2)) (Nat.le_succ _) fun hr => hr
  · rcases hget j a hj with ⟨rfl, rfl⟩ | ⟨h1, h2⟩ <;> rcases hget k c hk with ⟨rfl, rfl⟩ | ⟨h3, h4⟩
    · exact absurd rfl hjk
    · have := r.blk_lt h4
      rw [hB, ← (hag k h3).1] at hblk; omega
    · have := r.blk_lt h2
      rw [hB, ← (hag j h1).1] at hblk; omega
    · rw [← (hag j h1).1, ← (hag k h3).1] at hblk
      exact r.apart j k a c h2 h4 hjk hblk
  · rcases hget j a hj with ⟨rfl, rfl⟩ | ⟨h1, h2⟩
    · rw [hB]; exact r.fnone _ (Nat.le_trans r.lo hb)
    · rw [← (hag j h1).1]; exact r.own j a h2 hro
  · rcases hget j a hj with ⟨rfl, rfl⟩ | ⟨h1, h2⟩
    · exact absurd htag ht0
    · exact r.grp j a h2 ht0
  · rcases hget j a hj with ⟨rfl, rfl⟩ | ⟨h1, h2⟩
    · rw [htag] at htg; cases htg
    · obtain ⟨p, hp, hpt⟩ := r.tags j a tg h2 htg
      have := r.ids tg p hp
      exact ⟨p, by show t'.get tg = _; rw [ht, if_neg (by omega)]; exact hp, hpt⟩
  · obtain ⟨y, hy, hv', h1⟩ := r.glb g c x v hG hv
    exact ⟨y, gr.cell hy, hv'.mono (fun i hi => absurd hi (Nat.not_lt_zero _)) (Nat.zero_le _), h1⟩
  · rcases hget j a hj with ⟨rfl, rfl⟩ | ⟨h1, h2⟩
    · exact absurd htag ht0
    · rcases hget k c hk with ⟨rfl, rfl⟩ | ⟨h3, h4⟩
      · have := r.blk_lt h2
        rw [hB, ← (hag j h1).1] at hblk; omega
      · rw [← (hag j h1).1, ← (hag k h3).1] at hblk
        rw [← (hag j h1).2.1, ← (hag k h3).2.1]
        exact r.inc j k a c h2 h4 hjk ht0 hblk

/-- Names no block. -/
def flat : Nat → AV → Bool
  | 0, _ => false
  | d + 1, x => match x with
    | .bool _ | .int _ _ | .str _ _ | .nilp | .nils | .nilm | .nilf | .nili | .glob _ _ => true
    | .agg l => l.all (flat d)
    | .tup l => l.all (flat d)
    | .ifc _ v => flat d v
    | .fn _ a b => a.all (flat d) && b.all (flat d)
    | _ => false
theorem flat_V {μ' : Mp} {n n' : Nat} : ∀ (d : Nat) {v : AV} {x : Value}, flat d v = true → V N μ n v x → V N μ' n' v x
  | 0, _, _, h, _ => by cases h
  | d + 1, v, x, h, hv => by
    have ih := fun {v : AV} {x : Value} => flat_V (μ' := μ') (n := n) (n' := n') d (v := v) (x := x)
    have all : ∀ {l : List AV}, l.all (flat d) = true → ∀ {j : Nat} {p : AV}, l[j]? = some p → flat d p = true := fun hl j p hj => List.all_eq_true.1 hl p (List.mem_of_getElem? hj)
    cases hv with
    | bool b => exact .bool b
    | int k i => exact .int k i
    | str l m s hm hs => exact .str l m s hm hs
    | nilp => exact .nilp
    | ptr i o hi => cases h
    | nils => exact .nils
    | slc i o l c x hi hl hx => cases h
    | slo i o l s c x hi hl ht hx => cases h
    | nilm => exact .nilm
    | map i hi => cases h
    | fn f g a b x y hf ha hb hxa hyb =>
      simp only [flat, Bool.and_eq_true] at h
      exact .fn f g a b x y hf ha hb (fun j p q h1 h2 => ih (all h.1 h1) (hxa j p q h1 h2)) (fun j p q h1 h2 => ih (all h.2 h1) (hyb j p q h1 h2))
    | nilf => exact .nilf
    | ifc t v x hv => exact .ifc t v x (ih h hv)
    | nili => exact .nili
    | agg l x hl hx => exact .agg l x hl fun j p q h1 h2 => ih (all h h1) (hx j p q h1 h2)
    | tup l x hl hx => exact .tup l x hl fun j p q h1 h2 => ih (all h h1) (hx j p q h1 h2)
    | glob g o => exact .glob g o
end
end Go.Vm
namespace Go.Vm
open Go
noncomputable section

/-- A slice of known cells. -/
structure Sl where
  op : Bool
  l : Nat
  c : Nat
  e : Nat
  fz : Bool
  vs : List AV
def Sl.val (s : Sl) (i : Nat) : AV := bsel s.op (.slo i 0 s.l s.c) (.slc i 0 s.l s.c)
def Sl.ob (s : Sl) (c : Tr AV) (n : Nat) (ro : Bool) : AObj := .cells c n s.e (bsel s.fz 1 0) 0 0 ro
inductive Res where
  | v (a : AV)
  | sl (s : Sl)
  | tup (a : List AV) (s : Sl) (b : List AV)
structure Memo where
  pre : List AV
  arg : Option Sl
  post : List AV
  res : Res

def sameI (a b : Int) : Bool := Int.casesOn a (fun m => Int.casesOn b (fun n => Nat.beq m n) fun _ => false) (fun m => Int.casesOn b (fun _ => false) fun n => Nat.beq m n)
def same1 (a b : AV) : Bool :=
  match a with
  | .int k x => (match b with | .int j y => bsel (kbeq k j) (sameI x y) false | _ => false)
  | a => same 20 a b
def samel : List AV → List AV → Bool
  | [], [] => true
  | a :: l, b :: m => bsel (same1 a b) (samel l m) false
  | _, _ => false
def fzOk (z : Bool) (fl fh : Nat) : Bool := bsel z (Nat.ble (Nat.succ fh) fl) (Nat.beq fl fh)
/-- Is it such a slice? Its block, its place. -/
def mBlk (s : Sl) (h : AH) (i o : Nat) : Option (Nat × Nat) :=
  match h.t.get i with
  | some (.cells _ n e fl fh _ _) => grd (Nat.beq e s.e) (grd (fzOk s.fz fl fh) (grd (Nat.ble (Nat.add o s.vs.length) n) (obind (hloads h i o s.vs.length []) fun L => grd (samel L s.vs) (some (i, o)))))
  | _ => none
def mSl (s : Sl) (x : AV) (h : AH) : Option (Nat × Nat) :=
  match x with
  | .slc i o l c => grd (bsel s.op false true) (grd (Nat.beq l s.l) (grd (Nat.beq c s.c) (mBlk s h i o)))
  | .slo i o l z => grd s.op (grd (Nat.beq l s.l) (grd (Nat.beq z s.c) (mBlk s h i o)))
  | _ => none
/-- Values ahead of the rest. -/
def mPre {β : Type} : List AV → List AV → (List AV → Option β) → Option β
  | [], xs, f => f xs
  | a :: l, x :: xs, f => grd (same1 x a) (mPre l xs f)
  | _ :: _, [], _ => none
def mArgs (m : Memo) (xs : List AV) (h : AH) : Bool :=
  (mPre m.pre xs fun xs => Option.casesOn m.arg (mPre m.post xs fun xs => List.casesOn xs (some ()) fun _ _ => none) fun s =>
    List.casesOn xs none fun x xs => obind (mSl s x h) fun _ => mPre m.post xs fun xs => List.casesOn xs (some ()) fun _ _ => none).isSome
def giveSl (s : Sl) (h : AH) : Option (AV × AH) := ofList s.vs fun c n => obind (hnew h (s.ob c n false)) fun q => some (s.val q.1, q.2)
def give (r : Res) (h : AH) : Option (AV × AH) :=
  match r with
  | .v a => some (a, h)
  | .sl s => giveSl s h
  | .tup a s b => obind (giveSl s h) fun q => some (.tup (a ++ q.1 :: b), q.2)

def isFresh (h : AH) (k i : Nat) : Bool :=
  match h.t.get i with
  | some (.cells _ _ _ _ _ _ false) => Nat.ble k i
  | _ => false
def rSl (s : Sl) (x : AV) (h : AH) (k : Nat) : Bool :=
  match mSl s x h with
  | some q => isFresh h k q.1
  | none => false
def rOk (r : Res) (x : AV) (h : AH) (k : Nat) : Bool :=
  match r with
  | .v a => same 20 x a
  | .sl s => rSl s x h k
  | .tup a s b => (match x with
    | .tup l => (mPre a l fun l => List.casesOn l none fun x l => grd (rSl s x h k) (mPre b l fun l => List.casesOn l (some ()) fun _ _ => none)).isSome
    | _ => false)
def slFlat (s : Sl) : Bool := s.vs.all (flat 20)
def Memo.plain (m : Memo) : Bool :=
  m.pre.all (flat 20) && m.post.all (flat 20) && (match m.arg with | some s => slFlat s | none => true) &&
    (match m.res with | .v a => Vm.flat 20 a | .sl s => slFlat s | .tup a s b => a.all (Vm.flat 20) && slFlat s && b.all (Vm.flat 20))
/-- Is the row so? -/
def Memo.chk (cf : CallF) (f : Nat) (m : Memo) : Bool :=
  m.plain && (match m.arg with
    | none => (match cf f (m.pre ++ m.post) ⟨.e, .e, 0⟩ with
      | some q => rOk m.res q.1 q.2 0
      | none => false)
    | some s => (match ofList s.vs fun c n => cf f (m.pre ++ s.val 0 :: m.post) ⟨.n .e (some (s.ob c n true)) .e, .e, 1⟩ with
      | some q => rOk m.res q.1 q.2 1
      | none => false))

def mFind (vs : List AV) (h : AH) : List Memo → Option Memo
  | [] => none
  | m :: l => bsel (mArgs m vs h) (some m) (mFind vs h l)
def memoOrc (tab : Tr (List Memo)) (orc : Orc) : Orc := fun f vs h =>
  Option.casesOn (tab.get f) (orc f vs h) fun l => Option.casesOn (mFind vs h l) (orc f vs h) fun m => some (give m.res h)
end
end Go.Vm
namespace Go.Vm
open Go
section
variable {N : Names} {G : Tr (Tr AV)} {F : Nat → Option Obj} {w0 : World} {P : Program} {μ : Mp} {h h' : AH} {w w' : World}

theorem sameI_eq {a b : Int} (h : sameI a b = true) : a = b := by
  cases a <;> cases b <;> first | (cases h; done) | (exact congrArg _ (Nat.eq_of_beq_eq_true h))
theorem same1_eq {a b : AV} (h : same1 a b = true) : a = b := by
  unfold same1 at h
  split at h
  · split at h
    · rename_i k x _ j y
      cases hk : kbeq k j with
      | false => rw [hk] at h; cases h
      | true => rw [hk] at h; rw [kbeq_iff.1 hk, sameI_eq h]
    · cases h
  · exact same_eq _ _ _ h
theorem samel_eq : ∀ {l m : List AV}, samel l m = true → l = m
  | [], [], _ => rfl
  | [], _ :: _, h => by cases h
  | _ :: _, [], h => by cases h
  | a :: l, b :: m, h => by
    simp only [samel] at h
    cases h1 : same1 a b with
    | false => rw [h1] at h; cases h
    | true => rw [h1] at h; rw [same1_eq h1, samel_eq h]

/-- What a match of a slice says. -/
structure IsSl (s : Sl) (x : AV) (h : AH) (i o : Nat) : Prop where
  val : x = bsel s.op (.slo i o s.l s.c) (.slc i o s.l s.c)
  ob : ∃ c n fl fh tag ro, h.t.get i = some (.cells c n s.e fl fh tag ro) ∧ fzOk s.fz fl fh = true ∧ o + s.vs.length ≤ n
  row : hloads h i o s.vs.length [] = some s.vs
theorem mBlk_some {s : Sl} {i o : Nat} {q : Nat × Nat} (hm : mBlk s h i o = some q) : q = (i, o) ∧ (∃ c n fl fh tag ro, h.t.get i = some (.cells c n s.e fl fh tag ro) ∧ fzOk s.fz fl fh = true ∧ o + s.vs.length ≤ n) ∧ hloads h i o s.vs.length [] = some s.vs := by
  unfold mBlk at hm
  split at hm
  · rename_i c n e fl fh tag ro hg
    obtain ⟨h1, hm⟩ := grd_of hm
    obtain ⟨h2, hm⟩ := grd_of hm
    obtain ⟨h3, hm⟩ := grd_of hm
    obtain ⟨L, hL, hm⟩ := obind_some.1 hm
    obtain ⟨h4, hm⟩ := grd_of hm
    cases hm
    have he : e = s.e := Nat.eq_of_beq_eq_true h1
    subst he
    refine ⟨rfl, ⟨c, n, fl, fh, tag, ro, hg, h2, by simpa using h3⟩, ?_⟩
    rw [hL, samel_eq h4]
  · cases hm
theorem mSl_some {s : Sl} {x : AV} {q : Nat × Nat} (hm : mSl s x h = some q) : IsSl s x h q.1 q.2 := by
  unfold mSl at hm
  split at hm
  · rename_i i o l c
    obtain ⟨h1, hm⟩ := grd_of hm
    obtain ⟨h2, hm⟩ := grd_of hm
    obtain ⟨h3, hm⟩ := grd_of hm
    obtain ⟨rfl, h4, h5⟩ := mBlk_some hm
    refine ⟨?_, h4, h5⟩
    rw [Nat.eq_of_beq_eq_true h2, Nat.eq_of_beq_eq_true h3]
    cases hop : s.op with
    | true => rw [hop] at h1; cases h1
    | false => rfl
  · rename_i i o l c
    obtain ⟨h1, hm⟩ := grd_of hm
    obtain ⟨h2, hm⟩ := grd_of hm
    obtain ⟨h3, hm⟩ := grd_of hm
    obtain ⟨rfl, h4, h5⟩ := mBlk_some hm
    refine ⟨?_, h4, h5⟩
    rw [Nat.eq_of_beq_eq_true h2, Nat.eq_of_beq_eq_true h3, h1]
    rfl
  · cases hm
theorem mPre_some {β : Type} : ∀ {l xs : List AV} {f : List AV → Option β} {r : β}, mPre l xs f = some r → ∃ ys, xs = l ++ ys ∧ f ys = some r
  | [], xs, f, r, h => ⟨xs, rfl, h⟩
  | a :: l, [], f, r, h => by cases h
  | a :: l, x :: xs, f, r, h => by
    obtain ⟨h1, h⟩ := grd_of h
    obtain ⟨ys, h2, h3⟩ := mPre_some h
    exact ⟨ys, by rw [same1_eq h1, h2]; rfl, h3⟩
theorem mArgs_some {m : Memo} {xs : List AV} (hm : mArgs m xs h = true) : (m.arg = none ∧ xs = m.pre ++ m.post) ∨ ∃ s x i o, m.arg = some s ∧ xs = m.pre ++ x :: m.post ∧ IsSl s x h i o := by
  unfold mArgs at hm
  obtain ⟨u, hu⟩ := Option.isSome_iff_exists.1 hm
  obtain ⟨ys, h1, h2⟩ := mPre_some hu
  cases ha : m.arg with
  | none =>
    rw [ha] at h2
    obtain ⟨zs, h3, h4⟩ := mPre_some h2
    cases zs with
    | nil => exact .inl ⟨rfl, by rw [h1, h3]; simp⟩
    | cons z zs => cases h4
  | some s =>
    rw [ha] at h2
    cases ys with
    | nil => cases h2
    | cons x ys =>
      obtain ⟨q, hq, h2⟩ := obind_some.1 (show obind (mSl s x h) _ = some u from h2)
      obtain ⟨zs, h3, h4⟩ := mPre_some h2
      cases zs with
      | nil => exact .inr ⟨s, x, q.1, q.2, rfl, by rw [h1, h3]; simp, mSl_some hq⟩
      | cons z zs => cases h4

/-- All that is there now. -/
def Now (w : World) : Nat → Option Obj := fun b => w.heap[b]?
theorem now_none {w : World} {b : Nat} (h : w.heap.size ≤ b) : Now w b = none := Array.getElem?_eq_none h
theorem small_none (r : R N G F w0 μ h w) : R N G (Now w) w μ ⟨.e, .e, 0⟩ w :=
  have nb : ∀ {i : Nat} {o : AObj} {p : Prop}, (Tr.e : Tr AObj).get i = some o → p := fun hi => (by rw [Tr.get_e] at hi; cases hi)
  ⟨rfl, rfl, Nat.le_refl _, fun b o hb => hb, fun i o hi => nb hi, fun i o hi => nb hi, fun i j a b hi => nb hi,
    fun i o hi => nb hi, fun i o hi => nb hi, fun i o t hi => nb hi,
    r.glb, fun g c hg => let ⟨ob, hob⟩ := r.gfr g c hg; ⟨ob, r.fr g ob hob⟩, fun i j a b hi => nb hi, fun b hb => now_none hb, let ⟨arr, t, f, m, h1, h2⟩ := r.mxl; ⟨arr, t, f, m, r.fr _ _ h1, h2⟩⟩

theorem get_one {α : Type} {v : α} {i : Nat} {o : α} (h : (Tr.n .e (some v) .e).get i = some o) : i = 0 ∧ o = v := by
  rw [Tr.get_n] at h
  by_cases hi : i = 0
  · rw [if_pos hi] at h; cases h; exact ⟨hi, rfl⟩
  · rw [if_neg hi] at h
    simp [Tr.get_e] at h
theorem fz_zero {z : Bool} {fl fh b b' size lo hi : Nat} (h : fzOk z fl fh = true) (hf : Fz fl fh b size lo hi) : Fz (bsel z 1 0) 0 b' size lo hi := by
  obtain ⟨h1, h2, h3⟩ := hf
  cases z with
  | false =>
    have : fl = fh := Nat.eq_of_beq_eq_true h
    exact ⟨(fun _ => h1 this), (fun h => absurd h (Nat.lt_irrefl _)), (fun h => absurd h (Nat.lt_irrefl _))⟩
  | true =>
    have : fh + 1 ≤ fl := by simpa [fzOk, bsel] using h
    exact ⟨(fun h => by cases h), (fun h => by simp [bsel] at h), fun _ => h3 (by omega)⟩

/-- The map of a heap of one block. -/
def Mp.one (b x t : Nat) : Mp := ⟨fun _ => b, fun _ => x, fun _ => t⟩
/-- The block of a slice, alone. -/
theorem small_some (r : R N G F w0 μ h w) {s : Sl} {x : AV} {i o : Nat} (hs : IsSl s x h i o) (hfl : slFlat s = true) {X : Value} (hx : V N μ h.nx x X) {c : Tr AV} {n : Nat}
    (hc : ∀ j, c.get j = s.vs[j]?) (hn : n = s.vs.length) :
    R N G (Now w) w (Mp.one (μ.blk i) (μ.bas i + o) (μ.tot i)) ⟨.n .e (some (s.ob c n true)) .e, .e, 1⟩ w ∧ V N (Mp.one (μ.blk i) (μ.bas i + o) (μ.tot i)) 1 (s.val 0) X := by
  obtain ⟨hval, ⟨c0, n0, fl, fh, tag, ro, hg, hfz, hle⟩, hrow⟩ := hs
  constructor
  · obtain ⟨arr, lo, hi, hb, hsz, hlen, hz, hcells⟩ := r.obj i _ hg
    obtain ⟨k, hk1, hk2, hk3⟩ := r.loads _ _ _ _ hrow
    simp at hk1
    subst hk1
    refine ⟨rfl, rfl, Nat.le_refl _, fun b o hb => hb, fun j ob hj => ?_, fun j ob hj => ?_, fun j k a b hj hk hjk => ?_, fun j ob hj hro => ?_, fun j ob hj ht => ?_, fun j ob t hj ht => ?_,
      fun g c o v hG hv => ?_, fun g c hg => let ⟨ob, hob⟩ := r.gfr g c hg; ⟨ob, r.fr g ob hob⟩, fun j k a b hj hk hjk ht => ?_, fun b hb => now_none hb, let ⟨arr, t, f, m, h1, h2⟩ := r.mxl; ⟨arr, t, f, m, r.fr _ _ h1, h2⟩⟩
    · obtain ⟨rfl, _⟩ := get_one hj; exact Nat.zero_lt_one
    · obtain ⟨rfl, rfl⟩ := get_one hj
      refine ⟨arr, lo, hi, hb, hsz, ?_, fz_zero hfz hz, fun _ j v hj hv => ?_⟩
      · show μ.bas i + o + n ≤ arr.size
        omega
      · rw [hc] at hv
        obtain ⟨_, y, hy, hvy, h1⟩ := r.load (hk3 j v hv)
        refine ⟨y, ?_, flat_V 20 (List.all_eq_true.1 hfl v (List.mem_of_getElem? hv)) hvy, h1⟩
        show arr[μ.bas i + o + j]? = some y
        rw [World.cell?, hb] at hy
        rw [Nat.add_assoc]
        simpa using hy
    · obtain ⟨rfl, _⟩ := get_one hj
      obtain ⟨rfl, _⟩ := get_one hk
      exact absurd rfl hjk
    · obtain ⟨_, rfl⟩ := get_one hj; cases hro
    · obtain ⟨_, rfl⟩ := get_one hj; exact absurd rfl ht
    · obtain ⟨_, rfl⟩ := get_one hj; cases ht
    · obtain ⟨y, hy, hv', h1⟩ := r.glb g c o v hG hv
      exact ⟨y, hy, hv'.mono (fun i hi => absurd hi (Nat.not_lt_zero _)) (Nat.le_refl _), h1⟩
    · obtain ⟨_, rfl⟩ := get_one hj; exact absurd rfl ht
  · rw [hval] at hx
    unfold Sl.val
    cases hop : s.op with
    | true =>
      rw [hop] at hx
      cases hx with
      | slo _ _ l z c x hi hl ht hx =>
        exact .slo 0 0 s.l s.c c x Nat.zero_lt_one hl (by simpa [Mp.one] using ht) (by simpa [Mp.one] using hx)
    | false =>
      rw [hop] at hx
      cases hx with
      | slc _ _ l c x hi hl hx =>
        exact .slc 0 0 s.l s.c x Nat.zero_lt_one hl (by simpa [Mp.one] using hx)
end
end Go.Vm
namespace Go.Vm
open Go
section
variable {N : Names} {G : Tr (Tr AV)} {F : Nat → Option Obj} {w0 : World} {P : Program} {μ μ' : Mp} {h h' hs : AH} {w w' : World}

theorem grew_of (r : R N G (Now w) w μ' hs w') : Grew w w' :=
  ⟨r.os, r.out, r.lo, fun k hk => by
    have h1 : Now w k = some w.heap[k] := Array.getElem?_eq_getElem hk
    rw [r.fr k _ h1]; exact h1.symm⟩
theorem Holds.any_g {h1 h2 : AH} {i : Nat} {c : Tr AV} {n e fl fh : Nat} {ro : Bool} (hn : h1.nx = h2.nx) (hh : Holds N μ h1 i w (.cells c n e fl fh 0 ro)) : Holds N μ h2 i w (.cells c n e fl fh 0 ro) := by
  obtain ⟨arr, lo, hi, p1, p2, p3, p4, p5⟩ := hh
  exact ⟨arr, lo, hi, p1, p2, p3, p4, fun _ => by rw [← hn]; exact p5 rfl⟩
/-- A fresh slice is taken into the heap. -/
theorem giveSl_ok (r : R N G F w0 μ h w) (rs : R N G (Now w) w μ' hs w') {s : Sl} (hfl : slFlat s = true) {x : AV} {k : Nat} (hr : rSl s x hs k = true) {X : Value} (hx : V N μ' hs.nx x X) {v : AV} (hg : giveSl s h = some (v, h')) :
    ∃ μb, Mp.agree h.nx μ μb ∧ h.nx ≤ h'.nx ∧ R N G F w0 μb h' w' ∧ V N μb h'.nx v X := by
  have gr := grew_of rs
  unfold rSl at hr
  split at hr
  case h_2 => cases hr
  rename_i q hq
  obtain ⟨i, o⟩ := q
  obtain ⟨hval, ⟨c0, n0, fl, fh, tag, ro, hgi, hfz, hle⟩, hrow⟩ := mSl_some hq
  have hgi : hs.t.get i = some (.cells c0 n0 s.e fl fh tag ro) := hgi
  have hrow : hloads hs i o s.vs.length [] = some s.vs := hrow
  have hle : o + s.vs.length ≤ n0 := hle
  have hval : x = bsel s.op (.slo i o s.l s.c) (.slc i o s.l s.c) := hval
  unfold isFresh at hr
  rw [show (i, o).1 = i by rfl, hgi] at hr
  have hro : ro = false := by
    cases ro with
    | false => rfl
    | true => cases hr
  have hblk : w.heap.size ≤ μ'.blk i := by
    have := rs.own i _ hgi hro
    exact Nat.not_lt.1 fun hlt => by
      have h1 : Now w (μ'.blk i) = some w.heap[μ'.blk i] := Array.getElem?_eq_getElem hlt
      rw [h1] at this; cases this
  unfold giveSl at hg
  obtain ⟨c, n, hc, hn, hg⟩ : ∃ c n, (∀ j, c.get j = s.vs[j]?) ∧ n = s.vs.length ∧ obind (hnew h (s.ob c n false)) (fun q => some (s.val q.1, q.2)) = some (v, h') := by
    obtain ⟨c, h1, h2, h3⟩ := ofList_spec hg
    exact ⟨c, _, h1, rfl, h3⟩
  obtain ⟨⟨j, h1⟩, hnw, hg⟩ := obind_some.1 hg
  cases hg
  obtain ⟨arr, lo, hi, p1, p2, p3, p4, p5⟩ := rs.obj i _ hgi
  obtain ⟨kk, hk1, hk2, hk3⟩ := rs.loads _ _ _ _ hrow
  simp at hk1
  subst hk1
  obtain ⟨e1, e2, e3⟩ := r.adopt gr hnw (μ'.blk i) (μ'.bas i + o) (μ'.tot i) hblk rfl rfl fun h2 hn2 => by
    refine ⟨arr, lo, hi, by simpa [Mp.ext] using p1, by simpa [Mp.ext] using p2, ?_, fz_zero hfz p4, fun _ j v hj hv => ?_⟩
    · show (μ.ext h.nx (μ'.blk i) (μ'.bas i + o) (μ'.tot i)).bas h.nx + n ≤ arr.size
      rw [Mp.ext_bas]; omega
    · rw [hc] at hv
      obtain ⟨_, y, hy, hvy, h1⟩ := rs.load (hk3 j v hv)
      refine ⟨y, ?_, flat_V 20 (List.all_eq_true.1 hfl v (List.mem_of_getElem? hv)) hvy, h1⟩
      rw [Mp.ext_bas]
      rw [World.cell?, p1] at hy
      rw [Nat.add_assoc]
      simpa using hy
  refine ⟨_, Mp.ext_agree _ _ _ _ _, by rw [e2]; exact Nat.le_succ _, e3, ?_⟩
  rw [e1, e2]
  rw [hval] at hx
  unfold Sl.val
  cases hop : s.op with
  | true =>
    rw [hop] at hx
    cases hx with
    | slo _ _ l z c x hi hl ht hx =>
      have hb : (μ.ext h.nx (μ'.blk i) (μ'.bas i + o) (μ'.tot i)).blk h.nx = μ'.blk i := Mp.ext_blk _ _ _ _ _
      have := V.slo (N := N) (μ := μ.ext h.nx (μ'.blk i) (μ'.bas i + o) (μ'.tot i)) (n := h.nx + 1) h.nx 0 s.l s.c c x (Nat.lt_succ_self _) hl (by rw [Mp.ext_bas, Mp.ext_tot]; simpa using ht) (by rw [Mp.ext_bas]; simpa using hx)
      rw [hb] at this
      exact this
  | false =>
    rw [hop] at hx
    cases hx with
    | slc _ _ l c x hi hl hx =>
      have hb : (μ.ext h.nx (μ'.blk i) (μ'.bas i + o) (μ'.tot i)).blk h.nx = μ'.blk i := Mp.ext_blk _ _ _ _ _
      have := V.slc (N := N) (μ := μ.ext h.nx (μ'.blk i) (μ'.bas i + o) (μ'.tot i)) (n := h.nx + 1) h.nx 0 s.l s.c x (Nat.lt_succ_self _) hl (by rw [Mp.ext_bas]; simpa using hx)
      rw [hb] at this
      exact this

theorem Vs.split {n : Nat} {a b : List AV} {xs : List Value} (hv : Vs N μ n (a ++ b) xs) : ∃ ys zs, xs = ys ++ zs ∧ Vs N μ n a ys ∧ Vs N μ n b zs := by
  refine ⟨xs.take a.length, xs.drop a.length, (List.take_append_drop _ _).symm, ?_, ?_⟩
  · have := hv.take a.length; rwa [List.take_left] at this
  · have := hv.drop a.length; rwa [List.drop_left] at this
theorem flat_Vs {n n' : Nat} {l : List AV} (hf : l.all (flat 20) = true) {xs : List Value} (hv : Vs N μ n l xs) : Vs N μ' n' l xs :=
  ⟨hv.1, fun j p q h1 h2 => flat_V 20 (List.all_eq_true.1 hf p (List.mem_of_getElem? h1)) (hv.2 j p q h1 h2)⟩

/-- The result is taken over. -/
theorem give_ok (r : R N G F w0 μ h w) (rs : R N G (Now w) w μ' hs w') {res : Res} (hfl : (match res with | .v a => flat 20 a | .sl s => slFlat s | .tup a s b => a.all (flat 20) && slFlat s && b.all (flat 20)) = true) {x : AV} {k : Nat} (hr : rOk res x hs k = true) {X : Value} (hx : V N μ' hs.nx x X) {v : AV} (hg : give res h = some (v, h')) :
    ∃ μb, Mp.agree h.nx μ μb ∧ h.nx ≤ h'.nx ∧ R N G F w0 μb h' w' ∧ V N μb h'.nx v X := by
  cases res with
  | v a =>
    cases hg
    have := same_eq 20 _ _ hr
    subst this
    exact ⟨μ, .refl, Nat.le_refl _, r.grew (grew_of rs), flat_V 20 hfl hx⟩
  | sl s => exact giveSl_ok r rs hfl hr hx hg
  | tup a s b =>
    simp only [Bool.and_eq_true] at hfl
    obtain ⟨⟨f1, f2⟩, f3⟩ := hfl
    obtain ⟨⟨u, h1⟩, hu, hg⟩ := obind_some.1 (show obind (giveSl s h) _ = some (v, h') from hg)
    cases hg
    unfold rOk at hr
    dsimp only at hr
    split at hr
    case h_2 => cases hr
    rename_i l
    obtain ⟨z, hz⟩ := Option.isSome_iff_exists.1 hr
    obtain ⟨ys, e1, hz⟩ := mPre_some hz
    cases ys with
    | nil => cases hz
    | cons y ys =>
      obtain ⟨hy, hz⟩ := grd_of (show grd (rSl s y hs k) _ = some z from hz)
      obtain ⟨zs, e2, hz⟩ := mPre_some hz
      cases zs with
      | cons q qs => cases hz
      | nil =>
        rw [List.append_nil] at e2
        rw [e1, e2] at hx
        obtain ⟨xs, rfl, hxs⟩ := hx.tup_inv
        obtain ⟨as, cs, e3, ha, hc⟩ := hxs.split
        obtain ⟨Y, bs, rfl, hY, hb⟩ := hc.cons_inv
        obtain ⟨μb, m1, m2, m3, m4⟩ := giveSl_ok r rs f2 hy hY hu
        refine ⟨μb, m1, m2, m3, ?_⟩
        have := V.tup' ((flat_Vs (μ' := μb) (n' := h1.nx) f1 ha).append (Vs.cons m4 (flat_Vs (μ' := μb) (n' := h1.nx) f3 hb)))
        rw [← e3] at this
        simpa using this

theorem mFind_some {vs : List AV} {h : AH} {m : Memo} : ∀ {l : List Memo}, mFind vs h l = some m → m ∈ l ∧ mArgs m vs h = true
  | [], hf => by cases hf
  | a :: l, hf => by
    simp only [mFind] at hf
    cases ha : mArgs a vs h with
    | true => rw [ha] at hf; cases hf; exact ⟨by simp, ha⟩
    | false =>
      rw [ha] at hf
      obtain ⟨h1, h2⟩ := mFind_some (l := l) hf
      exact ⟨by simp [h1], h2⟩
/-- A row of the table. -/
theorem memo_call (F0 : Nat → Option Obj) (w00 : World) {cf : CallF} (hcf : ∀ (F : Nat → Option Obj) (w0 : World), CallsOk P N G F w0 cf) {f : Nat} {m : Memo} (hm : m.chk cf f = true) {vs : List AV} (ha : mArgs m vs h = true) {v : AV} (hg : give m.res h = some (v, h')) :
    plainF P f = true ∧ ∀ (F : Nat → Option Obj) (w0 : World) (args : Array Value) w μ, Vs N μ h.nx vs args.toList → R N G F w0 μ h w → Calls P f args w fun e w' => ∃ x μ', e = .returned x ∧ Mp.agree h.nx μ μ' ∧ h.nx ≤ h'.nx ∧ R N G F w0 μ' h' w' ∧ V N μ' h'.nx v x := by
  unfold Memo.chk at hm
  simp only [Bool.and_eq_true] at hm
  obtain ⟨hpl, hm⟩ := hm
  unfold Memo.plain at hpl
  simp only [Bool.and_eq_true] at hpl
  obtain ⟨⟨⟨p1, p2⟩, p3⟩, p4⟩ := hpl
  rcases mArgs_some ha with ⟨a1, rfl⟩ | ⟨s, x, i, o, a1, rfl, hs⟩
  · rw [a1] at hm
    dsimp only at hm
    split at hm
    case h_2 => cases hm
    rename_i q hq
    obtain ⟨y, h1⟩ := q
    refine ⟨(hcf F0 w00 _ _ _ _ _ hq).1, fun F w0 args w μ hv hR => ?_⟩
    refine ((hcf (Now w) w _ _ _ _ _ hq).2 args w μ ?_ (small_none hR)).mono fun e w' hp => ?_
    · exact flat_Vs (by rw [List.all_append, p1, p2]; rfl) hv
    · obtain ⟨X, μ', e1, e2, e3, e4, e5⟩ := hp
      obtain ⟨μb, m1, m2, m3, m4⟩ := give_ok hR e4 p4 hm e5 hg
      exact ⟨X, μb, e1, m1, m2, m3, m4⟩
  · rw [a1] at hm p3
    dsimp only at hm p3
    split at hm
    case h_2 => cases hm
    rename_i q hq
    obtain ⟨y, h1⟩ := q
    obtain ⟨c, hc, _, hq⟩ := ofList_spec hq
    refine ⟨(hcf F0 w00 _ _ _ _ _ hq).1, fun F w0 args w μ hv hR => ?_⟩
    obtain ⟨as, cs, e3, hA, hc2⟩ := hv.split
    obtain ⟨X, bs, rfl, hX, hB⟩ := hc2.cons_inv
    obtain ⟨rs, hX'⟩ := small_some hR hs p3 hX hc rfl
    refine ((hcf (Now w) w _ _ _ _ _ hq).2 args w _ ?_ rs).mono fun e w' hp => ?_
    · rw [e3]
      exact (flat_Vs p1 hA).append (Vs.cons hX' (flat_Vs p2 hB))
    · obtain ⟨Y, μ', e1, e2, e3, e4, e5⟩ := hp
      obtain ⟨μb, m1, m2, m3, m4⟩ := give_ok hR e4 p4 hm e5 hg
      exact ⟨Y, μb, e1, m1, m2, m3, m4⟩
/-- The table's oracle. -/
theorem memo_ok {cf : CallF} (hcf : ∀ (F : Nat → Option Obj) (w0 : World), CallsOk P N G F w0 cf) {tab : Tr (List Memo)} (ht : ∀ f l, tab.get f = some l → ∀ m ∈ l, m.chk cf f = true) {orc : Orc} (ho : ∀ (F : Nat → Option Obj) (w0 : World), OrcOk P N G F w0 orc) :
    ∀ (F : Nat → Option Obj) (w0 : World), OrcOk P N G F w0 (memoOrc tab orc) := by
  intro F w0 f vs h v h' hk
  dsimp only at hk
  unfold memoOrc at hk
  cases hg : tab.get f with
  | none => rw [hg] at hk; exact ho F w0 f vs h v h' hk
  | some l =>
    rw [hg] at hk
    dsimp only at hk
    cases hf : mFind vs h l with
    | none => rw [hf] at hk; exact ho F w0 f vs h v h' hk
    | some m =>
      rw [hf] at hk
      obtain ⟨h1, h2⟩ := mFind_some hf
      obtain ⟨q1, q2⟩ := memo_call F w0 hcf (ht f l hg m h1) h2 hk
      exact ⟨q1, fun args w μ hv hR => q2 F w0 args w μ hv hR⟩
end
end Go.Vm
namespace Go.Vm
open Go
noncomputable section
abbrev Rs := Option (AV × AH)
abbrev KV := AV → AH → Rs
abbrev CallX := Nat → List AV → AH → KV → Rs
abbrev KE := Tr AV → AH → Rs
abbrev KX := Xt → Tr AV → AH → Rs
abbrev RT := CallX → Tr AV → AH → KE → Rs
abbrev Rd := Tr AV → (AV → Rs) → Rs
abbrev Wr := AV → Tr AV → (Tr AV → Rs) → Rs
abbrev XC := CallX → Nat → Tr AV → AH → KE → KX → Rs
abbrev En := CallX → Nat → List AV → AH → KV → Rs

/-! Reading and writing places -/
def vNone (_ : AV → Rs) : Rs := none
def vSome (v : AV) (k : AV → Rs) : Rs := k v
def gV : Rd := fun t => @Tr.rec AV (fun _ => (AV → Rs) → Rs) vNone (fun _ v _ _ _ => @Option.rec AV (fun _ => (AV → Rs) → Rs) vNone vSome v) t
def gL (f : Rd) : Rd := fun t k => @Tr.rec AV (fun _ => Rs) none (fun l _ _ _ _ => f l k) t
def gR (f : Rd) : Rd := fun t k => @Tr.rec AV (fun _ => Rs) none (fun _ _ r _ _ => f r k) t
def rC (v : AV) : Rd := fun _ k => k v
def rN : Rd := fun _ _ => none
def sV : Wr := fun x t k => @Tr.rec AV (fun _ => Rs) none (fun l _ r _ _ => k (.n l (some x) r)) t
def sL (f : Wr) : Wr := fun x t k => @Tr.rec AV (fun _ => Rs) none (fun l v r _ _ => f x l fun l' => k (.n l' v r)) t
def sR (f : Wr) : Wr := fun x t k => @Tr.rec AV (fun _ => Rs) none (fun l v r _ _ => f x r fun r' => k (.n l v r')) t
def sN : Wr := fun _ _ _ => none
def rdV (d : Nat) : Nat → Rd := @Nat.rec (fun _ => Nat → Rd) (fun _ => rN) (fun _ ih t => @Bool.rec (fun _ => Rd) (@Bool.rec (fun _ => Rd) (gL (ih (Nat.shiftRight t 1))) (gR (ih (Nat.shiftRight t 1))) (Nat.beq (Nat.land t 1) 0)) gV (Nat.beq t 0)) d
def wrV (d : Nat) : Nat → Wr := @Nat.rec (fun _ => Nat → Wr) (fun _ => sN) (fun _ ih t => @Bool.rec (fun _ => Wr) (@Bool.rec (fun _ => Wr) (sL (ih (Nat.shiftRight t 1))) (sR (ih (Nat.shiftRight t 1))) (Nat.beq (Nat.land t 1) 0)) sV (Nat.beq t 0)) d
def rdO (loc : List (Nat × AV)) (x : Opd) : Rd :=
  match x with
  | .loc t => (match lfind t loc with | some v => rC v | none => rN)
  | .var t => rdV 32 t
  | .con v => rC v
  | .glob g => rC (.glob g 0)
  | .func f => rC (.fn (.func f) [] [])
def wV (w : Wr) (v : AV) (rest : RT) : RT := fun cf e h kn => w v e fun e' => rest cf e' h kn

/-! Looking at a value -/
def optK {α : Type} (x : Option α) (k : α → Rs) : Rs := @Option.rec α (fun _ => Rs) none k x
def optP (x : Rs) (k : KV) : Rs := @Option.rec (AV × AH) (fun _ => Rs) none (fun p => @Prod.rec AV AH (fun _ => Rs) k p) x
abbrev KI := IntKind → Int → Rs
def zI1 {α : Type} (_ : α) (_ : KI) (z : Rs) : Rs := z
def isIntE : AV → KI → Rs → Rs := @AV.rec (fun _ => KI → Rs → Rs) (fun _ => Unit) (fun _ _ z => z) (fun k n f _ => f k n) (fun _ _ _ z => z) (fun _ z => z) (fun _ _ _ z => z) (fun _ z => z) (fun _ _ _ _ _ z => z) (fun _ _ _ _ _ z => z) (fun _ z => z) (fun _ _ z => z) (fun _ _ _ _ _ _ z => z) (fun _ z => z) (fun _ _ _ _ z => z) (fun _ z => z) (fun _ _ _ z => z) (fun _ _ _ z => z) (fun _ _ _ z => z) () (fun _ _ _ _ => ())
abbrev KB := Bool → Rs
def isBoolE : AV → KB → Rs → Rs := @AV.rec (fun _ => KB → Rs → Rs) (fun _ => Unit) (fun b f _ => f b) (fun _ _ _ z => z) (fun _ _ _ z => z) (fun _ z => z) (fun _ _ _ z => z) (fun _ z => z) (fun _ _ _ _ _ z => z) (fun _ _ _ _ _ z => z) (fun _ z => z) (fun _ _ z => z) (fun _ _ _ _ _ _ z => z) (fun _ z => z) (fun _ _ _ _ z => z) (fun _ z => z) (fun _ _ _ z => z) (fun _ _ _ z => z) (fun _ _ _ z => z) () (fun _ _ _ _ => ())
abbrev KP := Nat → Nat → Rs
def isPtrE : AV → KP → Rs → Rs := @AV.rec (fun _ => KP → Rs → Rs) (fun _ => Unit) (fun _ _ z => z) (fun _ _ _ z => z) (fun _ _ _ z => z) (fun _ z => z) (fun i o f _ => f i o) (fun _ z => z) (fun _ _ _ _ _ z => z) (fun _ _ _ _ _ z => z) (fun _ z => z) (fun _ _ z => z) (fun _ _ _ _ _ _ z => z) (fun _ z => z) (fun _ _ _ _ z => z) (fun _ z => z) (fun _ _ _ z => z) (fun _ _ _ z => z) (fun _ _ _ z => z) () (fun _ _ _ _ => ())
def isTupE : AV → (List AV → Rs) → Rs → Rs := @AV.rec (fun _ => (List AV → Rs) → Rs → Rs) (fun _ => Unit) (fun _ _ z => z) (fun _ _ _ z => z) (fun _ _ _ z => z) (fun _ z => z) (fun _ _ _ z => z) (fun _ z => z) (fun _ _ _ _ _ z => z) (fun _ _ _ _ _ z => z) (fun _ z => z) (fun _ _ z => z) (fun _ _ _ _ _ _ z => z) (fun _ z => z) (fun _ _ _ _ z => z) (fun _ z => z) (fun _ _ _ z => z) (fun l _ f _ => f l) (fun _ _ _ z => z) () (fun _ _ _ _ => ())
abbrev KS := Nat → Nat → Nat → Nat → Rs
def isSlcE : AV → KS → Rs → Rs := @AV.rec (fun _ => KS → Rs → Rs) (fun _ => Unit) (fun _ _ z => z) (fun _ _ _ z => z) (fun _ _ _ z => z) (fun _ z => z) (fun _ _ _ z => z) (fun _ z => z) (fun i o l c f _ => f i o l c) (fun _ _ _ _ _ z => z) (fun _ z => z) (fun _ _ z => z) (fun _ _ _ _ _ _ z => z) (fun _ z => z) (fun _ _ _ _ z => z) (fun _ z => z) (fun _ _ _ z => z) (fun _ _ _ z => z) (fun _ _ _ z => z) () (fun _ _ _ _ => ())
def isSloE : AV → KS → Rs → Rs := @AV.rec (fun _ => KS → Rs → Rs) (fun _ => Unit) (fun _ _ z => z) (fun _ _ _ z => z) (fun _ _ _ z => z) (fun _ z => z) (fun _ _ _ z => z) (fun _ z => z) (fun _ _ _ _ _ z => z) (fun i o l c f _ => f i o l c) (fun _ z => z) (fun _ _ z => z) (fun _ _ _ _ _ _ z => z) (fun _ z => z) (fun _ _ _ _ z => z) (fun _ z => z) (fun _ _ _ z => z) (fun _ _ _ z => z) (fun _ _ _ z => z) () (fun _ _ _ _ => ())
def isCellsE : AObj → (Tr AV → Nat → Nat → Nat → Nat → Nat → Bool → Rs) → Rs → Rs :=
  @AObj.rec (fun _ => (Tr AV → Nat → Nat → Nat → Nat → Nat → Bool → Rs) → Rs → Rs) (fun c n e fl fh tag ro f _ => f c n e fl fh tag ro) (fun _ _ _ z => z) (fun _ _ _ _ z => z) (fun _ _ _ _ _ z => z)

/-! Operations: each hands on its value -/
abbrev Ox := (AV → RT) → RT
def oM (r : Rd) : Ox := fun nx cf e h kn => r e fun x => nx x cf e h kn
def oPick (c a b : Rd) : Ox := fun nx cf e h kn => c e fun c => a e fun a => b e fun b => isBoolE c (fun c => @Bool.rec (fun _ => Rs) (nx b cf e h kn) (nx a cf e h kn) c) none
/-- A pure operation on two values; its like on two integers. -/
def oBin (f : IntKind → Int → IntKind → Int → Option AV) (g : AV → AV → Option AV) (r1 r2 : Rd) : Ox := fun nx cf e h kn => r1 e fun x => r2 e fun y =>
  isIntE x (fun k a => isIntE y (fun k' b => optK (f k a k' b) fun v => nx v cf e h kn) none) (optK (g x y) fun v => nx v cf e h kn)
def o1 (f : AV → Option AV) (r : Rd) : Ox := fun nx cf e h kn => r e fun x => optK (f x) fun v => nx v cf e h kn
def o2 (f : AV → AV → Option AV) (r1 r2 : Rd) : Ox := fun nx cf e h kn => r1 e fun x => r2 e fun y => optK (f x y) fun v => nx v cf e h kn
def rds : List Rd → Tr AV → (List AV → Rs) → Rs := @List.rec Rd (fun _ => Tr AV → (List AV → Rs) → Rs) (fun _ k => k []) (fun r _ ih e k => r e fun x => ih e fun xs => k (x :: xs))
def oK (f : KF) (rs : List Rd) : Ox := fun nx cf e h kn => rds rs e fun vs => optP (f vs h) fun v h => nx v cf e h kn
def oCall (f : Nat) (rs : List Rd) : Ox := fun nx cf e h kn => rds rs e fun vs => cf f vs h fun v h => nx v cf e h kn
def cfO (cf : CallX) : CallF := fun f vs h => cf f vs h fun v h => some (v, h)
/-- Calls through values and methods. -/
def oKC (f : CallF → KF) (rs : List Rd) : Ox := fun nx cf e h kn => rds rs e fun vs => optP (f (cfO cf) vs h) fun v h => nx v cf e h kn
def oNil (r : Rd) (g : KF) : Ox := fun nx cf e h kn => r e fun x => isPtrE x (fun _ _ => nx x cf e h kn) (optP (g [x] h) fun v h => nx v cf e h kn)
def oFda (o : Nat) (r : Rd) : Ox := fun nx cf e h kn => r e fun x => isPtrE x (fun i o' => @Nat.rec (fun _ => Rs) (nx (.ptr i 0) cf e h kn) (fun m _ => nx (.ptr i (Nat.succ m)) cf e h kn) (Nat.add o' o)) (optP (k_fda o [x] h) fun v h => nx v cf e h kn)
def oExt (i : Nat) (r : Rd) : Ox := fun nx cf e h kn => r e fun x => isTupE x (fun l => optK (lget l i) fun v => nx v cf e h kn) none
def oneF (v : AV) (s : Nat) : Bool := @AV.rec (fun _ => Nat → Bool) (fun _ => Unit) (fun _ s => Nat.beq s 1) (fun _ _ s => Nat.beq s 1) (fun _ _ s => Nat.beq s 1) (fun s => Nat.beq s 1) (fun _ _ s => Nat.beq s 1) (fun s => Nat.beq s 1) (fun _ _ _ _ s => Nat.beq s 1) (fun _ _ _ _ s => Nat.beq s 1) (fun s => Nat.beq s 1) (fun _ s => Nat.beq s 1) (fun _ _ _ _ _ s => Nat.beq s 1) (fun s => Nat.beq s 1) (fun _ _ _ s => Nat.beq s 1) (fun s => Nat.beq s 1) (fun _ _ _ => false) (fun _ _ _ => false) (fun _ _ s => Nat.beq s 1) () (fun _ _ _ _ => ()) v s
def hloadK (h : AH) (i o : Nat) (k : AV → Rs) : Rs := optK (h.t.get i) fun ob => isCellsE ob (fun c n _ _ _ tag _ =>
  @Bool.rec (fun _ => Rs) none (@Bool.rec (fun _ => Rs) none (optK (c.get o) k) (@Bool.rec (fun _ => Bool) (readable h i tag) true (Nat.beq tag 0))) (Nat.ble (Nat.succ o) n)) none
def oLd (C : Cfg) (r : Rd) : Ox := fun nx cf e h kn => r e fun x => isPtrE x (fun i o => hloadK h i o fun v => nx v cf e h kn) (optP (k_ld C [x] h) fun v h => nx v cf e h kn)
def oIxs (s : Nat) (r1 r2 : Rd) : Ox := fun nx cf e h kn => r1 e fun x => r2 e fun y => isIntE y (fun _ z => @Int.rec (fun _ => Rs) (fun n => isSlcE x (fun i o l _ =>
    @Bool.rec (fun _ => Rs) none (@Nat.rec (fun _ => Rs) (nx (.ptr i 0) cf e h kn) (fun m _ => nx (.ptr i (Nat.succ m)) cf e h kn) (Nat.add o (Nat.mul n s))) (Nat.ble (Nat.succ n) l)) (optP (k_ixs s [x, y] h) fun v h => nx v cf e h kn)) (fun _ => none) z) none
def oIxa (n s : Nat) (r1 r2 : Rd) : Ox := fun nx cf e h kn => r1 e fun x => r2 e fun y => isIntE y (fun _ z => @Int.rec (fun _ => Rs) (fun m => isPtrE x (fun i o =>
    @Bool.rec (fun _ => Rs) none (@Nat.rec (fun _ => Rs) (nx (.ptr i 0) cf e h kn) (fun q _ => nx (.ptr i (Nat.succ q)) cf e h kn) (Nat.add o (Nat.mul m s))) (Nat.ble (Nat.succ m) n)) (optP (k_ixa n s [x, y] h) fun v h => nx v cf e h kn)) (fun _ => none) z) none
def hst1 (h : AH) (i o : Nat) (v : AV) (k : AH → Rs) (z : Rs) : Rs := optK (h.t.get i) fun ob => isCellsE ob (fun c n e fl fh tag ro =>
  @Bool.rec (fun _ => Rs) (@Bool.rec (fun _ => Rs) z (@Bool.rec (fun _ => Rs) none (@Bool.rec (fun _ => Rs) none (@Bool.rec (fun _ => Rs) none
    (c.setK dpt o (some v) fun c => h.t.setK dpt i (some (.cells c n e fl fh tag false)) fun t => k ⟨t, h.g, h.nx⟩) v.one) (Nat.ble (Nat.succ o) n)) (frOk fl fh o 1)) (Nat.beq tag 0)) none ro) none
def oSt (s : Nat) (r1 r2 : Rd) : Ox := fun nx cf e h kn => r1 e fun x => r2 e fun v => @Bool.rec (fun _ => Rs) (optP (k_st s [x, v] h) fun v h => nx v cf e h kn)
  (isPtrE x (fun i o => hst1 h i o v (fun h => nx .und cf e h kn) (optP (k_st s [x, v] h) fun v h => nx v cf e h kn)) (optP (k_st s [x, v] h) fun v h => nx v cf e h kn)) (oneF v s)
def oG (r : Rd) (want : Bool) (op : Ox) : Ox := fun nx cf e h kn => r e fun c => isBoolE c (fun b => @Bool.rec (fun _ => Rs) (nx .und cf e h kn) (op nx cf e h kn) (bsel want b (!b))) (isTupE c (fun l => @List.rec AV (fun _ => Rs) (nx .und cf e h kn) (fun _ _ _ => none) l) none)
def oEnd : RT := fun _ e h kn => kn e h

def kc (k : IntKind) : Nat := @IntKind.rec (fun _ => Nat) 0 1 2 3 4 5 6 7 k
def kq (a b : IntKind) : Bool := Nat.beq (kc a) (kc b)
def imaxF (k : IntKind) : Nat := @IntKind.rec (fun _ => Nat) 127 32767 2147483647 9223372036854775807 255 65535 4294967295 18446744073709551615 k
def kuns (k : IntKind) : Bool := @IntKind.rec (fun _ => Bool) false false false false true true true true k
def kbits (k : IntKind) : Nat := @IntKind.rec (fun _ => Nat) 8 16 32 64 8 16 32 64 k
def natF (k : IntKind) (n : Nat) : Option AV := @Nat.rec (fun _ => Option AV) (some (.int k (.ofNat 0))) (fun m _ => some (.int k (.ofNat (Nat.succ m)))) n
def wrapNF (k : IntKind) (n : Nat) : Option AV := @Bool.rec (fun _ => Option AV) (@Bool.rec (fun _ => Option AV) (mkI k (Int.ofNat n)) (natF k (Nat.land n (imaxF k))) (kuns k)) (natF k n) (Nat.ble n (imaxF k))
def bitF (k : IntKind) (x y : Int) (f : Nat → Nat → Nat) (z : Option AV) : Option AV := @Int.rec (fun _ => Option AV) (fun a => @Int.rec (fun _ => Option AV) (fun b => @Bool.rec (fun _ => Option AV) z (@Bool.rec (fun _ => Option AV) z (natF k (f a b)) (Nat.ble b (imaxF k))) (Nat.ble a (imaxF k))) (fun _ => z) y) (fun _ => z) x
def ii (x y : Int) (f : Nat → Nat → Option AV) (z : Option AV) : Option AV := @Int.rec (fun _ => Option AV) (fun a => @Int.rec (fun _ => Option AV) (fun b => f a b) (fun _ => z) y) (fun _ => z) x
def kg (k k' : IntKind) (x : Option AV) : Option AV := @Bool.rec (fun _ => Option AV) none x (kq k k')
def someB (b : Bool) : Option AV := @Bool.rec (fun _ => Option AV) (some (.bool false)) (some (.bool true)) b
def bAdd (k : IntKind) (x : Int) (k' : IntKind) (y : Int) : Option AV := kg k k' (ii x y (fun a b => wrapNF k (Nat.add a b)) (iadd k x y))
def bSub (k : IntKind) (x : Int) (k' : IntKind) (y : Int) : Option AV := kg k k' (ii x y (fun a b => @Bool.rec (fun _ => Option AV) (isub k x y) (wrapNF k (Nat.sub a b)) (Nat.ble b a)) (isub k x y))
def bEql (k : IntKind) (x : Int) (k' : IntKind) (y : Int) : Option AV := kg k k' (ii x y (fun a b => someB (Nat.beq a b)) (obind (ieq x y) mkB))
def bNeq (k : IntKind) (x : Int) (k' : IntKind) (y : Int) : Option AV := kg k k' (ii x y (fun a b => someB (@Bool.rec (fun _ => Bool) true false (Nat.beq a b))) (obind (bnot (ieq x y)) mkB))
def bLss (k : IntKind) (x : Int) (k' : IntKind) (y : Int) : Option AV := kg k k' (ii x y (fun a b => someB (@Bool.rec (fun _ => Bool) true false (Nat.ble b a))) (obind (bnot (ile y x)) mkB))
def bGtr (k : IntKind) (x : Int) (k' : IntKind) (y : Int) : Option AV := kg k k' (ii x y (fun a b => someB (@Bool.rec (fun _ => Bool) true false (Nat.ble a b))) (obind (bnot (ile x y)) mkB))
def bLeq (k : IntKind) (x : Int) (k' : IntKind) (y : Int) : Option AV := kg k k' (ii x y (fun a b => someB (Nat.ble a b)) (obind (ile x y) mkB))
def bGeq (k : IntKind) (x : Int) (k' : IntKind) (y : Int) : Option AV := kg k k' (ii x y (fun a b => someB (Nat.ble b a)) (obind (ile y x) mkB))
def bAnd (k : IntKind) (x : Int) (k' : IntKind) (y : Int) : Option AV := kg k k' (bitF k x y Nat.land (ibit Nat.land k x y))
def bOr (k : IntKind) (x : Int) (k' : IntKind) (y : Int) : Option AV := kg k k' (bitF k x y Nat.lor (ibit Nat.lor k x y))
def bXor (k : IntKind) (x : Int) (k' : IntKind) (y : Int) : Option AV := kg k k' (bitF k x y Nat.xor (ibit Nat.xor k x y))
def bShl (k : IntKind) (x : Int) (_ : IntKind) (y : Int) : Option AV := ii x y (fun a m => @Bool.rec (fun _ => Option AV) (ishf true k x y) (wrapNF k (Nat.shiftLeft a m)) (Nat.ble m (kbits k))) (ishf true k x y)
def bShr (k : IntKind) (x : Int) (_ : IntKind) (y : Int) : Option AV := ii x y (fun a m => @Bool.rec (fun _ => Option AV) (ishf false k x y) (natF k (Nat.shiftRight a m)) (Nat.ble m (kbits k))) (ishf false k x y)
def bOth (op : BinOp) (k : IntKind) (x : Int) (k' : IntKind) (y : Int) : Option AV := kg k k' (ibin op k x y)
def binX (op : BinOp) : IntKind → Int → IntKind → Int → Option AV :=
  match op with
  | .add => bAdd | .sub => bSub | .eql => bEql | .neq => bNeq | .lss => bLss | .gtr => bGtr | .leq => bLeq | .geq => bGeq | .and => bAnd | .or => bOr | .xor => bXor | .shl => bShl | .shr => bShr
  | op => bOth op

def intV : AV → (IntKind → Int → Option AV) → Option AV := @AV.rec (fun _ => (IntKind → Int → Option AV) → Option AV) (fun _ => Unit) (fun _ _ => none) (fun k n f => f k n) (fun _ _ _ => none) (fun _ => none) (fun _ _ _ => none) (fun _ => none) (fun _ _ _ _ _ => none) (fun _ _ _ _ _ => none) (fun _ => none) (fun _ _ => none) (fun _ _ _ _ _ _ => none) (fun _ => none) (fun _ _ _ _ => none) (fun _ => none) (fun _ _ _ => none) (fun _ _ _ => none) (fun _ _ _ => none) () (fun _ _ _ _ => ())
def strV : AV → (Nat → Nat → Option AV) → Option AV := @AV.rec (fun _ => (Nat → Nat → Option AV) → Option AV) (fun _ => Unit) (fun _ _ => none) (fun _ _ _ => none) (fun l n f => f l n) (fun _ => none) (fun _ _ _ => none) (fun _ => none) (fun _ _ _ _ _ => none) (fun _ _ _ _ _ => none) (fun _ => none) (fun _ _ => none) (fun _ _ _ _ _ _ => none) (fun _ => none) (fun _ _ _ _ => none) (fun _ => none) (fun _ _ _ => none) (fun _ _ _ => none) (fun _ _ _ => none) () (fun _ _ _ _ => ())
def boolV : AV → (Bool → Option AV) → Option AV := @AV.rec (fun _ => (Bool → Option AV) → Option AV) (fun _ => Unit) (fun b f => f b) (fun _ _ _ => none) (fun _ _ _ => none) (fun _ => none) (fun _ _ _ => none) (fun _ => none) (fun _ _ _ _ _ => none) (fun _ _ _ _ _ => none) (fun _ => none) (fun _ _ => none) (fun _ _ _ _ _ _ => none) (fun _ => none) (fun _ _ _ _ => none) (fun _ => none) (fun _ _ _ => none) (fun _ _ _ => none) (fun _ _ _ => none) () (fun _ _ _ _ => ())
def strE : AV → (Nat → Nat → Option AV) → Option AV → Option AV := @AV.rec (fun _ => (Nat → Nat → Option AV) → Option AV → Option AV) (fun _ => Unit) (fun _ _ z => z) (fun _ _ _ z => z) (fun l n f _ => f l n) (fun _ z => z) (fun _ _ _ z => z) (fun _ z => z) (fun _ _ _ _ _ z => z) (fun _ _ _ _ _ z => z) (fun _ z => z) (fun _ _ z => z) (fun _ _ _ _ _ _ z => z) (fun _ z => z) (fun _ _ _ _ z => z) (fun _ z => z) (fun _ _ _ z => z) (fun _ _ _ z => z) (fun _ _ _ z => z) () (fun _ _ _ _ => ())
def i64N (n : Nat) : Option AV := some (.int .i64 (.ofNat n))
def len1F : AV → Option AV := @AV.rec (fun _ => Option AV) (fun _ => Unit) (fun _ => none) (fun _ _ => none) (fun _ _ => none) none (fun _ _ => none) (i64N 0) (fun _ _ l _ => i64N l) (fun _ _ l _ => i64N l) none (fun _ => none) (fun _ _ _ _ _ => none) none (fun _ _ _ => none) none (fun _ _ => none) (fun _ _ => none) (fun _ _ => none) () (fun _ _ _ _ => ())
abbrev natS := natF
def ofN (n : Int) (f : Nat → Option AV) : Option AV := @Int.rec (fun _ => Option AV) f (fun _ => none) n
def len0F (x : AV) : Option AV := strV x fun l _ => i64N l
def ixtF (x y : AV) : Option AV := intV y fun _ z => ofN z fun m => strV x fun l n => @Bool.rec (fun _ => Option AV) none (natS .u8 (sidx l n m)) (Nat.ble (Nat.succ m) l)
def cintF (k : IntKind) (x : AV) : Option AV := intV x fun _ n => @Int.rec (fun _ => Option AV) (fun m => wrapNF k m) (fun m => mkI k (.negSucc m)) n
def notF (x : AV) : Option AV := boolV x fun b => @Bool.rec (fun _ => Option AV) (some (.bool true)) (some (.bool false)) b
def strS (l n : Nat) : Option AV := @Nat.rec (fun _ => Nat → Option AV) (fun n => @Nat.rec (fun _ => Option AV) (some (.str 0 0)) (fun m _ => some (.str 0 (Nat.succ m))) n) (fun l _ n => @Nat.rec (fun _ => Option AV) (some (.str (Nat.succ l) 0)) (fun m _ => some (.str (Nat.succ l) (Nat.succ m))) n) l n
def cutF (l n a b : Nat) : Option AV := @Bool.rec (fun _ => Option AV) none (@Bool.rec (fun _ => Option AV) none (strS (Nat.sub b a) (ssub l n a b)) (Nat.ble b l)) (Nat.ble a b)
def sltL (x y : AV) : Option AV := intV y fun _ z => ofN z fun a => strV x fun l n => cutF l n a l
def sltH (x y : AV) : Option AV := intV y fun _ z => ofN z fun b => strV x fun l n => cutF l n 0 b
def eqS (op : BinOp) (d : EqD) (c : Bool) (x y : AV) : Option AV := strE x (fun l n => strE y (fun l' n' => someB (@Bool.rec (fun _ => Bool) false (Nat.beq n n') (Nat.beq l l'))) (abin op d c x y)) (abin op d c x y)
def neS (op : BinOp) (d : EqD) (c : Bool) (x y : AV) : Option AV := strE x (fun l n => strE y (fun l' n' => someB (@Bool.rec (fun _ => Bool) true (@Bool.rec (fun _ => Bool) true false (Nat.beq n n')) (Nat.beq l l'))) (abin op d c x y)) (abin op d c x y)
def binG (op : BinOp) (d : EqD) (c : Bool) : AV → AV → Option AV :=
  match op with
  | .eql => eqS .eql d c
  | .neq => neS .neq d c
  | op => abin op d c

/-- An operation by its kind. -/
def kX (C : Cfg) (k : Kd) (rs : List Rd) : Ox :=
  match k, rs with
  | .mov, [r] => oM r
  | .pick, [c, a, b] => oPick c a b
  | .bin op e c, [a, b] => oBin (binX op) (binG op e c) a b
  | .un .not, [r] => o1 notF r
  | .un op, [r] => o1 (aun op) r
  | .len 0, [r] => o1 len0F r
  | .len 1, [r] => o1 len1F r
  | .cint k, [r] => o1 (cintF k) r
  | .ixt, [a, b] => o2 ixtF a b
  | .slt true false, [a, b] => o2 sltL a b
  | .slt false true, [a, b] => o2 sltH a b
  | .ixa n s, [a, b] => oIxa n s a b
  | .st s, [a, b] => oSt s a b
  | .nilchk, [r] => oNil r (k_nil C)
  | .fda o, [r] => oFda o r
  | .ext i, [r] => oExt i r
  | .ld none, [r] => oLd C r
  | .ixs s, [a, b] => oIxs s a b
  | .call f, rs => oCall f rs
  | .callv, rs => oKC (k_callv C) rs
  | .inv m, rs => oKC (fun cf => callM C cf m) rs
  | k, rs => oK (opEv C (fun _ _ _ => none) k) rs
def opX (C : Cfg) (o : COp) (rd : Opd → Rd) : Ox :=
  match o.g with
  | none => kX C o.k (o.xs.map rd)
  | some g => oG (rd g.1) g.2 (kX C o.k (o.xs.map rd))
def wrD (d : Dst) (v : AV) (loc : List (Nat × AV)) (rest : List (Nat × AV) → RT) : RT :=
  match d with
  | .no => rest loc
  | .loc t => rest ((t, v) :: loc)
  | .var t => wV (wrV 32 t) v (rest loc)
def denR (C : Cfg) : List COp → List (Nat × AV) → RT
  | [], _ => oEnd
  | o :: os, loc => opX C o (rdO loc) fun v => wrD o.d v loc (denR C os)

/-! Code -/
def xSkip : XC := fun _ _ e h kn _ => kn e h
def xReg (r : RT) : XC := fun cf _ e h kn _ => r cf e h kn
def xDrw (r : RT) : XC := xReg r
def oN : RT := fun _ _ _ _ => none
def oH (f : AH → RT) : RT := fun cf e h kn => f h cf e h kn
/-- A second look. -/
def oChk (op : Ox) (u : Rd) (hj : AH) (rest : RT) : RT := fun cf e h kn => u e fun u => op (fun v _ _ _ _ => @Bool.rec (fun _ => Rs) none (rest cf e h kn) (same1 v u)) (fun _ _ _ _ => none) e hj kn
def dstRd (loc : List (Nat × AV)) (d : Dst) : Rd :=
  match d with
  | .no => rN
  | .loc t => rdO loc (.loc t)
  | .var t => rdO loc (.var t)
def hfind (j : Nat) : List (Nat × AH) → Option AH
  | [] => none
  | p :: l => Bool.casesOn (Nat.beq p.1 j) (hfind j l) (some p.2)
def denK (C : Cfg) (all : List COp) (loc : List (Nat × AV)) (H : List (Nat × AH)) : List (Nat × Nat) → RT
  | [] => oEnd
  | (r, j) :: l => (match all[r]?, hfind j H with
    | some o, some h => oChk (opX C o (rdO loc)) (dstRd loc o.d) h (denK C all loc H l)
    | _, _ => oN)
def denD (C : Cfg) (all : List COp) (chk : List (Nat × Nat)) : List COp → Nat → List (Nat × AV) → List (Nat × AH) → RT
  | [], i, loc, H => oH fun h => denK C all loc ((i, h) :: H) chk
  | o :: os, i, loc, H => bsel (chk.any fun p => Nat.beq p.2 i)
    (oH fun h => opX C o (rdO loc) fun v => wrD o.d v loc fun loc => denD C all chk os (Nat.succ i) loc ((i, h) :: H))
    (opX C o (rdO loc) fun v => wrD o.d v loc fun loc => denD C all chk os (Nat.succ i) loc H)
def xSeq (a b : XC) : XC := fun cf n e h kn kx => a cf n e h (fun e h => b cf n e h kn kx) kx
def xCond (c : Rd) (a b : XC) : XC := fun cf n e h kn kx => c e fun v => isBoolE v (fun t => @Bool.rec (fun _ => Rs) (b cf n e h kn kx) (a cf n e h kn kx) t) none
def bkX (id : Nat) (kn : KE) (kx : KX) : KX := fun x e h => @Xt.rec (fun _ => Rs) (kx x e h) (fun j => @Bool.rec (fun _ => Rs) (kx x e h) (kn e h) (Nat.beq j id)) (fun _ => kx x e h) (kx x e h) x
def xBlk (id : Nat) (b : XC) : XC := fun cf n e h kn kx => b cf n e h kn (bkX id kn kx)
def lpX (b : XC) (cf : CallX) (n : Nat) (kx : KX) (m : Nat) : KE := @Nat.rec (fun _ => KE) (fun _ _ => none) (fun _ ih e h => b cf n e h ih kx) m
def xLoop (b : XC) : XC := fun cf n e h _ kx => lpX b cf n kx n e h
def xOut (x : Xt) : XC := fun _ _ e h _ kx => kx x e h
def lbX (l : Nat) : List (Nat × XC) → Option XC := @List.rec (Nat × XC) (fun _ => Option XC) none (fun p _ ih => @Bool.rec (fun _ => Option XC) ih (some p.2) (Nat.beq p.1 l))
def hdX (labs : List (Nat × XC)) (cf : CallX) (n : Nat) (kn : KE) (kx : KX) (m : Nat) : KX := @Nat.rec (fun _ => KX) (fun _ _ _ => none)
  (fun _ ih x e h => @Xt.rec (fun _ => Rs) (kx x e h) (fun _ => kx x e h) (fun l => @Option.rec XC (fun _ => Rs) (kx x e h) (fun q => q cf n e h kn ih) (lbX l labs)) (kx x e h) x) m
def xScp (b : XC) (labs : List (Nat × XC)) : XC := fun cf n e h kn kx => b cf n e h kn (hdX labs cf n kn kx n)
def xBad : XC := fun _ _ _ _ _ _ => none
def denP (C : Cfg) : ACode → XC × List (Nat × XC)
  | .skip => (xSkip, [])
  | .reg ops => (xReg (denR C ops []), [])
  | .drw ops chk => (match chk with | [] => xReg (denR C ops []) | chk => xDrw (denD C ops chk ops 0 [] []), [])
  | .seq a b => (xSeq (denP C a).1 (denP C b).1, (denP C a).2.map (fun p => (p.1, xSeq p.2 (denP C b).1)) ++ (denP C b).2)
  | .cond c a b => (xCond (rdO [] c) (denP C a).1 (denP C b).1, [])
  | .block id b => (xBlk id (denP C b).1, [])
  | .loop b => (xLoop (denP C b).1, [])
  | .exit id => (xOut (.exit id), [])
  | .scope b => (xScp (denP C b).1 (denP C b).2, [])
  | .scp _ _ => (xBad, [])
  | .label l => (xSkip, [(l, xSkip)])
  | .goto l => (xOut (.goto l), [])
  | .ret => (xOut .ret, [])
  | .bad => (xBad, [])

/-! Functions -/
abbrev Ini := List AV → (Tr AV → Rs) → Rs
def build (env : Tr AV) (vs : List AV) : Tr AV := (ini vs 0 env some).getD .e
def i0 (t : Tr AV) : Ini := fun vs k => @List.rec AV (fun _ => Rs) (k t) (fun _ _ _ => none) vs
def i1 (f : AV → Tr AV) : Ini := fun vs k => @List.rec AV (fun _ => Rs) none (fun a t _ => i0 (f a) t k) vs
def i2' (f : AV → AV → Tr AV) : Ini := fun vs k => @List.rec AV (fun _ => Rs) none (fun a t _ => i1 (f a) t k) vs
def i3 (f : AV → AV → AV → Tr AV) : Ini := fun vs k => @List.rec AV (fun _ => Rs) none (fun a t _ => i2' (f a) t k) vs
def i4 (f : AV → AV → AV → AV → Tr AV) : Ini := fun vs k => @List.rec AV (fun _ => Rs) none (fun a t _ => i3 (f a) t k) vs
def i5 (f : AV → AV → AV → AV → AV → Tr AV) : Ini := fun vs k => @List.rec AV (fun _ => Rs) none (fun a t _ => i4 (f a) t k) vs
def iG (np : Nat) (env : Tr AV) : Ini := fun vs k => grd (Nat.beq vs.length np) (ini vs 0 env k)
def iniX (np : Nat) (env : Tr AV) : Ini :=
  match np with
  | 0 => i0 (build env [])
  | 1 => i1 fun a => build env [a]
  | 2 => i2' fun a b => build env [a, b]
  | 3 => i3 fun a b c => build env [a, b, c]
  | 4 => i4 fun a b c d => build env [a, b, c, d]
  | 5 => i5 fun a b c d f => build env [a, b, c, d, f]
  | np => iG np env
abbrev Out := Tr AV → AH → (AV → Rs) → Rs
def q1 (r : Rd) : Out := fun e _ k => r e k
def qN (rs : List Rd) : Out := fun e _ k => rds rs e fun vs => k (.tup vs)
def qG (rvs : List Rv) : Out := fun e h k => optK (outs ⟨[], e⟩ h rvs) fun l => k (result l)
def rvVar : Rv → Bool
  | .var _ => true
  | _ => false
def rvRd : Rv → Rd
  | .var t => rdV 32 t
  | _ => rN
def outX (rvs : List Rv) : Out := bsel (rvs.all rvVar) (match rvs with | [r] => q1 (rvRd r) | rvs => qN (rvs.map rvRd)) (qG rvs)
def fnX (i : Ini) (b : XC) (o : Out) : En := fun cf n vs h k => i vs fun e => b cf n e h (fun e h => o e h fun v => k v h) fun x e h => @Xt.rec (fun _ => Rs) none (fun _ => none) (fun _ => none) (o e h fun v => k v h) x
def denF (C : Cfg) (f : AFn) : En := fnX (iniX f.np f.env0) (denP C f.body).1 (outX f.res)
/-- A contract; a table. -/
def enO (o : KF) : En := fun _ _ vs h k => optP (o vs h) k
def enM (l : List Memo) (en : En) : En := fun cf n vs h k => @Option.rec Memo (fun _ => Rs) (en cf n vs h k) (fun m => optP (give m.res h) k) (mFind vs h l)
/-- Calls, so deep. -/
def callX (tab : Tr En) (n : Nat) (d : Nat) : CallX := @Nat.rec (fun _ => CallX) (fun _ _ _ _ => none) (fun _ ih f vs h k => optK (tab.get f) fun en => en ih n vs h k) d
end
end Go.Vm
namespace Go.Vm
open Go
section
variable {C : Cfg} {cf : CallX} {loc : List (Nat × AV)} {e : Tr AV} {h : AH}

theorem optK_some {α : Type} {x : Option α} {k : α → Rs} {r : AV × AH} (hx : optK x k = some r) : ∃ a, x = some a ∧ ∀ k' : α → Rs, optK x k' = k' a := by
  cases x with
  | none => cases hx
  | some a => exact ⟨a, rfl, fun _ => rfl⟩
theorem optP_some {x : Rs} {k : KV} {r : AV × AH} (hx : optP x k = some r) : ∃ p : AV × AH, x = some p ∧ ∀ k' : KV, optP x k' = k' p.1 p.2 := by
  cases x with
  | none => cases hx
  | some a => exact ⟨a, rfl, fun _ => rfl⟩
theorem brs {b : Bool} {x : Rs} {r : AV × AH} (h : @Bool.rec (fun _ => Rs) none x b = some r) : b = true ∧ ∀ y : Rs, @Bool.rec (fun _ => Rs) none y b = y := by
  cases b with
  | false => cases h
  | true => exact ⟨rfl, fun _ => rfl⟩
theorem rdV_ok : ∀ (d t : Nat) (e : Tr AV) (k : AV → Rs) (r : AV × AH), rdV d t e k = some r → ∃ v, e.get t = some v ∧ ∀ k', rdV d t e k' = k' v
  | 0, _, _, _, _, h => by cases h
  | d + 1, t, e, k, r, h => by
    have eq : rdV (d + 1) t = @Bool.rec (fun _ => Rd) (@Bool.rec (fun _ => Rd) (gL (rdV d (Nat.shiftRight t 1))) (gR (rdV d (Nat.shiftRight t 1))) (Nat.beq (Nat.land t 1) 0)) gV (Nat.beq t 0) := rfl
    rw [eq] at h ⊢
    cases e with
    | e =>
      cases h1 : Nat.beq t 0 <;> rw [h1] at h
      · cases h2 : Nat.beq (Nat.land t 1) 0 <;> rw [h2] at h <;> cases h
      · cases h
    | n l v rr =>
      rw [Tr.get_n]
      cases h1 : Nat.beq t 0 <;> rw [h1] at h
      · have h0 : t ≠ 0 := fun hz => by rw [hz] at h1; cases h1
        rw [if_neg h0]
        cases h2 : Nat.beq (Nat.land t 1) 0 <;> rw [h2] at h
        · have hm : ¬ t % 2 = 0 := fun hz => by rw [Tr.land1] at h2; rw [hz] at h2; cases h2
          rw [if_neg hm, ← Tr.shr1]
          exact rdV_ok d _ l k r h
        · have hm : t % 2 = 0 := by have := Nat.eq_of_beq_eq_true h2; rwa [Tr.land1] at this
          rw [if_pos hm, ← Tr.shr1]
          exact rdV_ok d _ rr k r h
      · have h0 : t = 0 := Nat.eq_of_beq_eq_true h1
        rw [if_pos h0]
        cases v with
        | none => cases h
        | some v => exact ⟨v, rfl, fun _ => rfl⟩
theorem wrV_ok : ∀ (d t : Nat) (x : AV) (e : Tr AV) (k : Tr AV → Rs) (r : AV × AH), wrV d t x e k = some r → ∃ e', (∀ k', wrV d t x e k' = k' e') ∧ ∀ {β : Type} (g : Tr AV → Option β), e.setK dpt t (some x) g = g e'
  | 0, _, _, _, _, _, h => by cases h
  | d + 1, t, x, e, k, r, h => by
    have eq : wrV (d + 1) t = @Bool.rec (fun _ => Wr) (@Bool.rec (fun _ => Wr) (sL (wrV d (Nat.shiftRight t 1))) (sR (wrV d (Nat.shiftRight t 1))) (Nat.beq (Nat.land t 1) 0)) sV (Nat.beq t 0) := rfl
    rw [eq] at h ⊢
    cases e with
    | e =>
      cases h1 : Nat.beq t 0 <;> rw [h1] at h
      · cases h2 : Nat.beq (Nat.land t 1) 0 <;> rw [h2] at h <;> cases h
      · cases h
    | n l v rr =>
      have es : ∀ {β : Type} (g : Tr AV → Option β), (Tr.n l v rr).setK dpt t (some x) g = @Bool.rec (fun _ => Option β) (@Bool.rec (fun _ => Option β) (l.setK dpt (Nat.shiftRight t 1) (some x) (fun l' => g (.n l' v rr))) (rr.setK dpt (Nat.shiftRight t 1) (some x) (fun r' => g (.n l v r'))) (Nat.beq (Nat.land t 1) 0)) (g (.n l (some x) rr)) (Nat.beq t 0) := fun g => rfl
      cases h1 : Nat.beq t 0 <;> rw [h1] at h
      · cases h2 : Nat.beq (Nat.land t 1) 0 <;> rw [h2] at h
        · obtain ⟨l', h3, h4⟩ := wrV_ok d _ x l _ r h
          exact ⟨.n l' v rr, fun k' => h3 _, fun g => by rw [es, h1, h2]; exact h4 _⟩
        · obtain ⟨r', h3, h4⟩ := wrV_ok d _ x rr _ r h
          exact ⟨.n l v r', fun k' => h3 _, fun g => by rw [es, h1, h2]; exact h4 _⟩
      · exact ⟨.n l (some x) rr, fun k' => rfl, fun g => by rw [es, h1]⟩
theorem rdO_ok {x : Opd} {k : AV → Rs} {r : AV × AH} (h : rdO loc x e k = some r) : ∃ v, ev ⟨loc, e⟩ x = some v ∧ ∀ k', rdO loc x e k' = k' v := by
  cases x with
  | loc t =>
    simp only [rdO] at h ⊢
    cases hl : lfind t loc with
    | none => rw [hl] at h; cases h
    | some v => exact ⟨v, hl, fun _ => rfl⟩
  | var t => exact rdV_ok 32 t e k r h
  | con v => exact ⟨v, rfl, fun _ => rfl⟩
  | glob g => exact ⟨_, rfl, fun _ => rfl⟩
  | func f => exact ⟨_, rfl, fun _ => rfl⟩
theorem evs_1 {x : Opd} {v : AV} (h1 : ev ⟨loc, e⟩ x = some v) {β : Type} (f : List AV → Option β) : evs ⟨loc, e⟩ [x] f = f [v] := by simp [evs, h1, obind]
theorem evs_2 {x y : Opd} {v u : AV} (h1 : ev ⟨loc, e⟩ x = some v) (h2 : ev ⟨loc, e⟩ y = some u) {β : Type} (f : List AV → Option β) : evs ⟨loc, e⟩ [x, y] f = f [v, u] := by simp [evs, h1, h2, obind]
theorem evs_3 {x y z : Opd} {v u w : AV} (h1 : ev ⟨loc, e⟩ x = some v) (h2 : ev ⟨loc, e⟩ y = some u) (h3 : ev ⟨loc, e⟩ z = some w) {β : Type} (f : List AV → Option β) : evs ⟨loc, e⟩ [x, y, z] f = f [v, u, w] := by simp [evs, h1, h2, h3, obind]
theorem rds_ok : ∀ {xs : List Opd} {k : List AV → Rs} {r : AV × AH}, rds (xs.map (rdO loc)) e k = some r → ∃ vs, (∀ {β : Type} (f : List AV → Option β), evs ⟨loc, e⟩ xs f = f vs) ∧ ∀ k', rds (xs.map (rdO loc)) e k' = k' vs
  | [], k, r, h => ⟨[], fun _ => rfl, fun _ => rfl⟩
  | x :: xs, k, r, h => by
    have eq : ∀ k, rds ((x :: xs).map (rdO loc)) e k = rdO loc x e fun v => rds (xs.map (rdO loc)) e fun vs => k (v :: vs) := fun _ => rfl
    rw [eq] at h
    obtain ⟨v, h1, h2⟩ := rdO_ok h
    rw [h2] at h
    obtain ⟨vs, h3, h4⟩ := rds_ok h
    refine ⟨v :: vs, fun f => ?_, fun k' => ?_⟩
    · simp only [evs]; rw [h1]; exact h3 _
    · rw [eq, h2, h4]

/-- Calls hand on. -/
def CfR (cf : CallX) : Prop := ∀ f vs h k r, cf f vs h k = some r → ∃ v h', ∀ k', cf f vs h k' = k' v h'
theorem cfO_of {f : Nat} {vs : List AV} {v : AV} {h' : AH} (hc : ∀ k', cf f vs h k' = k' v h') : cfO cf f vs h = some (v, h') := hc _

/-- What an operation does. -/
def OxOk (C : Cfg) (cf : CallX) (loc : List (Nat × AV)) (e : Tr AV) (h : AH) (k : Kd) (xs : List Opd) (op : Ox) : Prop := ∀ nx kn r, op nx cf e h kn = some r → ∃ vs v h', (∀ {β : Type} (f : List AV → Option β), evs ⟨loc, e⟩ xs f = f vs) ∧ opEv C (cfO cf) k vs h = some (v, h') ∧ ∀ nx' kn', op nx' cf e h kn' = nx' v cf e h' kn'

theorem isIntE_some {x : AV} : (∃ k n, x = .int k n ∧ ∀ f z, isIntE x f z = f k n) ∨ ((∀ k n, x ≠ .int k n) ∧ ∀ f z, isIntE x f z = z) := by
  cases x <;> first | exact .inl ⟨_, _, rfl, fun _ _ => rfl⟩ | exact .inr ⟨(fun _ _ h => by cases h), fun _ _ => rfl⟩
theorem isBoolE_some {x : AV} : (∃ b, x = .bool b ∧ ∀ f z, isBoolE x f z = f b) ∨ ((∀ b, x ≠ .bool b) ∧ ∀ f z, isBoolE x f z = z) := by
  cases x <;> first | exact .inl ⟨_, rfl, fun _ _ => rfl⟩ | exact .inr ⟨(fun _ h => by cases h), fun _ _ => rfl⟩
theorem isPtrE_some {x : AV} : (∃ i o, x = .ptr i o ∧ ∀ f z, isPtrE x f z = f i o) ∨ ((∀ i o, x ≠ .ptr i o) ∧ ∀ f z, isPtrE x f z = z) := by
  cases x <;> first | exact .inl ⟨_, _, rfl, fun _ _ => rfl⟩ | exact .inr ⟨(fun _ _ h => by cases h), fun _ _ => rfl⟩
theorem isTupE_some {x : AV} : (∃ l, x = .tup l ∧ ∀ f z, isTupE x f z = f l) ∨ ((∀ l, x ≠ .tup l) ∧ ∀ f z, isTupE x f z = z) := by
  cases x <;> first | exact .inl ⟨_, rfl, fun _ _ => rfl⟩ | exact .inr ⟨(fun _ h => by cases h), fun _ _ => rfl⟩
theorem isSlcE_some {x : AV} : (∃ i o l c, x = .slc i o l c ∧ ∀ f z, isSlcE x f z = f i o l c) ∨ ((∀ i o l c, x ≠ .slc i o l c) ∧ ∀ f z, isSlcE x f z = z) := by
  cases x <;> first | exact .inl ⟨_, _, _, _, rfl, fun _ _ => rfl⟩ | exact .inr ⟨(fun _ _ _ _ h => by cases h), fun _ _ => rfl⟩

theorem oM_ok {x : Opd} : OxOk C cf loc e h .mov [x] (oM (rdO loc x)) := fun nx kn r hr => by
  obtain ⟨v, h1, h2⟩ := rdO_ok (show rdO loc x e _ = some r from hr)
  exact ⟨[v], v, h, evs_1 h1, rfl, fun nx' kn' => h2 _⟩
theorem oPick_ok {c a b : Opd} : OxOk C cf loc e h .pick [c, a, b] (oPick (rdO loc c) (rdO loc a) (rdO loc b)) := fun nx kn r hr => by
  obtain ⟨v, h1, h2⟩ := rdO_ok (show rdO loc c e _ = some r from hr)
  have hr : rdO loc c e _ = some r := hr
  rw [h2] at hr
  obtain ⟨u, h3, h4⟩ := rdO_ok hr
  rw [h4] at hr
  obtain ⟨w, h5, h6⟩ := rdO_ok hr
  rw [h6] at hr
  have eq : ∀ nx kn, oPick (rdO loc c) (rdO loc a) (rdO loc b) nx cf e h kn = isBoolE v (fun c => @Bool.rec (fun _ => Rs) (nx w cf e h kn) (nx u cf e h kn) c) none := fun nx kn => by
    show rdO loc c e _ = _
    rw [h2, h4, h6]
  rcases isBoolE_some (x := v) with ⟨q, rfl, hq⟩ | ⟨_, hq⟩
  · refine ⟨[.bool q, u, w], bsel q u w, h, evs_3 h1 h3 h5, rfl, fun nx' kn' => ?_⟩
    rw [eq, hq]
    cases q <;> rfl
  · rw [hq] at hr; cases hr
theorem kbits_eq (k : IntKind) : kbits k = k.bits := by cases k <;> rfl
theorem imaxF_eq (k : IntKind) : imaxF k = imax k := by cases k <;> rfl
theorem natF_eq (k : IntKind) (n : Nat) : natF k n = mkN k n := by cases n <;> rfl
theorem wrap_u {k : IntKind} (hk : kuns k = true) (n : Nat) : k.wrap (Int.ofNat n) = Int.ofNat (Nat.land n (imax k)) := by
  have e : ∀ b : Nat, Nat.land n (2 ^ b - 1) = n % 2 ^ b := fun b => Nat.and_two_pow_sub_one_eq_mod n b
  have e8 := e 8
  have e16 := e 16
  have e32 := e 32
  have e64 := e 64
  cases k <;> first | (cases hk; done) | skip
  · show _ = Int.ofNat (Nat.land n 255); rw [show (255 : Nat) = 2 ^ 8 - 1 by rfl, e8]; rfl
  · show _ = Int.ofNat (Nat.land n 65535); rw [show (65535 : Nat) = 2 ^ 16 - 1 by rfl, e16]; rfl
  · show _ = Int.ofNat (Nat.land n 4294967295); rw [show (4294967295 : Nat) = 2 ^ 32 - 1 by rfl, e32]; rfl
  · show _ = Int.ofNat (Nat.land n 18446744073709551615); rw [show (18446744073709551615 : Nat) = 2 ^ 64 - 1 by rfl, e64]; rfl
theorem wrapNF_eq (k : IntKind) (n : Nat) : wrapNF k n = wrapN k n := by
  unfold wrapNF wrapN
  rw [imaxF_eq]
  cases Nat.ble n (imax k) with
  | true => exact natF_eq k n
  | false =>
    show (@Bool.rec (fun _ => Option AV) _ _ (kuns k) : Option AV) = mkI k (Int.ofNat n)
    cases hk : kuns k with
    | false => rfl
    | true =>
      show natF k (Nat.land n (imax k)) = _
      rw [natF_eq]
      unfold mkN mkI
      rw [nat_eq, int_eq, wrap_u hk]
theorem bitF_eq (f : Nat → Nat → Nat) (k : IntKind) (x y : Int) : bitF k x y f (ibit f k x y) = ibit f k x y := by
  unfold bitF
  rw [imaxF_eq]
  cases x with
  | negSucc a => rfl
  | ofNat a => cases y with
    | negSucc b => rfl
    | ofNat b =>
      show (@Bool.rec (fun _ => Option AV) _ _ (Nat.ble a (imax k)) : Option AV) = _
      unfold ibit i2
      dsimp only
      cases Nat.ble a (imax k) with
      | false => rfl
      | true =>
        show (@Bool.rec (fun _ => Option AV) _ _ (Nat.ble b (imax k)) : Option AV) = _
        cases Nat.ble b (imax k) with
        | false => rfl
        | true => exact natF_eq k _
theorem ii_eq (x y : Int) (f : Nat → Nat → Option AV) (z : Option AV) (h : ∀ a b, x = .ofNat a → y = .ofNat b → f a b = z) : ii x y f z = z := by
  cases x <;> cases y <;> first | rfl | exact h _ _ rfl rfl
theorem shl_eq (k : IntKind) (x y : Int) : ii x y (fun a m => @Bool.rec (fun _ => Option AV) (ishf true k x y) (wrapNF k (Nat.shiftLeft a m)) (Nat.ble m (kbits k))) (ishf true k x y) = ishf true k x y :=
  ii_eq x y _ _ fun a m ha hm => by
    subst ha; subst hm
    rw [kbits_eq]
    cases hb : Nat.ble m k.bits with
    | false => rfl
    | true =>
      show wrapNF k _ = nat! (shlim k m) fun n => bsel true (ishl k (.ofNat a) n) (ishr k (.ofNat a) n)
      unfold shlim
      rw [hb, nat_eq, wrapNF_eq]; rfl
theorem shr_eq (k : IntKind) (x y : Int) : ii x y (fun a m => @Bool.rec (fun _ => Option AV) (ishf false k x y) (natF k (Nat.shiftRight a m)) (Nat.ble m (kbits k))) (ishf false k x y) = ishf false k x y :=
  ii_eq x y _ _ fun a m ha hm => by
    subst ha; subst hm
    rw [kbits_eq]
    cases hb : Nat.ble m k.bits with
    | false => rfl
    | true =>
      show natF k _ = nat! (shlim k m) fun n => bsel false (ishl k (.ofNat a) n) (ishr k (.ofNat a) n)
      unfold shlim
      rw [hb, nat_eq, natF_eq]; rfl
theorem someB_eq (b : Bool) : someB b = mkB b := by cases b <;> rfl
theorem abin_int (op : BinOp) (d : EqD) (c : Bool) (k k' : IntKind) (a b : Int) : binX op k a k' b = abin op d c (.int k a) (.int k' b) := by
  have kqe : kq k k' = kbeq k k' := by cases k <;> cases k' <;> rfl
  have kge : ∀ x : Option AV, kg k k' x = (Bool.casesOn (kbeq k k') none x : Option AV) := fun x => by unfold kg; rw [kqe]
  have sB := someB_eq
  have wn := wrapNF_eq k
  have iie := ii_eq
  cases op with
  | add => show kg k k' _ = _; rw [kge, iie _ _ _ _ fun m n hm hn => by subst hm; subst hn; rw [wn]; rfl]; rfl
  | sub =>
    show kg k k' _ = _
    rw [kge, iie _ _ _ _ fun m n hm hn => by
      subst hm; subst hn
      rw [wn]
      show (@Bool.rec (fun _ => Option AV) _ _ (Nat.ble n m) : Option AV) = isub k (Int.ofNat m) (Int.ofNat n)
      unfold isub i2
      dsimp only
      cases Nat.ble n m <;> rfl]; rfl
  | eql =>
    show kg k k' _ = obind (isame k k' a b) mkB
    rw [kge, iie _ _ _ _ fun m n hm hn => by subst hm; subst hn; rw [sB]; rfl]
    unfold isame
    cases kbeq k k' <;> rfl
  | neq =>
    show kg k k' _ = obind (bnot (isame k k' a b)) mkB
    rw [kge, iie _ _ _ _ fun m n hm hn => by
      subst hm; subst hn; rw [sB]
      show mkB _ = obind (bnot (some (Nat.beq m n))) mkB
      cases Nat.beq m n <;> rfl]
    unfold isame
    cases kbeq k k' <;> rfl
  | lss =>
    show kg k k' _ = _
    rw [kge, iie _ _ _ _ fun m n hm hn => by
      subst hm; subst hn; rw [sB]
      show mkB _ = obind (bnot (some (Nat.ble n m))) mkB
      cases Nat.ble n m <;> rfl]; rfl
  | gtr =>
    show kg k k' _ = _
    rw [kge, iie _ _ _ _ fun m n hm hn => by
      subst hm; subst hn; rw [sB]
      show mkB _ = obind (bnot (some (Nat.ble m n))) mkB
      cases Nat.ble m n <;> rfl]; rfl
  | leq => show kg k k' _ = _; rw [kge, iie _ _ _ _ fun m n hm hn => by subst hm; subst hn; rw [sB]; rfl]; rfl
  | geq => show kg k k' _ = _; rw [kge, iie _ _ _ _ fun m n hm hn => by subst hm; subst hn; rw [sB]; rfl]; rfl
  | shl => exact shl_eq k a b
  | shr => exact shr_eq k a b
  | and => show kg k k' _ = _; rw [kge, bitF_eq]; rfl
  | or => show kg k k' _ = _; rw [kge, bitF_eq]; rfl
  | xor => show kg k k' _ = _; rw [kge, bitF_eq]; rfl
  | _ => show kg k k' _ = _; rw [kge]; rfl
theorem strE_ways (x : AV) : (∃ l n, x = .str l n ∧ ∀ f z, strE x f z = f l n) ∨ ∀ f z, strE x f z = z := by
  cases x <;> first | exact .inl ⟨_, _, rfl, fun _ _ => rfl⟩ | exact .inr fun _ _ => rfl
theorem binG_eq (op : BinOp) (d : EqD) (c : Bool) (x y : AV) : binG op d c x y = abin op d c x y := by
  cases op <;> first | rfl | skip
  · show eqS .eql d c x y = _
    unfold eqS
    rcases strE_ways x with ⟨l, n, rfl, h1⟩ | h1
    · rw [h1]
      rcases strE_ways y with ⟨l', n', rfl, h2⟩ | h2
      · rw [h2, someB_eq]
        show mkB _ = mkB (seq' l n l' n')
        unfold seq'
        rfl
      · rw [h2]
    · rw [h1]
  · show neS .neq d c x y = _
    unfold neS
    rcases strE_ways x with ⟨l, n, rfl, h1⟩ | h1
    · rw [h1]
      rcases strE_ways y with ⟨l', n', rfl, h2⟩ | h2
      · rw [h2, someB_eq]
        show mkB _ = mkB (!seq' l n l' n')
        unfold seq'
        cases Nat.beq l l' <;> cases Nat.beq n n' <;> rfl
      · rw [h2]
    · rw [h1]
theorem oBin_ok {op : BinOp} {d : EqD} {c : Bool} {a b : Opd} : OxOk C cf loc e h (.bin op d c) [a, b] (oBin (binX op) (binG op d c) (rdO loc a) (rdO loc b)) := fun nx kn r hr => by
  rw [show binG op d c = abin op d c from funext fun x => funext fun y => binG_eq op d c x y] at hr ⊢
  have hr : rdO loc a e _ = some r := hr
  obtain ⟨v, h1, h2⟩ := rdO_ok hr
  rw [h2] at hr
  obtain ⟨u, h3, h4⟩ := rdO_ok hr
  rw [h4] at hr
  have eq : ∀ nx kn, oBin (binX op) (abin op d c) (rdO loc a) (rdO loc b) nx cf e h kn = isIntE v (fun k a => isIntE u (fun k' b => optK (binX op k a k' b) fun v => nx v cf e h kn) none) (optK (abin op d c v u) fun v => nx v cf e h kn) := fun nx kn => by
    show rdO loc a e _ = _
    rw [h2, h4]
  have key : ∃ z, abin op d c v u = some z ∧ ∀ nx' kn', oBin (binX op) (abin op d c) (rdO loc a) (rdO loc b) nx' cf e h kn' = nx' z cf e h kn' := by
    rcases isIntE_some (x := v) with ⟨k, n, rfl, hq⟩ | ⟨_, hq⟩
    · rcases isIntE_some (x := u) with ⟨k', n', rfl, hq'⟩ | ⟨_, hq'⟩
      · rw [hq, hq'] at hr
        obtain ⟨z, h5, h6⟩ := optK_some hr
        exact ⟨z, by rw [← abin_int]; exact h5, fun nx' kn' => by rw [eq, hq, hq', h6]⟩
      · rw [hq, hq'] at hr; cases hr
    · rw [hq] at hr
      obtain ⟨z, h5, h6⟩ := optK_some hr
      exact ⟨z, h5, fun nx' kn' => by rw [eq, hq, h6]⟩
  obtain ⟨z, h5, h6⟩ := key
  refine ⟨[v, u], z, h, evs_2 h1 h3, ?_, h6⟩
  show yld h (abin op d c v u) = _
  rw [h5]; rfl
theorem o1_ok {k : Kd} {f : AV → Option AV} (hk : ∀ x, opEv C (cfO cf) k [x] h = yld h (f x)) {a : Opd} : OxOk C cf loc e h k [a] (o1 f (rdO loc a)) := fun nx kn r hr => by
  have hr : rdO loc a e _ = some r := hr
  obtain ⟨v, h1, h2⟩ := rdO_ok hr
  rw [h2] at hr
  obtain ⟨z, h5, h6⟩ := optK_some hr
  refine ⟨[v], z, h, evs_1 h1, by rw [hk, h5]; rfl, fun nx' kn' => ?_⟩
  show rdO loc a e _ = _
  rw [h2, h6]
theorem oK_ok {k : Kd} {f : KF} {xs : List Opd} (hk : opEv C (cfO cf) k = f) : OxOk C cf loc e h k xs (oK f (xs.map (rdO loc))) := fun nx kn r hr => by
  have hr : rds (xs.map (rdO loc)) e _ = some r := hr
  obtain ⟨vs, h1, h2⟩ := rds_ok hr
  rw [h2] at hr
  obtain ⟨p, h5, h6⟩ := optP_some hr
  refine ⟨vs, p.1, p.2, h1, by rw [hk]; exact h5, fun nx' kn' => ?_⟩
  show rds (xs.map (rdO loc)) e _ = _
  rw [h2, h6]
theorem oKC_ok {k : Kd} {f : CallF → KF} {xs : List Opd} (hk : opEv C (cfO cf) k = f (cfO cf)) : OxOk C cf loc e h k xs (oKC f (xs.map (rdO loc))) := fun nx kn r hr => by
  have hr : rds (xs.map (rdO loc)) e _ = some r := hr
  obtain ⟨vs, h1, h2⟩ := rds_ok hr
  rw [h2] at hr
  obtain ⟨p, h5, h6⟩ := optP_some hr
  refine ⟨vs, p.1, p.2, h1, by rw [hk]; exact h5, fun nx' kn' => ?_⟩
  show rds (xs.map (rdO loc)) e _ = _
  rw [h2, h6]
theorem oCall_ok (hc : CfR cf) {f : Nat} {xs : List Opd} : OxOk C cf loc e h (.call f) xs (oCall f (xs.map (rdO loc))) := fun nx kn r hr => by
  have hr : rds (xs.map (rdO loc)) e _ = some r := hr
  obtain ⟨vs, h1, h2⟩ := rds_ok hr
  rw [h2] at hr
  obtain ⟨v, h', h3⟩ := hc _ _ _ _ _ hr
  refine ⟨vs, v, h', h1, cfO_of h3, fun nx' kn' => ?_⟩
  show rds (xs.map (rdO loc)) e _ = _
  rw [h2, h3]
theorem nat_rec {β : Type} (n : Nat) (f : Nat → β) : (@Nat.rec (fun _ => β) (f 0) (fun m _ => f (Nat.succ m)) n : β) = f n := by cases n <;> rfl
theorem oNil_ok {a : Opd} : OxOk C cf loc e h .nilchk [a] (oNil (rdO loc a) (k_nil C)) := fun nx kn r hr => by
  have hr : rdO loc a e _ = some r := hr
  obtain ⟨v, h1, h2⟩ := rdO_ok hr
  rw [h2] at hr
  have eq : ∀ nx kn, oNil (rdO loc a) (k_nil C) nx cf e h kn = isPtrE v (fun _ _ => nx v cf e h kn) (optP (k_nil C [v] h) fun v h => nx v cf e h kn) := fun nx kn => by
    show rdO loc a e _ = _
    rw [h2]
  rcases isPtrE_some (x := v) with ⟨i, o, rfl, hq⟩ | ⟨_, hq⟩
  · exact ⟨[.ptr i o], .ptr i o, h, evs_1 h1, rfl, fun nx' kn' => by rw [eq, hq]⟩
  · rw [hq] at hr
    obtain ⟨p, h5, h6⟩ := optP_some hr
    exact ⟨[v], p.1, p.2, evs_1 h1, h5, fun nx' kn' => by rw [eq, hq, h6]⟩
theorem oFda_ok {o : Nat} {a : Opd} : OxOk C cf loc e h (.fda o) [a] (oFda o (rdO loc a)) := fun nx kn r hr => by
  have hr : rdO loc a e _ = some r := hr
  obtain ⟨v, h1, h2⟩ := rdO_ok hr
  rw [h2] at hr
  have eq : ∀ nx kn, oFda o (rdO loc a) nx cf e h kn = isPtrE v (fun i o' => nx (.ptr i (Nat.add o' o)) cf e h kn) (optP (k_fda o [v] h) fun v h => nx v cf e h kn) := fun nx kn => by
    show rdO loc a e _ = _
    rw [h2]
    congr 1
    funext i o'
    exact nat_rec (Nat.add o' o) fun q => nx (.ptr i q) cf e h kn
  rcases isPtrE_some (x := v) with ⟨i, o', rfl, hq⟩ | ⟨_, hq⟩
  · exact ⟨[.ptr i o'], .ptr i (Nat.add o' o), h, evs_1 h1, by show nat! (Nat.add o' o) (fun o => some (AV.ptr i o, h)) = _; rw [nat_eq], fun nx' kn' => by rw [eq, hq]⟩
  · rw [hq] at hr
    obtain ⟨p, h5, h6⟩ := optP_some hr
    exact ⟨[v], p.1, p.2, evs_1 h1, h5, fun nx' kn' => by rw [eq, hq, h6]⟩
theorem oExt_ok {i : Nat} {a : Opd} : OxOk C cf loc e h (.ext i) [a] (oExt i (rdO loc a)) := fun nx kn r hr => by
  have hr : rdO loc a e _ = some r := hr
  obtain ⟨v, h1, h2⟩ := rdO_ok hr
  rw [h2] at hr
  have eq : ∀ nx kn, oExt i (rdO loc a) nx cf e h kn = isTupE v (fun l => optK (lget l i) fun v => nx v cf e h kn) none := fun nx kn => by
    show rdO loc a e _ = _
    rw [h2]
  rcases isTupE_some (x := v) with ⟨l, rfl, hq⟩ | ⟨_, hq⟩
  · rw [hq] at hr
    obtain ⟨z, h5, h6⟩ := optK_some hr
    exact ⟨[.tup l], z, h, evs_1 h1, by show yld h (lget l i) = _; rw [h5]; rfl, fun nx' kn' => by rw [eq, hq, h6]⟩
  · rw [hq] at hr; cases hr
theorem hloadK_some {i o : Nat} {k : AV → Rs} {r : AV × AH} (hr : hloadK h i o k = some r) : ∃ v, hload h i o = some v ∧ ∀ k', hloadK h i o k' = k' v := by
  unfold hloadK at hr ⊢
  obtain ⟨ob, h1, h2⟩ := optK_some hr
  rw [h2] at hr
  cases ob with
  | cells c n ee fl fh tag ro =>
    have hr : @Bool.rec (fun _ => Rs) none (@Bool.rec (fun _ => Rs) none (optK (c.get o) k) (@Bool.rec (fun _ => Bool) (readable h i tag) true (Nat.beq tag 0))) (Nat.ble (Nat.succ o) n) = some r := hr
    obtain ⟨h3, h4⟩ := brs hr
    rw [h4] at hr
    obtain ⟨h5, h6⟩ := brs hr
    rw [h6] at hr
    obtain ⟨v, h7, h8⟩ := optK_some hr
    refine ⟨v, ?_, fun k' => ?_⟩
    · unfold hload
      rw [h1]
      dsimp only
      rw [h3]
      have : readable h i tag = true := by
        cases ht : Nat.beq tag 0 with
        | false => rw [ht] at h5; exact h5
        | true => rw [Nat.eq_of_beq_eq_true ht]; rfl
      rw [this]
      exact h7
    · rw [h2]
      show @Bool.rec (fun _ => Rs) none (@Bool.rec (fun _ => Rs) none (optK (c.get o) k') (@Bool.rec (fun _ => Bool) (readable h i tag) true (Nat.beq tag 0))) (Nat.ble (Nat.succ o) n) = _
      rw [h4, h6, h8]
  | _ => cases hr
theorem oLd_ok {a : Opd} : OxOk C cf loc e h (.ld none) [a] (oLd C (rdO loc a)) := fun nx kn r hr => by
  have hr : rdO loc a e _ = some r := hr
  obtain ⟨v, h1, h2⟩ := rdO_ok hr
  rw [h2] at hr
  have eq : ∀ nx kn, oLd C (rdO loc a) nx cf e h kn = isPtrE v (fun i o => hloadK h i o fun v => nx v cf e h kn) (optP (k_ld C [v] h) fun v h => nx v cf e h kn) := fun nx kn => by
    show rdO loc a e _ = _
    rw [h2]
  rcases isPtrE_some (x := v) with ⟨i, o', rfl, hq⟩ | ⟨_, hq⟩
  · rw [hq] at hr
    obtain ⟨z, h5, h6⟩ := hloadK_some hr
    exact ⟨[.ptr i o'], z, h, evs_1 h1, by show yld h (hload h i o') = _; rw [h5]; rfl, fun nx' kn' => by rw [eq, hq, h6]⟩
  · rw [hq] at hr
    obtain ⟨p, h5, h6⟩ := optP_some hr
    exact ⟨[v], p.1, p.2, evs_1 h1, h5, fun nx' kn' => by rw [eq, hq, h6]⟩
theorem oIxs_ok {s : Nat} {a b : Opd} : OxOk C cf loc e h (.ixs s) [a, b] (oIxs s (rdO loc a) (rdO loc b)) := fun nx kn r hr => by
  have hr : rdO loc a e _ = some r := hr
  obtain ⟨v, h1, h2⟩ := rdO_ok hr
  rw [h2] at hr
  obtain ⟨u, h3, h4⟩ := rdO_ok hr
  rw [h4] at hr
  have eq : ∀ nx kn, oIxs s (rdO loc a) (rdO loc b) nx cf e h kn = isIntE u (fun _ z => @Int.rec (fun _ => Rs) (fun n => isSlcE v (fun i o l _ =>
    @Bool.rec (fun _ => Rs) none (@Nat.rec (fun _ => Rs) (nx (.ptr i 0) cf e h kn) (fun m _ => nx (.ptr i (Nat.succ m)) cf e h kn) (Nat.add o (Nat.mul n s))) (Nat.ble (Nat.succ n) l)) (optP (k_ixs s [v, u] h) fun v h => nx v cf e h kn)) (fun _ => none) z) none := fun nx kn => by
    show rdO loc a e _ = _
    rw [h2, h4]
  rcases isIntE_some (x := u) with ⟨k, z, rfl, hq⟩ | ⟨_, hq⟩
  · rw [hq] at hr
    cases z with
    | negSucc z => cases hr
    | ofNat z =>
      have eq2 : ∀ nx kn, oIxs s (rdO loc a) (rdO loc b) nx cf e h kn = isSlcE v (fun i o l _ => @Bool.rec (fun _ => Rs) none (nx (.ptr i (Nat.add o (Nat.mul z s))) cf e h kn) (Nat.ble (Nat.succ z) l)) (optP (k_ixs s [v, .int k (.ofNat z)] h) fun v h => nx v cf e h kn) := fun nx kn => by
        rw [eq, hq]
        show isSlcE v _ _ = _
        congr 1
        funext i o l c
        congr 1
        exact nat_rec (Nat.add o (Nat.mul z s)) fun q => nx (.ptr i q) cf e h kn
      have hr2 := (eq2 nx kn).symm.trans ((show oIxs s (rdO loc a) (rdO loc b) nx cf e h kn = some r from by rw [eq, hq]; exact hr))
      rcases isSlcE_some (x := v) with ⟨i, o, l, c, rfl, hs⟩ | ⟨_, hs⟩
      · rw [hs] at hr2
        obtain ⟨h7, h8⟩ := brs hr2
        refine ⟨[.slc i o l c, .int k (.ofNat z)], .ptr i (Nat.add o (Nat.mul z s)), h, evs_2 h1 h3, ?_, fun nx' kn' => by rw [eq2, hs, h8]⟩
        show grd (Nat.ble (Nat.succ z) l) (nat! (Nat.add o (Nat.mul z s)) fun o => some (AV.ptr i o, h)) = _
        rw [h7, nat_eq]; rfl
      · rw [hs] at hr2
        obtain ⟨p, h5, h6⟩ := optP_some hr2
        exact ⟨[v, .int k (.ofNat z)], p.1, p.2, evs_2 h1 h3, h5, fun nx' kn' => by rw [eq2, hs, h6]⟩
  · rw [hq] at hr; cases hr

theorem o2_ok {k : Kd} {f : AV → AV → Option AV} (hk : ∀ x y v, f x y = some v → opEv C (cfO cf) k [x, y] h = some (v, h)) {a b : Opd} : OxOk C cf loc e h k [a, b] (o2 f (rdO loc a) (rdO loc b)) := fun nx kn r hr => by
  have hr : rdO loc a e _ = some r := hr
  obtain ⟨v, h1, h2⟩ := rdO_ok hr
  rw [h2] at hr
  obtain ⟨u, h3, h4⟩ := rdO_ok hr
  rw [h4] at hr
  obtain ⟨z, h5, h6⟩ := optK_some hr
  refine ⟨[v, u], z, h, evs_2 h1 h3, hk _ _ _ h5, fun nx' kn' => ?_⟩
  show rdO loc a e _ = _
  rw [h2, h4, h6]
theorem o1_ok' {k : Kd} {f : AV → Option AV} (hk : ∀ x v, f x = some v → opEv C (cfO cf) k [x] h = some (v, h)) {a : Opd} : OxOk C cf loc e h k [a] (o1 f (rdO loc a)) := fun nx kn r hr => by
  have hr : rdO loc a e _ = some r := hr
  obtain ⟨v, h1, h2⟩ := rdO_ok hr
  rw [h2] at hr
  obtain ⟨z, h5, h6⟩ := optK_some hr
  refine ⟨[v], z, h, evs_1 h1, hk _ _ h5, fun nx' kn' => ?_⟩
  show rdO loc a e _ = _
  rw [h2, h6]
theorem oNot_ok {a : Opd} : OxOk C cf loc e h (.un .not) [a] (o1 notF (rdO loc a)) := o1_ok' fun x v hv => by
  cases x <;> first | (cases hv; done) | skip
  rename_i b
  cases b <;> (cases hv; rfl)
theorem oLen0_ok {a : Opd} : OxOk C cf loc e h (.len 0) [a] (o1 len0F (rdO loc a)) := o1_ok' fun x v hv => by
  cases x <;> first | (cases hv; done) | (cases hv; rfl)
theorem oLen1_ok {a : Opd} : OxOk C cf loc e h (.len 1) [a] (o1 len1F (rdO loc a)) := o1_ok' fun x v hv => by
  cases x <;> first | (cases hv; done) | (cases hv; rfl)
theorem oCint_ok {k : IntKind} {a : Opd} : OxOk C cf loc e h (.cint k) [a] (o1 (cintF k) (rdO loc a)) := o1_ok' fun x v hv => by
  cases x <;> first | (cases hv; done) | skip
  rename_i k' n
  show yld h (wrapI k n) = _
  have : wrapI k n = some v := by
    cases n with
    | ofNat n => rw [← hv]; exact (wrapNF_eq k n).symm
    | negSucc n => exact hv
  rw [this]; rfl
theorem natF_some {k : IntKind} {n : Nat} {v : AV} (h : natF k n = some v) : v = .int k (.ofNat n) := by
  rw [natF_eq] at h; exact mkN_some h
theorem bro {b : Bool} {x : Option AV} {v : AV} (h : @Bool.rec (fun _ => Option AV) none x b = some v) : b = true ∧ x = some v := by
  cases b with
  | false => cases h
  | true => exact ⟨rfl, h⟩
theorem oIxt_ok {a b : Opd} : OxOk C cf loc e h .ixt [a, b] (o2 ixtF (rdO loc a) (rdO loc b)) := o2_ok fun x y v hv => by
  cases y <;> first | (cases hv; done) | skip
  rename_i k z
  cases z with
  | negSucc z => cases hv
  | ofNat m =>
    cases x <;> first | (cases hv; done) | skip
    rename_i l n
    obtain ⟨h1, h2⟩ := bro (show @Bool.rec (fun _ => Option AV) none (natF .u8 (sidx l n m)) (Nat.ble (Nat.succ m) l) = some v from hv)
    show grd (Nat.ble (Nat.succ m) l) (nat! (sidx l n m) fun c => some (AV.int .u8 (Int.ofNat c), h)) = _
    rw [h1, nat_eq, natF_some h2]; rfl
theorem strS_eq (l n : Nat) : strS l n = str! l n some := by cases l <;> cases n <;> rfl
theorem cutF_some {l n a b : Nat} {v : AV} (hv : cutF l n a b = some v) : Nat.ble a b = true ∧ Nat.ble b l = true ∧ str! (Nat.sub b a) (ssub l n a b) some = some v := by
  obtain ⟨h1, h2⟩ := bro hv
  obtain ⟨h3, h4⟩ := bro h2
  exact ⟨h1, h3, by rw [← strS_eq]; exact h4⟩
theorem oSltL_ok {a b : Opd} : OxOk C cf loc e h (.slt true false) [a, b] (o2 sltL (rdO loc a) (rdO loc b)) := o2_ok fun x y v hv => by
  cases y <;> first | (cases hv; done) | skip
  rename_i k z
  cases z with
  | negSucc z => cases hv
  | ofNat m =>
    cases x <;> first | (cases hv; done) | skip
    rename_i l n
    obtain ⟨h1, h2, h3⟩ := cutF_some (show cutF l n m l = some v from hv)
    show grd (Nat.ble m l) (grd (Nat.ble l l) (grd (Nat.ble l l) (yld h (str! (Nat.sub l m) (ssub l n m l) some)))) = _
    rw [h1, h2, h3]; rfl
theorem oSltH_ok {a b : Opd} : OxOk C cf loc e h (.slt false true) [a, b] (o2 sltH (rdO loc a) (rdO loc b)) := o2_ok fun x y v hv => by
  cases y <;> first | (cases hv; done) | skip
  rename_i k z
  cases z with
  | negSucc z => cases hv
  | ofNat m =>
    cases x <;> first | (cases hv; done) | skip
    rename_i l n
    obtain ⟨h1, h2, h3⟩ := cutF_some (show cutF l n 0 m = some v from hv)
    show grd (Nat.ble 0 m) (grd (Nat.ble m l) (grd (Nat.ble l l) (yld h (str! (Nat.sub m 0) (ssub l n 0 m) some)))) = _
    rw [h1, h2, h3, show Nat.ble l l = true from by simp]; rfl
theorem oIxa_ok {n s : Nat} {a b : Opd} : OxOk C cf loc e h (.ixa n s) [a, b] (oIxa n s (rdO loc a) (rdO loc b)) := fun nx kn r hr => by
  have hr : rdO loc a e _ = some r := hr
  obtain ⟨v, h1, h2⟩ := rdO_ok hr
  rw [h2] at hr
  obtain ⟨u, h3, h4⟩ := rdO_ok hr
  rw [h4] at hr
  have eq : ∀ nx kn, oIxa n s (rdO loc a) (rdO loc b) nx cf e h kn = isIntE u (fun _ z => @Int.rec (fun _ => Rs) (fun m => isPtrE v (fun i o =>
    @Bool.rec (fun _ => Rs) none (@Nat.rec (fun _ => Rs) (nx (.ptr i 0) cf e h kn) (fun q _ => nx (.ptr i (Nat.succ q)) cf e h kn) (Nat.add o (Nat.mul m s))) (Nat.ble (Nat.succ m) n)) (optP (k_ixa n s [v, u] h) fun v h => nx v cf e h kn)) (fun _ => none) z) none := fun nx kn => by
    show rdO loc a e _ = _
    rw [h2, h4]
  rcases isIntE_some (x := u) with ⟨k, z, rfl, hq⟩ | ⟨_, hq⟩
  · rw [hq] at hr
    cases z with
    | negSucc z => cases hr
    | ofNat z =>
      have eq2 : ∀ nx kn, oIxa n s (rdO loc a) (rdO loc b) nx cf e h kn = isPtrE v (fun i o => @Bool.rec (fun _ => Rs) none (nx (.ptr i (Nat.add o (Nat.mul z s))) cf e h kn) (Nat.ble (Nat.succ z) n)) (optP (k_ixa n s [v, .int k (.ofNat z)] h) fun v h => nx v cf e h kn) := fun nx kn => by
        rw [eq, hq]
        show isPtrE v _ _ = _
        congr 1
        funext i o
        congr 1
        exact nat_rec (Nat.add o (Nat.mul z s)) fun q => nx (.ptr i q) cf e h kn
      have hr2 := (eq2 nx kn).symm.trans ((show oIxa n s (rdO loc a) (rdO loc b) nx cf e h kn = some r from by rw [eq, hq]; exact hr))
      rcases isPtrE_some (x := v) with ⟨i, o, rfl, hs⟩ | ⟨_, hs⟩
      · rw [hs] at hr2
        obtain ⟨h7, h8⟩ := brs hr2
        refine ⟨[.ptr i o, .int k (.ofNat z)], .ptr i (Nat.add o (Nat.mul z s)), h, evs_2 h1 h3, ?_, fun nx' kn' => by rw [eq2, hs, h8]⟩
        show grd (Nat.ble (Nat.succ z) n) (nat! (Nat.add o (Nat.mul z s)) fun o => some (AV.ptr i o, h)) = _
        rw [h7, nat_eq]; rfl
      · rw [hs] at hr2
        obtain ⟨p, h5, h6⟩ := optP_some hr2
        exact ⟨[v, .int k (.ofNat z)], p.1, p.2, evs_2 h1 h3, h5, fun nx' kn' => by rw [eq2, hs, h6]⟩
  · rw [hq] at hr; cases hr
theorem oneF_true {v : AV} {s : Nat} (h : oneF v s = true) : v.one = true ∧ s = 1 ∧ v.cells = [v] := by
  cases v <;> first | (cases h; done) | exact ⟨rfl, Nat.eq_of_beq_eq_true h, rfl⟩
/-- One trie for whatever follows. -/
theorem setK_one {α : Type} (t : Tr α) (k : Nat) (a : Option α) : ∃ t', ∀ {γ : Type} (f : Tr α → Option γ), t.setK dpt k a f = f t' := by
  have way : ∀ (d k : Nat), k < d → ∃ t', ∀ {γ : Type} (f : Tr α → Option γ), Tr.way d k a f = f t' := by
    intro d
    induction d with
    | zero => intro k h; omega
    | succ d ih =>
      intro k hk
      have e1 : ∀ {γ : Type} (f : Tr α → Option γ), Tr.way (d + 1) k a f = @Bool.rec (fun _ => Option γ) (@Bool.rec (fun _ => Option γ) (Tr.way d (Nat.shiftRight k 1) a (fun l => f (.n l none .e))) (Tr.way d (Nat.shiftRight k 1) a (fun r => f (.n .e none r))) (Nat.beq (Nat.land k 1) 0)) (f (.n .e a .e)) (Nat.beq k 0) := fun f => rfl
      cases h1 : Nat.beq k 0 with
      | true => exact ⟨_, fun f => by rw [e1, h1]⟩
      | false =>
        have h0 : k ≠ 0 := fun hz => by rw [hz] at h1; cases h1
        obtain ⟨t', ht⟩ := ih (Nat.shiftRight k 1) (by rw [Tr.shr1]; omega)
        cases h2 : Nat.beq (Nat.land k 1) 0 with
        | false => exact ⟨_, fun f => by rw [e1, h1, h2]; exact ht _⟩
        | true => exact ⟨_, fun f => by rw [e1, h1, h2]; exact ht _⟩
  induction t generalizing k with
  | e => exact way (Nat.succ k) k (Nat.lt_succ_self k)
  | n l v rr ihl ihr =>
    have e1 : ∀ {γ : Type} (f : Tr α → Option γ), (Tr.n l v rr).setK dpt k a f = @Bool.rec (fun _ => Option γ) (@Bool.rec (fun _ => Option γ) (l.setK dpt (Nat.shiftRight k 1) a (fun l' => f (.n l' v rr))) (rr.setK dpt (Nat.shiftRight k 1) a (fun r' => f (.n l v r'))) (Nat.beq (Nat.land k 1) 0)) (f (.n l a rr)) (Nat.beq k 0) := fun f => rfl
    cases h1 : Nat.beq k 0 with
    | true => exact ⟨_, fun f => by rw [e1, h1]⟩
    | false =>
      cases h2 : Nat.beq (Nat.land k 1) 0 with
      | false => obtain ⟨t', ht⟩ := ihl (Nat.shiftRight k 1); exact ⟨_, fun f => by rw [e1, h1, h2]; exact ht _⟩
      | true => obtain ⟨t', ht⟩ := ihr (Nat.shiftRight k 1); exact ⟨_, fun f => by rw [e1, h1, h2]; exact ht _⟩
theorem hst1_ways {i o : Nat} {v : AV} (hv : v.one = true) {k : AH → Rs} {z : Rs} {r : AV × AH} (hr : hst1 h i o v k z = some r) :
    (∃ h', hstore h i o [v] = some h' ∧ ∀ k' z', hst1 h i o v k' z' = k' h') ∨ (z = some r ∧ ∀ k' z', hst1 h i o v k' z' = z') := by
  unfold hst1 at hr ⊢
  obtain ⟨ob, h1, h2⟩ := optK_some hr
  rw [h2] at hr
  cases ob with
  | cells c n ee fl fh tag ro =>
    have eq : ∀ (k' : AH → Rs) (z' : Rs), optK (h.t.get i) (fun ob => isCellsE ob (fun c n e fl fh tag ro =>
        @Bool.rec (fun _ => Rs) (@Bool.rec (fun _ => Rs) z' (@Bool.rec (fun _ => Rs) none (@Bool.rec (fun _ => Rs) none (@Bool.rec (fun _ => Rs) none
        (c.setK dpt o (some v) fun c => h.t.setK dpt i (some (.cells c n e fl fh tag false)) fun t => k' ⟨t, h.g, h.nx⟩) v.one) (Nat.ble (Nat.succ o) n)) (frOk fl fh o 1)) (Nat.beq tag 0)) none ro) none) =
      @Bool.rec (fun _ => Rs) (@Bool.rec (fun _ => Rs) z' (@Bool.rec (fun _ => Rs) none (@Bool.rec (fun _ => Rs) none (@Bool.rec (fun _ => Rs) none
        (c.setK dpt o (some v) fun c => h.t.setK dpt i (some (.cells c n ee fl fh tag false)) fun t => k' ⟨t, h.g, h.nx⟩) v.one) (Nat.ble (Nat.succ o) n)) (frOk fl fh o 1)) (Nat.beq tag 0)) none ro := fun k' z' => by rw [h2]; rfl
    have hr := (eq k z).symm.trans ((h2 _).trans hr)
    cases ro with
    | true => cases hr
    | false =>
      cases ht : Nat.beq tag 0 with
      | false =>
        rw [ht] at hr
        exact .inr ⟨hr, fun k' z' => by rw [eq, ht]⟩
      | true =>
        rw [ht] at hr
        obtain ⟨h3, h4⟩ := brs hr
        rw [h4] at hr
        obtain ⟨h5, h6⟩ := brs hr
        rw [h6] at hr
        obtain ⟨c1, hc1⟩ := setK_one c o (some v)
        obtain ⟨t1, ht1⟩ := setK_one h.t i (some (.cells c1 n ee fl fh tag false))
        refine .inl ⟨⟨t1, h.g, h.nx⟩, ?_, fun k' z' => ?_⟩
        · have htag : tag = 0 := Nat.eq_of_beq_eq_true ht
          subst htag
          unfold hstore
          rw [h1]
          show hstoreC h i o [v] c n ee fl fh 0 = _
          unfold hstoreC
          rw [show lastOf h i 0 = true by rfl, show ([v] : List AV).length = 1 by rfl, h3]
          show setAll n [v] o c _ = _
          simp only [setAll]
          rw [h5, hv]
          show c.setK dpt o (some v) _ = _
          rw [hc1, ht1]; rfl
        · rw [eq, ht]
          show @Bool.rec (fun _ => Rs) none _ (frOk fl fh o 1) = _
          rw [h4, h6, hv]
          show c.setK dpt o (some v) _ = _
          rw [hc1, ht1]
  | _ => cases hr
theorem oSt_ok {s : Nat} {a b : Opd} : OxOk C cf loc e h (.st s) [a, b] (oSt s (rdO loc a) (rdO loc b)) := fun nx kn r hr => by
  have hr : rdO loc a e _ = some r := hr
  obtain ⟨v, h1, h2⟩ := rdO_ok hr
  rw [h2] at hr
  obtain ⟨u, h3, h4⟩ := rdO_ok hr
  rw [h4] at hr
  have eq : ∀ nx kn, oSt s (rdO loc a) (rdO loc b) nx cf e h kn = @Bool.rec (fun _ => Rs) (optP (k_st s [v, u] h) fun v h => nx v cf e h kn)
      (isPtrE v (fun i o => hst1 h i o u (fun h => nx .und cf e h kn) (optP (k_st s [v, u] h) fun v h => nx v cf e h kn)) (optP (k_st s [v, u] h) fun v h => nx v cf e h kn)) (oneF u s) := fun nx kn => by
    show rdO loc a e _ = _
    rw [h2, h4]
  have gen : optP (k_st s [v, u] h) (fun v h => nx v cf e h kn) = some r → (∀ nx' kn', oSt s (rdO loc a) (rdO loc b) nx' cf e h kn' = optP (k_st s [v, u] h) (fun v h => nx' v cf e h kn')) → ∃ vs v h', (∀ {β : Type} (f : List AV → Option β), evs ⟨loc, e⟩ [a, b] f = f vs) ∧ opEv C (cfO cf) (.st s) vs h = some (v, h') ∧ ∀ nx' kn', oSt s (rdO loc a) (rdO loc b) nx' cf e h kn' = nx' v cf e h' kn' := fun hr he => by
    obtain ⟨p, h5, h6⟩ := optP_some hr
    exact ⟨[v, u], p.1, p.2, evs_2 h1 h3, h5, fun nx' kn' => by rw [he, h6]⟩
  cases ho : oneF u s with
  | false =>
    rw [ho] at hr
    exact gen hr fun nx' kn' => by rw [eq, ho]
  | true =>
    rw [ho] at hr
    rcases isPtrE_some (x := v) with ⟨i, o, rfl, hq⟩ | ⟨_, hq⟩
    · have hr : isPtrE (AV.ptr i o) _ _ = some r := hr
      rw [hq] at hr
      obtain ⟨o1, o2, o3⟩ := oneF_true ho
      rcases hst1_ways o1 hr with ⟨h', h5, h6⟩ | ⟨h5, h6⟩
      · refine ⟨[.ptr i o, u], .und, h', evs_2 h1 h3, ?_, fun nx' kn' => ?_⟩
        · show grd (Nat.beq u.cells.length s) (yund (hstore h i o u.cells)) = _
          rw [o3, o2, h5]; rfl
        · rw [eq, ho]
          show isPtrE (AV.ptr i o) _ _ = _
          rw [hq, h6]
      · exact gen h5 fun nx' kn' => by
          rw [eq, ho]
          show isPtrE (AV.ptr i o) _ _ = _
          rw [hq, h6]
    · have hr : isPtrE v _ _ = some r := hr
      rw [hq] at hr
      exact gen hr fun nx' kn' => by
        rw [eq, ho]
        show isPtrE v _ _ = _
        rw [hq]
end
end Go.Vm
namespace Go.Vm
open Go
section
variable {C : Cfg} {cf : CallX}

theorem kX_ok (hc : CfR cf) {loc : List (Nat × AV)} {t : Tr AV} {h : AH} (k : Kd) (xs : List Opd) : OxOk C cf loc t h k xs (kX C k (xs.map (rdO loc))) := by
  have gen : ∀ k : Kd, k.calls = false → OxOk C cf loc t h k xs (oK (opEv C (fun _ _ _ => none) k) (xs.map (rdO loc))) := fun k hk => oK_ok (kd_cf _ hk)
  cases k with
  | mov => match xs with | [] => exact gen _ rfl | [x] => exact oM_ok | _ :: _ :: _ => exact gen _ rfl
  | pick => match xs with | [] => exact gen _ rfl | [_] => exact gen _ rfl | [_, _] => exact gen _ rfl | [c, a, b] => exact oPick_ok | _ :: _ :: _ :: _ :: _ => exact gen _ rfl
  | bin op d c => match xs with | [] => exact gen _ rfl | [_] => exact gen _ rfl | [a, b] => exact oBin_ok | _ :: _ :: _ :: _ => exact gen _ rfl
  | un op =>
    match xs with
    | [] => cases op <;> exact gen _ rfl
    | [a] => cases op <;> first | exact oNot_ok | exact o1_ok (fun x => rfl)
    | _ :: _ :: _ => cases op <;> exact gen _ rfl
  | nilchk => match xs with | [] => exact gen _ rfl | [a] => exact oNil_ok | _ :: _ :: _ => exact gen _ rfl
  | fda o => match xs with | [] => exact gen _ rfl | [a] => exact oFda_ok | _ :: _ :: _ => exact gen _ rfl
  | ext i => match xs with | [] => exact gen _ rfl | [a] => exact oExt_ok | _ :: _ :: _ => exact gen _ rfl
  | ld s => cases s with
    | some n => exact gen _ rfl
    | none => match xs with | [] => exact gen _ rfl | [a] => exact oLd_ok | _ :: _ :: _ => exact gen _ rfl
  | ixs s => match xs with | [] => exact gen _ rfl | [_] => exact gen _ rfl | [a, b] => exact oIxs_ok | _ :: _ :: _ :: _ => exact gen _ rfl
  | len n =>
    match n, xs with
    | 0, [] => exact gen _ rfl
    | 0, [a] => exact oLen0_ok
    | 0, _ :: _ :: _ => exact gen _ rfl
    | 1, [] => exact gen _ rfl
    | 1, [a] => exact oLen1_ok
    | 1, _ :: _ :: _ => exact gen _ rfl
    | n + 2, [] => exact gen _ rfl
    | n + 2, [a] => exact gen _ rfl
    | n + 2, _ :: _ :: _ => exact gen _ rfl
  | cint k => match xs with | [] => exact gen _ rfl | [a] => exact oCint_ok | _ :: _ :: _ => exact gen _ rfl
  | ixt => match xs with | [] => exact gen _ rfl | [_] => exact gen _ rfl | [a, b] => exact oIxt_ok | _ :: _ :: _ :: _ => exact gen _ rfl
  | slt lo hi =>
    match lo, hi, xs with
    | true, true, _ => exact gen _ rfl
    | false, false, _ => exact gen _ rfl
    | true, false, [] => exact gen _ rfl
    | true, false, [_] => exact gen _ rfl
    | true, false, [a, b] => exact oSltL_ok
    | true, false, _ :: _ :: _ :: _ => exact gen _ rfl
    | false, true, [] => exact gen _ rfl
    | false, true, [_] => exact gen _ rfl
    | false, true, [a, b] => exact oSltH_ok
    | false, true, _ :: _ :: _ :: _ => exact gen _ rfl
  | ixa n s => match xs with | [] => exact gen _ rfl | [_] => exact gen _ rfl | [a, b] => exact oIxa_ok | _ :: _ :: _ :: _ => exact gen _ rfl
  | st s => match xs with | [] => exact gen _ rfl | [_] => exact gen _ rfl | [a, b] => exact oSt_ok | _ :: _ :: _ :: _ => exact gen _ rfl
  | call f => exact oCall_ok hc
  | callv => exact oKC_ok (f := k_callv C) rfl
  | inv m => exact oKC_ok (f := fun cf => callM C cf m) rfl
  | _ => exact gen _ rfl
theorem isBool_und {c : AV} {f : KB} {z : Rs} {r : AV × AH} (h : isBoolE c f (isTupE c (fun l => @List.rec AV (fun _ => Rs) z (fun _ _ _ => none) l) none) = some r) :
    (∃ b, c = .bool b) ∨ c = .tup [] := by
  cases c with
  | bool b => exact .inl ⟨b, rfl⟩
  | tup l =>
    cases l with
    | nil => exact .inr rfl
    | cons a l => cases h
  | _ => cases h
theorem opX_ok (hc : CfR cf) {loc : List (Nat × AV)} {t : Tr AV} {h : AH} {o : COp} {nx : AV → RT} {kn : KE} {r : AV × AH} (hr : opX C o (rdO loc) nx cf t h kn = some r) :
    ∃ v h', val C (cfO cf) o ⟨loc, t⟩ h = some (v, h') ∧ ∀ nx' kn', opX C o (rdO loc) nx' cf t h kn' = nx' v cf t h' kn' := by
  unfold opX at hr ⊢
  unfold val
  cases hg : o.g with
  | none =>
    rw [hg] at hr
    obtain ⟨vs, v, h', h1, h2, h3⟩ := kX_ok hc o.k o.xs nx kn r hr
    exact ⟨v, h', by rw [← h2]; exact h1 _, h3⟩
  | some g =>
    rw [hg] at hr
    have hr : oG (rdO loc g.1) g.2 (kX C o.k (o.xs.map (rdO loc))) nx cf t h kn = some r := hr
    have hr' : rdO loc g.1 t _ = some r := hr
    obtain ⟨c, h1, h2⟩ := rdO_ok hr'
    have eq : ∀ nx kn, oG (rdO loc g.1) g.2 (kX C o.k (o.xs.map (rdO loc))) nx cf t h kn = isBoolE c (fun b => @Bool.rec (fun _ => Rs) (nx .und cf t h kn) (kX C o.k (o.xs.map (rdO loc)) nx cf t h kn) (bsel g.2 b (!b))) (isTupE c (fun l => @List.rec AV (fun _ => Rs) (nx .und cf t h kn) (fun _ _ _ => none) l) none) := fun nx kn => by
      show rdO loc g.1 t _ = _
      rw [h2]
    rw [eq] at hr
    show ∃ v h', valG ⟨loc, t⟩ g.1 g.2 h _ = some (v, h') ∧ _
    unfold valG
    rw [h1]
    rcases isBool_und hr with ⟨b, rfl⟩ | rfl
    · cases hb : bsel g.2 b (!b) with
      | true =>
        have hr : @Bool.rec (fun _ => Rs) (nx .und cf t h kn) (kX C o.k (o.xs.map (rdO loc)) nx cf t h kn) (bsel g.2 b (!b)) = some r := hr
        rw [hb] at hr
        obtain ⟨vs, v, h', h3, h4, h5⟩ := kX_ok hc o.k o.xs nx kn r hr
        refine ⟨v, h', ?_, fun nx' kn' => ?_⟩
        · dsimp only
          rw [hb, ← h4]; exact h3 _
        · rw [← h5 nx' kn']
          refine (eq nx' kn').trans ?_
          show @Bool.rec (fun _ => Rs) _ _ (bsel g.2 b (!b)) = _
          rw [hb]
      | false =>
        refine ⟨.und, h, ?_, fun nx' kn' => ?_⟩
        · dsimp only
          rw [hb]; rfl
        · refine (eq nx' kn').trans ?_
          show @Bool.rec (fun _ => Rs) _ _ (bsel g.2 b (!b)) = _
          rw [hb]
    · exact ⟨.und, h, rfl, fun nx' kn' => eq nx' kn'⟩
theorem denR_ok (hc : CfR cf) : ∀ (os : List COp) (loc : List (Nat × AV)) (t : Tr AV) (h : AH) (kn : KE) (r : AV × AH), denR C os loc cf t h kn = some r →
    ∃ e' h', steps C (cfO cf) os ⟨loc, t⟩ h = some (e', h') ∧ ∀ kn', denR C os loc cf t h kn' = kn' e'.var h'
  | [], loc, t, h, kn, r, hr => ⟨⟨loc, t⟩, h, rfl, fun _ => rfl⟩
  | o :: os, loc, t, h, kn, r, hr => by
    simp only [denR] at hr ⊢
    obtain ⟨v, h1, hv, h2⟩ := opX_ok hc hr
    rw [h2] at hr
    simp only [steps]
    rw [hv]
    show ∃ e' h', put ⟨loc, t⟩ o.d v (fun e => steps C (cfO cf) os e h1) = some (e', h') ∧ _
    cases hd : o.d with
    | no =>
      rw [hd] at hr
      obtain ⟨e', h', h3, h4⟩ := denR_ok hc os loc t h1 kn r hr
      exact ⟨e', h', h3, fun kn' => by rw [h2]; exact h4 kn'⟩
    | loc d =>
      rw [hd] at hr
      obtain ⟨e', h', h3, h4⟩ := denR_ok hc os ((d, v) :: loc) t h1 kn r hr
      exact ⟨e', h', h3, fun kn' => by rw [h2]; exact h4 kn'⟩
    | var d =>
      rw [hd] at hr
      have hr : wrV 32 d v t _ = some r := hr
      obtain ⟨t', h5, h6⟩ := wrV_ok 32 d v t _ r hr
      rw [h5] at hr
      obtain ⟨e', h', h3, h4⟩ := denR_ok hc os loc t' h1 kn r hr
      refine ⟨e', h', ?_, fun kn' => ?_⟩
      · show t.setK dpt d (some v) (fun w => steps C (cfO cf) os ⟨loc, w⟩ h1) = _
        rw [h6]; exact h3
      · rw [h2]
        show wrV 32 d v t _ = _
        rw [h5]; exact h4 kn'

theorem steps_trail {cf : CallF} : ∀ (os : List COp) (e : Env) (h : AH) (l : List AH) (e' : Env) (h' : AH), steps C cf os e h = some (e', h') → ∃ hs, trail C cf os e h l = some (e', h' :: hs)
  | [], e, h, l, e', h', hs => by cases hs; exact ⟨l, rfl⟩
  | o :: os, e, h, l, e', h', hs => by
    simp only [steps] at hs
    obtain ⟨p, h1, hs⟩ := obind_some.1 hs
    simp only [trail]
    rw [h1]
    show ∃ hs, put e o.d p.1 (fun e => trail C cf os e p.2 (h :: l)) = some (e', h' :: hs)
    cases hd : o.d with
    | no => rw [hd] at hs; exact steps_trail os _ _ _ _ _ hs
    | loc d => rw [hd] at hs; exact steps_trail os _ _ _ _ _ hs
    | var d =>
      rw [hd] at hs
      obtain ⟨t1, _, h3⟩ := Tr.set_spec dpt e.var d (some p.1) (fun w => steps C cf os ⟨e.loc, w⟩ p.2)
      have hs : e.var.setK dpt d (some p.1) (fun w => steps C cf os ⟨e.loc, w⟩ p.2) = some (e', h') := hs
      -- the same trie, whatever follows
      have nat : ∀ {α β : Type} (t : Tr AV) (k : Nat) (a : Option AV) (f : Tr AV → Option α) (g : Tr AV → Option β) (r : α), t.setK dpt k a f = some r → ∃ t', f t' = some r ∧ t.setK dpt k a g = g t' := by
        intro α β t
        have way : ∀ (d k : Nat) (a : Option AV) (f : Tr AV → Option α) (g : Tr AV → Option β) (r : α), Tr.way d k a f = some r → ∃ t', f t' = some r ∧ Tr.way d k a g = g t' := by
          intro d
          induction d with
          | zero => intro k a f g r h; cases h
          | succ d ih =>
            intro k a f g r h
            have e1 : ∀ {γ : Type} (f : Tr AV → Option γ), Tr.way (d + 1) k a f = @Bool.rec (fun _ => Option γ) (@Bool.rec (fun _ => Option γ) (Tr.way d (Nat.shiftRight k 1) a (fun l => f (.n l none .e))) (Tr.way d (Nat.shiftRight k 1) a (fun r => f (.n .e none r))) (Nat.beq (Nat.land k 1) 0)) (f (.n .e a .e)) (Nat.beq k 0) := fun f => rfl
            rw [e1] at h ⊢
            cases h1 : Nat.beq k 0 <;> rw [h1] at h
            · cases h2 : Nat.beq (Nat.land k 1) 0 <;> rw [h2] at h
              · obtain ⟨t', q1, q2⟩ := ih _ a _ (fun l => g (.n l none .e)) r h; exact ⟨_, q1, q2⟩
              · obtain ⟨t', q1, q2⟩ := ih _ a _ (fun l => g (.n .e none l)) r h; exact ⟨_, q1, q2⟩
            · exact ⟨_, h, rfl⟩
        induction t with
        | e => intro k a f g r h; exact way (Nat.succ k) k a f g r h
        | n l v rr ihl ihr =>
          intro k a f g r h
          have e1 : ∀ {γ : Type} (f : Tr AV → Option γ), (Tr.n l v rr).setK dpt k a f = @Bool.rec (fun _ => Option γ) (@Bool.rec (fun _ => Option γ) (l.setK dpt (Nat.shiftRight k 1) a (fun l' => f (.n l' v rr))) (rr.setK dpt (Nat.shiftRight k 1) a (fun r' => f (.n l v r'))) (Nat.beq (Nat.land k 1) 0)) (f (.n l a rr)) (Nat.beq k 0) := fun f => rfl
          rw [e1] at h ⊢
          cases h1 : Nat.beq k 0 <;> rw [h1] at h
          · cases h2 : Nat.beq (Nat.land k 1) 0 <;> rw [h2] at h
            · obtain ⟨t', q1, q2⟩ := ihl _ a _ (fun l => g (.n l v rr)) r h; exact ⟨_, q1, q2⟩
            · obtain ⟨t', q1, q2⟩ := ihr _ a _ (fun l' => g (.n l v l')) r h; exact ⟨_, q1, q2⟩
          · exact ⟨_, h, rfl⟩
      obtain ⟨t', q1, q2⟩ := nat e.var d (some p.1) _ (fun w => trail C cf os ⟨e.loc, w⟩ p.2 (h :: l)) _ hs
      obtain ⟨hs', q3⟩ := steps_trail os ⟨e.loc, t'⟩ p.2 (h :: l) e' h' q1
      exact ⟨hs', q2.trans q3⟩

theorem same1_same {a b : AV} (h : same1 a b = true) : same 20 a b = true := by
  have e := same1_eq h
  subst e
  cases a <;> first | exact h | skip
  rename_i k n
  show (kbeq k k && decide (n = n)) = true
  rw [kbeq_iff.2 rfl]; simp
theorem dstRd_ok {loc : List (Nat × AV)} {t : Tr AV} {d : Dst} {k : AV → Rs} {r : AV × AH} (h : dstRd loc d t k = some r) : ∃ u, cur ⟨loc, t⟩ d = some u ∧ ∀ k', dstRd loc d t k' = k' u := by
  cases d with
  | no => cases h
  | loc x => exact rdO_ok (x := .loc x) h
  | var x => exact rdO_ok (x := .var x) h
theorem denK_ok {all : List COp} {loc : List (Nat × AV)} {H : List (Nat × AH)} {t : Tr AV} {h : AH} {hs : List AH} (hH : ∀ j hh, hfind j H = some hh → hs[all.length - j]? = some hh) : ∀ (l : List (Nat × Nat)) (kn : KE) (r : AV × AH), denK C all loc H l cf t h kn = some r →
    agains C all ⟨loc, t⟩ hs l = true ∧ ∀ kn', denK C all loc H l cf t h kn' = kn' t h
  | [], kn, r, hr => ⟨rfl, fun _ => rfl⟩
  | (q, j) :: l, kn, r, hr => by
    simp only [denK] at hr ⊢
    cases ho : all[q]? with
    | none => rw [ho] at hr; cases hr
    | some o =>
      cases hj : hfind j H with
      | none => rw [ho, hj] at hr; cases hr
      | some hh =>
        rw [ho, hj] at hr
        have hr : dstRd loc o.d t _ = some r := hr
        obtain ⟨u, h1, h2⟩ := dstRd_ok hr
        rw [h2] at hr
        obtain ⟨v, h', h3, h4⟩ := opX_ok (C := C) (cf := fun _ _ _ _ => none) (fun _ _ _ _ _ hk => by cases hk) hr
        rw [h4] at hr
        obtain ⟨h5, h6⟩ := brs hr
        rw [h6] at hr
        obtain ⟨h7, h8⟩ := denK_ok hH l kn r hr
        refine ⟨?_, fun kn' => ?_⟩
        · simp only [agains]
          rw [ho, hH j hh hj]
          show (again C o ⟨loc, t⟩ hh && _) = true
          have : again C o ⟨loc, t⟩ hh = true := by
            unfold again
            have h3 : val C (fun _ _ _ => none) o ⟨loc, t⟩ hh = some (v, h') := h3
            rw [h3, h1]
            exact same1_same h5
          rw [this, h7]; rfl
        · show dstRd loc o.d t _ = _
          rw [h2, h4, h6]; exact h8 kn'
theorem denD_ok (hc : CfR cf) {all : List COp} {chk : List (Nat × Nat)} : ∀ (os : List COp) (i : Nat) (loc : List (Nat × AV)) (H : List (Nat × AH)) (t : Tr AV) (h : AH) (l : List AH) (kn : KE) (r : AV × AH), i + os.length = all.length → l.length = i →
    (∀ j hh, hfind j H = some hh → j < i ∧ l[i - 1 - j]? = some hh) → denD C all chk os i loc H cf t h kn = some r →
    ∃ e' h' hs, trail C (cfO cf) os ⟨loc, t⟩ h l = some (e', h' :: hs) ∧ agains C all e' (h' :: hs) chk = true ∧ ∀ kn', denD C all chk os i loc H cf t h kn' = kn' e'.var h'
  | [], i, loc, H, t, h, l, kn, r, hi, hl, hH, hr => by
    have hi : i = all.length := by simpa using hi
    have hr : denK C all loc ((i, h) :: H) chk cf t h kn = some r := hr
    obtain ⟨h1, h2⟩ := denK_ok (hs := h :: l) (fun j hh hj => by
      simp only [hfind] at hj
      cases hb : Nat.beq i j with
      | true =>
        rw [hb] at hj
        cases hj
        rw [← Nat.eq_of_beq_eq_true hb, hi]; simp
      | false =>
        rw [hb] at hj
        obtain ⟨h3, h4⟩ := hH j hh hj
        rw [← hi, show i - j = (i - 1 - j) + 1 by omega]
        simpa using h4) chk kn r hr
    exact ⟨⟨loc, t⟩, h, l, rfl, h1, fun kn' => h2 kn'⟩
  | o :: os, i, loc, H, t, h, l, kn, r, hi, hl, hH, hr => by
    have hi' : Nat.succ i + os.length = all.length := by simp only [List.length_cons] at hi; omega
    have step : ∀ (H' : List (Nat × AH)), (∀ j hh, hfind j H' = some hh → j < Nat.succ i ∧ (h :: l)[Nat.succ i - 1 - j]? = some hh) →
        (opX C o (rdO loc) fun v => wrD o.d v loc fun loc => denD C all chk os (Nat.succ i) loc H') cf t h kn = some r →
        ∃ e' h' hs, trail C (cfO cf) (o :: os) ⟨loc, t⟩ h l = some (e', h' :: hs) ∧ agains C all e' (h' :: hs) chk = true ∧ ∀ kn', (opX C o (rdO loc) fun v => wrD o.d v loc fun loc => denD C all chk os (Nat.succ i) loc H') cf t h kn' = kn' e'.var h' := fun H' hH' hr => by
      obtain ⟨v, h1, hv, h2⟩ := opX_ok hc hr
      rw [h2] at hr
      simp only [trail]
      rw [hv]
      show ∃ e' h' hs, put ⟨loc, t⟩ o.d v (fun e => trail C (cfO cf) os e h1 (h :: l)) = some (e', h' :: hs) ∧ _
      cases hd : o.d with
      | no =>
        rw [hd] at hr
        obtain ⟨e', h', hs, h3, h4, h5⟩ := denD_ok hc os (Nat.succ i) loc H' t h1 (h :: l) kn r hi' (by simp [hl]) hH' hr
        exact ⟨e', h', hs, h3, h4, fun kn' => by rw [h2]; exact h5 kn'⟩
      | loc d =>
        rw [hd] at hr
        obtain ⟨e', h', hs, h3, h4, h5⟩ := denD_ok hc os (Nat.succ i) ((d, v) :: loc) H' t h1 (h :: l) kn r hi' (by simp [hl]) hH' hr
        exact ⟨e', h', hs, h3, h4, fun kn' => by rw [h2]; exact h5 kn'⟩
      | var d =>
        rw [hd] at hr
        have hr : wrV 32 d v t _ = some r := hr
        obtain ⟨t', h6, h7⟩ := wrV_ok 32 d v t _ r hr
        rw [h6] at hr
        obtain ⟨e', h', hs, h3, h4, h5⟩ := denD_ok hc os (Nat.succ i) loc H' t' h1 (h :: l) kn r hi' (by simp [hl]) hH' hr
        refine ⟨e', h', hs, ?_, h4, fun kn' => ?_⟩
        · show t.setK dpt d (some v) (fun w => trail C (cfO cf) os ⟨loc, w⟩ h1 (h :: l)) = _
          rw [h7]; exact h3
        · rw [h2]
          show wrV 32 d v t _ = _
          rw [h6]; exact h5 kn'
    have old : ∀ j hh, hfind j H = some hh → j < Nat.succ i ∧ (h :: l)[Nat.succ i - 1 - j]? = some hh := fun j hh hj => by
      obtain ⟨h3, h4⟩ := hH j hh hj
      refine ⟨by omega, ?_⟩
      rw [show Nat.succ i - 1 - j = (i - 1 - j) + 1 by omega]
      simpa using h4
    simp only [denD] at hr ⊢
    cases hb : chk.any (fun p => Nat.beq p.2 i) with
    | false => rw [hb] at hr; exact step H old hr
    | true =>
      rw [hb] at hr
      exact step ((i, h) :: H) (fun j hh hj => by
        simp only [hfind] at hj
        cases hbj : Nat.beq i j with
        | true =>
          rw [hbj] at hj
          cases hj
          rw [← Nat.eq_of_beq_eq_true hbj]
          exact ⟨by omega, by rw [show Nat.succ i - 1 - i = 0 by omega]; rfl⟩
        | false => rw [hbj] at hj; exact old j hh hj) hr

/-- An oracle that answers all. -/
def orcX (cf : CallX) : Orc := fun f vs h => some (cfO cf f vs h)
theorem callB_X {ex : Ex} : callB C (orcX cf) ex = cfO cf := rfl

theorem xStep_mono {ih ih' : Ex} (hm : ∀ c e h p, ih c e h = some p → ih' c e h = some p) : ∀ c e h p, xStep C (orcX cf) ih c e h = some p → xStep C (orcX cf) ih' c e h = some p := by
  intro c e h p hx
  have lp : ∀ b e, x_loop ih b e h = some p → x_loop ih' b e h = some p := fun b e hx => by
    unfold x_loop at hx ⊢
    obtain ⟨r1, h1, hx⟩ := obind_some.1 hx
    rw [hm _ _ _ _ h1]
    show (match r1.1 with | .norm => ih' (.loop b) r1.2.1 r1.2.2 | _ => some r1) = some p
    obtain ⟨x1, e1, h1⟩ := r1
    cases x1 <;> first | exact hm _ _ _ _ hx | exact hx
  have sc : ∀ b c e, x_scoped ih b c e h = some p → x_scoped ih' b c e h = some p := fun b c e hx => by
    unfold x_scoped at hx ⊢
    obtain ⟨r1, h1, hx⟩ := obind_some.1 hx
    rw [hm _ _ _ _ h1]
    show (match r1.1 with | .goto l => (Option.casesOn (alabel b l) (some r1) fun q => ih' (.scp b q) r1.2.1 r1.2.2 : Option (Xt × Env × AH)) | _ => some r1) = some p
    obtain ⟨x1, e1, h1⟩ := r1
    cases x1 with
    | goto l =>
      dsimp only at hx ⊢
      cases ha : alabel b l with
      | none => rw [ha] at hx; exact hx
      | some q => rw [ha] at hx; exact hm _ _ _ _ hx
    | _ => exact hx
  cases c with
  | seq a b =>
    have hx : x_seq ih a b e h = some p := hx
    show x_seq ih' a b e h = some p
    unfold x_seq at hx ⊢
    obtain ⟨r1, h1, hx⟩ := obind_some.1 hx
    rw [hm _ _ _ _ h1]
    show (match r1.1 with | .norm => ih' b r1.2.1 r1.2.2 | _ => some r1) = some p
    obtain ⟨x1, e1, h1⟩ := r1
    cases x1 <;> first | exact hm _ _ _ _ hx | exact hx
  | cond c a b =>
    have hx : x_cond ih c a b e h = some p := hx
    show x_cond ih' c a b e h = some p
    unfold x_cond at hx ⊢
    obtain ⟨v, h1, hx⟩ := obind_some.1 hx
    rw [h1]
    cases v with
    | bool t => cases t <;> exact hm _ _ _ _ hx
    | _ => cases hx
  | block id b =>
    have hx : x_block ih id b e h = some p := hx
    show x_block ih' id b e h = some p
    unfold x_block at hx ⊢
    obtain ⟨r1, h1, hx⟩ := obind_some.1 hx
    rw [hm _ _ _ _ h1]
    exact hx
  | loop b => exact lp b _ hx
  | scope b => exact hm _ _ _ _ hx
  | scp b c => exact sc b c e hx
  | _ => exact hx
theorem exec_mono : ∀ (m m' : Nat), m ≤ m' → ∀ c e h p, exec C (orcX cf) m c e h = some p → exec C (orcX cf) m' c e h = some p
  | 0, _, _, _, _, _, _, hx => by cases hx
  | m + 1, 0, hle, _, _, _, _, _ => by omega
  | m + 1, m' + 1, hle, c, e, h, p, hx => xStep_mono (exec_mono m m' (by omega)) c e h p hx

theorem exec_seq {m : Nat} {a b : ACode} {e : Env} {h : AH} : exec C (orcX cf) (m + 1) (.seq a b) e h = x_seq (exec C (orcX cf) m) a b e h := rfl
theorem exec_cond {m : Nat} {c : Opd} {a b : ACode} {e : Env} {h : AH} : exec C (orcX cf) (m + 1) (.cond c a b) e h = x_cond (exec C (orcX cf) m) c a b e h := rfl
theorem exec_block {m id : Nat} {b : ACode} {e : Env} {h : AH} : exec C (orcX cf) (m + 1) (.block id b) e h = x_block (exec C (orcX cf) m) id b e h := rfl
theorem exec_loop {m : Nat} {b : ACode} {e : Env} {h : AH} : exec C (orcX cf) (m + 1) (.loop b) e h = x_loop (exec C (orcX cf) m) b ⟨[], e.var⟩ h := rfl
theorem exec_scp {m : Nat} {b c : ACode} {e : Env} {h : AH} : exec C (orcX cf) (m + 1) (.scp b c) e h = x_scoped (exec C (orcX cf) m) b c e h := rfl
def ctX (kn : KE) (kx : KX) (x : Xt) (e : Tr AV) (h : AH) : Rs :=
  match x with
  | .norm => kn e h
  | x => kx x e h
/-- A piece does as its code. -/
def RfC (C : Cfg) (cf : CallX) (c : ACode) (X : XC) : Prop := ∀ n l t h kn kx r, X cf n t h kn kx = some r →
  ∃ m x e' h', exec C (orcX cf) m c ⟨l, t⟩ h = some (x, e', h') ∧ ∀ kn' kx', X cf n t h kn' kx' = ctX kn' kx' x e'.var h'

theorem rf_seq {a b : ACode} {A B : XC} (ha : RfC C cf a A) (hb : RfC C cf b B) : RfC C cf (.seq a b) (xSeq A B) := by
  intro n l t h kn kx r hr
  have hr : A cf n t h (fun e h => B cf n e h kn kx) kx = some r := hr
  obtain ⟨m1, x1, e1, h1, q1, q2⟩ := ha n l t h _ _ r hr
  rw [q2] at hr
  cases x1 with
  | norm =>
    obtain ⟨m2, x2, e2, h2, q3, q4⟩ := hb n e1.loc e1.var h1 kn kx r hr
    refine ⟨max m1 m2 + 1, x2, e2, h2, ?_, fun kn' kx' => ?_⟩
    · rw [exec_seq]
      unfold x_seq
      rw [exec_mono m1 _ (Nat.le_max_left _ _) _ _ _ _ q1]
      exact exec_mono m2 _ (Nat.le_max_right _ _) _ _ _ _ q3
    · show A cf n t h _ _ = _
      rw [q2]; exact q4 kn' kx'
  | exit j => exact ⟨m1 + 1, .exit j, e1, h1, (by rw [exec_seq]; unfold x_seq; rw [q1]; rfl), fun kn' kx' => q2 _ _⟩
  | goto j => exact ⟨m1 + 1, .goto j, e1, h1, (by rw [exec_seq]; unfold x_seq; rw [q1]; rfl), fun kn' kx' => q2 _ _⟩
  | ret => exact ⟨m1 + 1, .ret, e1, h1, (by rw [exec_seq]; unfold x_seq; rw [q1]; rfl), fun kn' kx' => q2 _ _⟩
theorem rf_cond {c : Opd} {a b : ACode} {A B : XC} (ha : RfC C cf a A) (hb : RfC C cf b B) : RfC C cf (.cond c a b) (xCond (rdO [] c) A B) := by
  intro n l t h kn kx r hr
  have hr : rdO [] c t _ = some r := hr
  obtain ⟨v, h1, h2⟩ := rdO_ok hr
  rw [h2] at hr
  have hv : ev ⟨l, t⟩ c = some v := by
    cases c <;> first | exact h1 | cases h1
  rcases isBoolE_some (x := v) with ⟨q, rfl, hq⟩ | ⟨_, hq⟩
  · rw [hq] at hr
    have eq : ∀ kn kx, xCond (rdO [] c) A B cf n t h kn kx = @Bool.rec (fun _ => Rs) (B cf n t h kn kx) (A cf n t h kn kx) q := fun kn kx => by
      show rdO [] c t _ = _
      rw [h2, hq]
    cases q with
    | true =>
      obtain ⟨m1, x1, e1, h1', q1, q2⟩ := ha n l t h kn kx r hr
      exact ⟨m1 + 1, x1, e1, h1', (by rw [exec_cond]; unfold x_cond; rw [hv]; exact q1), fun kn' kx' => (eq _ _).trans (q2 _ _)⟩
    | false =>
      obtain ⟨m1, x1, e1, h1', q1, q2⟩ := hb n l t h kn kx r hr
      exact ⟨m1 + 1, x1, e1, h1', (by rw [exec_cond]; unfold x_cond; rw [hv]; exact q1), fun kn' kx' => (eq _ _).trans (q2 _ _)⟩
  · rw [hq] at hr; cases hr
theorem rf_blk {id : Nat} {b : ACode} {B : XC} (hb : RfC C cf b B) : RfC C cf (.block id b) (xBlk id B) := by
  intro n l t h kn kx r hr
  have hr : B cf n t h kn (bkX id kn kx) = some r := hr
  obtain ⟨m1, x1, e1, h1, q1, q2⟩ := hb n l t h _ _ r hr
  have ex : exec C (orcX cf) (m1 + 1) (.block id b) ⟨l, t⟩ h = (match (x1, e1, h1).1 with | .exit j => (Bool.casesOn (Nat.beq j id) (some (x1, e1, h1)) (some (.norm, e1, h1)) : Option (Xt × Env × AH)) | _ => some (x1, e1, h1)) := by
    rw [exec_block]
    unfold x_block
    rw [q1]; rfl
  have eq : ∀ kn' kx', xBlk id B cf n t h kn' kx' = ctX kn' (bkX id kn' kx') x1 e1.var h1 := fun kn' kx' => q2 _ _
  cases x1 with
  | norm => exact ⟨m1 + 1, .norm, e1, h1, ex, eq⟩
  | goto j => exact ⟨m1 + 1, .goto j, e1, h1, ex, eq⟩
  | ret => exact ⟨m1 + 1, .ret, e1, h1, ex, eq⟩
  | exit j =>
    cases hj : Nat.beq j id with
    | true => exact ⟨m1 + 1, .norm, e1, h1, (by rw [ex]; dsimp only; rw [hj]), fun kn' kx' => (eq _ _).trans (by show (@Bool.rec (fun _ => Rs) _ _ (Nat.beq j id) : Rs) = _; rw [hj]; rfl)⟩
    | false => exact ⟨m1 + 1, .exit j, e1, h1, (by rw [ex]; dsimp only; rw [hj]), fun kn' kx' => (eq _ _).trans (by show (@Bool.rec (fun _ => Rs) _ _ (Nat.beq j id) : Rs) = _; rw [hj]; rfl)⟩
theorem rf_loop {b : ACode} {B : XC} (hb : RfC C cf b B) : RfC C cf (.loop b) (xLoop B) := by
  intro n l t h kn kx r hr
  have key : ∀ (m : Nat) (l : List (Nat × AV)) (t : Tr AV) (h : AH) (kx : KX) (r : AV × AH), lpX B cf n kx m t h = some r → ∃ m' x e' h', exec C (orcX cf) m' (.loop b) ⟨l, t⟩ h = some (x, e', h') ∧ ∀ kn' kx', lpX B cf n kx' m t h = ctX kn' kx' x e'.var h' := by
    intro m
    induction m with
    | zero => intro l t h kx r hr; cases hr
    | succ m ih =>
      intro l t h kx r hr
      have hr : B cf n t h (lpX B cf n kx m) kx = some r := hr
      obtain ⟨m1, x1, e1, h1, q1, q2⟩ := hb n [] t h _ _ r hr
      rw [q2] at hr
      cases x1 with
      | norm =>
        obtain ⟨m2, x2, e2, h2, q3, q4⟩ := ih e1.loc e1.var h1 kx r hr
        refine ⟨max m1 m2 + 1, x2, e2, h2, ?_, fun kn' kx' => ?_⟩
        · rw [exec_loop]
          unfold x_loop
          rw [exec_mono m1 _ (Nat.le_max_left _ _) _ _ _ _ q1]
          exact exec_mono m2 _ (Nat.le_max_right _ _) _ _ _ _ q3
        · show B cf n t h _ _ = _
          rw [q2]; exact q4 kn' kx'
      | exit j => exact ⟨m1 + 1, .exit j, e1, h1, (by rw [exec_loop]; unfold x_loop; rw [q1]; rfl), fun kn' kx' => q2 _ _⟩
      | goto j => exact ⟨m1 + 1, .goto j, e1, h1, (by rw [exec_loop]; unfold x_loop; rw [q1]; rfl), fun kn' kx' => q2 _ _⟩
      | ret => exact ⟨m1 + 1, .ret, e1, h1, (by rw [exec_loop]; unfold x_loop; rw [q1]; rfl), fun kn' kx' => q2 _ _⟩
  obtain ⟨m', x, e', h', q1, q2⟩ := key n l t h kx r hr
  exact ⟨m', x, e', h', q1, fun kn' kx' => q2 kn' kx'⟩
theorem rf_scp {b : ACode} {labs : List (Nat × XC)} (hl : ∀ lb, (∀ q, alabel b lb = some q → ∃ X, lbX lb labs = some X ∧ RfC C cf q X) ∧ (alabel b lb = none → lbX lb labs = none)) (n : Nat) :
    ∀ (m : Nat) (q : ACode) (X : XC), RfC C cf q X → ∀ l t h kn kx r, X cf n t h kn (hdX labs cf n kn kx m) = some r →
      ∃ m' x e' h', exec C (orcX cf) m' (.scp b q) ⟨l, t⟩ h = some (x, e', h') ∧ ∀ kn' kx', X cf n t h kn' (hdX labs cf n kn' kx' m) = ctX kn' kx' x e'.var h' := by
  intro m
  induction m with
  | zero =>
    intro q X hX l t h kn kx r hr
    obtain ⟨m1, x1, e1, h1, q1, q2⟩ := hX n l t h _ _ r hr
    rw [q2] at hr
    cases x1 with
    | norm => exact ⟨m1 + 1, .norm, e1, h1, (by rw [exec_scp]; unfold x_scoped; rw [q1]; rfl), fun kn' kx' => q2 _ _⟩
    | _ => cases hr
  | succ m ih =>
    intro q X hX l t h kn kx r hr
    obtain ⟨m1, x1, e1, h1, q1, q2⟩ := hX n l t h _ _ r hr
    rw [q2] at hr
    cases x1 with
    | norm => exact ⟨m1 + 1, .norm, e1, h1, (by rw [exec_scp]; unfold x_scoped; rw [q1]; rfl), fun kn' kx' => q2 _ _⟩
    | exit j => exact ⟨m1 + 1, .exit j, e1, h1, (by rw [exec_scp]; unfold x_scoped; rw [q1]; rfl), fun kn' kx' => q2 _ _⟩
    | ret => exact ⟨m1 + 1, .ret, e1, h1, (by rw [exec_scp]; unfold x_scoped; rw [q1]; rfl), fun kn' kx' => q2 _ _⟩
    | goto lb =>
      obtain ⟨c1, c2⟩ := hl lb
      have hh : ∀ kn kx, ctX kn (hdX labs cf n kn kx (m + 1)) (.goto lb) e1.var h1 = @Option.rec XC (fun _ => Rs) (kx (.goto lb) e1.var h1) (fun q => q cf n e1.var h1 kn (hdX labs cf n kn kx m)) (lbX lb labs) := fun kn kx => rfl
      cases ha : alabel b lb with
      | none =>
        refine ⟨m1 + 1, .goto lb, e1, h1, (by rw [exec_scp]; unfold x_scoped; rw [q1]; show (Option.casesOn (alabel b lb) _ _ : Option (Xt × Env × AH)) = _; rw [ha]), fun kn' kx' => ?_⟩
        rw [q2, hh, c2 ha]; rfl
      | some q' =>
        obtain ⟨X', h3, h4⟩ := c1 q' ha
        rw [hh, h3] at hr
        obtain ⟨m2, x2, e2, h2, q3, q4⟩ := ih q' X' h4 e1.loc e1.var h1 kn kx r hr
        refine ⟨max m1 m2 + 1, x2, e2, h2, ?_, fun kn' kx' => ?_⟩
        · rw [exec_scp]
          unfold x_scoped
          rw [exec_mono m1 _ (Nat.le_max_left _ _) _ _ _ _ q1]
          show (Option.casesOn (alabel b lb) _ _ : Option (Xt × Env × AH)) = _
          rw [ha]
          exact exec_mono m2 _ (Nat.le_max_right _ _) _ _ _ _ q3
        · rw [q2, hh, h3]; exact q4 kn' kx'

theorem lbX_app (lb : Nat) : ∀ (a b : List (Nat × XC)), lbX lb (a ++ b) = (match lbX lb a with | some x => some x | none => lbX lb b)
  | [], b => rfl
  | p :: a, b => by
    have e1 : ∀ l, lbX lb (p :: l) = @Bool.rec (fun _ => Option XC) (lbX lb l) (some p.2) (Nat.beq p.1 lb) := fun l => rfl
    rw [List.cons_append, e1, e1, lbX_app lb a b]
    cases Nat.beq p.1 lb <;> rfl
theorem lbX_map (lb : Nat) (B : XC) : ∀ (a : List (Nat × XC)), lbX lb (a.map fun p => (p.1, xSeq p.2 B)) = (lbX lb a).map fun X => xSeq X B
  | [] => rfl
  | p :: a => by
    have e1 : ∀ p l, lbX lb (p :: l) = @Bool.rec (fun _ => Option XC) (lbX lb l) (some p.2) (Nat.beq p.1 lb) := fun p l => rfl
    rw [List.map_cons, e1, e1, lbX_map lb B a]
    cases Nat.beq p.1 lb <;> rfl
/-- What is known of a piece and its labels. -/
def RfP (C : Cfg) (cf : CallX) (c : ACode) : Prop := RfC C cf c (denP C c).1 ∧ ∀ lb, (∀ q, alabel c lb = some q → ∃ X, lbX lb (denP C c).2 = some X ∧ RfC C cf q X) ∧ (alabel c lb = none → lbX lb (denP C c).2 = none)
theorem rf_skip : RfC C cf .skip xSkip := fun n l t h kn kx r hr => ⟨1, .norm, ⟨l, t⟩, h, rfl, fun _ _ => rfl⟩
theorem denP_ok (hc : CfR cf) : ∀ c : ACode, RfP C cf c := by
  have nolab : ∀ (c : ACode), (∀ lb, alabel c lb = none) → (denP C c).2 = [] → ∀ lb, (∀ q, alabel c lb = some q → ∃ X, lbX lb (denP C c).2 = some X ∧ RfC C cf q X) ∧ (alabel c lb = none → lbX lb (denP C c).2 = none) :=
    fun c h1 h2 lb => ⟨(fun q hq => by rw [h1] at hq; cases hq), (fun _ => by rw [h2]; rfl)⟩
  have rg : ∀ (ops : List COp), RfC C cf (.reg ops) (xReg (denR C ops [])) := fun ops n l t h kn kx r hr => by
    obtain ⟨e', h', q1, q2⟩ := denR_ok hc ops [] t h kn r hr
    refine ⟨1, .norm, e', h', ?_, fun kn' kx' => q2 kn'⟩
    show obind (steps C (cfO cf) ops ⟨[], t⟩ h) _ = _
    rw [q1]; rfl
  have bad : ∀ c, RfC C cf c xBad := fun c n l t h kn kx r hr => by cases hr
  intro c
  induction c with
  | skip => exact ⟨rf_skip, nolab _ (fun _ => rfl) rfl⟩
  | reg ops => exact ⟨rg ops, nolab _ (fun _ => rfl) rfl⟩
  | drw ops chk =>
    refine ⟨?_, nolab _ (fun _ => rfl) rfl⟩
    cases chk with
    | nil =>
      intro n l t h kn kx r hr
      obtain ⟨e', h', q1, q2⟩ := denR_ok hc ops [] t h kn r hr
      obtain ⟨hs, q3⟩ := steps_trail ops ⟨[], t⟩ h [] e' h' q1
      refine ⟨1, .norm, e', h', ?_, fun kn' kx' => q2 kn'⟩
      show obind (trail C (cfO cf) ops ⟨[], t⟩ h []) (x_drw C ops []) = _
      rw [q3]; rfl
    | cons q qs =>
      intro n l t h kn kx r hr
      obtain ⟨e', h', hs, q1, q2, q3⟩ := denD_ok hc (all := ops) (chk := q :: qs) ops 0 [] [] t h [] kn r (by simp) rfl (fun j hh hj => by cases hj) hr
      refine ⟨1, .norm, e', h', ?_, fun kn' kx' => q3 kn'⟩
      show obind (trail C (cfO cf) ops ⟨[], t⟩ h []) (x_drw C ops (q :: qs)) = _
      rw [q1]
      show grd (agains C ops e' (h' :: hs) (q :: qs)) _ = _
      rw [q2]; rfl
  | seq a b iha ihb =>
    refine ⟨(rf_seq iha.1 ihb.1 : RfC C cf (.seq a b) (xSeq (denP C a).1 (denP C b).1)), fun lb => ?_⟩
    show (∀ q, alabel (.seq a b) lb = some q → ∃ X, lbX lb ((denP C a).2.map (fun p => (p.1, xSeq p.2 (denP C b).1)) ++ (denP C b).2) = some X ∧ RfC C cf q X) ∧ _
    obtain ⟨a1, a2⟩ := iha.2 lb
    obtain ⟨b1, b2⟩ := ihb.2 lb
    have e2 : lbX lb (denP C (.seq a b)).2 = (match (lbX lb (denP C a).2).map fun X => xSeq X (denP C b).1 with | some x => some x | none => lbX lb (denP C b).2) := by
      show lbX lb ((denP C a).2.map (fun p => (p.1, xSeq p.2 (denP C b).1)) ++ (denP C b).2) = _
      rw [lbX_app, lbX_map]
    have e2' : lbX lb ((denP C a).2.map (fun p => (p.1, xSeq p.2 (denP C b).1)) ++ (denP C b).2) = _ := e2
    rw [e2', e2]
    simp only [alabel]
    cases ha : alabel a lb with
    | some q =>
      obtain ⟨X, h1, h2⟩ := a1 q ha
      rw [h1]
      refine ⟨fun q' hq' => ?_, (fun hn => by cases hn)⟩
      cases hq'
      exact ⟨_, rfl, rf_seq h2 ihb.1⟩
    | none =>
      rw [a2 ha]
      exact ⟨b1, b2⟩
  | cond c a b iha ihb => exact ⟨(rf_cond iha.1 ihb.1 : RfC C cf (.cond c a b) (xCond (rdO [] c) (denP C a).1 (denP C b).1)), nolab _ (fun _ => rfl) rfl⟩
  | block id b ih => exact ⟨(rf_blk ih.1 : RfC C cf (.block id b) (xBlk id (denP C b).1)), nolab _ (fun _ => rfl) rfl⟩
  | loop b ih => exact ⟨(rf_loop ih.1 : RfC C cf (.loop b) (xLoop (denP C b).1)), nolab _ (fun _ => rfl) rfl⟩
  | exit id => exact ⟨fun n l t h kn kx r hr => ⟨1, .exit id, ⟨l, t⟩, h, rfl, fun _ _ => rfl⟩, nolab _ (fun _ => rfl) rfl⟩
  | scope b ih =>
    refine ⟨fun n l t h kn kx r hr => ?_, nolab _ (fun _ => rfl) rfl⟩
    obtain ⟨m', x, e', h', q1, q2⟩ := rf_scp ih.2 n n b _ ih.1 l t h kn kx r hr
    exact ⟨m' + 1, x, e', h', q1, fun kn' kx' => q2 kn' kx'⟩
  | scp a b => exact ⟨bad _, nolab _ (fun _ => rfl) rfl⟩
  | label l =>
    refine ⟨fun n l' t h kn kx r hr => ⟨1, .norm, ⟨l', t⟩, h, rfl, fun _ _ => rfl⟩, fun lb => ?_⟩
    have e1 : lbX lb (denP C (.label l)).2 = @Bool.rec (fun _ => Option XC) none (some xSkip) (Nat.beq l lb) := rfl
    rw [e1]
    simp only [alabel]
    by_cases hl : l = lb
    · subst hl
      rw [if_pos rfl, Nat.beq_refl]
      refine ⟨(fun q hq => by cases hq; exact ⟨_, rfl, rf_skip⟩), (fun hn => by cases hn)⟩
    · rw [if_neg hl]
      have : Nat.beq l lb = false := by
        cases hb : Nat.beq l lb with
        | false => rfl
        | true => exact absurd (Nat.eq_of_beq_eq_true hb) hl
      rw [this]
      exact ⟨fun q hq => (by cases hq), fun _ => rfl⟩
  | goto l => exact ⟨fun n l' t h kn kx r hr => ⟨1, .goto l, ⟨l', t⟩, h, rfl, fun _ _ => rfl⟩, nolab _ (fun _ => rfl) rfl⟩
  | ret => exact ⟨fun n l' t h kn kx r hr => ⟨1, .ret, ⟨l', t⟩, h, rfl, fun _ _ => rfl⟩, nolab _ (fun _ => rfl) rfl⟩
  | bad => exact ⟨bad _, nolab _ (fun _ => rfl) rfl⟩
end
end Go.Vm
namespace Go.Vm
open Go
section
variable {C : Cfg} {cf : CallX} {P : Program} {N : Names}

theorem ini_nat {α β : Type} : ∀ (vs : List AV) (i : Nat) (t : Tr AV), ∃ t', (∀ f : Tr AV → Option α, ini vs i t f = f t') ∧ ∀ g : Tr AV → Option β, ini vs i t g = g t' := by
  -- one trie for both
  have way : ∀ (d k : Nat) (a : Option AV), k < d → ∃ t', ∀ {γ : Type} (f : Tr AV → Option γ), Tr.way d k a f = f t' := by
    intro d
    induction d with
    | zero => intro k a h; omega
    | succ d ih =>
      intro k a hk
      have e1 : ∀ {γ : Type} (f : Tr AV → Option γ), Tr.way (d + 1) k a f = @Bool.rec (fun _ => Option γ) (@Bool.rec (fun _ => Option γ) (Tr.way d (Nat.shiftRight k 1) a (fun l => f (.n l none .e))) (Tr.way d (Nat.shiftRight k 1) a (fun r => f (.n .e none r))) (Nat.beq (Nat.land k 1) 0)) (f (.n .e a .e)) (Nat.beq k 0) := fun f => rfl
      cases h1 : Nat.beq k 0 with
      | true => exact ⟨_, fun f => by rw [e1, h1]⟩
      | false =>
        have h0 : k ≠ 0 := fun hz => by rw [hz] at h1; cases h1
        obtain ⟨t', ht⟩ := ih (Nat.shiftRight k 1) a (by rw [Tr.shr1]; omega)
        cases h2 : Nat.beq (Nat.land k 1) 0 with
        | false => exact ⟨_, fun f => by rw [e1, h1, h2]; exact ht _⟩
        | true => exact ⟨_, fun f => by rw [e1, h1, h2]; exact ht _⟩
  have set : ∀ (t : Tr AV) (k : Nat) (a : Option AV), ∃ t', ∀ {γ : Type} (f : Tr AV → Option γ), t.setK dpt k a f = f t' := by
    intro t
    induction t with
    | e => intro k a; exact way (Nat.succ k) k a (Nat.lt_succ_self k)
    | n l v rr ihl ihr =>
      intro k a
      have e1 : ∀ {γ : Type} (f : Tr AV → Option γ), (Tr.n l v rr).setK dpt k a f = @Bool.rec (fun _ => Option γ) (@Bool.rec (fun _ => Option γ) (l.setK dpt (Nat.shiftRight k 1) a (fun l' => f (.n l' v rr))) (rr.setK dpt (Nat.shiftRight k 1) a (fun r' => f (.n l v r'))) (Nat.beq (Nat.land k 1) 0)) (f (.n l a rr)) (Nat.beq k 0) := fun f => rfl
      cases h1 : Nat.beq k 0 with
      | true => exact ⟨_, fun f => by rw [e1, h1]⟩
      | false =>
        cases h2 : Nat.beq (Nat.land k 1) 0 with
        | false => obtain ⟨t', ht⟩ := ihl (Nat.shiftRight k 1) a; exact ⟨_, fun f => by rw [e1, h1, h2]; exact ht _⟩
        | true => obtain ⟨t', ht⟩ := ihr (Nat.shiftRight k 1) a; exact ⟨_, fun f => by rw [e1, h1, h2]; exact ht _⟩
  intro vs
  induction vs with
  | nil => intro i t; exact ⟨t, fun _ => rfl, fun _ => rfl⟩
  | cons v vs ih =>
    intro i t
    obtain ⟨t1, h1⟩ := set t i (some v)
    obtain ⟨t', h2, h3⟩ := ih (Nat.succ i) t1
    exact ⟨t', fun f => by simp only [ini]; rw [h1]; exact h2 f, fun g => by simp only [ini]; rw [h1]; exact h3 g⟩
theorem build_ini {β : Type} (env : Tr AV) (vs : List AV) (g : Tr AV → Option β) : ini vs 0 env g = g (build env vs) := by
  obtain ⟨t', h1, h2⟩ := ini_nat (α := Tr AV) (β := β) vs 0 env
  rw [h2]
  unfold build
  rw [h1]; rfl
/-- Arguments laid into places. -/
def IniOk (np : Nat) (env : Tr AV) (i : Ini) : Prop := ∀ vs k r, i vs k = some r → vs.length = np ∧ ∀ k', i vs k' = k' (build env vs)
theorem i0_some {t : Tr AV} {vs : List AV} {k : Tr AV → Rs} {r : AV × AH} (h : i0 t vs k = some r) : vs = [] := by
  cases vs with
  | nil => rfl
  | cons a vs => cases h
theorem iniX_ok (np : Nat) (env : Tr AV) : IniOk np env (iniX np env) := by
  intro vs k r h
  match np, h with
  | 0, h =>
    have := i0_some h; subst this
    exact ⟨rfl, fun _ => rfl⟩
  | 1, h =>
    cases vs with
    | nil => cases h
    | cons a vs => have := i0_some h; subst this; exact ⟨rfl, fun _ => rfl⟩
  | 2, h =>
    rcases vs with _ | ⟨a, _ | ⟨b, vs⟩⟩
    · cases h
    · cases h
    · have := i0_some h; subst this; exact ⟨rfl, fun _ => rfl⟩
  | 3, h =>
    rcases vs with _ | ⟨a, _ | ⟨b, _ | ⟨c, vs⟩⟩⟩
    · cases h
    · cases h
    · cases h
    · have := i0_some h; subst this; exact ⟨rfl, fun _ => rfl⟩
  | 4, h =>
    rcases vs with _ | ⟨a, _ | ⟨b, _ | ⟨c, _ | ⟨d, vs⟩⟩⟩⟩
    · cases h
    · cases h
    · cases h
    · cases h
    · have := i0_some h; subst this; exact ⟨rfl, fun _ => rfl⟩
  | 5, h =>
    rcases vs with _ | ⟨a, _ | ⟨b, _ | ⟨c, _ | ⟨d, _ | ⟨f, vs⟩⟩⟩⟩⟩
    · cases h
    · cases h
    · cases h
    · cases h
    · cases h
    · have := i0_some h; subst this; exact ⟨rfl, fun _ => rfl⟩
  | np + 6, h =>
    obtain ⟨h1, h2⟩ := grd_of (show grd (Nat.beq vs.length (np + 6)) (ini vs 0 env k) = some r from h)
    refine ⟨Nat.eq_of_beq_eq_true h1, fun k' => ?_⟩
    show grd (Nat.beq vs.length (np + 6)) (ini vs 0 env k') = _
    rw [h1]
    exact build_ini env vs k'

theorem outs_var (e : Env) (h : AH) (rvs : List Rv) : outs e h rvs = outs ⟨[], e.var⟩ h rvs := by
  induction rvs with
  | nil => rfl
  | cons r rvs ih =>
    simp only [outs]
    rw [ih]
    have : out1 e h r = out1 ⟨[], e.var⟩ h r := by cases r <;> rfl
    rw [this]
theorem outs_rds {t : Tr AV} {h : AH} : ∀ {rvs : List Rv}, rvs.all rvVar = true → ∀ {k : List AV → Rs} {r : AV × AH}, rds (rvs.map rvRd) t k = some r → ∃ l, outs ⟨[], t⟩ h rvs = some l ∧ ∀ k', rds (rvs.map rvRd) t k' = k' l
  | [], _, k, r, hr => ⟨[], rfl, fun _ => rfl⟩
  | .cell _ _ :: rvs, ha, k, r, hr => by simp [rvVar] at ha
  | .var x :: rvs, ha, k, r, hr => by
    have ha' : rvs.all rvVar = true := by simpa [rvVar] using ha
    have eq : ∀ k, rds ((Rv.var x :: rvs).map rvRd) t k = rdV 32 x t fun v => rds (rvs.map rvRd) t fun vs => k (v :: vs) := fun _ => rfl
    rw [eq] at hr
    obtain ⟨v, h1, h2⟩ := rdV_ok 32 x t _ r hr
    rw [h2] at hr
    obtain ⟨l, h3, h4⟩ := outs_rds (h := h) ha' hr
    refine ⟨v :: l, ?_, fun k' => by rw [eq, h2, h4]⟩
    simp only [outs, out1]
    rw [h1, h3]; rfl
theorem outX_ok {e : Env} {h : AH} {rvs : List Rv} {k : AV → Rs} {r : AV × AH} (hr : outX rvs e.var h k = some r) : ∃ l, outs e h rvs = some l ∧ ∀ k', outX rvs e.var h k' = k' (result l) := by
  rw [outs_var]
  unfold outX at hr ⊢
  cases ha : rvs.all rvVar with
  | false =>
    rw [ha] at hr
    obtain ⟨l, h1, h2⟩ := optK_some (show optK (outs ⟨[], e.var⟩ h rvs) _ = some r from hr)
    exact ⟨l, h1, fun k' => h2 _⟩
  | true =>
    rw [ha] at hr
    have gen : ∀ rvs : List Rv, rvs.all rvVar = true → (∀ x, rvs ≠ [x]) → rds (rvs.map rvRd) e.var (fun vs => k (.tup vs)) = some r → ∃ l, outs ⟨[], e.var⟩ h rvs = some l ∧ ∀ k' : AV → Rs, rds (rvs.map rvRd) e.var (fun vs => k' (.tup vs)) = k' (result l) := fun rvs ha hne hr => by
      obtain ⟨l, h1, h2⟩ := outs_rds (h := h) ha hr
      refine ⟨l, h1, fun k' => ?_⟩
      rw [h2]
      have hlen : l.length = rvs.length := by
        clear h2 hr ha hne
        induction rvs generalizing l with
        | nil => cases h1; rfl
        | cons x rvs ih =>
          simp only [outs] at h1
          obtain ⟨v, _, h1⟩ := obind_some.1 h1
          obtain ⟨vs, h3, h1⟩ := obind_some.1 h1
          cases h1
          rw [List.length_cons, List.length_cons, ih vs h3]
      have : result l = .tup l := by
        unfold result
        split
        · rename_i v
          have h1 : rvs.length = 1 := hlen.symm
          obtain ⟨x, hx⟩ := List.length_eq_one_iff.1 h1
          exact absurd hx (hne x)
        · rfl
      rw [this]
    match rvs, ha, hr with
    | [], ha, hr => exact gen [] rfl (fun x h => by cases h) hr
    | [x], ha, hr =>
      cases x with
      | cell _ _ => simp [rvVar] at ha
      | var x =>
        obtain ⟨v, h1, h2⟩ := rdV_ok 32 x e.var k r hr
        refine ⟨[v], ?_, h2⟩
        simp only [outs, out1]
        rw [h1]; rfl
    | x :: y :: rvs, ha, hr => exact gen _ ha (fun x h => by cases h) hr

/-- A function's body does as the first evaluator's. -/
theorem denF_run (hc : CfR cf) {f : AFn} {n : Nat} {vs : List AV} {h : AH} {k : KV} {r : AV × AH} (hr : denF C f cf n vs h k = some r) :
    ∃ m v h', runF (exec C (orcX cf) m) f vs h = some (v, h') ∧ ∀ k', denF C f cf n vs h k' = k' v h' := by
  have hr : iniX f.np f.env0 vs _ = some r := hr
  obtain ⟨h1, h2⟩ := iniX_ok _ _ _ _ _ hr
  rw [h2] at hr
  obtain ⟨m, x, e', h', h3, h4⟩ := (denP_ok hc f.body).1 n [] (build f.env0 vs) h _ _ r hr
  rw [h4] at hr
  have eq : ∀ k, denF C f cf n vs h k = ctX (fun e h => outX f.res e h fun v => k v h) (fun x e h => @Xt.rec (fun _ => Rs) none (fun _ => none) (fun _ => none) (outX f.res e h fun v => k v h) x) x e'.var h' := fun k => by
    show iniX f.np f.env0 vs _ = _
    rw [h2, h4]
  have hrun : ∀ p, retF f.res (x, e', h') = some p → runF (exec C (orcX cf) m) f vs h = some p := fun p hp => by
    unfold runF
    rw [show Nat.beq vs.length f.np = true by rw [h1]; exact Nat.beq_refl _]
    show ini vs 0 f.env0 _ = _
    rw [build_ini, h3]; exact hp
  cases x with
  | norm =>
    obtain ⟨l, h5, h6⟩ := outX_ok (e := e') (k := fun v => k v h') hr
    refine ⟨m, result l, h', hrun _ (by show obind (outs e' h' f.res) _ = _; rw [h5]; rfl), fun k' => ?_⟩
    rw [eq]; exact h6 _
  | ret =>
    obtain ⟨l, h5, h6⟩ := outX_ok (e := e') (k := fun v => k v h') hr
    refine ⟨m, result l, h', hrun _ (by show obind (outs e' h' f.res) _ = _; rw [h5]; rfl), fun k' => ?_⟩
    rw [eq]; exact h6 _
  | exit j => cases hr
  | goto j => cases hr

/-- What a call gives is so. -/
def GivX (P : Program) (N : Names) (G : Tr (Tr AV)) (f : Nat) (vs : List AV) (h : AH) (v : AV) (h' : AH) : Prop := plainF P f = true ∧
  ∀ (F : Nat → Option Obj) (w0 : World) (args : Array Value) w μ, Vs N μ h.nx vs args.toList → R N G F w0 μ h w → Calls P f args w fun e w' => ∃ x μ', e = .returned x ∧ Mp.agree h.nx μ μ' ∧ h.nx ≤ h'.nx ∧ R N G F w0 μ' h' w' ∧ V N μ' h'.nx v x
/-- Calls that hand on, and are so. -/
structure CfS (P : Program) (N : Names) (G : Tr (Tr AV)) (cf : CallX) : Prop where
  hand : CfR cf
  so : ∀ f vs h v h', cfO cf f vs h = some (v, h') → GivX P N G f vs h v h'
theorem CfS.calls {G : Tr (Tr AV)} (s : CfS P N G cf) (F : Nat → Option Obj) (w0 : World) : CallsOk P N G F w0 (cfO cf) := fun f vs h v h' hk => ⟨(s.so f vs h v h' hk).1, fun args w μ => (s.so f vs h v h' hk).2 F w0 args w μ⟩
/-- An entry of the table. -/
def EnOk (P : Program) (N : Names) (G : Tr (Tr AV)) (f : Nat) (en : En) : Prop := ∀ cf, CfS P N G cf → ∀ n vs h k r, en cf n vs h k = some r → ∃ v h', (∀ k', en cf n vs h k' = k' v h') ∧ GivX P N G f vs h v h'

theorem enF_ok (hI : InvOk P N C) (hC : C.fns = .e) (hm : P.follows .mixedOrders = true) {f mask : Nat} {fn : Func} {afn : AFn} (hfn : P.funcs[f]? = some fn) (hpl : plainF P f = true) (hc : cfn P N mask fn = some afn) : EnOk P N C.glb f (denF C afn) := by
  intro cf S n vs h k r hr
  obtain ⟨m, v, h', h1, h2⟩ := denF_run S.hand hr
  refine ⟨v, h', h2, hpl, fun F w0 => ?_⟩
  have T0 : TabOk P N C := fun g a hg => by rw [hC, Tr.get_e] at hg; cases hg
  have H := exec_ok (F := F) (w0 := w0) (orc := orcX cf) hI T0 (fun f vs h v h' hk => S.calls F w0 f vs h v h' hk) (fun cf S => drawn_ok hm S) m
  obtain ⟨t', ht, _⟩ := Tr.set_spec dpt (.e : Tr AFn) f (some afn) some
  have T1 : TabOk P N ⟨t', C.inv, C.glb⟩ := fun g a hg => by
    have hg : t'.get g = some a := hg
    rw [ht] at hg
    by_cases hgf : g = f
    · subst hgf; rw [if_pos rfl] at hg; cases hg; exact ⟨fn, mask, hfn, hpl, hc⟩
    · rw [if_neg hgf, Tr.get_e] at hg; cases hg
  have hcall : callB ⟨t', C.inv, C.glb⟩ (fun _ _ _ => none) (exec C (orcX cf) m) f vs h = some (v, h') := by
    show obind (t'.get f) (fun fn => runF (exec C (orcX cf) m) fn vs h) = _
    rw [ht, if_pos rfl]; exact h1
  exact (callB_ok (C := ⟨t', C.inv, C.glb⟩) (orc := fun _ _ _ => none) H T1 (fun f vs h v h' hk => by cases hk) f vs h v h' hcall).2
theorem enM_ok {G : Tr (Tr AV)} {cf0 : CallX} (S0 : CfS P N G cf0) {f : Nat} {l : List Memo} (hl : ∀ m ∈ l, m.chk (cfO cf0) f = true) {en : En} (he : EnOk P N G f en) : EnOk P N G f (enM l en) := by
  intro cf S n vs h k r hr
  have eq : ∀ k, enM l en cf n vs h k = @Option.rec Memo (fun _ => Rs) (en cf n vs h k) (fun m => optP (give m.res h) k) (mFind vs h l) := fun k => rfl
  rw [eq] at hr
  cases hf : mFind vs h l with
  | none =>
    rw [hf] at hr
    obtain ⟨v, h', h1, h2⟩ := he cf S n vs h k r hr
    exact ⟨v, h', fun k' => by rw [eq, hf]; exact h1 k', h2⟩
  | some m =>
    rw [hf] at hr
    obtain ⟨p, h1, h2⟩ := optP_some (show optP (give m.res h) _ = some r from hr)
    obtain ⟨q1, q2⟩ := mFind_some hf
    refine ⟨p.1, p.2, fun k' => by rw [eq, hf]; exact h2 _, ?_, ?_⟩
    · exact (memo_call (fun _ => none) { (default : World) with heap := #[] } (fun F w0 => S0.calls F w0) (hl m q1) q2 h1).1
    · exact fun F w0 => (memo_call F w0 (fun F w0 => S0.calls F w0) (hl m q1) q2 h1).2 F w0
theorem enO_ok {G : Tr (Tr AV)} {f : Nat} {o : KF} (ho : ∀ vs h v h', o vs h = some (v, h') → GivX P N G f vs h v h') : EnOk P N G f (enO o) := by
  intro cf S n vs h k r hr
  obtain ⟨p, h1, h2⟩ := optP_some (show optP (o vs h) _ = some r from hr)
  exact ⟨p.1, p.2, fun k' => h2 _, ho vs h p.1 p.2 h1⟩
/-- THE LAW: calls by the table are so. -/
theorem callX_ok {G : Tr (Tr AV)} {tab : Tr En} (ht : ∀ f en, tab.get f = some en → EnOk P N G f en) (n : Nat) : ∀ d, CfS P N G (callX tab n d)
  | 0 => ⟨(fun f vs h k r hr => by cases hr), (fun f vs h v h' hr => by cases hr)⟩
  | d + 1 => by
    have ih := callX_ok ht n d
    have key : ∀ f vs h k r, callX tab n (d + 1) f vs h k = some r → ∃ v h', (∀ k', callX tab n (d + 1) f vs h k' = k' v h') ∧ GivX P N G f vs h v h' := fun f vs h k r hr => by
      have hr : optK (tab.get f) (fun en => en (callX tab n d) n vs h k) = some r := hr
      obtain ⟨en, h1, h2⟩ := optK_some hr
      rw [h2] at hr
      obtain ⟨v, h', h3, h4⟩ := ht f en h1 _ ih n vs h k r hr
      refine ⟨v, h', fun k' => ?_, h4⟩
      show optK (tab.get f) (fun en => en (callX tab n d) n vs h k') = _
      rw [h1]; exact h3 k'
    refine ⟨fun f vs h k r hr => let ⟨v, h', h1, _⟩ := key f vs h k r hr; ⟨v, h', h1⟩, fun f vs h v h' hr => ?_⟩
    obtain ⟨v1, h1, h2, h3⟩ := key f vs h _ _ hr
    have := (h2 fun v h => some (v, h)).symm.trans hr
    cases this
    exact h3
end
end Go.Vm
namespace Go.Vm
open Go
noncomputable def idxO : KF := fun vs h => arg2 vs fun x y => match x with
  | .str l n => (match y with
    | .str l' n' => grd (Nat.ble l 4294967280) (@Bool.rec (fun _ => Option (AV × AH)) (found none h) (found (findS l n l' n' (Nat.succ (Nat.sub l l')) 0) h) (Nat.ble l' l))
    | _ => none)
  | _ => none

theorem occ_in {l n l' n' i : Nat} (hn' : n' < 256 ^ l') (hi : i + l' ≤ l) : Lib.occAt (sb l n) (sb l' n') i = Nat.beq (ssub l n i (i + l')) n' := by
  have h1 := sb_ssub l n i (i + l') (Nat.le_add_right _ _) hi
  rw [Nat.add_sub_cancel_left] at h1
  have hlt : ssub l n i (i + l') < 256 ^ l' := by
    have := ssub_lt l n i (i + l')
    rwa [Nat.add_sub_cancel_left] at this
  unfold Lib.occAt
  rw [Bool.eq_iff_iff, List.isPrefixOf_iff_prefix, List.prefix_iff_eq_take, sb_length, ← h1]
  constructor
  · intro h
    rw [sb_inj l' _ _ hn' hlt h]
    exact Nat.beq_refl _
  · intro h
    rw [Nat.eq_of_beq_eq_true h]
theorem occ_past {l n l' n' i : Nat} (hi : l < i + l') (hl : i ≤ l) : Lib.occAt (sb l n) (sb l' n') i = false := by
  cases hb : Lib.occAt (sb l n) (sb l' n') i with
  | false => rfl
  | true =>
    unfold Lib.occAt at hb
    rw [List.isPrefixOf_iff_prefix] at hb
    have := hb.length_le
    rw [sb_length, List.length_drop, sb_length] at this
    omega
theorem findS_some {l n l' n' : Nat} : ∀ {f i k : Nat}, findS l n l' n' f i = some k → i ≤ k ∧ k < i + f ∧ Nat.beq (ssub l n k (k + l')) n' = true ∧ ∀ j, i ≤ j → j < k → Nat.beq (ssub l n j (j + l')) n' = false
  | 0, i, k, h => by cases h
  | f + 1, i, k, h => by
    simp only [findS, bcase] at h
    by_cases hb : Nat.beq (ssub l n i (Nat.add i l')) n' = true
    · rw [if_pos hb] at h
      cases h
      exact ⟨Nat.le_refl _, by omega, hb, fun j h1 h2 => by omega⟩
    · rw [if_neg hb] at h
      obtain ⟨h1, h2, h3, h4⟩ := findS_some h
      refine ⟨by omega, by omega, h3, fun j h5 h6 => ?_⟩
      by_cases hj : j = i
      · subst hj
        cases hq : Nat.beq (ssub l n j (j + l')) n' with
        | false => rfl
        | true => exact absurd hq hb
      · exact h4 j (by omega) h6
theorem findS_none {l n l' n' : Nat} : ∀ {f i : Nat}, findS l n l' n' f i = none → ∀ j, i ≤ j → j < i + f → Nat.beq (ssub l n j (j + l')) n' = false
  | 0, i, _, j, h1, h2 => by omega
  | f + 1, i, h, j, h1, h2 => by
    simp only [findS, bcase] at h
    by_cases hb : Nat.beq (ssub l n i (Nat.add i l')) n' = true
    · rw [if_pos hb] at h; cases h
    · rw [if_neg hb] at h
      by_cases hj : j = i
      · subst hj
        cases hq : Nat.beq (ssub l n j (j + l')) n' with
        | false => rfl
        | true => exact absurd hq hb
      · exact findS_none h j (by omega) (by omega)
/-- What it gives is the library's word. -/
theorem idxO_some {vs : List AV} {h h' : AH} {v : AV} (hk : idxO vs h = some (v, h')) : ∃ l n l' n', vs = [.str l n, .str l' n'] ∧ h' = h ∧ l < 4294967281 ∧ (n' < 256 ^ l' → v = .int .i64 (Lib.index (sb l n) (sb l' n'))) := by
  unfold idxO at hk
  obtain ⟨x, y, rfl, hk1⟩ := arg2_some hk
  split at hk1
  case h_2 => cases hk1
  split at hk1
  case h_2 => cases hk1
  rename_i l n _ l' n'
  obtain ⟨h1, hk⟩ := grd_of hk1
  have h1 : l ≤ 4294967280 := by simpa using h1
  refine ⟨l, n, l', n', rfl, ?_, by omega, ?_⟩
  · cases hb : Nat.ble l' l <;> rw [hb] at hk <;> exact found_still hk
  · intro hn'
    have none_ : (∀ j, j ≤ l → Lib.occAt (sb l n) (sb l' n') j = false) → found none h = some (v, h') → v = .int .i64 (Lib.index (sb l n) (sb l' n')) := fun hno hf => by
      cases hf
      rw [Lib.index_none fun j hj => hno j (by rwa [sb_length] at hj)]
      rfl
    cases hb : Nat.ble l' l with
    | false =>
      rw [hb] at hk
      have : ¬ l' ≤ l := fun hle => by rw [Nat.ble_eq_true_of_le hle] at hb; cases hb
      exact none_ (fun j hj => occ_past (by omega) hj) hk
    | true =>
      rw [hb] at hk
      have hle : l' ≤ l := by simpa using hb
      have hk : found (findS l n l' n' (Nat.succ (Nat.sub l l')) 0) h = some (v, h') := hk
      have hsub : Nat.sub l l' = l - l' := rfl
      cases hf : findS l n l' n' (Nat.succ (Nat.sub l l')) 0 with
      | none =>
        rw [hf] at hk
        refine none_ (fun j hj => ?_) hk
        by_cases hjl : j + l' ≤ l
        · rw [occ_in hn' hjl]
          exact findS_none hf j (Nat.zero_le _) (by omega)
        · exact occ_past (by omega) hj
      | some k =>
        rw [hf] at hk
        unfold found at hk
        dsimp only at hk
        rw [nat_eq] at hk
        cases hk
        obtain ⟨q1, q2, q3, q4⟩ := findS_some hf
        have hkl : k + l' ≤ l := by omega
        rw [Lib.index_first (i := k) (by rw [sb_length]; omega) (by rw [occ_in hn' hkl]; exact q3) fun j hj => by rw [occ_in hn' (by omega)]; exact q4 j (Nat.zero_le _) hj]
        rfl
end Go.Vm
namespace Go.Vm
open Go
/-- Of every entry of a trie. -/
def Tr.All {α : Type} (Q : Nat → α → Prop) : (Nat → Nat) → Tr α → Prop
  | _, .e => True
  | g, .n l v r => (∀ a, v = some a → Q (g 0) a) ∧ Tr.All Q (fun k => g (2 * k + 1)) l ∧ Tr.All Q (fun k => g (2 * k)) r
theorem Tr.All.get {α : Type} {Q : Nat → α → Prop} : ∀ {t : Tr α} {g : Nat → Nat} {k : Nat} {a : α}, Tr.All Q g t → t.get k = some a → Q (g k) a
  | .e, g, k, a, _, h => by rw [Tr.get_e] at h; cases h
  | .n l v r, g, k, a, h, hk => by
    rw [Tr.get_n] at hk
    by_cases h0 : k = 0
    · rw [if_pos h0] at hk; subst h0; exact h.1 a hk
    · rw [if_neg h0] at hk
      by_cases h1 : k % 2 = 0
      · rw [if_pos h1] at hk
        have := h.2.2.get hk
        have e : 2 * (k / 2) = k := by omega
        rw [e] at this; exact this
      · rw [if_neg h1] at hk
        have := h.2.1.get hk
        have e : 2 * (k / 2) + 1 = k := by omega
        rw [e] at this; exact this
/-- Is it a method's row? -/
def inv1 (P : Program) (N : Names) (m t f : Nat) : Bool := match N[m]?, P.info? t, P.underlying t with
  | some name, some i, some d => (match i.methods.find? (·.name == name) with
    | some row => row.path.isEmpty && (match row.func with
      | some (f', ptr) => f' == f && (match d with
        | .pointer _ => ptr
        | _ => !ptr)
      | none => false)
    | none => false)
  | _, _, _ => false
def invT (P : Program) (N : Names) : (Nat → Nat) → Tr (List (Nat × Nat)) → Bool
  | _, .e => true
  | g, .n l v r => (match v with
    | some ps => ps.all fun p => inv1 P N (g 0) p.1 p.2
    | none => true) && (invT P N (fun k => g (2 * k + 1)) l && invT P N (fun k => g (2 * k)) r)
theorem invT_all {P : Program} {N : Names} : ∀ {t : Tr (List (Nat × Nat))} {g : Nat → Nat}, invT P N g t = true → Tr.All (fun m ps => ∀ p ∈ ps, inv1 P N m p.1 p.2 = true) g t
  | .e, g, _ => trivial
  | .n l v r, g, h => by
    simp only [invT, Bool.and_eq_true] at h
    obtain ⟨h1, h2, h3⟩ := h
    refine ⟨fun a ha p hp => ?_, invT_all h2, invT_all h3⟩
    subst ha
    exact List.all_eq_true.1 h1 p hp
theorem ifind_mem {t f : Nat} : ∀ {l : List (Nat × Nat)}, ifind t l = some f → (t, f) ∈ l := by
  intro l
  induction l with
  | nil => intro h; cases h
  | cons p l ih =>
    intro h
    obtain ⟨a, b⟩ := p
    simp only [ifind, bcase] at h
    by_cases hb : Nat.beq a t = true
    · rw [if_pos hb] at h
      cases h
      have := Nat.eq_of_beq_eq_true hb
      subst this
      exact List.mem_cons_self
    · rw [if_neg hb] at h
      exact List.mem_cons_of_mem _ (ih h)
theorem inv_of {P : Program} {N : Names} {C : Cfg} (h : invT P N id C.inv = true) : InvOk P N C := by
  intro m t f l hm hf
  have := (invT_all h).get hm (t, f) (ifind_mem hf)
  unfold inv1 at this
  simp only [id] at this
  split at this
  case h_2 => cases this
  rename_i name i d hn hi hd
  split at this
  case h_2 => cases this
  rename_i row hrow
  simp only [Bool.and_eq_true] at this
  obtain ⟨h1, h2⟩ := this
  split at h2
  case h_2 => cases h2
  rename_i f' ptr hfun
  simp only [Bool.and_eq_true, beq_iff_eq] at h2
  obtain ⟨rfl, h3⟩ := h2
  refine ⟨name, i, row, ptr, d, hn, hi, hrow, by simpa [Array.isEmpty_iff] using h1, hfun, hd, ?_⟩
  split at h3
  · rename_i e
    exact .inl ⟨h3, e, rfl⟩
  · rename_i hne
    exact .inr ⟨by simpa using h3, hne⟩
theorem en_of {P : Program} {N : Names} {C : Cfg} (hI : InvOk P N C) (hC : C.fns = .e) (hm : P.follows .mixedOrders = true) {f mask : Nat} {fn : Func} {x : En} (hfn : P.funcs[f]? = some fn) (hpl : plainF P f = true) (hck : (cfn P N mask fn).map (denF C) = some x) : EnOk P N C.glb f x := by
  obtain ⟨a, h1, rfl⟩ := Option.map_eq_some_iff.1 hck
  exact enF_ok hI hC hm hfn hpl h1
end Go.Vm
