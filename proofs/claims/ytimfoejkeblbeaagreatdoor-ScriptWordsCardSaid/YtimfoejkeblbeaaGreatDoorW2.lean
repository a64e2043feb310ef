/- The law walked. -/
import Derived.Test.YtimfoejkeblbeaaGreatDoorW1
import Derived.Test.YtimfoejkeblbeaaGreatDoorB2
import Derived.Test.YtimfoejkeblbeaaGreatDoorB3
import Derived.Test.YtimfoejkeblbeaaGreatDoorA5
import Derived.Test.YtimfoejkeblbeaaGreatDoorS1
import Derived.Shelf.Strings.SlTrimAscii
set_option linter.all false
namespace Go.Vm
open Go Go.Proofs
theorem en97 : EnOk Tryz.prog nms cfgX.glb 97 (enO sortO) := enO_ok (sort_gives (by kernel_rfl))
theorem en116 : EnOk Tryz.prog nms cfgX.glb 116 (enO idxO) := enO_ok (idx_gives (by kernel_rfl))
theorem en422 : EnOk Tryz.prog nms cfgX.glb 422 (enO usedO) := enO_ok (used_gives (by kernel_rfl))
set_option maxRecDepth 100000 in
theorem tab_all : Tr.All (EnOk Tryz.prog nms cfgX.glb) id tabX := ⟨(fun _ h => nomatch h), ⟨(fun _ h => nomatch h), ⟨(fun _ h => nomatch h), ⟨(fun _ h => Option.some.inj h ▸ en7), ⟨(fun _ h => Option.some.inj h ▸ en15), ⟨(fun _ h => Option.some.inj h ▸ en31), trivial, ⟨(fun _ h => nomatch h), ⟨(fun _ h => Option.some.inj h ▸ en95), trivial, trivial⟩, trivial⟩⟩, ⟨(fun _ h => nomatch h), ⟨(fun _ h => nomatch h), ⟨(fun _ h => nomatch h), trivial, ⟨(fun _ h => nomatch h), trivial, ⟨(fun _ h => nomatch h), ⟨(fun _ h => Option.some.inj h ▸ en623), trivial, trivial⟩, trivial⟩⟩⟩, trivial⟩, trivial⟩⟩, ⟨(fun _ h => nomatch h), ⟨(fun _ h => Option.some.inj h ▸ en23), ⟨(fun _ h => Option.some.inj h ▸ en55), trivial, ⟨(fun _ h => nomatch h), ⟨(fun _ h => Option.some.inj h ▸ en183), trivial, trivial⟩, trivial⟩⟩, ⟨(fun _ h => nomatch h), trivial, ⟨(fun _ h => nomatch h), trivial, ⟨(fun _ h => nomatch h), ⟨(fun _ h => Option.some.inj h ▸ en279), trivial, trivial⟩, trivial⟩⟩⟩⟩, ⟨(fun _ h => nomatch h), ⟨(fun _ h => nomatch h), ⟨(fun _ h => Option.some.inj h ▸ en103), trivial, trivial⟩, trivial⟩, trivial⟩⟩⟩, ⟨(fun _ h => nomatch h), ⟨(fun _ h => Option.some.inj h ▸ en11), ⟨(fun _ h => Option.some.inj h ▸ en27), ⟨(fun _ h => Option.some.inj h ▸ en59), trivial, trivial⟩, ⟨(fun _ h => nomatch h), trivial, ⟨(fun _ h => nomatch h), trivial, ⟨(fun _ h => nomatch h), ⟨(fun _ h => Option.some.inj h ▸ en283), trivial, trivial⟩, trivial⟩⟩⟩⟩, ⟨(fun _ h => nomatch h), ⟨(fun _ h => Option.some.inj h ▸ en43), ⟨(fun _ h => Option.some.inj h ▸ en107), trivial, trivial⟩, trivial⟩, ⟨(fun _ h => nomatch h), trivial, ⟨(fun _ h => nomatch h), trivial, ⟨(fun _ h => nomatch h), ⟨(fun _ h => Option.some.inj h ▸ en267), trivial, trivial⟩, trivial⟩⟩⟩⟩⟩, ⟨(fun _ h => nomatch h), ⟨(fun _ h => Option.some.inj h ▸ en19), ⟨(fun _ h => nomatch h), trivial, ⟨(fun _ h => nomatch h), ⟨(fun _ h => Option.some.inj h ▸ en179), trivial, trivial⟩, trivial⟩⟩, ⟨(fun _ h => nomatch h), trivial, ⟨(fun _ h => nomatch h), ⟨(fun _ h => Option.some.inj h ▸ en147), trivial, trivial⟩, trivial⟩⟩⟩, ⟨(fun _ h => nomatch h), trivial, ⟨(fun _ h => nomatch h), ⟨(fun _ h => Option.some.inj h ▸ en67), trivial, trivial⟩, trivial⟩⟩⟩⟩⟩, ⟨(fun _ h => nomatch h), ⟨(fun _ h => Option.some.inj h ▸ en5), ⟨(fun _ h => nomatch h), ⟨(fun _ h => Option.some.inj h ▸ en29), ⟨(fun _ h => Option.some.inj h ▸ en61), ⟨(fun _ h => Option.some.inj h ▸ en125), trivial, trivial⟩, trivial⟩, ⟨(fun _ h => nomatch h), ⟨(fun _ h => Option.some.inj h ▸ en93), trivial, trivial⟩, ⟨(fun _ h => nomatch h), ⟨(fun _ h => Option.some.inj h ▸ en157), trivial, trivial⟩, trivial⟩⟩⟩, ⟨(fun _ h => nomatch h), trivial, ⟨(fun _ h => nomatch h), trivial, ⟨(fun _ h => nomatch h), trivial, ⟨(fun _ h => nomatch h), ⟨(fun _ h => Option.some.inj h ▸ en269), trivial, trivial⟩, trivial⟩⟩⟩⟩⟩, ⟨(fun _ h => nomatch h), ⟨(fun _ h => nomatch h), ⟨(fun _ h => nomatch h), ⟨(fun _ h => Option.some.inj h ▸ en117), trivial, trivial⟩, trivial⟩, ⟨(fun _ h => nomatch h), trivial, ⟨(fun _ h => nomatch h), ⟨(fun _ h => Option.some.inj h ▸ en149), trivial, trivial⟩, trivial⟩⟩⟩, ⟨(fun _ h => nomatch h), ⟨(fun _ h => Option.some.inj h ▸ en37), trivial, ⟨(fun _ h => nomatch h), ⟨(fun _ h => Option.some.inj h ▸ en165), trivial, trivial⟩, trivial⟩⟩, ⟨(fun _ h => nomatch h), ⟨(fun _ h => nomatch h), ⟨(fun _ h => Option.some.inj h ▸ en197), trivial, trivial⟩, trivial⟩, trivial⟩⟩⟩⟩, ⟨(fun _ h => nomatch h), ⟨(fun _ h => Option.some.inj h ▸ en9), ⟨(fun _ h => Option.some.inj h ▸ en25), trivial, trivial⟩, ⟨(fun _ h => nomatch h), ⟨(fun _ h => nomatch h), trivial, ⟨(fun _ h => nomatch h), ⟨(fun _ h => Option.some.inj h ▸ en169), trivial, trivial⟩, trivial⟩⟩, trivial⟩⟩, ⟨(fun _ h => nomatch h), ⟨(fun _ h => Option.some.inj h ▸ en17), ⟨(fun _ h => Option.some.inj h ▸ en49), trivial, ⟨(fun _ h => nomatch h), ⟨(fun _ h => Option.some.inj h ▸ en177), trivial, trivial⟩, trivial⟩⟩, ⟨(fun _ h => nomatch h), trivial, ⟨(fun _ h => nomatch h), trivial, ⟨(fun _ h => nomatch h), ⟨(fun _ h => Option.some.inj h ▸ en273), trivial, trivial⟩, trivial⟩⟩⟩⟩, ⟨(fun _ h => nomatch h), ⟨(fun _ h => Option.some.inj h ▸ en33), ⟨(fun _ h => Option.some.inj h ▸ en97), trivial, ⟨(fun _ h => nomatch h), ⟨(fun _ h => Option.some.inj h ▸ en353), trivial, trivial⟩, trivial⟩⟩, trivial⟩, ⟨(fun _ h => nomatch h), ⟨(fun _ h => Option.some.inj h ▸ en65), trivial, trivial⟩, trivial⟩⟩⟩⟩⟩⟩, ⟨(fun _ h => nomatch h), ⟨(fun _ h => nomatch h), ⟨(fun _ h => Option.some.inj h ▸ en6), ⟨(fun _ h => nomatch h), ⟨(fun _ h => Option.some.inj h ▸ en30), ⟨(fun _ h => Option.some.inj h ▸ en62), trivial, trivial⟩, trivial⟩, ⟨(fun _ h => nomatch h), ⟨(fun _ h => Option.some.inj h ▸ en46), ⟨(fun _ h => Option.some.inj h ▸ en110), trivial, trivial⟩, trivial⟩, trivial⟩⟩, ⟨(fun _ h => nomatch h), ⟨(fun _ h => nomatch h), ⟨(fun _ h => Option.some.inj h ▸ en54), ⟨(fun _ h => Option.some.inj h ▸ en118), trivial, trivial⟩, trivial⟩, trivial⟩, ⟨(fun _ h => nomatch h), ⟨(fun _ h => nomatch h), trivial, ⟨(fun _ h => nomatch h), ⟨(fun _ h => nomatch h), ⟨(fun _ h => Option.some.inj h ▸ en422), trivial, trivial⟩, trivial⟩, trivial⟩⟩, ⟨(fun _ h => nomatch h), ⟨(fun _ h => Option.some.inj h ▸ en70), ⟨(fun _ h => Option.some.inj h ▸ en198), trivial, trivial⟩, trivial⟩, trivial⟩⟩⟩⟩, ⟨(fun _ h => nomatch h), ⟨(fun _ h => Option.some.inj h ▸ en10), ⟨(fun _ h => Option.some.inj h ▸ en26), ⟨(fun _ h => Option.some.inj h ▸ en58), trivial, ⟨(fun _ h => nomatch h), ⟨(fun _ h => Option.some.inj h ▸ en186), trivial, trivial⟩, trivial⟩⟩, trivial⟩, ⟨(fun _ h => nomatch h), ⟨(fun _ h => nomatch h), ⟨(fun _ h => nomatch h), trivial, ⟨(fun _ h => nomatch h), trivial, ⟨(fun _ h => nomatch h), ⟨(fun _ h => Option.some.inj h ▸ en618), trivial, trivial⟩, trivial⟩⟩⟩, trivial⟩, trivial⟩⟩, ⟨(fun _ h => nomatch h), ⟨(fun _ h => Option.some.inj h ▸ en18), ⟨(fun _ h => Option.some.inj h ▸ en50), ⟨(fun _ h => nomatch h), ⟨(fun _ h => Option.some.inj h ▸ en242), trivial, trivial⟩, trivial⟩, ⟨(fun _ h => nomatch h), ⟨(fun _ h => Option.some.inj h ▸ en178), trivial, trivial⟩, trivial⟩⟩, ⟨(fun _ h => nomatch h), ⟨(fun _ h => Option.some.inj h ▸ en82), trivial, trivial⟩, trivial⟩⟩, ⟨(fun _ h => nomatch h), ⟨(fun _ h => Option.some.inj h ▸ en34), ⟨(fun _ h => nomatch h), trivial, ⟨(fun _ h => nomatch h), ⟨(fun _ h => Option.some.inj h ▸ en354), trivial, trivial⟩, trivial⟩⟩, trivial⟩, ⟨(fun _ h => nomatch h), ⟨(fun _ h => Option.some.inj h ▸ en66), trivial, trivial⟩, trivial⟩⟩⟩⟩⟩, ⟨(fun _ h => nomatch h), ⟨(fun _ h => Option.some.inj h ▸ en4), ⟨(fun _ h => Option.some.inj h ▸ en12), ⟨(fun _ h => Option.some.inj h ▸ en28), ⟨(fun _ h => nomatch h), trivial, ⟨(fun _ h => nomatch h), ⟨(fun _ h => Option.some.inj h ▸ en188), trivial, trivial⟩, trivial⟩⟩, trivial⟩, ⟨(fun _ h => nomatch h), ⟨(fun _ h => Option.some.inj h ▸ en44), ⟨(fun _ h => Option.some.inj h ▸ en108), trivial, trivial⟩, trivial⟩, ⟨(fun _ h => nomatch h), trivial, ⟨(fun _ h => nomatch h), trivial, ⟨(fun _ h => nomatch h), ⟨(fun _ h => Option.some.inj h ▸ en268), trivial, trivial⟩, trivial⟩⟩⟩⟩⟩, ⟨(fun _ h => nomatch h), ⟨(fun _ h => nomatch h), ⟨(fun _ h => nomatch h), ⟨(fun _ h => Option.some.inj h ▸ en116), trivial, trivial⟩, trivial⟩, ⟨(fun _ h => nomatch h), trivial, ⟨(fun _ h => nomatch h), trivial, ⟨(fun _ h => nomatch h), ⟨(fun _ h => Option.some.inj h ▸ en276), trivial, trivial⟩, trivial⟩⟩⟩⟩, trivial⟩⟩, ⟨(fun _ h => nomatch h), ⟨(fun _ h => Option.some.inj h ▸ en8), trivial, ⟨(fun _ h => nomatch h), ⟨(fun _ h => nomatch h), ⟨(fun _ h => nomatch h), ⟨(fun _ h => Option.some.inj h ▸ en232), trivial, trivial⟩, trivial⟩, trivial⟩, trivial⟩⟩, ⟨(fun _ h => nomatch h), ⟨(fun _ h => Option.some.inj h ▸ en16), ⟨(fun _ h => Option.some.inj h ▸ en48), ⟨(fun _ h => Option.some.inj h ▸ en112), trivial, trivial⟩, trivial⟩, ⟨(fun _ h => nomatch h), trivial, ⟨(fun _ h => nomatch h), trivial, ⟨(fun _ h => nomatch h), ⟨(fun _ h => Option.some.inj h ▸ en272), trivial, trivial⟩, trivial⟩⟩⟩⟩, ⟨(fun _ h => nomatch h), ⟨(fun _ h => Option.some.inj h ▸ en32), ⟨(fun _ h => Option.some.inj h ▸ en96), trivial, ⟨(fun _ h => nomatch h), ⟨(fun _ h => Option.some.inj h ▸ en352), trivial, trivial⟩, trivial⟩⟩, trivial⟩, ⟨(fun _ h => nomatch h), ⟨(fun _ h => nomatch h), ⟨(fun _ h => Option.some.inj h ▸ en192), trivial, trivial⟩, trivial⟩, trivial⟩⟩⟩⟩⟩⟩⟩
theorem cfw_ok : CfS Tryz.prog nms cfgX.glb cfw := callX_ok (fun f en h => tab_all.get h) 100000 64
end Go.Vm
namespace Go.Vm
open Go Go.RowKit Go.Proofs
/-- The global MaxLen's cell holds a whole number. -/
def MX (w : World) : Prop := ∃ m, w.cell? ⟨0, 0, none⟩ = some (.int .i64 m)
theorem MX.obj {w : World} (h : MX w) : ∃ (arr : Array Value) (t : TypeId) (f : Nat × Nat) (m : Int), w.heap[0]? = some (.cells arr t f) ∧ arr[0]? = some (.int .i64 m) := by
  obtain ⟨m, hm⟩ := h
  unfold World.cell? at hm
  cases hb : w.heap[0]? with
  | none => simp [hb] at hm
  | some ob =>
    cases ob with
    | cells arr t f => exact ⟨arr, t, f, m, rfl, by simpa [hb] using hm⟩
    | _ => simp [hb] at hm
theorem MX.grew {w w' : World} (h : MX w) (g : Grew w w') : MX w' := let ⟨m, hm⟩ := h; ⟨m, g.cell hm⟩
theorem MX.below {w w' : World} (h : MX w) (g : Below w.heap.size w w') : MX w' := h.grew ⟨g.os, g.output, g.size, fun k hk => g.block k hk⟩
theorem Grew.trans {a b c : World} (h : Grew a b) (k : Grew b c) : Grew a c := ⟨k.os.trans h.os, k.out.trans h.out, Nat.le_trans h.size k.size, fun j hj => (k.heap j (Nat.lt_of_lt_of_le hj h.size)).trans (h.heap j hj)⟩
theorem Grew.of_below {w w' : World} (g : Below w.heap.size w w') : Grew w w' := ⟨g.os, g.output, g.size, fun k hk => g.block k hk⟩
theorem heap_new (w : World) (o : Obj) : (w.alloc o).heap[w.heap.size]? = some o := by show (w.heap.push o)[w.heap.size]? = some o; exact Array.getElem?_push_size
theorem size_new (w : World) (o : Obj) : w.heap.size ≤ (w.alloc o).heap.size := by simp
/-- Nothing known. -/
theorem R_none {w : World} (h : MX w) : R nms cfgX.glb (Now w) w (Mp.one 0 0 0) H0 w := by
  have no : ∀ {i : Nat} {o : AObj} {p : Prop}, H0.t.get i = some o → p := fun {i o p} hi => by
    have : (Tr.e : Tr AObj).get i = some o := hi
    rw [Tr.get_e] at this; cases this
  have ng : ∀ {g : Nat} {c : Tr AV} {p : Prop}, cfgX.glb.get g = some c → p := fun {g c p} hi => by
    have : (Tr.e : Tr (Tr AV)).get g = some c := hi
    rw [Tr.get_e] at this; cases this
  exact ⟨rfl, rfl, Nat.le_refl _, fun b o hb => hb, fun _ _ => no, fun _ _ => no, fun _ _ _ _ h1 => no h1, fun _ _ h1 => no h1, fun _ _ h1 => no h1, fun _ _ _ h1 => no h1, fun _ _ _ _ h1 => ng h1, fun _ _ => ng, fun _ _ _ _ h1 => no h1, fun b hb => now_none hb, h.obj⟩
theorem R.mx {N : Names} {G : Tr (Tr AV)} {F : Nat → Option Obj} {w0 : World} {μ : Mp} {h : AH} {w : World} (r : R N G F w0 μ h w) : MX w := mxl_cell r
/-- A call whose run is known. -/
theorem run_calls {f : Nat} {vs : List AV} {h h' : AH} {v : AV} (hk : ∀ k', cfw f vs h k' = k' v h') : GivX Tryz.prog nms cfgX.glb f vs h v h' := cfw_ok.so f vs h v h' (hk _)

theorem R_grew {N : Names} {G : Tr (Tr AV)} {w0 : World} {μ : Mp} {h : AH} {w : World} (r : R N G (Now w0) w0 μ h w) : Grew w0 w := ⟨r.os, r.out, r.lo, fun j hj => by
    have := r.fr j _ (Array.getElem?_eq_getElem hj)
    rw [this]; exact (Array.getElem?_eq_getElem hj).symm⟩
theorem awake_calls (w : World) (hm : MX w) : Calls Tryz.prog 5 #[] w fun e w' => e = .returned (.bool true) ∧ Grew w w' := by
  obtain ⟨v, h', hk⟩ := cfw_ok.hand _ _ _ _ _ run_awake
  have hr := run_awake
  rw [hk] at hr
  have hv : v = .bool true := by
    cases v with
    | bool b => cases b with
      | true => rfl
      | false => cases hr
    | _ => cases hr
  subst hv
  refine ((run_calls hk).2 (Now w) w #[] w _ Vs.nil (R_none hm)).mono fun e w' hq => ?_
  obtain ⟨x, μ', rfl, _, _, hR, hx⟩ := hq
  rw [hx.bool_inv]
  exact ⟨rfl, R_grew hR⟩

/-- A desk, as the evaluator knows it. -/
def Desk (w0 : World) (d : AV) (h : AH) (D : Value) (w : World) : Prop := ∃ μ, R nms cfgX.glb (Now w0) w0 μ h w ∧ V nms μ h.nx d D
/-- A desk of which so many lines have been asked. -/
def Asked (w0 : World) (i : Nat) (a : Addr) (w : World) : Prop := ∃ x o h, Desk w0 (.ptr x o) h (.pointer (some a)) w ∧ (ask cfw (.ptr x o) (asks.drop i) h).isSome = true
theorem Desk.grew {w0 : World} {d : AV} {h : AH} {D : Value} {w w' : World} (k : Desk w0 d h D w) (g : Grew w w') : Desk w0 d h D w' := let ⟨μ, r, v⟩ := k; ⟨μ, r.grew g, v⟩
theorem Asked.mx {w0 : World} {i : Nat} {a : Addr} {w : World} (k : Asked w0 i a w) : MX w := let ⟨_, _, _, ⟨_, r, _⟩, _⟩ := k; r.mx
theorem Asked.from {w0 : World} {i : Nat} {a : Addr} {w : World} (k : Asked w0 i a w) : Grew w0 w := let ⟨_, _, _, ⟨_, r, _⟩, _⟩ := k; R_grew r
theorem Asked.drewN {w0 : World} {i n : Nat} {a : Addr} {w : World} (k : Asked w0 i a w) : Asked w0 i a (w.drewN n) :=
  let ⟨x, o, h, hd, q⟩ := k; ⟨x, o, h, hd.grew ⟨rfl, rfl, Nat.le_refl _, fun _ _ => rfl⟩, q⟩
theorem new_calls (w : World) (hm : MX w) : Calls Tryz.prog 4 #[] w fun e w' => ∃ a, e = .returned (.pointer (some a)) ∧ Asked w 0 a w' := by
  obtain ⟨r0, hr⟩ := Option.isSome_iff_exists.1 run_asks
  obtain ⟨v, h', hk⟩ := cfw_ok.hand _ _ _ _ _ hr
  rw [hk] at hr
  cases v with
  | ptr x o =>
    refine ((run_calls hk).2 (Now w) w #[] w _ Vs.nil (R_none hm)).mono fun e w' hq => ?_
    obtain ⟨X, μ', rfl, _, _, hR, hx⟩ := hq
    obtain ⟨_, rfl⟩ := hx.ptr_inv
    exact ⟨_, rfl, x, o, h', ⟨μ', hR, hx⟩, by
      show (ask cfw (.ptr x o) asks h').isSome = true
      have : ask cfw (.ptr x o) asks h' = some r0 := hr
      rw [this]; rfl⟩
  | _ => cases hr
theorem isS_some {v : AV} {l n : Nat} {k : Rs} {r : AV × AH} (h : isS v l n k = some r) : v = .str l n ∧ k = some r := by
  cases v with
  | str l' n' =>
    obtain ⟨h1, h2⟩ := grd_of (show grd (Nat.beq l' l && Nat.beq n' n) k = some r from h)
    simp only [Bool.and_eq_true] at h1
    rw [Nat.eq_of_beq_eq_true h1.1, Nat.eq_of_beq_eq_true h1.2]
    exact ⟨rfl, h2⟩
  | _ => cases h
/-- One line is asked. -/
theorem ask_calls {w0 : World} {i : Nat} {a : Addr} {w : World} (k : Asked w0 i a w) {l n l' n' : Nat} (hq : asks[i]? = some ((l, n), (l', n'))) (s t : ByteArray) (hs : s.data.toList = sb l n) (hn : n < 256 ^ l) (ht : t.data.toList = sb l' n') :
    Calls Tryz.prog 6 #[.pointer (some a), .string s] w fun e w' => e = .returned (.string t) ∧ Asked w0 (i + 1) a w' := by
  obtain ⟨x, o, h, ⟨μ, hR, hv⟩, hk⟩ := k
  obtain ⟨hi, hq'⟩ := List.getElem?_eq_some_iff.1 hq
  rw [List.drop_eq_getElem_cons hi, hq'] at hk
  obtain ⟨r, hr⟩ := Option.isSome_iff_exists.1 hk
  have hr : cfw 6 [.ptr x o, .str l n] h (fun v h => isS v l' n' (ask cfw (.ptr x o) (asks.drop (i + 1)) h)) = some r := hr
  obtain ⟨v, h', hc⟩ := cfw_ok.hand _ _ _ _ _ hr
  rw [hc] at hr
  obtain ⟨rfl, hr2⟩ := isS_some hr
  refine ((run_calls hc).2 (Now w0) w0 _ w μ (Vs.cons hv (Vs.cons (.str l n s hn hs) Vs.nil)) hR).mono fun e w' hq => ?_
  obtain ⟨X, μ', rfl, hag, hle, hR', hX⟩ := hq
  obtain ⟨t', rfl, _, ht'⟩ := hX.str_inv
  have : t' = t := by
    have : t'.data.toList = t.data.toList := by rw [ht', ht]
    cases t; cases t'
    simp only at this
    exact congrArg ByteArray.mk (Array.toList_inj.1 this)
  subst this
  exact ⟨rfl, x, o, h', ⟨μ', hR', hv.mono hag hle⟩, by rw [hr2]; rfl⟩
/-- A row of one cell, "1". -/
noncomputable def H1 : AH := ⟨.n .e (some (.cells (.n .e (some (.str 1 49)) .e) 1 9 0 0 0 true)) .e, .e, 1⟩
theorem run_num (k : Int) (b : Bool) (h : (cfw 9 [.slo 0 0 1 1, .int .i64 k] H1 fun v _ => match v with
    | .tup [_, .bool b'] => (match b == b' with
      | true => some (.nilp, H0)
      | false => none)
    | _ => none).isSome = true) (w : World) (hm : MX w) (g : Nat) (s t : ByteArray) (hb : w.heap[g]? = some (.cells #[.string s, .string t] 9 (0, 0))) (ht : t.data.toList = [49]) :
    Calls Tryz.prog 9 #[.slice (some ⟨g, 1, none⟩) 1 1, .int .i64 k] w fun e w' => ∃ v, e = .returned (.tuple #[v, .bool b]) ∧ Grew w w' := by
  obtain ⟨r0, hr⟩ := Option.isSome_iff_exists.1 h
  obtain ⟨v, h', hk⟩ := cfw_ok.hand _ _ _ _ _ hr
  rw [hk] at hr
  have ng : ∀ {g : Nat} {c : Tr AV} {p : Prop}, cfgX.glb.get g = some c → p := fun {g c p} hi => by
    have : (Tr.e : Tr (Tr AV)).get g = some c := hi
    rw [Tr.get_e] at this; cases this
  have hR : R nms cfgX.glb (Now w) w (Mp.one g 1 2) H1 w := by
    refine ⟨rfl, rfl, Nat.le_refl _, fun b o hb => hb, fun j ob hj => ?_, fun j ob hj => ?_, fun j k a b hj hk hjk => ?_, fun j ob hj hro => ?_, fun j ob hj ht => ?_, fun j ob t hj ht => ?_, fun _ _ _ _ h1 => ng h1, fun _ _ => ng, fun j k a b hj hk hjk ht => ?_, fun b hb => now_none hb, hm.obj⟩
    · obtain ⟨rfl, _⟩ := get_one hj; exact Nat.zero_lt_one
    · obtain ⟨rfl, rfl⟩ := get_one hj
      refine ⟨_, _, _, hb, rfl, Nat.le_refl _, ⟨fun _ => rfl, fun h => absurd h (by omega), fun h => absurd h (by omega)⟩, fun _ j v hj hv => ?_⟩
      have : j = 0 := by omega
      subst this
      cases hv
      exact ⟨.string t, rfl, .str 1 49 t (by decide) (by rw [ht]; rfl), rfl⟩
    · obtain ⟨rfl, _⟩ := get_one hj
      obtain ⟨rfl, _⟩ := get_one hk
      exact absurd rfl hjk
    · obtain ⟨rfl, rfl⟩ := get_one hj
      cases hro
    · obtain ⟨rfl, rfl⟩ := get_one hj
      exact absurd rfl ht
    · obtain ⟨rfl, rfl⟩ := get_one hj
      cases ht
    · obtain ⟨rfl, rfl⟩ := get_one hj
      exact absurd rfl ht
  have hV : Vs nms (Mp.one g 1 2) H1.nx [.slo 0 0 1 1, .int .i64 k] [.slice (some ⟨g, 1, none⟩) 1 1, .int .i64 k] := Vs.cons (.slo 0 0 1 1 1 1 Nat.zero_lt_one (Nat.le_refl _) rfl fun _ => rfl) (Vs.cons (.int _ _) Vs.nil)
  have hc := (run_calls hk).2 (Now w) w #[.slice (some ⟨g, 1, none⟩) 1 1, .int .i64 k] w _ hV hR
  refine hc.mono fun e w' hq => ?_
  obtain ⟨X, μ', rfl, _, _, hR', hX⟩ := hq
  have hg : Grew w w' := R_grew hR'
  split at hr
  case h_2 => cases hr
  rename_i v1 b'
  obtain ⟨xs, rfl, hxs⟩ := hX.tup_inv
  obtain ⟨x1, ys, e1, _, hys⟩ := hxs.cons_inv
  obtain ⟨x2, zs, e2, hx2, hzs⟩ := hys.cons_inv
  have e3 := hzs.nil_inv
  subst e3
  subst e2
  cases hbb : (b == b') with
  | false => rw [hbb] at hr; cases hr
  | true =>
    have : b = b' := by simpa using hbb
    subst this
    have e4 := hx2.bool_inv
    subst e4
    have : xs = #[x1, .bool b] := Array.toList_inj.1 e1
    subst this
    exact ⟨x1, rfl, hg⟩
theorem num_one (w : World) (hm : MX w) (g : Nat) (s t : ByteArray) (hb : w.heap[g]? = some (.cells #[.string s, .string t] 9 (0, 0))) (ht : t.data.toList = [49]) :
    Calls Tryz.prog 9 #[.slice (some ⟨g, 1, none⟩) 1 1, .int .i64 1] w fun e w' => ∃ v, e = .returned (.tuple #[v, .bool true]) ∧ Grew w w' := run_num 1 true (by kernel_rfl) w hm g s t hb ht
theorem num_two (w : World) (hm : MX w) (g : Nat) (s t : ByteArray) (hb : w.heap[g]? = some (.cells #[.string s, .string t] 9 (0, 0))) (ht : t.data.toList = [49]) :
    Calls Tryz.prog 9 #[.slice (some ⟨g, 1, none⟩) 1 1, .int .i64 2] w fun e w' => ∃ v, e = .returned (.tuple #[v, .bool false]) ∧ Grew w w' := run_num 2 false (by kernel_rfl) w hm g s t hb ht
end Go.Vm
namespace Go.Proofs.YtimfoejkeblbeaaGreatDoor
open Go Go.RowKit
set_option maxRecDepth 1000000 in
set_option maxHeartbeats 1000000 in
theorem number_no (s : ByteArray) (w : World) (hsz : s.size ≤ 4294967280) (h0 : 0 < s.size) (hc48 : ¬ ((s[0]'h0).toNat : Int) = 48)
    (ht : Lib.trimS s.data.toList [48, 49, 50, 51, 52, 53, 54, 55, 56, 57] = s.data.toList) (hemp : s.toList.isEmpty = false) (hemp2 : ¬ s.toList = []) :
    Calls Tryz.prog 11 #[.string s] w fun e w' => e = .returned (.tuple #[.int .i64 0, .bool false]) ∧ Below w.heap.size w w' := by
  have hcon : ∀ w, Calls Tryz.prog 31 #[.string s, .string ⟨#[48, 49, 50, 51, 52, 53, 54, 55, 56, 57]⟩] w (fun e w' => e = .returned (.string s) ∧ Below w.heap.size w w') := fun w => by
    have hcon := Any.strings_Trim_laid Tryz.lays160 (by kernel_rfl) s ⟨#[48, 49, 50, 51, 52, 53, 54, 55, 56, 57]⟩ w (by omega) (by decide) (ascii_of_all (by decide))
    change Calls Tryz.prog 31 _ _ (fun e w' => e = .returned (.string ⟨(Lib.trimS s.data.toList [48, 49, 50, 51, 52, 53, 54, 55, 56, 57]).toArray⟩) ∧ Below w.heap.size w w') at hcon
    rw [ht] at hcon
    exact hcon
  have HT := Lib.hid ht
  clear ht
  by_cases h9 : 9 < s.size
  · go_enter Tryz.func11, Tryz.ntmps11
    go_wp2
    go_ret2
    exact ⟨rfl, Below.refl _ _⟩
  · by_cases h1 : 1 < s.size
    · go_enter Tryz.func11, Tryz.ntmps11
      go_wp2_with (go_at_call 31; refine (hcon _).mono ?_; rintro e w' ⟨rfl, hB⟩)
      go_ret2
      exact ⟨rfl, hB⟩
    · go_enter Tryz.func11, Tryz.ntmps11
      go_wp2_with (go_at_call 31; refine (hcon _).mono ?_; rintro e w' ⟨rfl, hB⟩)
      go_ret2
      exact ⟨rfl, hB⟩
end Go.Proofs.YtimfoejkeblbeaaGreatDoor
namespace Go.Proofs.YtimfoejkeblbeaaGreatDoor
open Go Go.RowKit
theorem scp_goto {P : Program} {c rest : Code} {l : Nat} {Q : Exit → Act → World → Prop} {a : Act} {w : World} (hf : findLabel c l = some rest) (h : rest.wp P (Vm.Exit.scp P c Q) a w) : Vm.Exit.scp P c Q (.goto l) a w := by
  simp only [Vm.Exit.scp, hf]
  exact Vm.ScopeWp.unfold h
theorem then_goto {K : Act → World → Prop} {Q : Exit → Act → World → Prop} {l : Nat} {a : Act} {w : World} : Exit.then K Q (.goto l) a w = Q (.goto l) a w := rfl
theorem block_goto {i : Nat} {Q : Exit → Act → World → Prop} {l : Nat} {a : Act} {w : World} : Exit.inBlock i Q (.goto l) a w = Q (.goto l) a w := rfl
theorem scp_ret {P : Program} {c : Code} {Q : Exit → Act → World → Prop} {a : Act} {w : World} : Vm.Exit.scp P c Q .ret a w = Q .ret a w := rfl
set_option maxRecDepth 1000000 in
theorem answer_one (w : World) : Calls Tryz.prog 12 #[.int .i64 1] w fun e w' => e = .returned (.string ⟨#[101, 114, 114, 111, 114, 32, 49]⟩) ∧ Below w.heap.size w w' := by
  go_enter Tryz.func12, Tryz.ntmps12
  go_wp2
  go_ret
  exact ⟨rfl, Below.refl _ _⟩
set_option maxRecDepth 1000000 in
set_option maxHeartbeats 4000000 in
theorem do_a (d : Addr) (s : ByteArray) (w : World) (hemp : s.toList.isEmpty = false)
    (h_world : (s.toList == [119, 111, 114, 108, 100]) = false) (h_tick : (s.toList == [116, 105, 99, 107]) = false) (h_way : (s.toList == [119, 97, 121]) = false) (h_now : (s.toList == [110, 111, 119]) = false) (hm : Vm.MX w)
    (c8 : ∀ w, Vm.MX w → Calls Tryz.prog 8 #[.string s, .string ⟨#[32]⟩] w fun e w' => e = .returned (.slice (some ⟨w.heap.size, 0, none⟩) 1 1) ∧ w' = w.alloc (.cells #[.string s] 9))
    (c11 : ∀ w, Calls Tryz.prog 11 #[.string s] w fun e w' => e = .returned (.tuple #[.int .i64 0, .bool false]) ∧ Below w.heap.size w w') :
    Calls Tryz.prog 6 #[.pointer (some d), .string s] w fun e w' => e = .returned (.string ⟨#[101, 114, 114, 111, 114, 32, 49]⟩) ∧ Below w.heap.size w w' := by
  go_enter Tryz.func6, Tryz.ntmps6
  generalize hX : Code.scope _ = X
  go_wp2
  subst hX
  refine Vm.ScopeWp.wp (Vm.ScopeWp.unfold ?_)
  go_wp2_with (go_at_call 8; refine (c8 _ hm).mono ?_; rintro e w' ⟨rfl, rfl⟩)
  go_quiet (fail)
  go_wp2_with fail
  refine (numbers_none1 _ _).mono ?_
  rintro e w' ⟨rfl, rfl⟩
  go_wp2_with fail
  refine (numbers_none2 _ _).mono ?_
  rintro e w' ⟨rfl, rfl⟩
  go_wp2_with fail
  refine (contains_one _ _ _ hemp (by simp)).mono ?_
  rintro e w' ⟨rfl, rfl⟩
  go_wp2_with fail
  refine (c11 _).mono ?_
  rintro e w' ⟨rfl, hB⟩
  go_wp2_with fail
  refine wp_goto ?_
  repeat rw [then_goto]
  refine scp_goto (by exact rfl) ?_
  go_wp2_with fail
  refine (answer_one _).mono ?_
  rintro e w' ⟨rfl, hB2⟩
  go_wp2_with fail
  rw [scp_ret]
  go_ret
  have hA : Below w.heap.size w (w.alloc (.cells #[.string s] 9)) := (Below.refl _ _).alloc (Nat.le_refl _) _
  have h1 : w.heap.size ≤ (w.alloc (.cells #[.string s] 9)).heap.size := hA.size
  have h2 := hB.size
  have h0 : ∀ n, Below w.heap.size w ((w.alloc (.cells #[.string s] 9)).drewN n) := fun n => ⟨hA.os, hA.tape, hA.output, hA.size, hA.block⟩
  refine ⟨rfl, ((h0 _).trans (hB.mono h1)).trans (hB2.mono ?_)⟩
  exact Nat.le_trans h1 h2
end Go.Proofs.YtimfoejkeblbeaaGreatDoor
namespace Go.Proofs.YtimfoejkeblbeaaGreatDoor
open Go Go.RowKit
theorem contains_two (b : Nat) (s t : ByteArray) (w : World) (hs : s.toList.isEmpty = false) (ht : t.toList.isEmpty = false) (hc : w.cell? ⟨b, 0, none⟩ = some (.string s)) (hc1 : w.cell? ⟨b, 1, none⟩ = some (.string t)) : Calls Tryz.prog 10 #[.slice (some ⟨b, 0, none⟩) 2 2, .string ⟨#[]⟩] w fun e w' => e = .returned (.bool false) ∧ w' = w := by
  go_enter Tryz.func10, Tryz.ntmps10
  go_wp2
  refine wp_loop_rounds 3 ?_
  rw [rounds_succ]
  go_wp2
  rw [rounds_succ]
  go_wp2
  rw [rounds_succ]
  go_wp2
  go_ret
  exact ⟨rfl, rfl⟩
set_option maxRecDepth 1000000 in
set_option maxHeartbeats 4000000 in
theorem do_b (d : Addr) (s u t : ByteArray) (w : World) (hemp : s.toList.isEmpty = false) (hempu : u.toList.isEmpty = false) (hempt : t.toList.isEmpty = false)
    (h_world : (s.toList == [119, 111, 114, 108, 100]) = false) (h_tick : (s.toList == [116, 105, 99, 107]) = false) (h_way : (s.toList == [119, 97, 121]) = false) (h_now : (s.toList == [110, 111, 119]) = false) (h_deliver : (s.toList == [100, 101, 108, 105, 118, 101, 114]) = false) (h_drop : (s.toList == [100, 114, 111, 112]) = false) (h_twice : (s.toList == [116, 119, 105, 99, 101]) = false) (h_send : (s.toList == [115, 101, 110, 100]) = false) (h_calm : (s.toList == [99, 97, 108, 109]) = false) (h_state : (s.toList == [115, 116, 97, 116, 101]) = false) (h_refs : (s.toList == [114, 101, 102, 115]) = false) (h_check : (s.toList == [99, 104, 101, 99, 107]) = false)
    (hm : Vm.MX w)
    (c8 : ∀ w, Vm.MX w → Calls Tryz.prog 8 #[.string u, .string ⟨#[32]⟩] w fun e w' => e = .returned (.slice (some ⟨w.heap.size, 0, none⟩) 2 2) ∧ w' = w.alloc (.cells #[.string s, .string t] 9))
    (ht1 : t.data.toList = [49])
    (c11 : ∀ w, Calls Tryz.prog 11 #[.string s] w fun e w' => e = .returned (.tuple #[.int .i64 0, .bool false]) ∧ Below w.heap.size w w') :
    Calls Tryz.prog 6 #[.pointer (some d), .string u] w fun e w' => e = .returned (.string ⟨#[101, 114, 114, 111, 114, 32, 49]⟩) ∧ Vm.Grew w w' := by
  go_enter Tryz.func6, Tryz.ntmps6
  generalize hX : Code.scope _ = X
  go_wp2
  subst hX
  refine Vm.ScopeWp.wp (Vm.ScopeWp.unfold ?_)
  go_wp2_with (go_at_call 8; refine (c8 _ hm).mono ?_; rintro e w' ⟨rfl, rfl⟩)
  go_quiet (fail)
  go_wp2_with fail
  have hA0 : ∀ n, Vm.Grew w ((w.alloc (.cells #[.string s, .string t] 9)).drewN n) := fun n => ⟨rfl, rfl, Vm.size_new w _, fun k hk => RowKit.Below.heap_alloc w _ k hk⟩
  have hb0 : ∀ n, ((w.alloc (.cells #[.string s, .string t] 9)).drewN n).heap[w.heap.size]? = some (.cells #[.string s, .string t] 9 (0, 0)) := fun n => Go.Vm.heap_new w _
  refine (Vm.num_one _ (hm.grew (hA0 _)) w.heap.size s t (hb0 _) ht1).mono ?_
  rintro e w1 ⟨v1, rfl, hB1⟩
  have hb1 : w1.heap[w.heap.size]? = some (.cells #[.string s, .string t] 9 (0, 0)) := by rw [hB1.heap _ (by simp)]; exact hb0 _
  have hm1 := hm.grew ((hA0 _).trans hB1)
  have hg1 : Vm.Grew w w1 := (hA0 _).trans hB1
  have HG1 := Lib.hid hg1
  have HB1 := Lib.hid hb1
  have HM1 := Lib.hid hm1
  clear hB1 hb1 hm1 hg1 hA0 hb0
  go_wp2_with fail
  refine (Vm.num_two _ HM1.out w.heap.size s t HB1.out ht1).mono ?_
  rintro e w2 ⟨v2, rfl, hB2⟩
  have hb2 : w2.heap[w.heap.size]? = some (.cells #[.string s, .string t] 9 (0, 0)) := by rw [hB2.heap _ (Array.getElem?_eq_some_iff.1 HB1.out).1]; exact HB1.out
  have k0 : w2.cell? ⟨w.heap.size, 0, none⟩ = some (.string s) := by simp [World.cell?, hb2]
  have k1 : w2.cell? ⟨w.heap.size, 1, none⟩ = some (.string t) := by simp [World.cell?, hb2]
  have HG2 := Lib.hid (HG1.out.trans hB2)
  have K0' := Lib.hid k0
  have K1' := Lib.hid k1
  clear hB2 hb2 k0 k1
  go_wp2_with fail
  refine (contains_two _ _ _ _ hemp hempt K0'.out K1'.out).mono ?_
  rintro e w' ⟨rfl, rfl⟩
  go_wp2_with fail
  refine (c11 _).mono ?_
  rintro e w3 ⟨rfl, hB3⟩
  have HB3 := Lib.hid hB3
  clear hB3
  go_wp2_with fail
  refine wp_goto ?_
  repeat (first | rw [then_goto] | rw [block_goto])
  refine scp_goto (by exact rfl) ?_
  go_wp2_with fail
  refine wp_label ?_
  go_wp2_with fail
  refine (answer_one _).mono ?_
  rintro e w4 ⟨rfl, hB4⟩
  go_wp2_with fail
  rw [scp_ret]
  go_ret
  exact ⟨rfl, (HG2.out.trans (Vm.Grew.of_below HB3.out)).trans (Vm.Grew.of_below hB4)⟩
end Go.Proofs.YtimfoejkeblbeaaGreatDoor
namespace Go.Proofs.YtimfoejkeblbeaaGreatDoor
open Go Go.RowKit Go.Lib
/-- Capital letters. -/
def Caps (l : List UInt8) : Prop := ∀ b ∈ l, 65 ≤ b.toNat ∧ b.toNat ≤ 90
theorem caps_ne {l : List UInt8} (h : Caps l) {c : UInt8} (hc : c.toNat < 65 ∨ 90 < c.toNat) : ∀ b ∈ l, b ≠ c := fun b hb e => by
  subst e; have := h b hb; omega
theorem noByte : ∀ {l : List UInt8} {c : UInt8}, (∀ b ∈ l, b ≠ c) → indexByte l c = -1
  | [], c, _ => rfl
  | b :: l, c, h => by
    have h1 : (b == c) = false := by simpa using h b (by simp)
    have h2 := noByte (l := l) (c := c) fun x hx => h x (by simp [hx])
    simp [indexByte, h1, h2]
theorem firstByte : ∀ {l r : List UInt8} {c : UInt8}, (∀ b ∈ l, b ≠ c) → indexByte (l ++ c :: r) c = (l.length : Int)
  | [], r, c, _ => by simp [indexByte]
  | b :: l, r, c, h => by
    have h1 : (b == c) = false := by simpa using h b (by simp)
    have h2 := firstByte (l := l) (r := r) (c := c) fun x hx => h x (by simp [hx])
    have h3 : ((l.length : Int) == -1) = false := by rw [beq_eq_false_iff_ne]; omega
    rw [List.cons_append]
    simp [indexByte, h1, h2, h3]
theorem ba_ext {s t : ByteArray} (h : s.data.toList = t.data.toList) : s = t := by
  cases s; cases t
  simp only at h
  exact congrArg ByteArray.mk (Array.toList_inj.1 h)
theorem split_one (s : ByteArray) (h : Caps s.data.toList) : countB s ⟨#[32]⟩ = 0 ∧ splitB ⟨#[32]⟩ 0 0 s = [s] := by
  have hi : indexB s ⟨#[32]⟩ = -1 := by
    show index s.data.toList [32] = -1
    rw [index_one]
    exact noByte (caps_ne h (.inl (by decide)))
  exact ⟨countB_miss _ _ hi, rfl⟩
theorem split_two (s u : ByteArray) (h : Caps s.data.toList) (hu : u.data.toList = s.data.toList ++ [32, 49]) : countB u ⟨#[32]⟩ = 1 ∧ ∃ t : ByteArray, t.data.toList = [49] ∧ splitB ⟨#[32]⟩ 0 1 u = [s, t] := by
  have hi : indexB u ⟨#[32]⟩ = (s.data.toList.length : Nat) := by
    show index u.data.toList [32] = _
    rw [index_one, hu]
    exact firstByte (caps_ne h (.inl (by decide)))
  have ht : (u.extract (s.data.toList.length + (⟨#[32]⟩ : ByteArray).size) u.size).data.toList = [49] := by
    rw [extract_to_end, hu]
    show List.drop (s.data.toList.length + 1) (s.data.toList ++ [32, 49]) = [49]
    rw [List.drop_append]
    simp
  have hi2 : indexB (u.extract (s.data.toList.length + (⟨#[32]⟩ : ByteArray).size) u.size) ⟨#[32]⟩ = -1 := by
    show index (u.extract (s.data.toList.length + (⟨#[32]⟩ : ByteArray).size) u.size).data.toList [32] = -1
    rw [ht]; rfl
  refine ⟨?_, _, ht, ?_⟩
  · rw [countB_hit u ⟨#[32]⟩ _ (by decide) hi, countB_miss _ _ hi2]
  · rw [splitB_hit _ _ _ _ _ hi, splitB_zero]
    congr 1
    apply ba_ext
    rw [Nat.add_zero, extract_from_zero, hu, List.take_left]
theorem c8_one (s : ByteArray) (hs : s.size ≤ 300) (h : Caps s.data.toList) (w : World) (hm : Vm.MX w) : Calls Tryz.prog 8 #[.string s, .string ⟨#[32]⟩] w fun e w' => e = .returned (.slice (some ⟨w.heap.size, 0, none⟩) 1 1) ∧ w' = w.alloc (.cells #[.string s] 9) := by
  obtain ⟨m, hm⟩ := hm
  obtain ⟨h1, h2⟩ := split_one s h
  have := Tryz.strings_Split s ⟨#[32]⟩ m w (by omega) hm (by decide)
  rw [h1, h2] at this
  exact this
theorem c8_two (s u : ByteArray) (hs : s.size ≤ 300) (h : Caps s.data.toList) (hu : u.data.toList = s.data.toList ++ [32, 49]) : ∃ t : ByteArray, t.data.toList = [49] ∧ ∀ (w : World), Vm.MX w → Calls Tryz.prog 8 #[.string u, .string ⟨#[32]⟩] w fun e w' => e = .returned (.slice (some ⟨w.heap.size, 0, none⟩) 2 2) ∧ w' = w.alloc (.cells #[.string s, .string t] 9) := by
  obtain ⟨h1, t, h2, h3⟩ := split_two s u h hu
  refine ⟨t, h2, fun w hm => ?_⟩
  obtain ⟨m, hm⟩ := hm
  have hsz : u.size < 4294967281 := by
    have e1 : u.size = s.size + 2 := by rw [size_eq, hu, List.length_append, ← size_eq]; rfl
    omega
  have := Tryz.strings_Split u ⟨#[32]⟩ m w hsz hm (by decide)
  rw [h1, h3] at this
  exact this
theorem ne_low {s : ByteArray} (h : Caps s.data.toList) (c : UInt8) (l : List UInt8) (hc : 90 < c.toNat) : (s.toList == c :: l) = false := by
  rw [beq_eq_false_iff_ne, ByteArray.toList_eq]
  intro e
  have := h c (by rw [e]; simp)
  omega
theorem emp_no {s : ByteArray} (h0 : 0 < s.size) : s.toList.isEmpty = false := by
  rw [ByteArray.toList_eq, List.isEmpty_eq_false_iff]
  intro e
  rw [size_eq, e] at h0
  simp at h0
theorem trim_no {l : List UInt8} (h : Caps l) : trimS l [48, 49, 50, 51, 52, 53, 54, 55, 56, 57] = l := by
  have hin : ∀ b ∈ l, b ∉ [48, 49, 50, 51, 52, 53, 54, 55, 56, (57 : UInt8)] := fun b hb hm => by
    have := h b hb
    simp only [List.mem_cons, List.not_mem_nil, or_false] at hm
    rcases hm with rfl | rfl | rfl | rfl | rfl | rfl | rfl | rfl | rfl | rfl <;> simp at this
  have dw : ∀ m : List UInt8, (∀ b ∈ m, b ∈ l) → m.dropWhile (List.contains [48, 49, 50, 51, 52, 53, 54, 55, 56, 57] ·) = m := fun m hm => by
    cases m with
    | nil => rfl
    | cons b m =>
      rw [List.dropWhile_cons, if_neg]
      intro hc
      exact hin b (hm b (by simp)) (List.contains_iff_mem.1 hc)
  have e1 : trimRightS l [48, 49, 50, 51, 52, 53, 54, 55, 56, 57] = l := by
    unfold trimRightS
    rw [dw l.reverse fun b hb => List.mem_reverse.1 hb, List.reverse_reverse]
  unfold trimS
  rw [e1]
  exact dw l fun b hb => hb
theorem c11_no (s : ByteArray) (hs : s.size ≤ 300) (h0 : 0 < s.size) (h : Caps s.data.toList) (w : World) : Calls Tryz.prog 11 #[.string s] w fun e w' => e = .returned (.tuple #[.int .i64 0, .bool false]) ∧ Below w.heap.size w w' := by
  refine number_no s w (by omega) h0 ?_ (trim_no h) (emp_no h0) ?_
  · have := h (s[0]'h0) (by
      have : s[0]'h0 = s.data.toList[0]'(by rw [← size_eq]; exact h0) := by rfl
      rw [this]
      exact List.getElem_mem _)
    omega
  · have := emp_no h0
    intro e
    rw [e] at this
    simp at this
end Go.Proofs.YtimfoejkeblbeaaGreatDoor
namespace Go.Proofs.YtimfoejkeblbeaaGreatDoor
open Go Go.RowKit
open Go.Vm (Asked MX Grew)
theorem ask0 {w0 w : World} {a : Addr} (k : Asked w0 0 a w) : Calls Tryz.prog 6 #[.pointer (some a), .string ⟨#[116, 105, 99, 107]⟩] w fun e w' => e = .returned (.string ⟨#[111, 107]⟩) ∧ Asked w0 1 a w' := Vm.ask_calls k rfl _ _ (by kernel_rfl) (by decide) (by kernel_rfl)
theorem ask1 {w0 w : World} {a : Addr} (k : Asked w0 1 a w) : Calls Tryz.prog 6 #[.pointer (some a), .string ⟨#[119, 111, 114, 108, 100, 32, 48, 32, 53, 32, 100, 101, 110, 121]⟩] w fun e w' => e = .returned (.string ⟨#[101, 114, 114, 111, 114, 32, 49]⟩) ∧ Asked w0 2 a w' := Vm.ask_calls k rfl _ _ (by kernel_rfl) (by decide) (by kernel_rfl)
theorem ask2 {w0 w : World} {a : Addr} (k : Asked w0 2 a w) : Calls Tryz.prog 6 #[.pointer (some a), .string ⟨#[119, 111, 114, 108, 100, 32, 48, 49, 32, 53, 32, 100, 101, 110, 121]⟩] w fun e w' => e = .returned (.string ⟨#[101, 114, 114, 111, 114, 32, 49]⟩) ∧ Asked w0 3 a w' := Vm.ask_calls k rfl _ _ (by kernel_rfl) (by decide) (by kernel_rfl)
theorem ask3 {w0 w : World} {a : Addr} (k : Asked w0 3 a w) : Calls Tryz.prog 6 #[.pointer (some a), .string ⟨#[119, 111, 114, 108, 100, 32, 49, 32, 53, 32, 109, 97, 121, 98, 101]⟩] w fun e w' => e = .returned (.string ⟨#[101, 114, 114, 111, 114, 32, 49]⟩) ∧ Asked w0 4 a w' := Vm.ask_calls k rfl _ _ (by kernel_rfl) (by decide) (by kernel_rfl)
theorem ask4 {w0 w : World} {a : Addr} (k : Asked w0 4 a w) : Calls Tryz.prog 6 #[.pointer (some a), .string ⟨#[110, 111, 119]⟩] w fun e w' => e = .returned (.string ⟨#[111, 107, 32, 49]⟩) ∧ Asked w0 5 a w' := Vm.ask_calls k rfl _ _ (by kernel_rfl) (by decide) (by kernel_rfl)
theorem ask5 {w0 w : World} {a : Addr} (k : Asked w0 5 a w) : Calls Tryz.prog 6 #[.pointer (some a), .string ⟨#[100, 101, 108, 105, 118, 101, 114, 32, 48]⟩] w fun e w' => e = .returned (.string ⟨#[101, 114, 114, 111, 114, 32, 49]⟩) ∧ Asked w0 6 a w' := Vm.ask_calls k rfl _ _ (by kernel_rfl) (by decide) (by kernel_rfl)
theorem ask6 {w0 w : World} {a : Addr} (k : Asked w0 6 a w) : Calls Tryz.prog 6 #[.pointer (some a), .string ⟨#[100, 114, 111, 112, 32, 48, 48]⟩] w fun e w' => e = .returned (.string ⟨#[101, 114, 114, 111, 114, 32, 49]⟩) ∧ Asked w0 7 a w' := Vm.ask_calls k rfl _ _ (by kernel_rfl) (by decide) (by kernel_rfl)
theorem ask7 {w0 w : World} {a : Addr} (k : Asked w0 7 a w) : Calls Tryz.prog 6 #[.pointer (some a), .string ⟨#[115, 116, 97, 116, 101, 32, 57]⟩] w fun e w' => e = .returned (.string ⟨#[101, 114, 114, 111, 114, 32, 49]⟩) ∧ Asked w0 8 a w' := Vm.ask_calls k rfl _ _ (by kernel_rfl) (by decide) (by kernel_rfl)
theorem ask8 {w0 w : World} {a : Addr} (k : Asked w0 8 a w) : Calls Tryz.prog 6 #[.pointer (some a), .string ⟨#[99, 104, 101, 99, 107, 32, 57]⟩] w fun e w' => e = .returned (.string ⟨#[101, 114, 114, 111, 114, 32, 49]⟩) ∧ Asked w0 9 a w' := Vm.ask_calls k rfl _ _ (by kernel_rfl) (by decide) (by kernel_rfl)
theorem ask9 {w0 w : World} {a : Addr} (k : Asked w0 9 a w) : Calls Tryz.prog 6 #[.pointer (some a), .string ⟨#[116, 105, 99, 107, 32, 49]⟩] w fun e w' => e = .returned (.string ⟨#[101, 114, 114, 111, 114, 32, 49]⟩) ∧ Asked w0 10 a w' := Vm.ask_calls k rfl _ _ (by kernel_rfl) (by decide) (by kernel_rfl)
theorem ask10 {w0 w : World} {a : Addr} (k : Asked w0 10 a w) : Calls Tryz.prog 6 #[.pointer (some a), .string ⟨#[49, 32, 32, 99, 111, 109, 109, 105, 116, 32, 114, 101, 102, 115, 47, 104, 101, 97, 100, 115, 47, 97]⟩] w fun e w' => e = .returned (.string ⟨#[101, 114, 114, 111, 114, 32, 49]⟩) ∧ Asked w0 11 a w' := Vm.ask_calls k rfl _ _ (by kernel_rfl) (by decide) (by kernel_rfl)
set_option maxRecDepth 1000000 in
set_option maxHeartbeats 8000000 in
theorem law_walk (s : ByteArray) (hs63 : s.size ≤ 9223372036854775807) (w : World) (hm : MX w) : Calls Tryz.prog 3 #[.string s] w fun e w' => e = .returned (.bool true) ∧ Grew w w' := by
  go_enter Tryz.func3, Tryz.ntmps3
  go_wp2_with fail
  refine (Vm.new_calls _ hm).mono ?_
  rintro e w0 ⟨a, rfl, k0⟩
  by_cases h300 : 300 < s.size
  · go_wp2_with fail
    refine (Vm.awake_calls _ k0.mx).mono ?_
    rintro e w1 ⟨rfl, g1⟩
    go_wp2_with fail
    go_ret
    exact ⟨rfl, k0.from.trans g1⟩
  clear hm
  go_wp2_with fail
  refine (ask0 (by exact k0)).mono ?_
  rintro e w1 ⟨rfl, k1⟩
  go_wp2_with fail
  refine (ask1 (by exact k1)).mono ?_
  rintro e w2 ⟨rfl, k2⟩
  go_wp2_with fail
  refine (ask2 (by exact k2)).mono ?_
  rintro e w3 ⟨rfl, k3⟩
  go_wp2_with fail
  refine (ask3 (by exact k3)).mono ?_
  rintro e w4 ⟨rfl, k4⟩
  go_wp2_with fail
  refine (ask4 (by exact k4)).mono ?_
  rintro e w5 ⟨rfl, k5⟩
  go_wp2_with fail
  refine (ask5 (by exact k5)).mono ?_
  rintro e w6 ⟨rfl, k6⟩
  go_wp2_with fail
  refine (ask6 (by exact k6)).mono ?_
  rintro e w7 ⟨rfl, k7⟩
  go_wp2_with fail
  refine (ask7 (by exact k7)).mono ?_
  rintro e w8 ⟨rfl, k8⟩
  go_wp2_with fail
  refine (ask8 (by exact k8)).mono ?_
  rintro e w9 ⟨rfl, k9⟩
  go_wp2_with fail
  refine (ask9 (by exact k9)).mono ?_
  rintro e w10 ⟨rfl, k10⟩
  go_wp2_with fail
  refine (ask10 (by exact k10)).mono ?_
  rintro e w11 ⟨rfl, k11⟩
  have hmx := k11.mx
  have hgr := k11.from
  have KX := Lib.hid hmx
  have KG := Lib.hid hgr
  clear hmx hgr
  clear k0 k1 k2 k3 k4 k5 k6 k7 k8 k9 k10 k11
  go_wp2_with fail
  go_loopw [5] (fun k w' => ∃ n : Nat, k = .int .i64 n ∧ n ≤ s.size ∧ (∀ (j : Nat) (hj : j < s.size), j < n → 65 ≤ (s[j]'hj).toNat ∧ (s[j]'hj).toNat ≤ 90) ∧ Grew w w' ∧ MX w') (fun k _ => s.size - (match k with | .int _ n => n.toNat | _ => 0))
  case atStart => exact ⟨0, rfl, Nat.zero_le _, fun _ _ h => absurd h (Nat.not_lt_zero _), KG.out, KX.out⟩
  case round =>
    obtain ⟨n, rfl, hn, hcap, hg, hmx⟩ := hrel
    have HC := Lib.hid hcap
    have HG := Lib.hid hg
    have HM := Lib.hid hmx
    clear hcap hg hmx
    by_cases hlt : n < s.size
    · have hlt' : (n : Int) < s.size := by omega
      by_cases b1 : ((s[n]'hlt).toNat : Int) < 65
      · go_wp2_with fail
        refine (Vm.awake_calls _ HM.out).mono ?_
        rintro e wa ⟨rfl, ga⟩
        have GA := Lib.hid (HG.out.trans ga)
        clear ga
        go_wp2_with fail
        go_ret
        exact ⟨rfl, GA.out⟩
      by_cases b2 : 90 < ((s[n]'hlt).toNat : Int)
      · go_wp2_with fail
        refine (Vm.awake_calls _ HM.out).mono ?_
        rintro e wa ⟨rfl, ga⟩
        have GA := Lib.hid (HG.out.trans ga)
        clear ga
        go_wp2_with fail
        go_ret
        exact ⟨rfl, GA.out⟩
      have hcap' : ∀ (j : Nat) (hj : j < s.size), j < n + 1 → 65 ≤ (s[j]'hj).toNat ∧ (s[j]'hj).toNat ≤ 90 := fun j hj h => by
        by_cases e : j = n
        · subst e; omega
        · exact HC.out j hj (by omega)
      have HC' := Lib.hid hcap'
      clear hcap'
      have hov : (n : Int) + 1 ≤ 9223372036854775807 := by omega
      go_wp2_with fail
      go_roundw
      case rel => exact ⟨n + 1, by simp, by omega, HC'.out, HG.out, HM.out⟩
      case measure => simp; omega
    · have hn' : n = s.size := by omega
      have hle' : ¬ (n : Int) < s.size := by omega
      have hcaps : Caps s.data.toList := fun b hb => by
        obtain ⟨j, hj, rfl⟩ := List.getElem_of_mem hb
        have hj' : j < s.size := by rw [Lib.size_eq]; exact hj
        exact HC.out j hj' (by omega)
      have HK := Lib.hid hcaps
      clear hcaps
      by_cases h0 : s.size = 0
      · have he : s = ⟨#[]⟩ := ba_ext (by
          have : s.data.toList.length = 0 := by rw [← Lib.size_eq]; exact h0
          rw [List.length_eq_zero_iff.1 this])
        subst he
        go_wp2_with fail
        refine (Vm.awake_calls _ HM.out).mono ?_
        rintro e wa ⟨rfl, ga⟩
        have GA := Lib.hid (HG.out.trans ga)
        clear ga
        go_wp2_with fail
        go_ret
        exact ⟨rfl, GA.out⟩
      · have hpos : 0 < s.size := by omega
        have he := emp_no hpos
        have hs300 : s.size ≤ 300 := by omega
        go_wp2_with fail
        refine (do_a _ s wr he (ne_low HK.out _ _ (by decide)) (ne_low HK.out _ _ (by decide)) (ne_low HK.out _ _ (by decide)) (ne_low HK.out _ _ (by decide)) HM.out (c8_one s hs300 HK.out) (c11_no s hs300 hpos HK.out)).mono ?_
        rintro e wa ⟨rfl, ga⟩
        have MA := Lib.hid (HM.out.below ga)
        have GA := Lib.hid (HG.out.trans (Vm.Grew.of_below ga))
        clear ga
        go_wp2_with fail
        have hu : (s ++ (⟨#[32, 49]⟩ : ByteArray)).data.toList = s.data.toList ++ [32, 49] := by simp
        obtain ⟨t, ht, hc8⟩ := c8_two s _ hs300 HK.out hu
        have hpu : 0 < (s ++ (⟨#[32, 49]⟩ : ByteArray)).size := by rw [Lib.size_eq, hu]; simp
        have hpt : 0 < t.size := by rw [Lib.size_eq, ht]; simp
        refine (do_b a s _ t wa he (emp_no hpu) (emp_no hpt) (ne_low HK.out _ _ (by decide)) (ne_low HK.out _ _ (by decide)) (ne_low HK.out _ _ (by decide)) (ne_low HK.out _ _ (by decide)) (ne_low HK.out _ _ (by decide)) (ne_low HK.out _ _ (by decide)) (ne_low HK.out _ _ (by decide)) (ne_low HK.out _ _ (by decide)) (ne_low HK.out _ _ (by decide)) (ne_low HK.out _ _ (by decide)) (ne_low HK.out _ _ (by decide)) (ne_low HK.out _ _ (by decide)) MA.out hc8 ht (c11_no s hs300 hpos HK.out)).mono ?_
        rintro e wb ⟨rfl, gb⟩
        have MB := Lib.hid (MA.out.grew gb)
        have GB := Lib.hid (GA.out.trans gb)
        clear gb hu hc8 ht hpu hpt
        go_wp2_with fail
        refine (Vm.awake_calls _ MB.out).mono ?_
        rintro e wc ⟨rfl, gc⟩
        have GC := Lib.hid (GB.out.trans gc)
        clear gc
        go_wp2_with fail
        go_ret
        exact ⟨rfl, GC.out⟩
end Go.Proofs.YtimfoejkeblbeaaGreatDoor
