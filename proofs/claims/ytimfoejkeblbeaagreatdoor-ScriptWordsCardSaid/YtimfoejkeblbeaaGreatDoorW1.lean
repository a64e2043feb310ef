/- Contracts in the evaluator's words. -/
import Derived.Test.YtimfoejkeblbeaaGreatDoorProg
import Derived.Tactics
import Derived.Tactics2
import Derived.StillTactics
import Derived.Scope
import Derived.FnLit
import Derived.LoopTactic
import Derived.LoopN
import Derived.WalkKit
import Derived.WalkMore
import Derived.Outline
import Derived.Laws.Slices
import Derived.Laws.Pointers
import Derived.Lib.Hide
import Derived.Deep.QuietTactic
import Derived.BigQuiet
import Derived.Below
import Derived.Laws.Strings
import Derived.Laws.IdiomRangeMap
import Derived.Test.YtimfoejkeblbeaaGreatDoorB1
import Derived.Test.YtimfoejkeblbeaaGreatDoorS1
import Derived.Test.YtimfoejkeblbeaaGreatDoorA5
set_option linter.all false
namespace Go.Proofs.YtimfoejkeblbeaaGreatDoor
open Go Go.RowKit
set_option maxRecDepth 1000000 in
theorem numbers_none1 (b : Addr) (w : World) : Calls Tryz.prog 9 #[.slice (some b) 0 0, .int .i64 1] w fun e w' => e = .returned (.tuple #[.slice none 0 0, .bool false]) ∧ w' = w := by
  go_enter Tryz.func9, Tryz.ntmps9
  go_wp2
  refine wp_loop_rounds 1 ?_
  rw [rounds_succ]
  go_wp2
  go_ret2
  exact ⟨rfl, rfl⟩
set_option maxRecDepth 1000000 in
theorem numbers_none2 (b : Addr) (w : World) : Calls Tryz.prog 9 #[.slice (some b) 0 0, .int .i64 2] w fun e w' => e = .returned (.tuple #[.slice none 0 0, .bool false]) ∧ w' = w := by
  go_enter Tryz.func9, Tryz.ntmps9
  go_wp2
  refine wp_loop_rounds 1 ?_
  rw [rounds_succ]
  go_wp2
  go_ret2
  exact ⟨rfl, rfl⟩
/-- No word is empty: one word. -/
theorem contains_one (b : Nat) (s : ByteArray) (w : World) (hs : s.toList.isEmpty = false) (hc : w.cell? ⟨b, 0, none⟩ = some (.string s)) : Calls Tryz.prog 10 #[.slice (some ⟨b, 0, none⟩) 1 1, .string ⟨#[]⟩] w fun e w' => e = .returned (.bool false) ∧ w' = w := by
  go_enter Tryz.func10, Tryz.ntmps10
  go_wp2
  refine wp_loop_rounds 2 ?_
  rw [rounds_succ]
  go_wp2
  rw [rounds_succ]
  go_wp2
  go_ret
  exact ⟨rfl, rfl⟩
end Go.Proofs.YtimfoejkeblbeaaGreatDoor
namespace Go.Proofs.YtimfoejkeblbeaaGreatDoor
open Go Go.RowKit

/-- How long the slice is to which an entry's value points. -/
def lenAt (w : World) (e : MapEntry) : Nat :=
  match e.val with
  | .pointer (some p) => (match w.cell? p with
    | some (.slice _ l _) => l
    | _ => 0)
  | _ => 0
def seenLen (w : World) (seen : Array Nat) : List MapEntry → Nat
  | [] => 0
  | x :: l => (if seen.contains x.born then lenAt w x else 0) + seenLen w seen l
theorem contains_push' (a : Array Nat) (b c : Nat) : (a.push b).contains c = (a.contains c || c == b) := by
  rw [Bool.eq_iff_iff]; simp
theorem seenLen_other (w : World) (seen : Array Nat) (b : Nat) : ∀ (es : List MapEntry), b ∉ es.map (·.born) → seenLen w (seen.push b) es = seenLen w seen es
  | [], _ => rfl
  | x :: l, h => by
    have h1 : x.born ≠ b := fun e => h (by simp [e])
    have ih := seenLen_other w seen b l fun e => h (by simp [e])
    have h2 : (x.born == b) = false := by simpa using h1
    simp only [seenLen, contains_push', h2, Bool.or_false, ih]
theorem seenLen_push (w : World) (seen : Array Nat) (e : MapEntry) (hs : seen.contains e.born = false) : ∀ (es : List MapEntry), (es.map (·.born)).Nodup → e ∈ es → seenLen w (seen.push e.born) es = seenLen w seen es + lenAt w e
  | x :: l, hn, he => by
    have hn' : x.born ∉ l.map (·.born) ∧ (l.map (·.born)).Nodup := List.nodup_cons.1 hn
    rcases List.mem_cons.1 he with rfl | h
    · simp only [seenLen, contains_push', hs, beq_self_eq_true, Bool.or_true, if_true, Bool.false_eq_true, if_false, seenLen_other w seen e.born l hn'.1]
      omega
    · have hx : (x.born == e.born) = false := by
        simp only [beq_eq_false_iff_ne, ne_eq]
        intro hc
        exact hn'.1 (hc ▸ List.mem_map.2 ⟨e, h, rfl⟩)
      simp only [seenLen, contains_push', hx, Bool.or_false, seenLen_push w seen e hs l hn'.2 h]
      omega
theorem seenLen_none (w : World) : ∀ es : List MapEntry, seenLen w #[] es = 0
  | [] => rfl
  | x :: l => by simp [seenLen, seenLen_none w l]
theorem seenLen_full (w : World) (seen : Array Nat) : ∀ (es : List MapEntry), (∀ x ∈ es, seen.contains x.born = true) → seenLen w seen es = (es.map (lenAt w)).sum
  | [], _ => rfl
  | x :: l, h => by
    have h1 := h x (by simp)
    simp only [seenLen, h1, if_true, List.map_cons, List.sum_cons, seenLen_full w seen l fun y hy => h y (by simp [hy])]
theorem seenLen_le (w : World) (seen : Array Nat) : ∀ (es : List MapEntry), seenLen w seen es ≤ (es.map (lenAt w)).sum
  | [] => Nat.le_refl _
  | x :: l => by
    have := seenLen_le w seen l
    simp only [seenLen, List.map_cons, List.sum_cons]
    split <;> omega
theorem lenAt_alike {w w1 : World} (h : w1.heap = w.heap) (e : MapEntry) : lenAt w1 e = lenAt w e := by
  unfold lenAt World.cell?
  rw [h]

set_option maxRecDepth 1000000 in
set_option maxHeartbeats 1000000 in
theorem used_walk (ba oa : Nat) (bm : Nat) (es : Array MapEntry) (clock : Nat) (w : World) (hf : w.cell? ⟨ba, oa + 1, none⟩ = some (.map (some bm))) (hb : w.heap[bm]? = some (.map es clock)) (h1 : ∀ x ∈ es.toList, x.born < clock) (h2 : (es.toList.map (·.born)).Nodup)
    (hv : ∀ x ∈ es.toList, ∃ bp op b l c, x.val = .pointer (some ⟨bp, op, none⟩) ∧ w.cell? ⟨bp, op, none⟩ = some (.slice b l c)) (hsum : (es.toList.map (lenAt w)).sum ≤ 1099511627776) :
    Calls Tryz.prog 422 #[.pointer (some ⟨ba, oa, none⟩)] w fun e w' => e = .returned (.int .i64 ((es.toList.map (lenAt w)).sum : Nat)) ∧ ∃ (w1 : World) (seen : Array Nat), w1.Alike w ∧ w' = w1.alloc (.mapIter (some bm) clock seen clock) := by
  have hrg := run_range_map (P := Tryz.prog) w 124 9 183 bm es clock Tryz.underlying124 hb
  have H2 := Lib.hid h2
  have H1 := Lib.hid h1
  have HV := Lib.hid hv
  have HS := Lib.hid hsum
  clear h1 h2 hv hsum
  go_enter Tryz.func422, Tryz.ntmps422
  go_wp2
  go_loopw [3, 5] (fun s _ w' => ∃ (w1 : World) (seen : Array Nat), w1.Alike w ∧ w' = w1.alloc (.mapIter (some bm) clock seen clock) ∧ s = .int .i64 (seenLen w seen es.toList : Nat)) (fun _ _ w' => (leftOf es (w'.iterSeen w.heap.size)).size)
  case atStart => exact ⟨w, #[], ⟨rfl, rfl, rfl⟩, rfl, by rw [seenLen_none]; rfl⟩
  case round =>
    obtain ⟨w1, seen, hal, rfl, rfl⟩ := hrel
    have hsz : w1.heap.size = w.heap.size := by rw [hal.1]
    have hb1 : w1.heap[bm]? = some (.map es clock) := by rw [hal.1]; exact hb
    have law := run_next_map (P := Tryz.prog) w1 0 bm clock clock seen es clock hb1 H1.out (Nat.le_refl _)
    rw [hsz] at law
    rcases law with ⟨h0, hrun⟩ | ⟨e, he, w2, hal2, hrun⟩
    · have hnx : ∀ ty, (Instr.next (.pointer (some ⟨w.heap.size, 0, none⟩)) false ty).run Tryz.prog (w1.alloc (.mapIter (some bm) clock seen clock)) = _ := fun _ => hrun
      have HAL := Lib.hid hal
      have H0 := Lib.hid h0
      clear hal h0 hrun
      go_wp2
      go_ret
      rw [seenLen_full w seen _ (all_seen es seen H0.out)]
      exact ⟨rfl, w1, seen, HAL.out, rfl⟩
    · obtain ⟨bp, op, b, l, c, hval, hcell⟩ := HV.out e (mem_left he).1
      rw [hval] at hrun
      have hnx : ∀ ty, (Instr.next (.pointer (some ⟨w.heap.size, 0, none⟩)) false ty).run Tryz.prog (w1.alloc (.mapIter (some bm) clock seen clock)) = _ := fun _ => hrun
      have hsz2 : w2.heap.size = w.heap.size := by rw [hal2.1, hal.1]
      have hb2 : w2.heap[bm]? = some (.map es clock) := by rw [hal2.1]; exact hb1
      have hen := run_entry_map (P := Tryz.prog) w2 bm clock seen es clock e hb2 (mem_left he).1 H2.out
      rw [hsz2, hval] at hen
      have hlt : bp < w.heap.size := World.block_lt_of_cell? w _ hcell
      have hcell2 : (w2.alloc (.mapIter (some bm) clock (seen.push e.born) clock)).cell? ⟨bp, op, none⟩ = some (.slice b l c) := by
        rw [World.cell?_alloc_lt _ _ _ (by rw [hsz2]; exact hlt)]
        unfold World.cell? at hcell ⊢
        rw [hal2.1, hal.1]; exact hcell
      have hlen : lenAt w e = l := by
        unfold lenAt
        rw [hval]
        show (match w.cell? ⟨bp, op, none⟩ with | some (.slice _ l _) => l | _ => 0) = l
        rw [hcell]
      have hpush := seenLen_push w seen e (mem_left he).2 es.toList H2.out (mem_left he).1
      have hle := seenLen_le w (seen.push e.born) es.toList
      have hs2 := HS.out
      rw [hpush, hlen] at hle
      have hbd : seenLen w seen es.toList + l ≤ 1099511627776 := by omega
      have HP := Lib.hid hpush
      have HL := Lib.hid hlen
      have HA := Lib.hid hal
      have HA2 := Lib.hid hal2
      have HE := Lib.hid he
      have HZ := Lib.hid hsz
      have HZ2 := Lib.hid hsz2
      clear hpush hlen hal hal2 he hsz hsz2 hrun hcell hle hs2 hb1 hb2 hval
      go_wp2
      go_roundw
      case rel =>
        refine ⟨w2, seen.push e.born, ⟨HA2.out.1.trans HA.out.1, HA2.out.2.1.trans HA.out.2.1, HA2.out.2.2.trans HA.out.2.2⟩, rfl, ?_⟩
        rw [HP.out, HL.out]
        simp
      case measure =>
        rw [← HZ2.out, World.iterSeen_alloc, HZ2.out, ← HZ.out, World.iterSeen_alloc]
        exact left_shrinks es seen e HE.out
end Go.Proofs.YtimfoejkeblbeaaGreatDoor
namespace Go.Vm
open Go Go.Proofs Go.Proofs.YtimfoejkeblbeaaGreatDoor
theorem rising_spec {c : Nat} : ∀ {l : List AE} {b : Nat}, rising c b l = true → (∀ e ∈ l, b ≤ e.born ∧ e.born < c) ∧ (l.map (·.born)).Nodup
  | [], b, _ => ⟨(fun e h => by cases h), List.nodup_nil⟩
  | e :: l, b, h => by
    simp only [rising, Bool.and_eq_true] at h
    obtain ⟨⟨h1, h2⟩, h3⟩ := h
    have h1 : b ≤ e.born := by simpa using h1
    have h2 : e.born + 1 ≤ c := by simpa using h2
    obtain ⟨h4, h5⟩ := rising_spec h3
    refine ⟨fun x hx => ?_, ?_⟩
    · rcases List.mem_cons.1 hx with rfl | hx
      · omega
      · have := h4 x hx; omega
    · rw [List.map_cons, List.nodup_cons]
      refine ⟨fun hm => ?_, h5⟩
      obtain ⟨x, hx, he⟩ := List.mem_map.1 hm
      have := h4 x hx
      omega
section
variable {N : Names} {G : Tr (Tr AV)} {F : Nat → Option Obj} {w0 : World} {μ : Mp} {h : AH} {w : World}
theorem usedS_spec (r : R N G F w0 μ h w) : ∀ {l : List AE} {xs : List MapEntry} {s n : Nat}, usedS h l s = some n → l.length = xs.length → (∀ (j : Nat) (e : AE) (x : MapEntry), l[j]? = some e → xs[j]? = some x → V N μ h.nx e.val x.val) →
    (∀ x ∈ xs, ∃ bp op b l c, x.val = .pointer (some ⟨bp, op, none⟩) ∧ w.cell? ⟨bp, op, none⟩ = some (.slice b l c)) ∧ n = s + (xs.map (lenAt w)).sum
  | [], [], s, n, hu, _, _ => by cases hu; exact ⟨(fun x hx => by cases hx), rfl⟩
  | [], _ :: _, s, n, hu, hl, _ => by cases hl
  | _ :: _, [], s, n, hu, hl, _ => by cases hl
  | e :: l, x :: xs, s, n, hu, hl, hv => by
    have hlen : l.length = xs.length := by simpa using hl
    have hv0 := hv 0 e x rfl rfl
    have hv' : ∀ (j : Nat) (e : AE) (x : MapEntry), l[j]? = some e → xs[j]? = some x → V N μ h.nx e.val x.val := fun j e' x' h1 h2 => hv (j + 1) e' x' (by simpa using h1) (by simpa using h2)
    simp only [usedS] at hu
    split at hu
    case h_2 => cases hu
    rename_i i o hval
    rw [hval] at hv0
    obtain ⟨hi, hx⟩ := hv0.ptr_inv
    have fin : ∀ (b : Option Addr) (k c s' : Nat), w.cell? ⟨μ.blk i, μ.bas i + o, none⟩ = some (.slice b k c) → s' = s + k → usedS h l s' = some n →
        (∀ y ∈ x :: xs, ∃ bp op b l c, y.val = .pointer (some ⟨bp, op, none⟩) ∧ w.cell? ⟨bp, op, none⟩ = some (.slice b l c)) ∧ n = s + ((x :: xs).map (lenAt w)).sum := fun b k c s' hc hs hu' => by
      obtain ⟨q1, q2⟩ := usedS_spec r hu' hlen hv'
      refine ⟨fun y hy => ?_, ?_⟩
      · rcases List.mem_cons.1 hy with rfl | hy
        · exact ⟨_, _, b, k, c, hx, hc⟩
        · exact q1 y hy
      · have : lenAt w x = k := by
          unfold lenAt
          rw [hx]
          show (match w.cell? ⟨μ.blk i, μ.bas i + o, none⟩ with | some (.slice _ l _) => l | _ => 0) = k
          rw [hc]
        rw [List.map_cons, List.sum_cons, this, q2, hs]; omega
    split at hu
    · rename_i hload
      obtain ⟨_, y, hy, hvy, _⟩ := r.load hload
      cases hvy
      exact fin none 0 0 s hy rfl hu
    · rename_i hload
      obtain ⟨_, y, hy, hvy, _⟩ := r.load hload
      rw [nat_eq] at hu
      cases hvy with
      | slc i' o' l' c' x' hi' hl' hx' => exact fin _ _ _ _ hy rfl hu
    · rename_i hload
      obtain ⟨_, y, hy, hvy, _⟩ := r.load hload
      rw [nat_eq] at hu
      cases hvy with
      | slo i' o' l' s' c' x' hi' hl' ht' hx' => exact fin _ _ _ _ hy rfl hu
    · cases hu
end
theorem used_gives {N : Names} {G : Tr (Tr AV)} (hp : plainF Tryz.prog 422 = true) : ∀ vs h v h', usedO vs h = some (v, h') → GivX Tryz.prog N G 422 vs h v h' := by
  intro vs h v h' hk
  unfold usedO at hk
  obtain ⟨x, rfl, hk⟩ := arg1_some hk
  obtain ⟨i, o, rfl, hk⟩ := asP_some hk
  obtain ⟨m, hm, hk⟩ := obind_some.1 hk
  split at hk
  case h_2 => cases hk
  rename_i m
  obtain ⟨es, c, hg, hk⟩ := mobj_some hk
  obtain ⟨h1, hk⟩ := grd_of hk
  obtain ⟨n, h2, hk⟩ := obind_some.1 hk
  obtain ⟨h3, hk⟩ := grd_of hk
  cases hk
  refine ⟨hp, fun F w0 args w μ hv hR => ?_⟩
  obtain ⟨X, hX, hvx⟩ := hv.one_inv
  obtain ⟨hi, rfl⟩ := hvx.ptr_inv
  have hargs : args = #[.pointer (some ⟨μ.blk i, μ.bas i + o, none⟩)] := Array.toList_inj.1 hX
  subst hargs
  obtain ⟨_, y, hy, hvy, _⟩ := hR.load hm
  cases hvy with
  | map _ hmn =>
    obtain ⟨en, hen, hsz, hent⟩ := hR.obj m _ hg
    obtain ⟨r1, r2⟩ := rising_spec h1
    have hget : ∀ (j : Nat) (e : AE) (x : MapEntry), es[j]? = some e → en.toList[j]? = some x → V N μ h.nx e.val x.val ∧ x.born = e.born := fun j e x a b => let ⟨_, q, s⟩ := hent j e x a (by simpa using b); ⟨q, s⟩
    have hlen : es.length = en.toList.length := by simpa using hsz.symm
    obtain ⟨u1, u2⟩ := usedS_spec hR h2 hlen fun j e x a b => (hget j e x a b).1
    have hbm : en.toList.map (·.born) = es.map (·.born) := by
      apply List.ext_getElem?
      intro j
      rw [List.getElem?_map, List.getElem?_map]
      cases he : es[j]? with
      | none => rw [List.getElem?_eq_none (by rw [← hlen]; exact List.getElem?_eq_none_iff.1 he)]; rfl
      | some e =>
        have hj : j < en.toList.length := by rw [← hlen]; exact (List.getElem?_eq_some_iff.1 he).1
        rw [List.getElem?_eq_getElem hj]
        have := (hget j e _ he (List.getElem?_eq_getElem hj)).2
        exact congrArg some this
    rw [Nat.zero_add] at u2
    have hle : n ≤ maxB := by simpa using h3
    have hwalk := used_walk (μ.blk i) (μ.bas i + o) (μ.blk m) en c w hy hen (fun x hx => by
      have : x.born ∈ en.toList.map (·.born) := List.mem_map.2 ⟨x, hx, rfl⟩
      rw [hbm] at this
      obtain ⟨e, he, hb⟩ := List.mem_map.1 this
      rw [← hb]; exact (r1 e he).2) (by rw [hbm]; exact r2) u1 (by rw [← u2]; exact hle)
    refine hwalk.mono fun e w' hq => ?_
    obtain ⟨rfl, w1, seen, hal, rfl⟩ := hq
    refine ⟨.int .i64 (n : Nat), μ, by rw [u2], .refl, Nat.le_refl _, hR.grew ⟨hal.2.1, hal.2.2, ?_, fun k hk => ?_⟩, .int _ _⟩
    · have : (w1.alloc (.mapIter (some (μ.blk m)) c seen c)).heap.size = w1.heap.size + 1 := by simp
      rw [this, hal.1]; omega
    · rw [RowKit.Below.heap_alloc w1 _ k (by rw [hal.1]; exact hk), hal.1]
end Go.Vm
namespace Go.Vm
open Go Go.Proofs Go.Proofs.YtimfoejkeblbeaaGreatDoor Go.ChangeMaps Go.MapKept
open Go.WideElems (Fit rd rg)
/-- A key's bytes. -/
def kb (p : Nat × Nat) : List UInt8 := sb p.1 p.2
def keyB (e : AE) : List UInt8 := match e.key with
  | .str l n => sb l n
  | _ => []
theorem ins_perm (l n : Nat) : ∀ r : List (Nat × Nat), (ins l n r).Perm ((l, n) :: r)
  | [] => .refl _
  | (l', n') :: r => by
    unfold ins
    cases slt' l' n' l n with
    | false => exact .refl _
    | true => exact ((ins_perm l n r).cons _).trans (.swap _ _ _)
theorem keysOf_spec {es : List AE} : ∀ {r : List (Nat × Nat)}, keysOf es = some r → (r.map kb).Perm (es.map keyB) ∧ ∀ e ∈ es, ∃ l n, e.key = .str l n ∧ l ≤ maxB ∧ (l, n) ∈ r := by
  induction es with
  | nil => intro r h; cases h; exact ⟨.refl _, fun e he => by cases he⟩
  | cons e es ih =>
    intro r h
    unfold keysOf at h
    split at h
    case h_2 => cases h
    rename_i l n hk
    obtain ⟨h1, h⟩ := grd_of h
    obtain ⟨r', h2, h⟩ := obind_some.1 h
    cases h
    obtain ⟨p1, p2⟩ := ih h2
    have hp := ins_perm l n r'
    refine ⟨(hp.map kb).trans ?_, fun x hx => ?_⟩
    · rw [List.map_cons, List.map_cons]
      have : keyB e = kb (l, n) := by unfold keyB kb; rw [hk]
      rw [this]
      exact p1.cons _
    · rcases List.mem_cons.1 hx with rfl | hx
      · exact ⟨l, n, hk, by simpa using h1, hp.mem_iff.2 List.mem_cons_self⟩
      · obtain ⟨l', n', q1, q2, q3⟩ := p2 x hx
        exact ⟨l', n', q1, q2, hp.mem_iff.2 (List.mem_cons_of_mem _ q3)⟩
theorem keysOf_from {es : List AE} : ∀ {r : List (Nat × Nat)}, keysOf es = some r → ∀ p ∈ r, ∃ e ∈ es, e.key = .str p.1 p.2 := by
  induction es with
  | nil => intro r h; cases h; exact fun p hp => by cases hp
  | cons e es ih =>
    intro r h
    unfold keysOf at h
    split at h
    case h_2 => cases h
    rename_i l n hk
    obtain ⟨h1, h⟩ := grd_of h
    obtain ⟨r', h2, h⟩ := obind_some.1 h
    cases h
    intro p hp
    rcases List.mem_cons.1 ((ins_perm l n r').mem_iff.1 hp) with rfl | hp
    · exact ⟨e, List.mem_cons_self, hk⟩
    · obtain ⟨x, q1, q2⟩ := ih h2 p hp
      exact ⟨x, List.mem_cons_of_mem _ q1, q2⟩
theorem strict_pair : ∀ {r : List (Nat × Nat)}, (∀ p ∈ r, p.2 < 256 ^ p.1) → strictK r = true → (r.map kb).Pairwise (· < ·)
  | [], _, _ => .nil
  | [p], _, _ => List.pairwise_singleton _ _
  | p :: q :: r, hb, h => by
    unfold strictK at h
    simp only [Bool.and_eq_true] at h
    have ih := strict_pair (r := q :: r) (fun x hx => hb x (List.mem_cons_of_mem _ hx)) h.2
    have hpq : kb p < kb q := by
      have h1 := h.1
      rw [slt_eq (hb p List.mem_cons_self) (hb q (List.mem_cons_of_mem _ List.mem_cons_self)), bytesLess_eq] at h1
      exact of_decide_eq_true h1
    rw [List.map_cons]
    refine List.pairwise_cons.2 ⟨fun x hx => ?_, ih⟩
    rw [List.map_cons] at hx ih
    rcases List.mem_cons.1 hx with rfl | hx
    · exact hpq
    · exact List.lt_trans hpq ((List.pairwise_cons.1 ih).1 x hx)
/-- Sorting a permutation of what rises gives what rises. -/
theorem sort_of_rising {L ss : List (List UInt8)} (hL : L.Pairwise (· < ·)) (hp : ss.Perm L) : ss.mergeSort (fun x y => decide (x ≤ y)) = L := by
  have e1 : ss.mergeSort leB = L.mergeSort leB := mergeSort_of_perm hp
  have tr : ∀ a b c : List UInt8, leB a b = true → leB b c = true → leB a c = true := fun a b c h1 h2 => by simp only [leB, decide_eq_true_eq] at *; exact List.le_trans h1 h2
  have to : ∀ a b : List UInt8, (leB a b || leB b a) = true := fun a b => by simp only [leB, Bool.or_eq_true, decide_eq_true_eq]; exact List.le_total a b
  refine e1.trans (List.Perm.eq_of_pairwise (le := fun a b => leB a b = true) (fun a b _ _ h1 h2 => ?_) (List.pairwise_mergeSort tr to L) (hL.imp fun {a b} hab => ?_) (List.mergeSort_perm L leB))
  · simp only [leB, decide_eq_true_eq] at h1 h2
    exact List.le_antisymm h1 h2
  · simp only [leB, decide_eq_true_eq]
    exact List.le_of_lt hab
theorem strict_nodup {L : List (List UInt8)} (hL : L.Pairwise (· < ·)) : L.Nodup := hL.imp fun {a b} hab e => by subst e; exact List.lt_irrefl _ hab
end Go.Vm
namespace Go.Vm
open Go Go.RowKit Go.Proofs Go.Proofs.YtimfoejkeblbeaaGreatDoor Go.ChangeMaps Go.MapKept
open Go.WideElems (Fit rd rg)
theorem c163 (mb : Option Nat) (W : World) : Calls Tryz.prog 163 #[.map mb] W fun e w' => e = .returned (.func (.func 241) #[] #[.pointer (some ⟨W.heap.size, 0, none⟩)]) ∧ w' = W.alloc (.cells #[.map mb] 124) := callsIn_wide.1 (Tryz.maps_Keys_163 mb W)
theorem c162 (b nn : Nat) (D0 : DataW Unit) (R : Value → Option (DataW Unit × List MemPlace)) (w : World) (hown : w.ownsMap Tryz.prog 9 R b nn D0) (hmax : Maps.size D0 ≤ maxLen) (hbytes : Maps.size D0 * 16 ≤ 140737488355328) :
    Calls Tryz.prog 162 #[.func (.func 241) #[] #[.pointer (some ⟨w.heap.size, 0, none⟩)]] (w.alloc (.cells #[.map (some b)] 124)) fun e w' => ∃ (v : Value) (ss : List (List UInt8)), e = .returned v ∧ ss.Perm (strKeys D0) ∧
      w'.ownsRow (w.alloc (.cells #[.map (some b)] 124)).heap.size 9 1 v ss.length ((ss.mergeSort (fun x y => decide (x ≤ y))).map encStr) ∧ (v = .slice none 0 0 ↔ ss = []) ∧ Below (w.alloc (.cells #[.map (some b)] 124)).heap.size (w.alloc (.cells #[.map (some b)] 124)) w' :=
  callsIn_wide.1 (Tryz.slices_Sorted_keys_162_163 b nn D0 R w hown hmax hbytes)
set_option maxRecDepth 1000000 in
theorem sorted_walk (ba oa b nn : Nat) (D0 : DataW Unit) (R : Value → Option (DataW Unit × List MemPlace)) (w : World) (hf : w.cell? ⟨ba, oa + 1, none⟩ = some (.map (some b))) (hown : w.ownsMap Tryz.prog 9 R b nn D0) (hmax : Maps.size D0 ≤ maxLen) (hbytes : Maps.size D0 * 16 ≤ 140737488355328) :
    Calls Tryz.prog 97 #[.pointer (some ⟨ba, oa, none⟩)] w fun e w' => ∃ (v : Value) (ss : List (List UInt8)), e = .returned v ∧ ss.Perm (strKeys D0) ∧
      w'.ownsRow (w.heap.size + 1) 9 1 v ss.length ((ss.mergeSort (fun x y => decide (x ≤ y))).map encStr) ∧ (v = .slice none 0 0 ↔ ss = []) ∧ Below w.heap.size w w' := by
  have H1 := Lib.hid hown
  have H2 := Lib.hid hmax
  have H3 := Lib.hid hbytes
  clear hown hmax hbytes
  go_enter Tryz.func97, Tryz.ntmps97
  go_wp2_with fail
  refine (c163 _ _).mono ?_
  rintro e w' ⟨rfl, rfl⟩
  go_wp2_with fail
  refine (c162 b nn D0 R w H1.out H2.out H3.out).mono ?_
  rintro e w' ⟨v, ss, rfl, hS, hrow, hnil, hb⟩
  have K1 := Lib.hid hS
  have K2 := Lib.hid hrow
  have K3 := Lib.hid hnil
  have K4 := Lib.hid hb
  clear hS hrow hnil hb
  go_wp2_with fail
  go_ret
  have e : (w.alloc (.cells #[.map (some b)] 124)).heap.size = w.heap.size + 1 := by simp
  have h4 := K4.out
  rw [e] at h4
  have hA : Below w.heap.size w (w.alloc (.cells #[.map (some b)] 124)) := (Below.refl _ _).alloc (Nat.le_refl _) _
  have k2 := K2.out
  rw [e] at k2
  exact ⟨v, ss, rfl, K1.out, k2, K3.out, hA.trans (h4.mono (Nat.le_succ _))⟩

theorem maxB_le : maxB ≤ maxLen := by unfold maxB maxLen; omega
theorem mul16 {n : Nat} (h : n ≤ maxB) : n * 16 ≤ 140737488355328 := by
  have : n ≤ 1099511627776 := h
  omega
theorem key_str {N : Names} {μ : Mp} {n l m : Nat} {x : Value} (h : V N μ n (.str l m) x) : ∃ s : ByteArray, x = .string s ∧ m < 256 ^ l ∧ s.data.toList = sb l m := by
  cases h with
  | str _ _ s hm hs => exact ⟨s, rfl, hm, hs⟩
/-- The entries' keys, as the map's reading tells them. -/
theorem perm_keys {N : Names} {μ : Mp} {n : Nat} {es : List AE} {en : Array MapEntry} (hlen : en.size = es.length)
    (hk : ∀ (j : Nat) (e : AE) (x : MapEntry), es[j]? = some e → en[j]? = some x → V N μ n e.key x.key)
    (hs : ∀ e ∈ es, ∃ l m, e.key = .str l m ∧ l ≤ maxB) :
    (∀ x ∈ en.toList, ∃ y, rd Tryz.prog 9 (fun _ => some ((.nil : DataW Unit), [])) x = some y) ∧
    en.toList.map (fun x => strOf (rg Tryz.prog 9 (fun _ => some ((.nil : DataW Unit), [])) x).1) = es.map keyB ∧ (∀ x ∈ en.toList, ∃ e ∈ es, x.key = encStr (keyB e)) ∧ en.toList.map (·.key) = es.map (fun e => encStr (keyB e)) := by
  have one : ∀ (j : Nat) (e : AE) (x : MapEntry), es[j]? = some e → en[j]? = some x → x.key = encStr (keyB e) ∧ rd Tryz.prog 9 (fun _ => some ((.nil : DataW Unit), [])) x = some (.string (keyB e), .nil) := fun j e x he hx => by
    have hv := hk j e x he hx
    obtain ⟨l, m, h1, h2⟩ := hs e (List.mem_of_getElem? he)
    rw [h1] at hv
    obtain ⟨s, h3, h4, h5⟩ := key_str hv
    have h6 : keyB e = s.data.toList := by unfold keyB; rw [h1]; exact h5.symm
    have hsz : s.size ≤ maxLen := by
      have : s.size = s.data.toList.length := by rw [Array.length_toList]; rfl
      rw [this, h5, sb_length]
      exact Nat.le_trans h2 maxB_le
    refine ⟨by rw [h3, h6], ?_⟩
    have hu : Tryz.prog.underlying 9 = some .string := Tryz.underlying9
    unfold Go.WideElems.rd
    have : keyOf Tryz.prog 9 x.key = some (.string (keyB e)) := by
      rw [h3, h6]
      simp [keyOf, hu, mapKey, hsz]
    rw [this]
    rfl
  have at_ : ∀ x ∈ en.toList, ∃ (j : Nat) (e : AE), es[j]? = some e ∧ en[j]? = some x := fun x hx => by
    obtain ⟨j, hj, rfl⟩ := List.getElem_of_mem hx
    have hj' : j < es.length := by rw [← hlen]; simpa using hj
    exact ⟨j, es[j], List.getElem?_eq_getElem hj', by simp⟩
  refine ⟨fun x hx => ?_, ?_, fun x hx => ?_, ?_⟩
  · obtain ⟨j, e, h1, h2⟩ := at_ x hx
    exact ⟨_, (one j e x h1 h2).2⟩
  · apply List.ext_getElem?
    intro j
    rw [List.getElem?_map, List.getElem?_map]
    cases he : es[j]? with
    | none => rw [List.getElem?_eq_none (by have := List.getElem?_eq_none_iff.1 he; simp; omega)]; rfl
    | some e =>
      have hj : j < en.size := by rw [hlen]; exact (List.getElem?_eq_some_iff.1 he).1
      have hx : en[j]? = some en[j] := Array.getElem?_eq_getElem hj
      have hx' : en.toList[j]? = some en[j] := by simpa using hx
      rw [hx']
      show some (strOf (rg Tryz.prog 9 (fun _ => some ((.nil : DataW Unit), [])) en[j]).1) = some (keyB e)
      unfold Go.WideElems.rg
      rw [(one j e _ he hx).2]; rfl
  · obtain ⟨j, e, h1, h2⟩ := at_ x hx
    exact ⟨e, List.mem_of_getElem? h1, (one j e x h1 h2).1⟩
  · apply List.ext_getElem?
    intro j
    rw [List.getElem?_map, List.getElem?_map]
    cases he : es[j]? with
    | none => rw [List.getElem?_eq_none (by have := List.getElem?_eq_none_iff.1 he; simp; omega)]; rfl
    | some e =>
      have hj : j < en.size := by rw [hlen]; exact (List.getElem?_eq_some_iff.1 he).1
      have hx : en[j]? = some en[j] := Array.getElem?_eq_getElem hj
      have hx' : en.toList[j]? = some en[j] := by simpa using hx
      rw [hx']
      exact congrArg some (one j e _ he hx).1
theorem sort_gives {N : Names} {G : Tr (Tr AV)} (hp : plainF Tryz.prog 97 = true) : ∀ vs h v h', sortO vs h = some (v, h') → GivX Tryz.prog N G 97 vs h v h' := by
  intro vs h v h' hk
  unfold sortO at hk
  obtain ⟨x, rfl, hk⟩ := arg1_some hk
  obtain ⟨i, o, rfl, hk⟩ := asP_some hk
  obtain ⟨m, hm, hk⟩ := obind_some.1 hk
  split at hk
  case h_2 => cases hk
  rename_i m
  obtain ⟨es, c, hg, hk⟩ := mobj_some hk
  obtain ⟨h1, hk⟩ := grd_of hk
  obtain ⟨r, h2, hk⟩ := obind_some.1 hk
  obtain ⟨h3, hk⟩ := grd_of hk
  simp only [Bool.and_eq_true] at h3
  obtain ⟨h3, h4⟩ := h3
  have h4 : es.length ≤ maxB := by simpa using h4
  refine ⟨hp, fun F w0 args w μ hv hR => ?_⟩
  obtain ⟨X, hX, hvx⟩ := hv.one_inv
  obtain ⟨hi, rfl⟩ := hvx.ptr_inv
  have hargs : args = #[.pointer (some ⟨μ.blk i, μ.bas i + o, none⟩)] := Array.toList_inj.1 hX
  subst hargs
  obtain ⟨_, y, hy, hvy, _⟩ := hR.load hm
  cases hvy with
  | map _ hmn =>
    obtain ⟨en, hen, hsz, hent⟩ := hR.obj m _ hg
    obtain ⟨r1, r2⟩ := rising_spec h1
    obtain ⟨k1, k2⟩ := keysOf_spec h2
    obtain ⟨q1, q2, q3, q4⟩ := perm_keys (N := N) (μ := μ) (n := h.nx) hsz (fun j e x a b => (hent j e x a b).1) (fun e he => let ⟨l, m, a, b, _⟩ := k2 e he; ⟨l, m, a, b⟩)
    have hbnd : ∀ p ∈ r, p.2 < 256 ^ p.1 := fun p hp => by
      obtain ⟨e, he, hke⟩ := keysOf_from h2 p hp
      obtain ⟨j, hj, rfl⟩ := List.getElem_of_mem he
      have hj' : j < en.size := by rw [hsz]; exact hj
      have := (hent j _ _ (List.getElem?_eq_getElem hj) (Array.getElem?_eq_getElem hj')).1
      rw [hke] at this
      obtain ⟨_, _, h5, _⟩ := key_str this
      exact h5
    have hstrict := strict_pair hbnd h3
    have hbm : en.toList.map (·.born) = es.map (·.born) := by
      apply List.ext_getElem?
      intro j
      rw [List.getElem?_map, List.getElem?_map]
      cases he : es[j]? with
      | none => rw [List.getElem?_eq_none (by have := List.getElem?_eq_none_iff.1 he; simp; omega)]; rfl
      | some e =>
        have hj : j < en.size := by rw [hsz]; exact (List.getElem?_eq_some_iff.1 he).1
        have hx : en[j]? = some en[j] := Array.getElem?_eq_getElem hj
        have hx' : en.toList[j]? = some en[j] := by simpa using hx
        rw [hx']
        exact congrArg some (hent j e _ he hx).2.2
    have hnd : (es.map keyB).Nodup := (k1.nodup_iff).1 (strict_nodup hstrict)
    have hstamp : Stamped en c := by
      refine ⟨fun x hx => ?_, by rw [hbm]; exact r2, ?_⟩
      · have : x.born ∈ en.toList.map (·.born) := List.mem_map.2 ⟨x, hx, rfl⟩
        rw [hbm] at this
        obtain ⟨e, he, hb⟩ := List.mem_map.1 this
        rw [← hb]; exact (r1 e he).2
      · rw [q4]
        have : es.map (fun e => encStr (keyB e)) = (es.map keyB).map encStr := by rw [List.map_map]; rfl
        rw [this]
        exact List.pairwise_map.2 (hnd.imp fun {a b} hab e => hab (encStr_inj e))
    have hsz' : en.size ≤ maxB := by rw [hsz]; exact h4
    have hfit : Fit Tryz.prog 9 (fun _ => some ((.nil : DataW Unit), [])) en c := ⟨Nat.le_trans hsz' maxB_le, hstamp, q1⟩
    have hown : w.ownsMap Tryz.prog 9 (fun _ => some ((.nil : DataW Unit), [])) (μ.blk m) en.size (.map ((en.toList.map (rg Tryz.prog 9 (fun _ => some ((.nil : DataW Unit), [])))).foldr DataW.insert [])) := ⟨en, c, hen, hfit, Nat.le_refl _, rfl⟩
    have hsize : Maps.size (DataW.map ((en.toList.map (rg Tryz.prog 9 (fun _ => some ((.nil : DataW Unit), [])))).foldr DataW.insert [])) = en.size := by simp [Maps.size, length_sorted]
    refine (sorted_walk (μ.blk i) (μ.bas i + o) _ _ _ _ w hy hown (by rw [hsize]; exact Nat.le_trans hsz' maxB_le) (by rw [hsize]; exact mul16 hsz')).mono fun e w' hq => ?_
    obtain ⟨V0, ss, rfl, hS, hrow, hnil, hB⟩ := hq
    have hperm : ss.Perm (r.map kb) := by
      refine hS.trans (List.Perm.trans ?_ k1.symm)
      rw [← q2]
      have : (en.toList.map (rg Tryz.prog 9 (fun _ => some ((.nil : DataW Unit), [])))).map (fun p => strOf p.1) = en.toList.map (fun x => strOf (rg Tryz.prog 9 (fun _ => some ((.nil : DataW Unit), [])) x).1) := by simp only [List.map_map, Function.comp_def]
      rw [← this]
      exact (Go.WideShapes.sorted_perm _).map _
    rw [sort_of_rising hstrict hperm] at hrow
    have hlen : ss.length = r.length := by rw [hperm.length_eq, List.length_map]
    have hgr : Grew w w' := ⟨hB.os, hB.output, hB.size, fun k hk => hB.block k hk⟩
    cases r with
    | nil =>
      cases hk
      have h0 : ss = [] := List.length_eq_zero_iff.1 hlen
      have := hnil.2 h0
      subst this
      exact ⟨_, μ, rfl, .refl, Nat.le_refl _, hR.grew hgr, .nils⟩
    | cons p r =>
      obtain ⟨⟨j, h''⟩, hq1, hk⟩ := obind_some.1 hk
      cases hk
      obtain ⟨hl1, hl2⟩ := hrow
      rcases hl2 with ⟨_, h0⟩ | ⟨g, cap, cur, rfl, hge, hcell, hle, hcm, hcs, htk⟩
      · rw [hlen] at h0; cases h0
      · unfold hrow at hq1
        obtain ⟨cc, o1, o2, o3⟩ := ofList_spec hq1
        have hcap : cur.size = cap := by rw [hcs, Nat.mul_one]
        have hn : ss.length * 1 = (p :: r).length := by rw [hlen, Nat.mul_one]
        rw [hn] at htk
        have hcur : ∀ (j : Nat) (q : Nat × Nat), (p :: r)[j]? = some q → cur[j]? = some (encStr (kb q)) := fun j q hj => by
          have hjl : j < (p :: r).length := (List.getElem?_eq_some_iff.1 hj).1
          have e1 : (cur.toList.take (p :: r).length)[j]? = cur.toList[j]? := by rw [List.getElem?_take]; rw [if_pos hjl]
          have e2 : cur.toList[j]? = cur[j]? := by simp
          rw [← e2, ← e1, htk, List.getElem?_map, List.getElem?_map, hj]; rfl
        have hge' : w.heap.size ≤ g := by omega
        obtain ⟨rfl, hnx, hR'⟩ := hR.adopt hgr o3 g 0 cap hge' rfl rfl fun h2 hh2 => by
          refine ⟨cur, 0, 0, by rw [Mp.ext_blk]; exact hcell, by rw [Mp.ext_tot]; exact hcap, by rw [Mp.ext_bas, List.length_map]; omega, by rw [Mp.ext_bas]; exact ⟨fun _ => rfl, fun h => absurd h (by omega), fun h => absurd h (by omega)⟩, fun _ j v hj hv => ?_⟩
          rw [o1] at hv
          rw [List.getElem?_map] at hv
          cases hpj : (p :: r)[j]? with
          | none => rw [hpj] at hv; cases hv
          | some q =>
            rw [hpj] at hv
            cases hv
            refine ⟨encStr (kb q), by rw [Mp.ext_bas, Nat.zero_add]; exact hcur j q hpj, ?_, rfl⟩
            exact .str _ _ _ (hbnd q (List.mem_of_getElem? hpj)) (by simp [encStr, kb])
        refine ⟨_, _, rfl, μ.ext_agree _ _ _ _, by show h.nx ≤ h''.nx; rw [hnx]; exact Nat.le_succ _, hR', ?_⟩
        rw [hlen]
        have := V.slo (N := N) (μ := μ.ext h.nx g 0 cap) (n := h''.nx) h.nx 0 (p :: r).length 1 cap 0 (by rw [hnx]; exact Nat.lt_succ_self _) (by rw [← hlen]; exact hle) (by rw [Mp.ext_bas, Mp.ext_tot]; omega) (fun _ => by rw [Mp.ext_bas])
        rw [Mp.ext_blk] at this
        exact this
end Go.Vm
namespace Go.Vm
open Go Go.RowKit Go.Proofs
theorem mxl_cell {N : Names} {G : Tr (Tr AV)} {F : Nat → Option Obj} {w0 : World} {μ : Mp} {h : AH} {w : World} (r : R N G F w0 μ h w) : ∃ m, w.cell? ⟨0, 0, none⟩ = some (.int .i64 m) := by
  obtain ⟨arr, t, f, m, h1, h2⟩ := r.mxl
  have h3 : w.heap[0]? = some (.cells arr t f) := r.fr 0 _ h1
  refine ⟨m, ?_⟩
  unfold World.cell?
  simp [h3, h2]
theorem idx_gives {N : Names} {G : Tr (Tr AV)} (hp : plainF Tryz.prog 116 = true) : ∀ vs h v h', idxO vs h = some (v, h') → GivX Tryz.prog N G 116 vs h v h' := by
  intro vs h v h' hk
  obtain ⟨l, n, l', n', rfl, rfl, hl, hv⟩ := idxO_some hk
  refine ⟨hp, fun F w0 args w μ hvs hR => ?_⟩
  obtain ⟨x, xs, e1, v1, vr⟩ := hvs.cons_inv
  obtain ⟨y, ys, e2, v2, vr2⟩ := vr.cons_inv
  have e3 := vr2.nil_inv
  subst e3
  subst e2
  cases v1 with
  | str _ _ s hm hs =>
    cases v2 with
    | str _ _ t hm2 ht =>
      have hargs : args = #[.string s, .string t] := Array.toList_inj.1 e1
      subst hargs
      obtain ⟨m, hcell⟩ := mxl_cell hR
      have hsz : s.size < 4294967281 := by
        have : s.size = s.data.toList.length := by rw [Array.length_toList]; rfl
        rw [this, hs, sb_length]; exact hl
      refine (Tryz.stringslite_Index s t m w hsz hcell).mono fun e w' hq => ?_
      obtain ⟨rfl, rfl⟩ := hq
      refine ⟨_, μ, rfl, .refl, Nat.le_refl _, hR, ?_⟩
      rw [hv hm2, hs, ht]
      exact .int _ _
end Go.Vm
