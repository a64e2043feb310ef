/- An evaluator of the model in its own words: its code, its heap, what stands for what. -/
import Derived.Calls
import Derived.Laws.World
import Derived.Laws.Sem
import Derived.Laws.Cells
import Derived.Below
set_option linter.all false
namespace Go.Vm
open Go
noncomputable section

/-- A trie over numbers, the lowest bit first. -/
inductive Tr (α : Type) : Type
  | e : Tr α
  | n (l : Tr α) (v : Option α) (r : Tr α) : Tr α

def bsel {β : Type} (b : Bool) (x y : β) : β := Bool.casesOn b y x
def grd {β : Type} (b : Bool) (x : Option β) : Option β := Bool.casesOn b none x
def obind {α β : Type} (x : Option α) (f : α → Option β) : Option β := Option.casesOn x none f

def dpt : Nat := 40
/-- The package-level variable of which it is known that it holds a whole number. -/
def mxG : Nat := 0
def Tr.nget {α : Type} (l : Tr α) (v : Option α) (r : Tr α) (gl gr : Nat → Option α) (k : Nat) : Option α :=
  @Bool.rec (fun _ => Option α) (@Bool.rec (fun _ => Option α) (gl (Nat.shiftRight k 1)) (gr (Nat.shiftRight k 1)) (Nat.beq (Nat.land k 1) 0)) v (Nat.beq k 0)
/-- What stands at a number. -/
def Tr.get {α : Type} (t : Tr α) : Nat → Option α := @Tr.rec α (fun _ => Nat → Option α) (fun _ => none) Tr.nget t

/-- A way laid anew. -/
def Tr.way {α β : Type} (d : Nat) : Nat → Option α → (Tr α → Option β) → Option β :=
  @Nat.rec (fun _ => Nat → Option α → (Tr α → Option β) → Option β) (fun _ _ _ => none)
    (fun _ ih k a f => @Bool.rec (fun _ => Option β)
      (@Bool.rec (fun _ => Option β) (ih (Nat.shiftRight k 1) a (fun l => f (.n l none .e))) (ih (Nat.shiftRight k 1) a (fun r => f (.n .e none r))) (Nat.beq (Nat.land k 1) 0))
      (f (.n .e a .e)) (Nat.beq k 0)) d
def Tr.eset {α β : Type} (k : Nat) (a : Option α) (f : Tr α → Option β) : Option β := Tr.way (Nat.succ k) k a f
def Tr.nset {α β : Type} (l : Tr α) (v : Option α) (r : Tr α) (sl sr : Nat → Option α → (Tr α → Option β) → Option β) (k : Nat) (a : Option α) (f : Tr α → Option β) : Option β :=
  @Bool.rec (fun _ => Option β)
    (@Bool.rec (fun _ => Option β) (sl (Nat.shiftRight k 1) a (fun l' => f (.n l' v r))) (sr (Nat.shiftRight k 1) a (fun r' => f (.n l v r'))) (Nat.beq (Nat.land k 1) 0))
    (f (.n l a r)) (Nat.beq k 0)
/-- A trie with one place changed, handed on whole. -/
def Tr.setK {α β : Type} (_ : Nat) (t : Tr α) : Nat → Option α → (Tr α → Option β) → Option β :=
  @Tr.rec α (fun _ => Nat → Option α → (Tr α → Option β) → Option β) Tr.eset Tr.nset t

/-- Forces a number. -/
def nat! {β : Type} (n : Nat) (k : Nat → Option β) : Option β := Nat.rec (motive := fun _ => Option β) (k 0) (fun m _ => k (Nat.succ m)) n
def int! {β : Type} (i : Int) (k : Int → Option β) : Option β := Int.casesOn i (fun n => nat! n fun n => k (Int.ofNat n)) (fun n => nat! n fun n => k (Int.negSucc n))
def bool! {β : Type} (b : Bool) (k : Bool → Option β) : Option β := Bool.casesOn b (k false) (k true)

/-- Functions as values: a function, a method by its number. -/
inductive FnV where
  | func (f : Nat)
  | meth (m : Nat)
  deriving DecidableEq

/-- Values. -/
inductive AV : Type
  | bool (b : Bool)
  | int (k : IntKind) (n : Int)
  | str (l n : Nat)
  | nilp
  | ptr (i o : Nat)
  | nils
  | slc (i o l c : Nat)
  | slo (i o l s : Nat)
  | nilm
  | map (i : Nat)
  | fn (f : FnV) (x y : List AV)
  | nilf
  | ifc (t : Nat) (v : AV)
  | nili
  | agg (l : List AV)
  | tup (l : List AV)
  | glob (g o : Nat)
  deriving Inhabited

def AV.und : AV := .tup []
def AV.one : AV → Bool
  | .agg _ | .tup _ => false
  | _ => true
def AV.cells : AV → List AV
  | .agg l => l
  | v => [v]

/-- An entry of a map. -/
structure AE where
  key : AV
  val : AV
  born : Nat

/-- Blocks. A row of cells: what is known of its first n cells; which are frozen; the group (0: none); may it be written. -/
inductive AObj : Type
  | cells (c : Tr AV) (n e fl fh tag : Nat) (ro : Bool)
  | map (es : List AE) (clock : Nat)
  | siter (l n pos : Nat)
  | miter (m : Option Nat) (since : Nat) (seen : List Nat) (last : Nat)

/-- The heap: blocks, groups (the latest block; the first that may be read), the next number. -/
structure AH where
  t : Tr AObj
  g : Tr (Nat × Nat)
  nx : Nat

structure Env where
  loc : List (Nat × AV)
  var : Tr AV

inductive Opd where
  | loc (t : Nat)
  | var (t : Nat)
  | con (v : AV)
  | glob (g : Nat)
  | func (f : Nat)

inductive Dst where
  | no
  | loc (t : Nat)
  | var (t : Nat)

/-- How values of a type are held against each other. -/
inductive EqD where
  | no
  | bas
  | ptr
  | ifc
  | sl
  | mp
  | fnc
  | st (l : List (Nat × Option Nat × EqD))

inductive Kd where
  | mov
  | pick
  | box (t : Nat)
  | alloc (t : Nat) (z : List AV)
  | bld (z : List AV) (ps : List (Nat × Nat))
  | bsl (t s n : Nat) (z : List AV) (ps : List Nat)
  | ld (s : Option Nat)
  | st (s : Nat)
  | nilchk
  | bin (op : BinOp) (e : EqD) (c : Bool)
  | un (op : UnOp)
  | cint (k : IntKind)
  | cs2b (t : Nat)
  | cb2s
  | cid
  | ci2s
  | mki (t : Nat)
  | mkf (f : FnV) (m : Nat)
  | mkm
  | mks (t s b : Nat) (z : List AV)
  | sls (s : Nat) (lo hi mx : Bool)
  | slt (lo hi : Bool)
  | sla (n s : Nat) (lo hi mx : Bool)
  | fda (o : Nat)
  | fld (o : Nat) (s : Option Nat)
  | ixs (s : Nat)
  | ixa (n s : Nat)
  | ixt
  | ixv (n s : Nat) (agg : Bool)
  | lkp (z : AV) (ok st : Bool)
  | mup (st : Bool)
  | rngs
  | rngm
  | nxs
  | nxm
  | tas (t : Nat) (z : AV) (ok : Bool)
  | ext (i : Nat)
  | call (f : Nat)
  | callv
  | inv (m : Nat)
  | app (t s b : Nat) (str : Bool)
  | appz (t s b : Nat) (z : List AV)
  | len (k : Nat)
  | cap
  | cpy (s : Nat) (str : Bool)
  | clr (s : Nat) (z : List AV)
  | del (st : Bool)
  | mx
  | mn
  | usd
  | ust (e : Nat)
  | cmk
  | xib
  | xcnt
  | xidx (g : Nat)
  | xcmp
  | xmnz (t : Nat)
  | xne
  | xcl
  | bad

structure COp where
  d : Dst
  g : Option (Opd × Bool)
  k : Kd
  xs : List Opd

inductive ACode where
  | skip
  | reg (ops : List COp)
  | drw (ops : List COp) (chk : List (Nat × Nat))
  | seq (a b : ACode)
  | cond (c : Opd) (a b : ACode)
  | block (id : Nat) (b : ACode)
  | loop (b : ACode)
  | exit (id : Nat)
  | scope (b : ACode)
  | scp (b c : ACode)
  | label (l : Nat)
  | goto (l : Nat)
  | ret
  | bad

inductive Rv where
  | var (t : Nat)
  | cell (t : Nat) (s : Option Nat)

structure AFn where
  body : ACode
  np : Nat
  env0 : Tr AV
  res : List Rv

/-! Strings -/
def sidx (l n i : Nat) : Nat := Nat.land (Nat.shiftRight n (Nat.mul 8 (Nat.sub (Nat.sub l 1) i))) 255
def ssub (l n a b : Nat) : Nat := Nat.mod (Nat.shiftRight n (Nat.mul 8 (Nat.sub l b))) (Nat.shiftLeft 1 (Nat.mul 8 (Nat.sub b a)))
def scat (n l' n' : Nat) : Nat := Nat.add (Nat.shiftLeft n (Nat.mul 8 l')) n'
def slt' (l n l' n' : Nat) : Bool :=
  let a := Nat.shiftLeft n (Nat.mul 8 l')
  let b := Nat.shiftLeft n' (Nat.mul 8 l)
  Bool.casesOn (Nat.beq a b) (Nat.ble (Nat.succ a) b) (Nat.ble (Nat.succ l) l')
def seq' (l n l' n' : Nat) : Bool := Bool.casesOn (Nat.beq l l') false (Nat.beq n n')

def str! {β : Type} (l n : Nat) (k : AV → Option β) : Option β := nat! l fun l => nat! n fun n => k (.str l n)

/-! Integers -/
def kbeq (a b : IntKind) : Bool :=
  match a, b with
  | .i8, .i8 => true | .i16, .i16 => true | .i32, .i32 => true | .i64, .i64 => true
  | .u8, .u8 => true | .u16, .u16 => true | .u32, .u32 => true | .u64, .u64 => true
  | _, _ => false
/-- The greatest number of a kind. -/
def imax (k : IntKind) : Nat :=
  match k with
  | .i8 => 127 | .i16 => 32767 | .i32 => 2147483647 | .i64 => 9223372036854775807
  | .u8 => 255 | .u16 => 65535 | .u32 => 4294967295 | .u64 => 18446744073709551615
def mkN (k : IntKind) (n : Nat) : Option AV := nat! n fun n => some (.int k (Int.ofNat n))
def mkI (k : IntKind) (x : Int) : Option AV := int! (k.wrap x) fun r => some (.int k r)
def mkB (b : Bool) : Option AV := bool! b fun r => some (.bool r)
/-- A natural number as one of a kind. -/
def wrapN (k : IntKind) (n : Nat) : Option AV := Bool.casesOn (Nat.ble n (imax k)) (mkI k (Int.ofNat n)) (mkN k n)
def wrapI (k : IntKind) (x : Int) : Option AV := Int.casesOn x (wrapN k) (fun m => mkI k (Int.negSucc m))
def i2 {β : Type} (x y : Int) (f : Nat → Nat → Option β) (g : Int → Int → Option β) : Option β :=
  Int.casesOn x (fun a => Int.casesOn y (fun b => f a b) (fun b => g (Int.ofNat a) (Int.negSucc b))) (fun a => g (Int.negSucc a) y)
def iadd (k : IntKind) (x y : Int) : Option AV := i2 x y (fun a b => wrapN k (Nat.add a b)) (fun x y => mkI k (x + y))
def isub (k : IntKind) (x y : Int) : Option AV := i2 x y (fun a b => Bool.casesOn (Nat.ble b a) (mkI k (Int.ofNat a - Int.ofNat b)) (wrapN k (Nat.sub a b))) (fun x y => mkI k (x - y))
def imul (k : IntKind) (x y : Int) : Option AV := i2 x y (fun a b => wrapN k (Nat.mul a b)) (fun x y => mkI k (x * y))
def iquo (k : IntKind) (x y : Int) : Option AV := i2 x y (fun a b => Bool.casesOn (Nat.beq b 0) (wrapN k (Nat.div a b)) none) (fun x y => Bool.casesOn (decide (y = 0)) (mkI k (x.tdiv y)) none)
def irem (k : IntKind) (x y : Int) : Option AV := i2 x y (fun a b => Bool.casesOn (Nat.beq b 0) (mkN k (Nat.mod a b)) none) (fun x y => Bool.casesOn (decide (y = 0)) (int! (x.tmod y) fun r => some (.int k r)) none)
def ieq (x y : Int) : Option Bool := i2 x y (fun a b => some (Nat.beq a b)) (fun x y => some (decide (x = y)))
def ile (x y : Int) : Option Bool := i2 x y (fun a b => some (Nat.ble a b)) (fun x y => some (decide (x ≤ y)))
def isame (k k' : IntKind) (a b : Int) : Option Bool := Bool.casesOn (kbeq k k') none (ieq a b)
def bit2 (k : IntKind) (f : Nat → Nat → Nat) (x y : Int) : Option AV :=
  let m : Int := (2 : Int) ^ k.bits
  mkI k (Int.ofNat (f (x % m).toNat (y % m).toNat))
def ibit (f : Nat → Nat → Nat) (k : IntKind) (x y : Int) : Option AV :=
  i2 x y (fun a b => Bool.casesOn (Nat.ble a (imax k)) (bit2 k f (Int.ofNat a) (Int.ofNat b)) (Bool.casesOn (Nat.ble b (imax k)) (bit2 k f (Int.ofNat a) (Int.ofNat b)) (mkN k (f a b)))) (bit2 k f)
def iandn (k : IntKind) (x y : Int) : Option AV :=
  let m : Int := (2 : Int) ^ k.bits
  mkI k (Int.ofNat (Nat.land (x % m).toNat (Nat.xor (y % m).toNat (2 ^ k.bits - 1))))
def ishl (k : IntKind) (x : Int) (n : Nat) : Option AV := Int.casesOn x (fun a => wrapN k (Nat.shiftLeft a n)) (fun a => mkI k (Int.negSucc a * ((2 ^ n : Nat) : Int)))
def ishr (k : IntKind) (x : Int) (n : Nat) : Option AV := Int.casesOn x (fun a => mkN k (Nat.shiftRight a n)) (fun a => int! ((Int.negSucc a).fdiv ((2 ^ n : Nat) : Int)) fun r => some (.int k r))
def bnot (b : Option Bool) : Option Bool := obind b fun b => some (Bool.casesOn b true false)
def ibin (op : BinOp) (k : IntKind) (x y : Int) : Option AV :=
  match op with
  | .add => iadd k x y
  | .sub => isub k x y
  | .mul => imul k x y
  | .quo => iquo k x y
  | .rem => irem k x y
  | .eql => obind (ieq x y) mkB
  | .neq => obind (bnot (ieq x y)) mkB
  | .leq => obind (ile x y) mkB
  | .geq => obind (ile y x) mkB
  | .lss => obind (bnot (ile y x)) mkB
  | .gtr => obind (bnot (ile x y)) mkB
  | .and => ibit Nat.land k x y
  | .or => ibit Nat.lor k x y
  | .xor => ibit Nat.xor k x y
  | .andNot => iandn k x y
  | .shl => none
  | .shr => none
/-- At most so far does a shift go. -/
def shlim (k : IntKind) (m : Nat) : Nat := Bool.casesOn (Nat.ble m k.bits) k.bits m
def ishf (l : Bool) (k : IntKind) (x y : Int) : Option AV :=
  Int.casesOn y (fun m => nat! (shlim k m) fun n => bsel l (ishl k x n) (ishr k x n)) (fun _ => none)
def sbin (op : BinOp) (l n l' n' : Nat) : Option AV :=
  match op with
  | .add => grd (Nat.ble (Nat.add l l') 1099511627776) (str! (Nat.add l l') (scat n l' n') some)
  | .eql => mkB (seq' l n l' n')
  | .neq => mkB (!seq' l n l' n')
  | .lss => mkB (slt' l n l' n')
  | .leq => mkB (slt' l n l' n' || seq' l n l' n')
  | .gtr => mkB (!(slt' l n l' n' || seq' l n l' n'))
  | .geq => mkB (!slt' l n l' n')
  | _ => none

def lget (l : List AV) (i : Nat) : Option AV := l[i]?

/-- A part of a row of cells, as one value. -/
def part? (l : List AV) (o : Nat) (s : Option Nat) : Option AV :=
  match s with
  | none => lget l o
  | some n => if o + n ≤ l.length then some (.agg ((l.drop o).take n)) else none

/-- Two values of one type: like or not. -/
def eqB (x y : AV) : Option Bool :=
  match x, y with
  | .bool a, .bool b => some (a == b)
  | .int k a, .int k' b => isame k k' a b
  | .str l n, .str l' n' => some (seq' l n l' n')
  | _, _ => none
def eqP (x y : AV) : Option Bool :=
  match x, y with
  | .nilp, .nilp => some true
  | .nilp, .ptr _ _ => some false
  | .ptr _ _, .nilp => some false
  | .ptr i o, .ptr j q => Bool.casesOn (Nat.beq i j) none (some (Nat.beq o q))
  | _, _ => none
def eqN (e : EqD) (x y : AV) : Option Bool :=
  match e, x, y with
  | .ifc, .nili, .nili => some true
  | .ifc, .nili, .ifc _ _ => some false
  | .ifc, .ifc _ _, .nili => some false
  | .sl, .nils, .nils => some true
  | .sl, .nils, .slc .. => some false
  | .sl, .nils, .slo .. => some false
  | .sl, .slc .., .nils => some false
  | .sl, .slo .., .nils => some false
  | .mp, .nilm, .nilm => some true
  | .mp, .nilm, .map _ => some false
  | .mp, .map _, .nilm => some false
  | .fnc, .nilf, .nilf => some true
  | .fnc, .nilf, .fn .. => some false
  | .fnc, .fn .., .nilf => some false
  | _, _, _ => none
def eqL (f : EqD → AV → AV → Option Bool) (l l' : List AV) : List (Nat × Option Nat × EqD) → Option Bool
  | [] => some true
  | (o, s, d) :: r => match part? l o s, part? l' o s with
    | some a, some b => (match f d a b with
      | some true => eqL f l l' r
      | x => x)
    | _, _ => none
def aeq : Nat → EqD → AV → AV → Option Bool
  | 0, _, _, _ => none
  | d + 1, e, x, y =>
    match e with
    | .bas => eqB x y
    | .ptr => eqP x y
    | .st l => (match x, y with | .agg a, .agg b => eqL (aeq d) a b l | _, _ => none)
    | e => eqN e x y

def aeql (e : EqD) (c : Bool) (x y : AV) : Option Bool :=
  match x, y, c with
  | .nili, .nili, false => none
  | x, y, _ => aeq 4 e x y
def bothI (x y : AV) (f : IntKind → Int → IntKind → Int → Option AV) (g : Option AV) : Option AV :=
  match x with
  | .int k a => (match y with | .int k' b => f k a k' b | _ => none)
  | _ => g
def bothS (x y : AV) (f : Nat → Nat → Nat → Nat → Option AV) (g : Option AV) : Option AV :=
  match x with
  | .str l n => (match y with | .str l' n' => f l n l' n' | _ => none)
  | _ => g
def abin (op : BinOp) (e : EqD) (c : Bool) (x y : AV) : Option AV :=
  match op with
  | .shl => bothI x y (fun k a _ b => ishf true k a b) none
  | .shr => bothI x y (fun k a _ b => ishf false k a b) none
  | .eql => bothI x y (fun k a k' b => obind (isame k k' a b) mkB) (bothS x y (sbin .eql) (obind (aeql e c x y) mkB))
  | .neq => bothI x y (fun k a k' b => obind (bnot (isame k k' a b)) mkB) (bothS x y (sbin .neq) (obind (bnot (aeql e c x y)) mkB))
  | op => bothI x y (fun k a k' b => Bool.casesOn (kbeq k k') none (ibin op k a b)) (bothS x y (sbin op) none)

def aun (op : UnOp) (x : AV) : Option AV :=
  match op, x with
  | .neg, .int k n => isub k 0 n
  | .xor, .int k n => bit2 k Nat.xor (if k.signed then -1 else k.max) n
  | .not, .bool b => mkB (!b)
  | _, _ => none

/-! The heap -/
/-- May block i of group tag be read? -/
def readable (h : AH) (i tag : Nat) : Bool :=
  Bool.casesOn (Nat.beq tag 0) (match h.g.get tag with | some (_, f) => Nat.ble f i | none => false) true
def lastOf (h : AH) (i tag : Nat) : Bool :=
  Bool.casesOn (Nat.beq tag 0) (match h.g.get tag with | some (a, _) => Nat.beq a i | none => false) true

def hload (h : AH) (i o : Nat) : Option AV :=
  match h.t.get i with
  | some (.cells c n _ _ _ tag _) => Bool.casesOn (Nat.ble (Nat.succ o) n) none (Bool.casesOn (readable h i tag) none (c.get o))
  | _ => none
def hloads (h : AH) (i : Nat) : Nat → Nat → List AV → Option (List AV)
  | _, 0, acc => some acc.reverse
  | o, m + 1, acc => match hload h i o with | some v => hloads h i (o + 1) m (v :: acc) | none => none

/-- Cells that are there are written. -/
def setAll {β : Type} (n : Nat) : List AV → Nat → Tr AV → (Tr AV → Option β) → Option β
  | [], _, c, f => f c
  | v :: vs, o, c, f => Bool.casesOn (Nat.ble (Nat.succ o) n) none (Bool.casesOn v.one none (c.setK dpt o (some v) fun c => setAll n vs (Nat.succ o) c f))
def setTag (h : AH) (i tag : Nat) (t : Tr AObj) : Option AH :=
  Bool.casesOn (Nat.beq tag 0) (h.g.setK dpt tag (some (i, i)) fun g => some { h with t := t, g := g }) (some { h with t := t })
def frOk (fl fh o m : Nat) : Bool := Bool.casesOn (Nat.ble fh o) (Nat.ble (Nat.add o m) fl) true
def hstoreC (h : AH) (i o : Nat) (vs : List AV) (c : Tr AV) (n e fl fh tag : Nat) : Option AH :=
  grd (lastOf h i tag) (grd (frOk fl fh o vs.length)
    (setAll n vs o c fun c => h.t.setK dpt i (some (.cells c n e fl fh tag false)) fun t => setTag h i tag t))
def hstore (h : AH) (i o : Nat) (vs : List AV) : Option AH :=
  match vs with
  | [] => some h
  | vs => match h.t.get i with
    | some (.cells c n e fl fh tag false) => hstoreC h i o vs c n e fl fh tag
    | _ => none

/-- A row of cells laid anew. -/
def ofList {β : Type} (vs : List AV) (f : Tr AV → Nat → Option β) : Option β := nat! vs.length fun n => setAll n vs 0 .e fun c => f c n
def hnew (h : AH) (o : AObj) : Option (Nat × AH) :=
  h.t.setK dpt h.nx (some o) fun t => nat! (Nat.succ h.nx) fun nx => some (h.nx, { h with t := t, nx := nx })
def hrow (h : AH) (t : Nat) (vs : List AV) : Option (Nat × AH) :=
  ofList vs fun c n => hnew h (.cells c n t 0 0 0 false)

/-- A row of like cells: all keys of so many bits. -/
def zt (d : Nat) (z : AV) : Tr AV := Nat.rec (motive := fun _ => Tr AV) (.n .e (some z) .e) (fun _ t => .n t (some z) t) d
def zbits (m : Nat) : Nat := Nat.succ (Nat.log2 m)
def hzero (h : AH) (t m : Nat) (z : List AV) : Option (Nat × AH) :=
  match z with
  | [v] => if v.one = true then hnew h (.cells (zt (zbits m) v) m t 0 0 0 false) else none
  | _ => if z.length = 0 then (if m = 0 then hnew h (.cells .e 0 t 0 0 0 false) else none)
         else hrow h t ((List.replicate (m / z.length) z).flatten)

/-- The cells of a slice or the bytes of a string. -/
def sbl : Nat → Nat → List AV → List AV
  | 0, _, acc => acc
  | l + 1, n, acc => sbl l (Nat.shiftRight n 8) (.int .u8 (Int.ofNat (Nat.land n 255)) :: acc)
def elemsC (h : AH) (i o l s : Nat) : Option (Nat × List AV) := obind (hloads h i o (Nat.mul l s) []) fun vs => some (l, vs)
def elems (h : AH) (s : Nat) (x : AV) : Option (Nat × List AV) :=
  match x with
  | .nils => some (0, [])
  | .slc i o l _ => elemsC h i o l s
  | .slo i o l s' => grd (Nat.beq s s') (elemsC h i o l s)
  | .str l n => some (l, sbl l n [])
  | _ => none

def maxB : Nat := 1099511627776
def mkslo (i o l m s : Nat) (h : AH) : Option (AV × AH) := nat! (Nat.add l m) fun lm => some (.slo i o lm s, h)

/-- The block behind an append whose room is not known. -/
def happG (h : AH) (i l s m : Nat) (c : Tr AV) (n e fl fh tag k : Nat) (c' : Tr AV) : Option (AV × AH) :=
  Bool.casesOn (Nat.beq tag 0)
    (obind (h.g.get tag) fun p => h.g.setK dpt tag (some (h.nx, p.2)) fun g =>
      obind (hnew { h with g := g } (.cells c' k e fl fh tag false)) fun q => mkslo q.1 0 l m s q.2)
    (h.t.setK dpt i (some (.cells c n e fl fh (Nat.succ i) false)) fun t => h.g.setK dpt (Nat.succ i) (some (h.nx, 0)) fun g =>
      obind (hnew { h with t := t, g := g } (.cells c' k e fl fh (Nat.succ i) false)) fun q => mkslo q.1 0 l m s q.2)
def happS (h : AH) (i l s m : Nat) (vs : List AV) (c : Tr AV) (n e fl fh tag : Nat) (c0 : Tr AV) : Option (AV × AH) :=
  nat! (Nat.add (Nat.mul l s) vs.length) fun k => setAll k vs (Nat.mul l s) c0 fun c' => happG h i l s m c n e fl fh tag k c'
def happC (h : AH) (i o l s m : Nat) (vs : List AV) (c : Tr AV) (n e fl fh tag : Nat) : Option (AV × AH) :=
  grd (Nat.beq (Nat.add o (Nat.mul l s)) n) (grd (Nat.ble fh fl) (grd (lastOf h i tag) (grd (readable h i tag)
    (Bool.casesOn (Nat.beq o 0)
      (obind (hloads h i o (Nat.mul l s) []) fun old => ofList old fun c0 _ => happS h i l s m vs c n e fl fh tag c0)
      (happS h i l s m vs c n e fl fh tag c)))))

def aappNil (h : AH) (t s b m : Nat) (vs : List AV) : Option (AV × AH) :=
  Bool.casesOn (Nat.beq m 0) (grd (Nat.ble (Nat.mul m b) maxB) (grd (Nat.ble m maxB) (obind (hrow h t vs) fun q => some (.slo q.1 0 m s, q.2)))) (some (.nils, h))
def aappIn (h : AH) (i o l m s : Nat) (vs : List AV) (f : Nat → AV) : Option (AV × AH) :=
  obind (hstore h i (Nat.add o (Nat.mul l s)) vs) fun h => nat! (Nat.add l m) fun lm => some (f lm, h)
def aappGrow (h : AH) (t s b i o l m : Nat) (vs : List AV) : Option (AV × AH) :=
  grd (Nat.ble (Nat.mul (Nat.add l m) b) maxB) (grd (Nat.ble (Nat.add l m) maxB) (obind (hloads h i o (Nat.mul l s) []) fun old => obind (hrow h t (old ++ vs)) fun q => mkslo q.1 0 l m s q.2))
def aappOpen (h : AH) (t b i o l s m : Nat) (vs : List AV) : Option (AV × AH) :=
  match h.t.get i with
  | some (.cells c n e fl fh tag false) =>
    Bool.casesOn (Nat.ble (Nat.add o (Nat.mul (Nat.add l m) s)) n)
      (grd (Nat.beq e t) (grd (Nat.ble (Nat.mul (Nat.add l m) b) maxB) (grd (Nat.ble (Nat.add l m) maxB) (happC h i o l s m vs c n e fl fh tag))))
      (aappIn h i o l m s vs fun lm => .slo i o lm s)
  | _ => none
def aapp (h : AH) (t s b : Nat) (x : AV) (m : Nat) (vs : List AV) : Option (AV × AH) :=
  grd (Nat.beq vs.length (Nat.mul m s)) (grd (Nat.ble 1 s)
  (match x with
  | .nils => aappNil h t s b m vs
  | .slc i o l c => Bool.casesOn (Nat.ble (Nat.add l m) c) (aappGrow h t s b i o l m vs) (aappIn h i o l m s vs fun lm => .slc i o lm c)
  | .slo i o l s' => grd (Nat.beq s s') (Bool.casesOn (Nat.beq m 0) (aappOpen h t b i o l s m vs) (some (.slo i o l s', h)))
  | _ => none))

def inat {β : Type} (x : AV) (f : Nat → Option β) : Option β :=
  match x with
  | .int _ n => Int.casesOn n f (fun _ => none)
  | _ => none
/-- A bound: from the list if it is there. -/
def bnd {β : Type} (is : Bool) (d : Nat) (vs : List AV) (f : Nat → List AV → Option β) : Option β :=
  Bool.casesOn is (f d vs) (List.casesOn vs none fun v vs => inat v fun n => f n vs)
def bnds {β : Type} (lo hi mx : Bool) (vs : List AV) (l c : Nat) (f : Nat → Nat → Nat → Option β) : Option β :=
  bnd lo 0 vs fun a vs => bnd hi l vs fun b vs => bnd mx c vs fun m _ =>
    grd (Nat.ble a b) (grd (Nat.ble b m) (grd (Nat.ble m c) (f a b m)))
/-- Where a slice begins that was cut at a, its room going up to m. -/
def cutAt (o a m s : Nat) : Nat := Bool.casesOn (Nat.beq m a) (Nat.add o (Nat.mul a s)) o
def mkslc (i o a b m s : Nat) : Option AV := nat! (cutAt o a m s) fun o => nat! (Nat.sub b a) fun l => nat! (Nat.sub m a) fun c => some (.slc i o l c)
def asls (s : Nat) (lo hi mx : Bool) (x : AV) (vs : List AV) : Option AV :=
  match x with
  | .nils => bnds lo hi mx vs 0 0 fun _ _ _ => some .nils
  | .slc i o l c => bnds lo hi mx vs l c fun a b m => mkslc i o a b m s
  | .slo i o l s' => grd (Nat.beq s s') (bnds lo hi mx vs l l fun a b m =>
      Bool.casesOn mx (nat! (Nat.add o (Nat.mul a s)) fun o => nat! (Nat.sub b a) fun l => some (.slo i o l s')) (mkslc i o a b m s))
  | _ => none

/-- Bytes as one number. -/
def pack : List AV → Nat → Nat → Option AV
  | [], l, n => str! l n some
  | v :: vs, l, n => match v with
    | .int .u8 b => Int.casesOn b (fun b => grd (Nat.ble b 255) (pack vs (Nat.succ l) (Nat.add (Nat.mul n 256) b))) (fun _ => none)
    | _ => none

def keyeq (x y : AV) : Option Bool :=
  match x, y with
  | .int k a, .int k' b => isame k k' a b
  | .str l n, .str l' n' => some (seq' l n l' n')
  | _, _ => none
def iskey (st : Bool) (x : AV) : Bool :=
  match x with
  | .int _ _ => bsel st false true
  | .str _ _ => st
  | _ => false
def mfind (k : AV) : List AE → Nat → Option (Option (Nat × AV))
  | [], _ => some none
  | e :: es, i => match keyeq k e.key with
    | some b => Bool.casesOn b (mfind k es (Nat.succ i)) (some (some (i, e.val)))
    | none => none
def mput (k v : AV) : List AE → Nat → List AE
  | [], _ => []
  | e :: es, 0 => ⟨k, v, e.born⟩ :: es
  | e :: es, i + 1 => e :: mput k v es i
def mobj {β : Type} (h : AH) (i : Nat) (f : List AE → Nat → Option β) : Option β :=
  match h.t.get i with
  | some (.map es c) => f es c
  | _ => none
def mset (h : AH) (i : Nat) (es : List AE) (c : Nat) : Option AH :=
  h.t.setK dpt i (some (.map es c)) fun t => some { h with t := t }

/-- What stands in for blocks of a build. -/
def over (z : List AV) (o : Nat) : List AV → List AV
  | [] => z
  | v :: vs => over (z.set o v) (o + 1) vs
def fills (z : List AV) : List (Nat × Nat) → List AV → Option (List AV)
  | [], [] => some z
  | (o, s) :: ps, v :: vs =>
    grd (Nat.beq v.cells.length s) (grd (Nat.ble (Nat.add o s) z.length) (fills (over z o v.cells) ps vs))
  | _, _ => none

/-- The place of a byte among l bytes, from place i on. -/
def findB (l n c : Nat) : Nat → Nat → Option Nat
  | 0, _ => none
  | f + 1, i => Bool.casesOn (Nat.beq (sidx l n i) c) (findB l n c f (Nat.succ i)) (some i)
def cntB (l n c : Nat) : Nat → Nat → Nat → Nat
  | 0, _, r => r
  | f + 1, i, r => cntB l n c f (Nat.succ i) (Bool.casesOn (Nat.beq (sidx l n i) c) r (Nat.succ r))
def findS (l n l' n' : Nat) : Nat → Nat → Option Nat
  | 0, _ => none
  | f + 1, i => Bool.casesOn (Nat.beq (ssub l n i (Nat.add i l')) n') (findS l n l' n' f (Nat.succ i)) (some i)
def found (r : Option Nat) (h : AH) : Option (AV × AH) :=
  match r with
  | some i => nat! i fun i => some (.int .i64 (Int.ofNat i), h)
  | none => some (.int .i64 (Int.negSucc 0), h)
/-- The bytes of a string or of a slice of bytes. -/
def bytesV {β : Type} (h : AH) (x : AV) (f : Nat → Nat → Option β) : Option β :=
  match x with
  | .str l n => f l n
  | x => obind (elems h 1 x) fun p => match pack p.2 0 0 with
    | some (.str l n) => f l n
    | _ => none

/-! The operations: what each yields of its operands. -/
abbrev KF := List AV → AH → Option (AV × AH)
def arg1 {β : Type} (vs : List AV) (f : AV → Option β) : Option β := List.casesOn vs none fun x l => List.casesOn l (f x) fun _ _ => none
def arg2 {β : Type} (vs : List AV) (f : AV → AV → Option β) : Option β := List.casesOn vs none fun x l => arg1 l (f x)
def arg3 {β : Type} (vs : List AV) (f : AV → AV → AV → Option β) : Option β := List.casesOn vs none fun x l => arg2 l (f x)
def yld (h : AH) (x : Option AV) : Option (AV × AH) := obind x fun v => some (v, h)
def yptr (q : Option (Nat × AH)) : Option (AV × AH) := obind q fun q => some (.ptr q.1 0, q.2)
def yund (h : Option AH) : Option (AV × AH) := obind h fun h => some (.und, h)
def asP {β : Type} (x : AV) (f : Nat → Nat → Option β) : Option β :=
  match x with
  | .ptr i o => f i o
  | _ => none

def k_mov : KF := fun vs h => arg1 vs fun x => some (x, h)
def k_cid : KF := fun vs h => arg1 vs fun x => match x with
  | .str _ _ => some (x, h)
  | _ => none
def k_pick : KF := fun vs h => arg3 vs fun c a b => match c with
  | .bool c => some (bsel c a b, h)
  | _ => none
def k_box (t : Nat) : KF := fun vs h => arg1 vs fun x => yptr (hrow h t x.cells)
def k_alloc (t : Nat) (z : List AV) : KF := fun _ h => yptr (hrow h t z)
def k_bld (z : List AV) (ps : List (Nat × Nat)) : KF := fun vs h => obind (fills z ps vs) fun l => some (.agg l, h)
def k_bsl (t s n : Nat) (z : List AV) (ps : List Nat) : KF := fun vs h =>
  obind (fills ((List.replicate n z).flatten) (ps.map fun i => (i * s, s)) vs) fun l => obind (hrow h t l) fun q => some (.slc q.1 0 n n, q.2)
def k_ld1 : KF := fun vs h => arg1 vs fun x => asP x fun i o => yld h (hload h i o)
def k_ldn (n : Nat) : KF := fun vs h => arg1 vs fun x => asP x fun i o => obind (hloads h i o n []) fun l => some (.agg l, h)
def k_st (s : Nat) : KF := fun vs h => arg2 vs fun x v => asP x fun i o => grd (Nat.beq v.cells.length s) (yund (hstore h i o v.cells))
def k_nilchk : KF := fun vs h => arg1 vs fun x => match x with
  | .ptr _ _ => some (x, h)
  | .ifc _ _ => some (x, h)
  | .fn (.func _) _ _ => some (x, h)
  | _ => none
def k_bin (op : BinOp) (e : EqD) (c : Bool) : KF := fun vs h => arg2 vs fun x y => yld h (abin op e c x y)
def k_un (op : UnOp) : KF := fun vs h => arg1 vs fun x => yld h (aun op x)
def k_cint (k : IntKind) : KF := fun vs h => arg1 vs fun x => match x with
  | .int _ n => yld h (wrapI k n)
  | _ => none
def k_cs2b (t : Nat) : KF := fun vs h => arg1 vs fun x => match x with
  | .str l n => grd (Nat.ble l maxB) (ofList (sbl l n []) fun c m => obind (hnew h (.cells c m t 1 0 0 false)) fun q => some (.slo q.1 0 l 1, q.2))
  | _ => none
def k_cb2s : KF := fun vs h => arg1 vs fun x => match x with
  | .str _ _ => none
  | _ => obind (elems h 1 x) fun p => yld h (pack p.2 0 0)
def k_mki (t : Nat) : KF := fun vs h => arg1 vs fun x => some (.ifc t x, h)
def k_mkf (f : FnV) (m : Nat) : KF := fun vs h => some (.fn f (vs.take m) (vs.drop m), h)
def k_mkm : KF := fun _ h => obind (hnew h (.map [] 0)) fun q => some (.map q.1, q.2)
def k_mks (t s b : Nat) (z : List AV) : KF := fun vs h => arg2 vs fun l c => inat l fun l => inat c fun c =>
  grd (Nat.ble (Nat.mul c b) maxB) (grd (Nat.ble c maxB) (grd (Nat.ble l c) (nat! (Nat.mul c s) fun m => obind (hzero h t m z) fun q => some (.slc q.1 0 l c, q.2))))
def k_sls (s : Nat) (lo hi mx : Bool) : KF := fun vs h => List.casesOn vs none fun x vs => yld h (asls s lo hi mx x vs)
def k_slt (lo hi : Bool) : KF := fun vs h => List.casesOn vs none fun x vs => match x with
  | .str l n => bnds lo hi false vs l l fun a b _ => yld h (str! (Nat.sub b a) (ssub l n a b) some)
  | _ => none
def k_sla (n s : Nat) (lo hi mx : Bool) : KF := fun vs h => List.casesOn vs none fun x vs => asP x fun i o =>
  bnds lo hi mx vs n n fun a b m => yld h (mkslc i o a b m s)
def k_fda (f : Nat) : KF := fun vs h => arg1 vs fun x => match x with
  | .ptr i o => nat! (Nat.add o f) fun o => some (.ptr i o, h)
  | .glob g o => nat! (Nat.add o f) fun o => some (.glob g o, h)
  | _ => none
def k_fld (o : Nat) (s : Option Nat) : KF := fun vs h => arg1 vs fun x => match x with
  | .agg l => yld h (part? l o s)
  | _ => none
def k_ixs (s : Nat) : KF := fun vs h => arg2 vs fun x y => inat y fun n => match x with
  | .slc i o l _ => grd (Nat.ble (Nat.succ n) l) (nat! (Nat.add o (Nat.mul n s)) fun o => some (.ptr i o, h))
  | .slo i o l s' => grd (Nat.beq s s') (grd (Nat.ble (Nat.succ n) l) (nat! (Nat.add o (Nat.mul n s)) fun o => some (.ptr i o, h)))
  | _ => none
def k_ixa (n s : Nat) : KF := fun vs h => arg2 vs fun x y => inat y fun m => grd (Nat.ble (Nat.succ m) n) (match x with
  | .ptr i o => nat! (Nat.add o (Nat.mul m s)) fun o => some (.ptr i o, h)
  | .glob g o => nat! (Nat.add o (Nat.mul m s)) fun o => some (.glob g o, h)
  | _ => none)
def k_ixt : KF := fun vs h => arg2 vs fun x y => inat y fun m => match x with
  | .str l n => grd (Nat.ble (Nat.succ m) l) (nat! (sidx l n m) fun c => some (.int .u8 (Int.ofNat c), h))
  | _ => none
def k_ixv (n s : Nat) (agg : Bool) : KF := fun vs h => arg2 vs fun x y => inat y fun m => match x with
  | .agg l => grd (Nat.ble (Nat.succ m) n) (yld h (part? l (Nat.mul m s) (bsel agg (some s) none)))
  | _ => none
def look (st : Bool) (h : AH) (m k : AV) : Option (Option (Nat × AV)) :=
  grd (iskey st k) (match m with
  | .nilm => some none
  | .map i => mobj h i fun es _ => mfind k es 0
  | _ => none)
def k_lkp (z : AV) (ok st : Bool) : KF := fun vs h => arg2 vs fun m k => match look st h m k with
  | some (some p) => some (bsel ok (.tup [p.2, .bool true]) p.2, h)
  | some none => some (bsel ok (.tup [z, .bool false]) z, h)
  | none => none
def k_mup (st : Bool) : KF := fun vs h => arg3 vs fun m k v => match m with
  | .map i => grd (iskey st k) (mobj h i fun es c => match mfind k es 0 with
    | some (some p) => yund (mset h i (mput k v es p.1) c)
    | some none => nat! (Nat.succ c) fun c' => yund (mset h i (es ++ [⟨k, v, c⟩]) c')
    | none => none)
  | _ => none
def k_rngs : KF := fun vs h => arg1 vs fun x => match x with
  | .str l n => yptr (hnew h (.siter l n 0))
  | _ => none
def k_rngm : KF := fun vs h => arg1 vs fun x => match x with
  | .nilm => yptr (hnew h (.miter none 0 [] 0))
  | .map m => mobj h m fun _ c => yptr (hnew h (.miter (some m) c [] c))
  | _ => none
def nxs (h : AH) (i l n p : Nat) : Option (AV × AH) :=
  Bool.casesOn (Nat.ble (Nat.succ p) l) (some (.tup [.bool false], h))
    (nat! (sidx l n p) fun c => grd (Nat.ble c 127) (nat! (Nat.succ p) fun q =>
      h.t.setK dpt i (some (.siter l n q)) fun t => some (.tup [.bool true, .int .i64 (Int.ofNat p), .int .i32 (Int.ofNat c)], { h with t := t })))
def k_nxs : KF := fun vs h => arg1 vs fun x => asP x fun i o => grd (Nat.beq o 0) (match h.t.get i with
  | some (.siter l n p) => nxs h i l n p
  | _ => none)
def nxm (h : AH) (i m since : Nat) (seen : List Nat) (es : List AE) (clock : Nat) : Option (AV × AH) :=
  grd (es.all fun e => Nat.ble (Nat.succ e.born) since) (match es.filter (fun e => !seen.contains e.born) with
  | [] => some (.tup [.bool false], h)
  | [e] => h.t.setK dpt i (some (.miter (some m) since (seen ++ [e.born]) clock)) fun t => some (.tup [.bool true, e.key, e.val], { h with t := t })
  | _ => none)
def k_nxm : KF := fun vs h => arg1 vs fun x => asP x fun i o => grd (Nat.beq o 0) (match h.t.get i with
  | some (.miter none _ _ _) => some (.tup [.bool false], h)
  | some (.miter (some m) since seen last) => grd (Nat.ble since last) (mobj h m fun es clock => nxm h i m since seen es clock)
  | _ => none)
def k_tas (t : Nat) (z : AV) (ok : Bool) : KF := fun vs h => arg1 vs fun x => match x with
  | .nili => grd ok (some (.tup [z, .bool false], h))
  | .ifc t' v => Bool.casesOn (Nat.beq t' t) (grd ok (some (.tup [z, .bool false], h))) (some (bsel ok (.tup [v, .bool true]) v, h))
  | _ => none
def k_ext (i : Nat) : KF := fun vs h => arg1 vs fun x => match x with
  | .tup l => yld h (lget l i)
  | _ => none
/-- The cells that an append or a copy takes from its second operand. -/
def src (h : AH) (s : Nat) (str : Bool) (y : AV) : Option (Nat × List AV) :=
  match y with
  | .str _ _ => grd str (elems h s y)
  | y => Bool.casesOn str (elems h s y) none
def k_app (t s b : Nat) (str : Bool) : KF := fun vs h => arg2 vs fun x y => obind (src h s str y) fun p => aapp h t s b x p.1 p.2
def k_appz (t s b : Nat) (z : List AV) : KF := fun vs h => arg2 vs fun x y => inat y fun m =>
  grd (Nat.ble (Nat.mul m b) maxB) (grd (Nat.ble m maxB) (aapp h t s b x m ((List.replicate m z).flatten)))
def k_len (k : Nat) : KF := fun vs h => arg1 vs fun x => match k with
  | 0 => (match x with | .str l _ => some (.int .i64 (Int.ofNat l), h) | _ => none)
  | 1 => (match x with
    | .nils => some (.int .i64 (Int.ofNat 0), h)
    | .slc _ _ l _ => some (.int .i64 (Int.ofNat l), h)
    | .slo _ _ l _ => some (.int .i64 (Int.ofNat l), h)
    | _ => none)
  | 2 => (match x with
    | .nilm => some (.int .i64 (Int.ofNat 0), h)
    | .map i => mobj h i fun es _ => nat! es.length fun l => some (.int .i64 (Int.ofNat l), h)
    | _ => none)
  | k + 3 => some (.int .i64 (Int.ofNat k), h)
def k_cap : KF := fun vs h => arg1 vs fun x => match x with
  | .nils => some (.int .i64 (Int.ofNat 0), h)
  | .slc _ _ _ c => some (.int .i64 (Int.ofNat c), h)
  | _ => none
def cpyC (s : Nat) (h : AH) (i o l : Nat) (m : Nat) (vs : List AV) : Option (AV × AH) :=
  nat! (Bool.casesOn (Nat.ble m l) l m) fun m => obind (hstore h i o (vs.take (Nat.mul m s))) fun h => some (.int .i64 (Int.ofNat m), h)
def k_cpy (s : Nat) (str : Bool) : KF := fun vs h => arg2 vs fun x y => obind (src h s str y) fun p => match x with
  | .nils => some (.int .i64 (Int.ofNat 0), h)
  | .slc i o l _ => cpyC s h i o l p.1 p.2
  | .slo i o l s' => grd (Nat.beq s s') (cpyC s h i o l p.1 p.2)
  | _ => none
def k_clr (s : Nat) (z : List AV) : KF := fun vs h => arg1 vs fun x => match x with
  | .nils => some (.und, h)
  | .slc i o l _ => yund (hstore h i o ((List.replicate l z).flatten))
  | .slo i o l s' => grd (Nat.beq s s') (yund (hstore h i o ((List.replicate l z).flatten)))
  | _ => none
def k_del (st : Bool) : KF := fun vs h => arg2 vs fun m k => match m with
  | .map i => grd (iskey st k) (mobj h i fun es c => match mfind k es 0 with
    | some (some p) => yund (mset h i (es.eraseIdx p.1) c)
    | some none => yund (mset h i es c)
    | none => none)
  | _ => none
def imx (mx : Bool) (x y : AV) : Option AV :=
  match x with
  | .int k a => (match y with
    | .int _ b => obind (ile a b) fun le => some (.int k (bsel le (bsel mx b a) (bsel mx a b)))
    | _ => none)
  | _ => none
def k_mx (mx : Bool) : KF := fun vs h => arg2 vs fun x y => yld h (imx mx x y)
def k_usd : KF := fun vs h => arg1 vs fun x => match x with
  | .nils => some (.nilp, h)
  | .slc i o _ c => Bool.casesOn (Nat.beq c 0) (some (.ptr i o, h)) none
  | .slo i o l _ => Bool.casesOn (Nat.beq l 0) (some (.ptr i o, h)) none
  | _ => none
def ustC (e : Nat) (h : AH) (i o m : Nat) : Option (AV × AH) :=
  match h.t.get i with
  | some (.cells c n e' fl fh tag false) =>
    grd (Nat.beq e e') (grd (Nat.beq fl fh) (grd (Nat.ble m maxB) (obind (hloads h i o m []) fun l => obind (pack l 0 0) fun v =>
      nat! (Nat.add o m) fun om => h.t.setK dpt i (some (.cells c n e' o om tag false)) fun t => some (v, { h with t := t }))))
  | _ => none
def k_ust (e : Nat) : KF := fun vs h => arg2 vs fun p y => inat y fun m => Bool.casesOn (Nat.beq m 0)
  (asP p fun i o => ustC e h i o m)
  (match p with
    | .nilp => some (.str 0 0, h)
    | .ptr _ _ => some (.str 0 0, h)
    | _ => none)
def cmkC (h : AH) (i : Nat) (x : AV) : Option (AV × AH) :=
  match h.t.get i with
  | some (.cells c n e fl fh tag false) => grd (Nat.ble fh fl) (h.t.setK dpt i (some (.cells c n e 1 0 tag false)) fun t => some (x, { h with t := t }))
  | _ => none
def k_cmk : KF := fun vs h => arg1 vs fun x => match x with
  | .slc i _ _ _ => cmkC h i x
  | .slo i _ _ _ => cmkC h i x
  | _ => none
def asU8 {β : Type} (x : AV) (f : Nat → Option β) : Option β :=
  match x with
  | .int .u8 n => Int.casesOn n (fun n => grd (Nat.ble n 255) (f n)) (fun _ => none)
  | _ => none
def k_xib : KF := fun vs h => arg2 vs fun x y => asU8 y fun c => bytesV h x fun l n => found (findB l n c l 0) h
def k_xcnt : KF := fun vs h => arg2 vs fun x y => asU8 y fun c => bytesV h x fun l n => nat! (cntB l n c l 0 0) fun r => some (.int .i64 (Int.ofNat r), h)
def k_xcmp : KF := fun vs h => arg2 vs fun x y => bytesV h x fun l n => bytesV h y fun l' n' =>
  some (bsel (slt' l n l' n') (.int .i64 (Int.negSucc 0)) (bsel (seq' l n l' n') (.int .i64 (Int.ofNat 0)) (.int .i64 (Int.ofNat 1))), h)
def k_xmnz (t : Nat) : KF := fun vs h => arg1 vs fun y => inat y fun m => grd (Nat.ble m maxB) (obind (hnew h (.cells .e m t 0 0 0 false)) fun q => some (.slo q.1 0 m 1, q.2))
def k_xcl : KF := fun vs h => arg1 vs fun x => match x with
  | .ifc t (.map m) => mobj h m fun es c => obind (hnew h (.map es c)) fun q => some (.ifc t (.map q.1), q.2)
  | _ => none
def k_bad : KF := fun _ _ => none

structure Cfg where
  fns : Tr AFn
  inv : Tr (List (Nat × Nat))     -- methods by their numbers: the type's, the function's
  glb : Tr (Tr AV)                -- cells of package-level variables that are known

def ifind (t : Nat) : List (Nat × Nat) → Option Nat
  | [] => none
  | (u, f) :: l => Bool.casesOn (Nat.beq u t) (ifind t l) (some f)
/-- The function behind a type's method. -/
def Cfg.meth {β : Type} (C : Cfg) (m t : Nat) (f : Nat → Option β) : Option β := obind (C.inv.get m) fun l => obind (ifind t l) f
def Cfg.cell (C : Cfg) (g o : Nat) : Option AV := obind (C.glb.get g) fun c => c.get o

abbrev CallF := Nat → List AV → AH → Option (AV × AH)
def callM (C : Cfg) (cf : CallF) (m : Nat) (vs : List AV) (h : AH) : Option (AV × AH) := List.casesOn vs none fun x vs => match x with
  | .ifc t v => C.meth m t fun f => cf f (v :: vs) h
  | _ => none
def k_callv (C : Cfg) (cf : CallF) : KF := fun vs h => List.casesOn vs none fun x vs => match x with
  | .fn (.func f) x y => cf f (x ++ vs ++ y) h
  | .fn (.meth m) x _ => callM C cf m (x ++ vs) h
  | _ => none
def k_nil (C : Cfg) : KF := fun vs h => arg1 vs fun x => match x with
  | .fn (.meth m) (.ifc t _ :: _) _ => C.meth m t fun _ => some (x, h)
  | _ => k_nilchk vs h
def k_ld (C : Cfg) : KF := fun vs h => arg1 vs fun x => match x with
  | .ptr i o => yld h (hload h i o)
  | .glob g o => yld h (C.cell g o)
  | _ => none
def k_xidx (C : Cfg) (g : Nat) : KF := fun vs h => arg2 vs fun x y => obind (C.cell g 0) fun m => inat m fun m => bytesV h x fun l n => bytesV h y fun l' n' =>
  grd (Nat.ble 2 l') (grd (Nat.ble l' m) (grd (Nat.ble l maxB) (Bool.casesOn (Nat.ble l' l) (found none h) (found (findS l n l' n' (Nat.sub (Nat.succ l) l') 0) h))))

/-- What an operation yields of its operands' values. -/
def opEv (C : Cfg) (cf : CallF) (k : Kd) : KF :=
  match k with
  | .mov => k_mov
  | .pick => k_pick
  | .box t => k_box t
  | .alloc t z => k_alloc t z
  | .bld z ps => k_bld z ps
  | .bsl t s n z ps => k_bsl t s n z ps
  | .ld s => Option.casesOn s (k_ld C) k_ldn
  | .st s => k_st s
  | .nilchk => k_nil C
  | .bin op e c => k_bin op e c
  | .un op => k_un op
  | .cint k => k_cint k
  | .cs2b t => k_cs2b t
  | .cb2s => k_cb2s
  | .cid => k_cid
  | .ci2s => k_bad
  | .mki t => k_mki t
  | .mkf f m => k_mkf f m
  | .mkm => k_mkm
  | .mks t s b z => k_mks t s b z
  | .sls s a b c => k_sls s a b c
  | .slt a b => k_slt a b
  | .sla n s a b c => k_sla n s a b c
  | .fda o => k_fda o
  | .fld o s => k_fld o s
  | .ixs s => k_ixs s
  | .ixa n s => k_ixa n s
  | .ixt => k_ixt
  | .ixv n s a => k_ixv n s a
  | .lkp z ok st => k_lkp z ok st
  | .mup st => k_mup st
  | .rngs => k_rngs
  | .rngm => k_rngm
  | .nxs => k_nxs
  | .nxm => k_nxm
  | .tas t z ok => k_tas t z ok
  | .ext i => k_ext i
  | .call f => cf f
  | .callv => k_callv C cf
  | .inv m => callM C cf m
  | .app t s b str => k_app t s b str
  | .appz t s b z => k_appz t s b z
  | .len k => k_len k
  | .cap => k_cap
  | .cpy s str => k_cpy s str
  | .clr s z => k_clr s z
  | .del st => k_del st
  | .mx => k_mx true
  | .mn => k_mx false
  | .usd => k_usd
  | .ust e => k_ust e
  | .cmk => k_cmk
  | .xib => k_xib
  | .xcnt => k_xcnt
  | .xidx g => k_xidx C g
  | .xcmp => k_xcmp
  | .xmnz t => k_xmnz t
  | .xne => k_mov
  | .xcl => k_xcl
  | .bad => k_bad

/-! Running -/
def lfind (t : Nat) : List (Nat × AV) → Option AV
  | [] => none
  | p :: l => Bool.casesOn (Nat.beq p.1 t) (lfind t l) (some p.2)
def ev (e : Env) (x : Opd) : Option AV :=
  match x with
  | .loc t => lfind t e.loc
  | .var t => e.var.get t
  | .con v => some v
  | .glob g => some (.glob g 0)
  | .func f => some (.fn (.func f) [] [])
def evs {β : Type} (e : Env) : List Opd → (List AV → Option β) → Option β
  | [], f => f []
  | x :: xs, f => obind (ev e x) fun v => evs e xs fun vs => f (v :: vs)
def put {β : Type} (e : Env) (d : Dst) (v : AV) (f : Env → Option β) : Option β :=
  match d with
  | .no => f e
  | .loc t => f ⟨(t, v) :: e.loc, e.var⟩
  | .var t => e.var.setK dpt t (some v) fun w => f ⟨e.loc, w⟩

inductive Xt where
  | norm
  | exit (id : Nat)
  | goto (l : Nat)
  | ret

def valG (e : Env) (x : Opd) (want : Bool) (h : AH) (run : Option (AV × AH)) : Option (AV × AH) :=
  match ev e x with
  | some (.bool b) => bsel (bsel want b (!b)) run (some (.und, h))
  | some (.tup []) => some (.und, h)
  | _ => none
/-- What an operation yields, its guard asked. -/
def val (C : Cfg) (cf : CallF) (o : COp) (e : Env) (h : AH) : Option (AV × AH) :=
  Option.casesOn o.g (evs e o.xs fun vs => opEv C cf o.k vs h) fun g => valG e g.1 g.2 h (evs e o.xs fun vs => opEv C cf o.k vs h)
def steps (C : Cfg) (cf : CallF) : List COp → Env → AH → Option (Env × AH)
  | [], e, h => some (e, h)
  | o :: os, e, h => obind (val C cf o e h) fun p => put e o.d p.1 fun e => steps C cf os e p.2
/-- As 'steps', with the heaps ahead of each operation and behind the last one, the last one first. -/
def trail (C : Cfg) (cf : CallF) : List COp → Env → AH → List AH → Option (Env × List AH)
  | [], e, h, l => some (e, h :: l)
  | o :: os, e, h, l => obind (val C cf o e h) fun p => put e o.d p.1 fun e => trail C cf os e p.2 (h :: l)

/-- Are two values the same term? -/
def same : Nat → AV → AV → Bool
  | 0, _, _ => false
  | d + 1, x, y =>
    let all : List AV → List AV → Bool := fun a b => Nat.beq a.length b.length && (a.zip b).all fun p => same d p.1 p.2
    match x, y with
    | .bool a, .bool b => a == b
    | .int k a, .int j b => kbeq k j && decide (a = b)
    | .str l n, .str l' n' => Nat.beq l l' && Nat.beq n n'
    | .nilp, .nilp => true
    | .ptr i o, .ptr j q => Nat.beq i j && Nat.beq o q
    | .nils, .nils => true
    | .slc i o l c, .slc i' o' l' c' => Nat.beq i i' && Nat.beq o o' && Nat.beq l l' && Nat.beq c c'
    | .slo i o l c, .slo i' o' l' c' => Nat.beq i i' && Nat.beq o o' && Nat.beq l l' && Nat.beq c c'
    | .nilm, .nilm => true
    | .map i, .map j => Nat.beq i j
    | .nilf, .nilf => true
    | .nili, .nili => true
    | .ifc t v, .ifc u w => Nat.beq t u && same d v w
    | .fn (.func f) a b, .fn (.func g) a' b' => Nat.beq f g && all a a' && all b b'
    | .fn (.meth f) a b, .fn (.meth g) a' b' => Nat.beq f g && all a a' && all b b'
    | .agg l, .agg l' => all l l'
    | .tup l, .tup l' => all l l'
    | .glob g o, .glob g' o' => Nat.beq g g' && Nat.beq o o'
    | _, _ => false

/-- The value in a place. -/
def cur (e : Env) : Dst → Option AV
  | .no => none
  | .loc t => lfind t e.loc
  | .var t => e.var.get t
/-- Does a load give at another heap what it gave? -/
def again (C : Cfg) (o : COp) (e : Env) (h : AH) : Bool :=
  match val C (fun _ _ _ => none) o e h, cur e o.d with
  | some (v, _), some u => same 20 v u
  | _, _ => false
def agains (C : Cfg) (ops : List COp) (e : Env) (hs : List AH) : List (Nat × Nat) → Bool
  | [] => true
  | (i, j) :: l => match ops[i]?, hs[ops.length - j]? with
    | some o, some h => again C o e h && agains C ops e hs l
    | _, _ => false

def alabel : ACode → Nat → Option ACode
  | .seq a b, l => match alabel a l with
    | some r => some (.seq r b)
    | none => alabel b l
  | .label k, l => if k = l then some .skip else none
  | _, _ => none

def ini {β : Type} : List AV → Nat → Tr AV → (Tr AV → Option β) → Option β
  | [], _, w, f => f w
  | v :: vs, i, w, f => w.setK dpt i (some v) fun w => ini vs (Nat.succ i) w f

def outC (h : AH) (s : Option Nat) (i o : Nat) : Option AV := Option.casesOn s (hload h i o) fun n => obind (hloads h i o n []) fun l => some (.agg l)
def out1 (e : Env) (h : AH) (r : Rv) : Option AV :=
  match r with
  | .var t => e.var.get t
  | .cell t s => obind (e.var.get t) fun p => asP p (outC h s)
def outs (e : Env) (h : AH) : List Rv → Option (List AV)
  | [] => some []
  | r :: l => obind (out1 e h r) fun v => obind (outs e h l) fun vs => some (v :: vs)
def result (l : List AV) : AV :=
  match l with
  | [v] => v
  | l => .tup l

abbrev Orc := Nat → List AV → AH → Option (Option (AV × AH))
abbrev Ex := ACode → Env → AH → Option (Xt × Env × AH)

def retF (res : List Rv) (r : Xt × Env × AH) : Option (AV × AH) :=
  match r.1 with
  | .norm => obind (outs r.2.1 r.2.2 res) fun l => some (result l, r.2.2)
  | .ret => obind (outs r.2.1 r.2.2 res) fun l => some (result l, r.2.2)
  | _ => none
def runF (ex : Ex) (fn : AFn) (vs : List AV) (h : AH) : Option (AV × AH) :=
  grd (Nat.beq vs.length fn.np) (ini vs 0 fn.env0 fun w => obind (ex fn.body ⟨[], w⟩ h) (retF fn.res))
def callB (C : Cfg) (orc : Orc) (ex : Ex) : CallF := fun f vs h =>
  Option.casesOn (orc f vs h) (obind (C.fns.get f) fun fn => runF ex fn vs h) fun r => r

def xNorm (e : Env) (h : AH) : Option (Xt × Env × AH) := some (.norm, e, h)
def x_seq (ih : Ex) (a b : ACode) (e : Env) (h : AH) : Option (Xt × Env × AH) := obind (ih a e h) fun r => match r.1 with
  | .norm => ih b r.2.1 r.2.2
  | _ => some r
def x_cond (ih : Ex) (c : Opd) (a b : ACode) (e : Env) (h : AH) : Option (Xt × Env × AH) := obind (ev e c) fun v => match v with
  | .bool t => Bool.casesOn t (ih b e h) (ih a e h)
  | _ => none
def x_block (ih : Ex) (id : Nat) (b : ACode) (e : Env) (h : AH) : Option (Xt × Env × AH) := obind (ih b e h) fun r => match r.1 with
  | .exit j => Bool.casesOn (Nat.beq j id) (some r) (some (.norm, r.2))
  | _ => some r
def x_loop (ih : Ex) (b : ACode) (e : Env) (h : AH) : Option (Xt × Env × AH) := obind (ih b e h) fun r => match r.1 with
  | .norm => ih (.loop b) r.2.1 r.2.2
  | _ => some r
def x_scoped (ih : Ex) (b c : ACode) (e : Env) (h : AH) : Option (Xt × Env × AH) := obind (ih c e h) fun r => match r.1 with
  | .goto l => Option.casesOn (alabel b l) (some r) fun q => ih (.scp b q) r.2.1 r.2.2
  | _ => some r
def x_drw (C : Cfg) (ops : List COp) (chk : List (Nat × Nat)) (p : Env × List AH) : Option (Xt × Env × AH) :=
  match p.2 with
  | h :: hs => grd (agains C ops p.1 (h :: hs) chk) (some (.norm, p.1, h))
  | [] => none
def xStep (C : Cfg) (orc : Orc) (ih : Ex) : Ex := fun c =>
  match c with
  | .skip => xNorm
  | .label _ => xNorm
  | .reg ops => fun e h => obind (steps C (callB C orc ih) ops ⟨[], e.var⟩ h) fun p => some (.norm, p)
  | .drw ops chk => fun e h => obind (trail C (callB C orc ih) ops ⟨[], e.var⟩ h []) (x_drw C ops chk)
  | .seq a b => x_seq ih a b
  | .cond c a b => x_cond ih c a b
  | .block id b => x_block ih id b
  | .loop b => fun e h => x_loop ih b ⟨[], e.var⟩ h
  | .exit id => fun e h => some (.exit id, e, h)
  | .scope b => ih (.scp b b)
  | .scp b c => x_scoped ih b c
  | .goto l => fun e h => some (.goto l, e, h)
  | .ret => fun e h => some (.ret, e, h)
  | .bad => fun _ _ => none
def exec (C : Cfg) (orc : Orc) (n : Nat) : Ex :=
  Nat.rec (motive := fun _ => Ex) (fun _ _ _ => none) (fun _ ih => xStep C orc ih) n
def callF (C : Cfg) (orc : Orc) (n : Nat) : CallF := callB C orc (exec C orc n)
end
end Go.Vm
namespace Go.Vm
open Go
noncomputable section

def packB (l : List UInt8) : Nat := l.foldl (fun n b => n * 256 + b.toNat) 0
def cval1 : Value → Option AV
  | .bool b => some (.bool b)
  | .int k n => some (.int k n)
  | .string s => some (.str s.size (packB s.data.toList))
  | .pointer none => some .nilp
  | .slice none 0 0 => some .nils
  | .map none => some .nilm
  | .nilFunc => some .nilf
  | .nilIface => some .nili
  | _ => none
def cval : Value → Option AV
  | .agg cs => (cs.toList.mapM cval1).map .agg
  | .tuple vs => if vs.isEmpty then some (.tup []) else none
  | v => cval1 v
def copd (mask : Nat) : Operand → Option Opd
  | .tmp t => some (bsel (mask.testBit t) (.var t) (.loc t))
  | .const v => (cval v).map .con
  | .global g => some (.glob g)
  | .func f => some (.func f)
def cdst (mask nt : Nat) : Option Tmp → Option Dst
  | none => some .no
  | some t => if t < nt then some (bsel (mask.testBit t) (.var t) (.loc t)) else none

def tsize (P : Program) (t : TypeId) : Option Nat := (P.info? t).map (·.size)
def tzero (P : Program) (t : TypeId) : Option AV := ((P.info? t).bind (·.zero)).bind cval
def tagg (P : Program) (t : TypeId) : Option (Option Nat) :=
  match P.underlying t, tsize P t with
  | some (.struct _), some s => some (some s)
  | some (.array _ _), some s => some (some s)
  | some _, some _ => some none
  | _, _ => none
def isConstant : Operand → Bool
  | .const _ => true
  | _ => false
def eqd (P : Program) : Nat → TypeId → EqD
  | 0, _ => .no
  | _ + 1, t => match P.underlying t with
    | some .bool => .bas
    | some (.pointer e) => (match tsize P e with | some (_ + 1) => .ptr | _ => .no)
    | some (.interface _) => .ifc
    | some (.slice _) => .sl
    | some (.map _ _) => .mp
    | some (.func _ _ _) => .fnc
    | _ => .no

abbrev Names := List String
def nidx (s : String) : Names → Nat → Option Nat
  | [], _ => none
  | t :: l, i => if s = t then some i else nidx s l (i + 1)

def isU8 (P : Program) (t : TypeId) : Bool := match P.underlying t with | some (.int .u8) => true | _ => false
def keyT (P : Program) (t : TypeId) : Option Bool := match P.underlying t with | some (.int _) => some false | some .string => some true | _ => none

def cbuiltin (P : Program) (b : Builtin) (ts : Array TypeId) : Option Kd := do
  let t ← ts[0]?
  match b with
  | .append =>
    let .slice e ← P.underlying t | none
    let i ← P.info? e
    let z ← tzero P e
    if z.cells.length ≠ i.size then none
    let u ← ts[1]?
    match P.underlying u with
    | some (.int _) => some (.appz e i.size i.bytes z.cells)
    | some .string => some (.app e i.size i.bytes true)
    | some (.slice _) => some (.app e i.size i.bytes false)
    | _ => none
  | .len => match P.underlying t with
    | some .string => some (.len 0)
    | some (.slice _) => some (.len 1)
    | some (.map _ _) => some (.len 2)
    | some (.array n _) => some (.len (n + 3))
    | _ => none
  | .cap => match P.underlying t with
    | some (.slice _) => some .cap
    | _ => none
  | .copy =>
    let .slice e ← P.underlying t | none
    let u ← ts[1]?
    let s ← tsize P e
    match P.underlying u with
    | some .string => if s = 1 then some (.cpy s true) else none
    | some (.slice _) => some (.cpy s false)
    | _ => none
  | .clear =>
    let .slice e ← P.underlying t | none
    let s ← tsize P e
    let z ← tzero P e
    some (.clr s z.cells)
  | .delete =>
    let .map k _ ← P.underlying t | none
    let st ← keyT P k
    some (.del st)
  | .max => some .mx
  | .min => some .mn
  | .unsafeSliceData => some .usd
  | .unsafeString =>
    let .pointer e ← P.underlying t | none
    let s ← tsize P e
    if s = 1 ∧ isU8 P e = true then some (.ust e) else none
  | _ => none

/-- The function is one with a body, and no row of the model's own. -/
def plainF (P : Program) (f : FuncId) : Bool :=
  match P.funcs[f]? with
  | some fn => fn.body.isSome && fn.name != "runtime.NumGoroutine"
  | none => false

def cext (P : Program) (fn : Func) : Option Kd :=
  if fn.origin ≠ "" then none else
  match fn.name with
  | "internal/bytealg.IndexByte" => some .xib
  | "internal/bytealg.IndexByteString" => some .xib
  | "internal/bytealg.Count" => some .xcnt
  | "internal/bytealg.CountString" => some .xcnt
  | "internal/bytealg.IndexString" => (P.globals.findIdx? (·.name == "internal/bytealg.MaxLen")).map .xidx
  | "internal/bytealg.Index" => (P.globals.findIdx? (·.name == "internal/bytealg.MaxLen")).map .xidx
  | "internal/bytealg.abigen_runtime_cmpstring" => some .xcmp
  | "internal/abi.NoEscape" => some .xne
  | "maps.clone" => some .xcl
  | "internal/bytealg.MakeNoZero" => (match (fn.resultTypes[0]?).bind P.underlying with
    | some (.slice e) => some (.xmnz e)
    | _ => none)
  | _ => none
def ckind (P : Program) (N : Names) (o : Oper) : Option (Kd × List Operand) :=
  match o.op with
  | .move x => some (.mov, [x])
  | .assign x => some (.mov, [x])
  | .pick c a b => some (.pick, [c, a, b])
  | .alloc e => do let z ← tzero P e; some (.alloc e z.cells, [])
  | .box e x => some (.box e, [x])
  | .build t ps => do
    let z ← tzero P t
    match P.underlying t with
    | some (.struct fs) => do
      let pl ← fs.toList.mapM fun f => do let s ← tsize P f.type; some (f.offset, s)
      let l ← ps.toList.mapM fun p => pl[p.1]?
      some (.bld z.cells l, ps.toList.map (·.2))
    | some (.array _ e) => do
      let s ← tsize P e
      some (.bld z.cells (ps.toList.map fun p => (p.1 * s, s)), ps.toList.map (·.2))
    | _ => none
  | .buildSlice t n ps => do
    let .slice e ← P.underlying t | none
    let s ← tsize P e
    let z ← tzero P e
    if s = 0 ∨ n * s > 1000000 ∨ z.cells.length ≠ s then none else some (.bsl e s n z.cells (ps.toList.map (·.1)), ps.toList.map (·.2))
  | .load t a => do let g ← tagg P t; some (.ld g, [a])
  | .store t a x => do let s ← tsize P t; some (.st s, [a, x])
  | .nilCheck x => some (.nilchk, [x])
  | .binOp op t x y _ => some (.bin op (eqd P 2 t) (isConstant x || isConstant y), [x, y])
  | .unOp op _ x => some (.un op, [x])
  | .convert src dst x => match P.underlying src, P.underlying dst with
    | some (.int _), some (.int k) => some (.cint k, [x])
    | some .string, some .string => some (.cid, [x])
    | some .string, some (.slice e) => if isU8 P e = true ∧ tsize P e = some 1 then some (.cs2b e, [x]) else none
    | some (.slice e), some .string => if isU8 P e = true ∧ tsize P e = some 1 then some (.cb2s, [x]) else none
    | some (.slice _), some (.slice e) => if src = dst ∧ isU8 P e = true then some (.cmk, [x]) else none
    | _, _ => none
  | .makeInterface t x => match P.underlying t with
    | some (.interface _) => none
    | some _ => some (.mki t, [x])
    | none => none
  | .makeFunc fn a b => (match fn with
    | .func f => some (.mkf (.func f) a.size, a.toList ++ b.toList)
    | .method m => (nidx m N 0).map fun i => (.mkf (.meth i) a.size, a.toList ++ b.toList)
    | _ => none)
  | .makeMap _ none => some (.mkm, [])
  | .makeSlice t l c => do
    let .slice e ← P.underlying t | none
    let i ← P.info? e
    let z ← tzero P e
    if z.cells.length = i.size then some (.mks e i.size i.bytes z.cells, [l, c]) else none
  | .slice t x lo hi mx => if mx.isSome && !hi.isSome then none else match P.underlying t with
    | some .string => if mx.isSome then none else some (.slt lo.isSome hi.isSome, x :: (lo.toList ++ hi.toList))
    | some (.slice e) => do let s ← tsize P e; some (.sls s lo.isSome hi.isSome mx.isSome, x :: (lo.toList ++ hi.toList ++ mx.toList))
    | some (.array n e) => do let s ← tsize P e; some (.sla n s lo.isSome hi.isSome mx.isSome, x :: (lo.toList ++ hi.toList ++ mx.toList))
    | _ => none
  | .fieldAddr s x i => do
    let .struct fs ← P.underlying s | none
    let f ← fs[i]?
    match tsize P f.type with
    | some (_ + 1) => some (.fda f.offset, [x])
    | _ => none
  | .field t x i => do
    let .struct fs ← P.underlying t | none
    let f ← fs[i]?
    let g ← tagg P f.type
    some (.fld f.offset g, [x])
  | .indexAddr t x i => match P.underlying t with
    | some (.array n e) => do let s ← tsize P e; some (.ixa n s, [x, i])
    | some (.slice e) => do let s ← tsize P e; some (.ixs s, [x, i])
    | _ => none
  | .index t x i => match P.underlying t with
    | some .string => some (.ixt, [x, i])
    | some (.array n e) => do
      let s ← tsize P e
      let g ← tagg P e
      some (.ixv n s g.isSome, [x, i])
    | _ => none
  | .lookup t x i ok => do
    let .map k e ← P.underlying t | none
    let z ← tzero P e
    let st ← keyT P k
    some (.lkp z ok st, [x, i])
  | .mapUpdate t m k x => do
    let .map u _ ← P.underlying t | none
    let st ← keyT P u
    some (.mup st, [m, k, x])
  | .insert t m k x => do
    let .map u _ ← P.underlying t | none
    let st ← keyT P u
    some (.mup st, [m, k, x])
  | .range t x => match P.underlying t with
    | some .string => some (.rngs, [x])
    | some (.map _ _) => some (.rngm, [x])
    | _ => none
  | .next it s => some (bsel s .nxs .nxm, [it])
  | .typeAssert x _ t ok => match P.underlying t with
    | some (.interface _) => none
    | some _ => if ok then do let z ← tzero P t; some (.tas t z ok, [x]) else some (.tas t .und ok, [x])
    | none => none
  | .extract t i => some (.ext i, [t])
  | .call c => match c.callee with
    | .builtin b => do let k ← cbuiltin P b c.argTypes; some (k, c.args.toList)
    | .value (.func f) => (match P.funcs[f]? with
      | none => none
      | some fn => bsel (fn.body.isSome && fn.name != "runtime.NumGoroutine") (some (.call f, c.args.toList)) ((cext P fn).map fun k => (k, c.args.toList)))
    | .value f => some (.callv, f :: c.args.toList)
    | .invoke r m => do let i ← nidx m N 0; some (.inv i, r :: c.args.toList)
  | _ => none

/-- What is proved to do as the model does. -/
def Kd.ok : Kd → Bool
  | .usd | .ust _ | .cmk | .xidx _ | .xcmp | .xmnz _ | .ci2s | .bad => false
  | _ => true
def Kd.calls : Kd → Bool
  | .call _ | .callv | .inv _ => true
  | _ => false
/-- Calls of the program's own functions. -/
def callK (P : Program) (N : Names) (o : Oper) : Option (Kd × List Operand) :=
  match o.op with
  | .call c => (match c.callee with
    | .value (.func f) => bsel (plainF P f) (some (.call f, c.args.toList)) none
    | .value (.tmp t) => some (.callv, .tmp t :: c.args.toList)
    | .invoke r m => (nidx m N 0).map fun i => (.inv i, r :: c.args.toList)
    | _ => none)
  | _ => none
/-- An operation's kind and operands. -/
def kindOf (P : Program) (N : Names) (o : Oper) : Kd × List Operand :=
  match callK P N o with
  | some r => r
  | none => (match ckind P N o with
    | some r => bsel (r.1.ok && !r.1.calls) r (.bad, [])
    | none => (.bad, []))
def cop (P : Program) (N : Names) (mask nt : Nat) (ops : Array Oper) (o : Oper) : Option COp := do
  let q := kindOf P N o
  let k := q.1
  let xs ← q.2.mapM (copd mask)
  let g ← match o.guard with
    | none => some none
    | some (j, want) => do
      let p ← ops[j]?
      let d ← p.dst
      let x ← copd mask (.tmp d)
      some (some (x, want))
  let d ← cdst mask nt o.dst
  some { d, g, k, xs }

/-! Regions that draw their order -/
/-- The operations ahead of each, as bits. -/
def aheads : List Oper → List Nat → List Nat
  | [], acc => acc.reverse
  | o :: os, acc =>
    let n := acc.length
    aheads os ((o.after.toList.foldl (fun s e => bsel (Region.binds .any e) (s ||| 2 ^ e.on ||| acc.getD (n - 1 - e.on) 0) s) 0) :: acc)
def risesFrom : List Oper → Nat → Bool
  | [], _ => true
  | o :: os, i => (o.after.toList.all fun e => !Region.binds .any e || decide (e.on < i)) && risesFrom os (i + 1)

def isEff : Kd → Bool
  | .box _ | .alloc _ _ | .bsl .. | .st _ | .cs2b _ | .mkm | .mks .. | .mup _ | .rngs | .rngm | .nxs | .nxm | .call _ | .callv | .inv _ | .app .. | .appz .. | .cpy .. | .clr .. | .del _ | .ust _ | .cmk | .xmnz _ | .xcl => true
  | _ => false
def isRd : Kd → Bool
  | .ld _ | .lkp .. | .len 2 | .cb2s | .xib | .xcnt | .xidx _ | .xcmp => true
  | _ => false
def idxs (p : COp → Bool) : List COp → Nat → List Nat
  | [], _ => []
  | o :: os, i => bsel (p o) (i :: idxs p os (i + 1)) (idxs p os (i + 1))
/-- Places that an operation reads. -/
def readsOf (o : COp) : List Nat :=
  let f : Opd → List Nat := fun | .loc t => [t] | .var t => [t] | _ => []
  (match o.g with | some (x, _) => f x | none => []) ++ o.xs.flatMap f
def dstOf (o : COp) : List Nat := match o.d with | .loc t => [t] | .var t => [t] | .no => []
/-- The second looks that a region owes; none: it is out of form. -/
def looks (ops : List Oper) (cs : List COp) : Option (List (Nat × Nat)) :=
  let a := aheads ops []
  let E := idxs (fun o => isEff o.k) cs 0
  let R := idxs (fun o => isRd o.k) cs 0
  let bef (i j : Nat) : Bool := (a.getD j 0).testBit i
  -- effects: a chain
  let chain := E.all fun i => E.all fun j => !decide (i < j) || bef i j
  -- no two operations that are not ordered name one place of which one writes
  let apart := (List.range cs.length).all fun i => (List.range cs.length).all fun j =>
    !decide (i < j) || bef i j ||
      match cs[i]?, cs[j]? with
      | some o, some p => ((dstOf o).all fun d => !(dstOf p).contains d && !(readsOf p).contains d) && ((dstOf p).all fun d => !(readsOf o).contains d)
      | _, _ => false
  -- looks: load r, the heaps ahead of effect j that it may meet beside its own
  let l := R.flatMap fun r =>
    (E.filter fun e => decide (e < r) && !bef e r).map (fun e => (r, e)) ++
    (E.filter fun e => decide (r < e) && !bef r e).map (fun e => (r, e + 1))
  -- what is looked at again: nothing that it reads or writes is written later
  let calm := l.all fun p => match cs[p.1]? with
    | some o => ((dstOf o).all fun d => !(readsOf o).contains d) && (List.range cs.length).all fun j => !decide (p.1 < j) || match cs[j]? with
      | some q => (dstOf q).all fun d => !(readsOf o).contains d && !(dstOf o).contains d
      | none => false
    | none => false
  if risesFrom ops 0 && chain && apart && calm then some l else none

def comp (P : Program) (N : Names) (mask nt : Nat) : Code → Option ACode
  | .skip => some .skip
  | .region _ ops draw => do
    let cs ← ops.toList.mapM (cop P N mask nt ops)
    if draw then
      match looks ops.toList cs with
      | some l => some (.drw cs l)
      | none => some .bad
    else some (.reg cs)
  | .seq a b => do let x ← comp P N mask nt a; let y ← comp P N mask nt b; some (.seq x y)
  | .cond c a b => do let c ← copd mask c; let x ← comp P N mask nt a; let y ← comp P N mask nt b; some (.cond c x y)
  | .block id b => do let x ← comp P N mask nt b; some (.block id x)
  | .loop b => do let x ← comp P N mask nt b; some (.loop x)
  | .rangeFunc .. => some .bad
  | .exit id => some (.exit id)
  | .scope b => do let x ← comp P N mask nt b; some (.scope x)
  | .label l => some (.label l)
  | .goto l => some (.goto l)
  | .ret => some .ret
  | .refuse _ => some .bad

def cres (P : Program) (mask : Nat) : ResultVar → Option Rv
  | .tmp t => bsel (mask.testBit t) (some (.var t)) none
  | .cell t u => do let g ← tagg P u; bsel (mask.testBit t) (some (.cell t g)) none

def low (n : Nat) (mask : Nat) : Bool := (List.range n).all mask.testBit
/-- All places of a mask, holding nothing. -/
def env0 (mask nt : Nat) : Tr AV := (List.range nt).foldl (fun t i => bsel (mask.testBit i) ((t.setK dpt i (some AV.und) some).getD t) t) .e
def cfn (P : Program) (N : Names) (mask : Nat) (fn : Func) : Option AFn := do
  let c ← fn.body
  let b ← comp P N mask fn.ntmps c
  let r ← fn.results.toList.mapM (cres P mask)
  if low (fn.params.size + fn.nfree) mask then some { body := b, np := fn.params.size + fn.nfree, env0 := env0 mask fn.ntmps, res := r } else none
end
end Go.Vm
namespace Go.Vm
open Go

theorem grd_some {β : Type} {b : Bool} {x : Option β} {r : β} : grd b x = some r ↔ b = true ∧ x = some r := by cases b <;> simp [grd]
theorem obind_some {α β : Type} {x : Option α} {f : α → Option β} {r : β} : obind x f = some r ↔ ∃ a, x = some a ∧ f a = some r := by cases x <;> simp [obind]
theorem nat_eq {β : Type} (n : Nat) (k : Nat → Option β) : nat! n k = k n := by cases n <;> rfl
theorem int_eq {β : Type} (n : Int) (k : Int → Option β) : int! n k = k n := by cases n <;> simp [int!, nat_eq]
theorem bool_eq {β : Type} (n : Bool) (k : Bool → Option β) : bool! n k = k n := by cases n <;> rfl
theorem bcase {β : Type} (b : Bool) (x y : β) : (Bool.casesOn b x y : β) = if b = true then y else x := by cases b <;> rfl

/-! Tries -/
namespace Tr
variable {α : Type}
theorem b0 (k : Nat) : (Nat.beq k 0 = true) ↔ k = 0 := by simp
theorem land1 (k : Nat) : Nat.land k 1 = k % 2 := by show k &&& 1 = _; exact Nat.and_one_is_mod k
theorem shr1 (k : Nat) : Nat.shiftRight k 1 = k / 2 := by show k >>> 1 = _; rw [Nat.shiftRight_succ, Nat.shiftRight_zero]
theorem brc {β : Type} (b : Bool) (x y : β) : (@Bool.rec (fun _ => β) x y b : β) = if b = true then y else x := by cases b <;> rfl
theorem get_e (k : Nat) : (Tr.e : Tr α).get k = none := rfl
theorem get_n (k : Nat) (l r : Tr α) (v : Option α) : (Tr.n l v r).get k = if k = 0 then v else if k % 2 = 0 then r.get (k / 2) else l.get (k / 2) := by
  show Tr.nget l v r l.get r.get k = _
  unfold Tr.nget
  rw [brc, brc, land1, shr1]
  simp only [b0]
theorem way_spec {β : Type} : ∀ (d k : Nat) (a : Option α) (f : Tr α → Option β), k < d → ∃ t', (∀ j, t'.get j = if j = k then a else none) ∧ Tr.way d k a f = f t'
  | 0, _, _, _, h => by omega
  | d + 1, k, a, f, h => by
    have e : Tr.way (d + 1) k a f = @Bool.rec (fun _ => Option β) (@Bool.rec (fun _ => Option β) (Tr.way d (Nat.shiftRight k 1) a (fun l => f (.n l none .e))) (Tr.way d (Nat.shiftRight k 1) a (fun r => f (.n .e none r))) (Nat.beq (Nat.land k 1) 0)) (f (.n .e a .e)) (Nat.beq k 0) := rfl
    rw [e, brc, brc, land1, shr1]
    simp only [b0]
    by_cases hk : k = 0
    · refine ⟨.n .e a .e, fun j => ?_, by rw [if_pos hk]⟩
      rw [get_n, hk]
      by_cases hj : j = 0 <;> simp [hj, get_e]
    · rw [if_neg hk]
      by_cases hm : k % 2 = 0
      · rw [if_pos hm]
        obtain ⟨t', h1, h2⟩ := way_spec d (k / 2) a (fun r => f (.n .e none r)) (by omega)
        refine ⟨.n .e none t', fun j => ?_, h2⟩
        rw [get_n, h1]
        simp only [get_e]
        by_cases hj : j = 0
        · subst hj; rw [if_pos rfl, if_neg (fun h => hk h.symm)]
        · rw [if_neg hj]
          by_cases hjm : j % 2 = 0
          · rw [if_pos hjm]
            by_cases hjk : j = k
            · subst hjk; simp
            · rw [if_neg (by omega), if_neg hjk]
          · rw [if_neg hjm, if_neg (by intro h; subst h; omega)]
      · rw [if_neg hm]
        obtain ⟨t', h1, h2⟩ := way_spec d (k / 2) a (fun l => f (.n l none .e)) (by omega)
        refine ⟨.n t' none .e, fun j => ?_, h2⟩
        rw [get_n, h1]
        simp only [get_e]
        by_cases hj : j = 0
        · subst hj; rw [if_pos rfl, if_neg (fun h => hk h.symm)]
        · rw [if_neg hj]
          by_cases hjm : j % 2 = 0
          · rw [if_pos hjm, if_neg (by intro h; subst h; omega)]
          · rw [if_neg hjm]
            by_cases hjk : j = k
            · subst hjk; simp
            · rw [if_neg (by omega), if_neg hjk]
theorem set_spec {β : Type} (d : Nat) : ∀ (t : Tr α) (k : Nat) (a : Option α) (f : Tr α → Option β), ∃ t', (∀ j, t'.get j = if j = k then a else t.get j) ∧ t.setK d k a f = f t'
  | .e, k, a, f => by
    obtain ⟨t', h1, h2⟩ := way_spec (Nat.succ k) k a f (Nat.lt_succ_self k)
    exact ⟨t', fun j => by rw [h1, get_e], h2⟩
  | .n l v r, k, a, f => by
    have e : (Tr.n l v r).setK d k a f = @Bool.rec (fun _ => Option β) (@Bool.rec (fun _ => Option β) (l.setK d (Nat.shiftRight k 1) a (fun l' => f (.n l' v r))) (r.setK d (Nat.shiftRight k 1) a (fun r' => f (.n l v r'))) (Nat.beq (Nat.land k 1) 0)) (f (.n l a r)) (Nat.beq k 0) := rfl
    rw [e, brc, brc, land1, shr1]
    simp only [b0]
    by_cases hk : k = 0
    · refine ⟨.n l a r, fun j => ?_, by rw [if_pos hk]⟩
      rw [get_n, get_n, hk]
      by_cases hj : j = 0 <;> simp [hj]
    · rw [if_neg hk]
      by_cases hm : k % 2 = 0
      · rw [if_pos hm]
        obtain ⟨t', h1, h2⟩ := set_spec d r (k / 2) a (fun r' => f (.n l v r'))
        refine ⟨.n l v t', fun j => ?_, h2⟩
        rw [get_n, get_n, h1]
        by_cases hj : j = 0
        · subst hj; rw [if_pos rfl, if_neg (fun h => hk h.symm), if_pos rfl]
        · rw [if_neg hj, if_neg hj]
          by_cases hjm : j % 2 = 0
          · rw [if_pos hjm, if_pos hjm]
            by_cases hjk : j = k
            · subst hjk; simp
            · rw [if_neg (by omega), if_neg hjk]
          · rw [if_neg hjm, if_neg hjm, if_neg (by intro h; subst h; omega)]
      · rw [if_neg hm]
        obtain ⟨t', h1, h2⟩ := set_spec d l (k / 2) a (fun l' => f (.n l' v r))
        refine ⟨.n t' v r, fun j => ?_, h2⟩
        rw [get_n, get_n, h1]
        by_cases hj : j = 0
        · subst hj; rw [if_pos rfl, if_neg (fun h => hk h.symm), if_pos rfl]
        · rw [if_neg hj, if_neg hj]
          by_cases hjm : j % 2 = 0
          · rw [if_pos hjm, if_pos hjm, if_neg (by intro h; subst h; omega)]
          · rw [if_neg hjm, if_neg hjm]
            by_cases hjk : j = k
            · subst hjk; simp
            · rw [if_neg (by omega), if_neg hjk]
theorem setK_get {β : Type} {t : Tr α} {k : Nat} {a : Option α} {f : Tr α → Option β} {r : β} (h : t.setK dpt k a f = some r) :
    ∃ t', (∀ j, t'.get j = if j = k then a else t.get j) ∧ f t' = some r := by
  obtain ⟨t', h1, h2⟩ := set_spec dpt t k a f
  exact ⟨t', h1, by rw [← h2]; exact h⟩
end Tr

/-! Packed strings -/
/-- The bytes of a packed string. -/
def sb : Nat → Nat → List UInt8
  | 0, _ => []
  | l + 1, n => sb l (n / 256) ++ [UInt8.ofNat n]
theorem sb_length (l n : Nat) : (sb l n).length = l := by
  induction l generalizing n with
  | zero => rfl
  | succ l ih => simp [sb, ih]
theorem ofNat_mod (n : Nat) : UInt8.ofNat (n % 256) = UInt8.ofNat n := by
  apply UInt8.toNat.inj; simp
theorem sb_get (l n i : Nat) (h : i < l) : (sb l n)[i]? = some (UInt8.ofNat (n / 256 ^ (l - 1 - i))) := by
  induction l generalizing n with
  | zero => omega
  | succ l ih =>
    simp only [sb]
    by_cases hi : i < l
    · rw [List.getElem?_append_left (by rw [sb_length]; exact hi), ih _ hi]
      congr 2
      rw [Nat.div_div_eq_div_mul, show l + 1 - 1 - i = (l - 1 - i) + 1 by omega, Nat.pow_succ, Nat.mul_comm]
    · have : i = l := by omega
      subst this
      rw [List.getElem?_append_right (by rw [sb_length]; exact Nat.le_refl _), sb_length]
      simp
theorem shr8 (n k : Nat) : Nat.shiftRight n (8 * k) = n / 256 ^ k := by
  show n >>> (8 * k) = _
  rw [Nat.shiftRight_eq_div_pow, show (256 : Nat) = 2 ^ 8 by rfl, ← Nat.pow_mul]
theorem sidx_eq (l n i : Nat) : sidx l n i = n / 256 ^ (l - 1 - i) % 256 := by
  unfold sidx
  show Nat.land (Nat.shiftRight n (8 * (l - 1 - i))) 255 = _
  rw [shr8]
  show _ &&& 255 = _
  rw [show (255 : Nat) = 2 ^ 8 - 1 by rfl, Nat.and_two_pow_sub_one_eq_mod]
theorem sidx_lt (l n i : Nat) : sidx l n i < 256 := by rw [sidx_eq]; exact Nat.mod_lt _ (by decide)
theorem sb_sidx (l n i : Nat) (h : i < l) : (sb l n)[i]? = some (UInt8.ofNat (sidx l n i)) := by
  rw [sb_get l n i h, sidx_eq, ofNat_mod]
theorem sb_inj : ∀ (l n m : Nat), n < 256 ^ l → m < 256 ^ l → sb l n = sb l m → n = m
  | 0, n, m, hn, hm, _ => by simp at hn hm; omega
  | l + 1, n, m, hn, hm, h => by
    simp only [sb] at h
    obtain ⟨h1, h2⟩ := List.append_inj' h rfl
    have h3 := sb_inj l (n / 256) (m / 256) (by rw [Nat.pow_succ] at hn; exact Nat.div_lt_of_lt_mul (by rw [Nat.mul_comm]; exact hn)) (by rw [Nat.pow_succ] at hm; exact Nat.div_lt_of_lt_mul (by rw [Nat.mul_comm]; exact hm)) h1
    have h4 : n % 256 = m % 256 := by
      have := List.cons.inj h2
      have := congrArg UInt8.toNat this.1
      simpa using this
    omega
theorem sb_append (l n l' n' : Nat) (h' : n' < 256 ^ l') : sb (l + l') (n * 256 ^ l' + n') = sb l n ++ sb l' n' := by
  induction l' generalizing n' with
  | zero => simp at h'; subst h'; simp [sb]
  | succ l' ih =>
    have h1 : n' / 256 < 256 ^ l' := by rw [Nat.pow_succ] at h'; exact Nat.div_lt_of_lt_mul (by rw [Nat.mul_comm]; exact h')
    have h2 : (n * 256 ^ (l' + 1) + n') / 256 = n * 256 ^ l' + n' / 256 := by
      rw [Nat.pow_succ, ← Nat.mul_assoc, Nat.add_comm, Nat.add_mul_div_right _ _ (by decide), Nat.add_comm]
    have h3 : UInt8.ofNat (n * 256 ^ (l' + 1) + n') = UInt8.ofNat n' := by
      rw [← ofNat_mod, ← ofNat_mod n']
      congr 1
      rw [Nat.pow_succ, ← Nat.mul_assoc, Nat.add_comm, Nat.add_mul_mod_self_right]
    show sb (l + l') _ ++ [_] = _
    rw [h2, h3, ih _ h1]
    simp [sb]
theorem scat_eq (n l' n' : Nat) : scat n l' n' = n * 256 ^ l' + n' := by
  unfold scat
  show Nat.shiftLeft n (8 * l') + n' = _
  have : Nat.shiftLeft n (8 * l') = n * 256 ^ l' := by
    show n <<< (8 * l') = _
    rw [Nat.shiftLeft_eq, show (256 : Nat) = 2 ^ 8 by rfl, ← Nat.pow_mul]
  rw [this]
theorem ssub_eq (l n a b : Nat) : ssub l n a b = n / 256 ^ (l - b) % 256 ^ (b - a) := by
  unfold ssub
  show Nat.shiftRight n (8 * (l - b)) % Nat.shiftLeft 1 (8 * (b - a)) = _
  rw [shr8]
  congr 1
  show 1 <<< (8 * (b - a)) = _
  rw [Nat.shiftLeft_eq, Nat.one_mul, show (256 : Nat) = 2 ^ 8 by rfl, ← Nat.pow_mul]
theorem sb_ssub (l n a b : Nat) (hab : a ≤ b) (hb : b ≤ l) : sb (b - a) (ssub l n a b) = ((sb l n).drop a).take (b - a) := by
  apply List.ext_getElem?
  intro i
  by_cases hi : i < b - a
  · rw [sb_sidx _ _ _ hi, List.getElem?_take_of_lt hi, List.getElem?_drop, sb_sidx _ _ _ (by omega)]
    congr 2
    rw [sidx_eq, sidx_eq, ssub_eq]
    have e : b - a = (b - a - 1 - i) + (i + 1) := by omega
    have e2 : l - 1 - (a + i) = (l - b) + (b - a - 1 - i) := by omega
    rw [e2, Nat.pow_add, ← Nat.div_div_eq_div_mul]
    generalize n / 256 ^ (l - b) = m
    have e3 : (256 : Nat) ^ (b - a) = 256 ^ (b - a - 1 - i) * 256 ^ (i + 1) := by rw [← Nat.pow_add, ← e]
    rw [e3, Nat.mod_mul_right_div_self, Nat.pow_succ, Nat.mul_comm (256 ^ i), Nat.mod_mul_right_mod]
  · rw [List.getElem?_eq_none (by rw [sb_length]; omega), List.getElem?_eq_none (by simp [sb_length]; omega)]
theorem ssub_lt (l n a b : Nat) : ssub l n a b < 256 ^ (b - a) := by rw [ssub_eq]; exact Nat.mod_lt _ (Nat.pow_pos (by decide))
theorem scat_lt (l n l' n' : Nat) (h : n < 256 ^ l) (h' : n' < 256 ^ l') : scat n l' n' < 256 ^ (l + l') := by
  rw [scat_eq, Nat.pow_add]
  calc n * 256 ^ l' + n' < n * 256 ^ l' + 256 ^ l' := by omega
    _ = (n + 1) * 256 ^ l' := by rw [Nat.add_mul, Nat.one_mul]
    _ ≤ _ := Nat.mul_le_mul_right _ h
end Go.Vm
namespace Go.Vm
open Go

/-- Where an abstract block lies: the model's block, the first cell, how many cells the block has. -/
structure Mp where
  blk : Nat → Nat
  bas : Nat → Nat
  tot : Nat → Nat

/-- Two maps that agree on the first n blocks. -/
def Mp.agree (n : Nat) (a b : Mp) : Prop := ∀ i, i < n → a.blk i = b.blk i ∧ a.bas i = b.bas i ∧ a.tot i = b.tot i
theorem Mp.agree.refl {n : Nat} {a : Mp} : Mp.agree n a a := fun _ _ => ⟨rfl, rfl, rfl⟩
theorem Mp.agree.trans {n m : Nat} {a b c : Mp} (h : Mp.agree n a b) (k : Mp.agree m b c) (hm : n ≤ m) : Mp.agree n a c :=
  fun i hi => let ⟨x, y, z⟩ := h i hi; let ⟨x', y', z'⟩ := k i (Nat.lt_of_lt_of_le hi hm); ⟨x.trans x', y.trans y', z.trans z'⟩
theorem Mp.agree.mono {n m : Nat} {a b : Mp} (h : Mp.agree m a b) (hm : n ≤ m) : Mp.agree n a b := fun i hi => h i (Nat.lt_of_lt_of_le hi hm)
theorem Mp.agree.symm {n : Nat} {a b : Mp} (h : Mp.agree n a b) : Mp.agree n b a := fun i hi => let ⟨x, y, z⟩ := h i hi; ⟨x.symm, y.symm, z.symm⟩

def FnOk (N : Names) : FnV → Fn → Prop
  | .func f, .func g => f = g
  | .meth m, .method s => N[m]? = some s
  | _, _ => False

/-- An abstract value stands for a value: all blocks that it names are among the first n. -/
inductive V (N : Names) (μ : Mp) (n : Nat) : AV → Value → Prop
  | bool (b : Bool) : V N μ n (.bool b) (.bool b)
  | int (k : IntKind) (i : Int) : V N μ n (.int k i) (.int k i)
  | str (l m : Nat) (s : ByteArray) (hm : m < 256 ^ l) (hs : s.data.toList = sb l m) : V N μ n (.str l m) (.string s)
  | nilp : V N μ n .nilp (.pointer none)
  | ptr (i o : Nat) (hi : i < n) : V N μ n (.ptr i o) (.pointer (some ⟨μ.blk i, μ.bas i + o, none⟩))
  | nils : V N μ n .nils (.slice none 0 0)
  | slc (i o l c x : Nat) (hi : i < n) (hl : l ≤ c) (hx : c ≠ 0 → x = μ.bas i + o) : V N μ n (.slc i o l c) (.slice (some ⟨μ.blk i, x, none⟩) l c)
  | slo (i o l s c x : Nat) (hi : i < n) (hl : l ≤ c) (ht : μ.bas i + o + c * s = μ.tot i) (hx : c ≠ 0 → x = μ.bas i + o) : V N μ n (.slo i o l s) (.slice (some ⟨μ.blk i, x, none⟩) l c)
  | nilm : V N μ n .nilm (.map none)
  | map (i : Nat) (hi : i < n) : V N μ n (.map i) (.map (some (μ.blk i)))
  | fn (f : FnV) (g : Fn) (a b : List AV) (x y : Array Value) (hf : FnOk N f g) (ha : a.length = x.size) (hb : b.length = y.size)
      (hxa : ∀ (j : Nat) (p : AV) (q : Value), a[j]? = some p → x[j]? = some q → V N μ n p q) (hyb : ∀ (j : Nat) (p : AV) (q : Value), b[j]? = some p → y[j]? = some q → V N μ n p q) : V N μ n (.fn f a b) (.func g x y)
  | nilf : V N μ n .nilf .nilFunc
  | ifc (t : Nat) (v : AV) (x : Value) (hv : V N μ n v x) : V N μ n (.ifc t v) (.iface t x)
  | nili : V N μ n .nili .nilIface
  | agg (l : List AV) (x : Array Value) (hl : l.length = x.size) (h : ∀ (j : Nat) (p : AV) (q : Value), l[j]? = some p → x[j]? = some q → V N μ n p q) : V N μ n (.agg l) (.agg x)
  | tup (l : List AV) (x : Array Value) (hl : l.length = x.size) (h : ∀ (j : Nat) (p : AV) (q : Value), l[j]? = some p → x[j]? = some q → V N μ n p q) : V N μ n (.tup l) (.tuple x)
  | glob (g o : Nat) : V N μ n (.glob g o) (.pointer (some ⟨g, o, none⟩))

theorem V.mono {N : Names} {μ μ' : Mp} {n n' : Nat} (ha : Mp.agree n μ μ') (hn : n ≤ n') {v : AV} {x : Value} (h : V N μ n v x) : V N μ' n' v x := by
  induction h with
  | bool b => exact .bool b
  | int k i => exact .int k i
  | str l m s hm hs => exact .str l m s hm hs
  | nilp => exact .nilp
  | ptr i o hi => obtain ⟨h1, h2, h3⟩ := ha i hi; rw [h1, h2]; exact .ptr i o (by omega)
  | nils => exact .nils
  | slc i o l c x hi hl hx => obtain ⟨h1, h2, h3⟩ := ha i hi; rw [h1]; exact .slc i o l c x (by omega) hl (by rw [← h2]; exact hx)
  | slo i o l s c x hi hl ht hx => obtain ⟨h1, h2, h3⟩ := ha i hi; rw [h1]; exact .slo i o l s c x (by omega) hl (by rw [← h2, ← h3]; exact ht) (by rw [← h2]; exact hx)
  | nilm => exact .nilm
  | map i hi => obtain ⟨h1, h2, h3⟩ := ha i hi; rw [h1]; exact .map i (by omega)
  | fn f g a b x y hf ha hb hxa hyb ih1 ih2 => exact .fn f g a b x y hf ha hb (fun j p q h1 h2 => ih1 j p q h1 h2) (fun j p q h1 h2 => ih2 j p q h1 h2)
  | nilf => exact .nilf
  | ifc t v x hv ih => exact .ifc t v x ih
  | nili => exact .nili
  | agg l x hl h ih => exact .agg l x hl fun j p q h1 h2 => ih j p q h1 h2
  | tup l x hl h ih => exact .tup l x hl fun j p q h1 h2 => ih j p q h1 h2
  | glob g o => exact .glob g o

/-- A row of values. -/
def Vs (N : Names) (μ : Mp) (n : Nat) (l : List AV) (x : List Value) : Prop := l.length = x.length ∧ ∀ (j : Nat) (p : AV) (q : Value), l[j]? = some p → x[j]? = some q → V N μ n p q
theorem Vs.nil {N : Names} {μ : Mp} {n : Nat} : Vs N μ n [] [] := ⟨rfl, fun j p q h => by simp at h⟩
theorem Vs.cons {N : Names} {μ : Mp} {n : Nat} {v : AV} {x : Value} {l : List AV} {xs : List Value} (h : V N μ n v x) (hl : Vs N μ n l xs) : Vs N μ n (v :: l) (x :: xs) :=
  ⟨by simp [hl.1], fun j p q h1 h2 => by
    cases j with
    | zero => simp at h1 h2; subst h1; subst h2; exact h
    | succ j => exact hl.2 j p q (by simpa using h1) (by simpa using h2)⟩
theorem Vs.cons_inv {N : Names} {μ : Mp} {n : Nat} {v : AV} {l : List AV} {ys : List Value} (h : Vs N μ n (v :: l) ys) : ∃ x xs, ys = x :: xs ∧ V N μ n v x ∧ Vs N μ n l xs := by
  obtain ⟨h1, h2⟩ := h
  cases ys with
  | nil => simp at h1
  | cons x xs => exact ⟨x, xs, rfl, h2 0 v x rfl rfl, by simpa using h1, fun j p q a b => h2 (j + 1) p q (by simpa using a) (by simpa using b)⟩
theorem Vs.nil_inv {N : Names} {μ : Mp} {n : Nat} {ys : List Value} (h : Vs N μ n [] ys) : ys = [] := by
  have := h.1; simp at this; exact List.length_eq_zero_iff.1 this.symm
theorem Vs.mono {N : Names} {μ μ' : Mp} {n n' : Nat} (ha : Mp.agree n μ μ') (hn : n ≤ n') {l : List AV} {x : List Value} (h : Vs N μ n l x) : Vs N μ' n' l x :=
  ⟨h.1, fun j p q a b => (h.2 j p q a b).mono ha hn⟩
theorem Vs.append {N : Names} {μ : Mp} {n : Nat} {l l' : List AV} {x x' : List Value} (h : Vs N μ n l x) (h' : Vs N μ n l' x') : Vs N μ n (l ++ l') (x ++ x') := by
  refine ⟨by simp [h.1, h'.1], fun j p q a b => ?_⟩
  by_cases hj : j < l.length
  · rw [List.getElem?_append_left hj] at a
    rw [List.getElem?_append_left (by rw [← h.1]; exact hj)] at b
    exact h.2 j p q a b
  · rw [List.getElem?_append_right (by omega)] at a
    rw [List.getElem?_append_right (by rw [← h.1]; omega), ← h.1] at b
    exact h'.2 _ p q a b
theorem Vs.get {N : Names} {μ : Mp} {n : Nat} {l : List AV} {x : List Value} (h : Vs N μ n l x) {j : Nat} {p : AV} (hp : l[j]? = some p) : ∃ q, x[j]? = some q ∧ V N μ n p q := by
  have hj : j < l.length := (List.getElem?_eq_some_iff.1 hp).1
  exact ⟨x[j]'(by rw [← h.1]; exact hj), List.getElem?_eq_getElem _, h.2 j p _ hp (List.getElem?_eq_getElem _)⟩
theorem Vs.take {N : Names} {μ : Mp} {n : Nat} {l : List AV} {x : List Value} (h : Vs N μ n l x) (k : Nat) : Vs N μ n (l.take k) (x.take k) := by
  refine ⟨by simp [h.1], fun j p q a b => ?_⟩
  rw [List.getElem?_take] at a b
  by_cases hj : j < k
  · simp only [hj, if_true] at a b; exact h.2 j p q a b
  · simp [hj] at a
theorem Vs.drop {N : Names} {μ : Mp} {n : Nat} {l : List AV} {x : List Value} (h : Vs N μ n l x) (k : Nat) : Vs N μ n (l.drop k) (x.drop k) := by
  refine ⟨by simp [h.1], fun j p q a b => ?_⟩
  rw [List.getElem?_drop] at a b
  exact h.2 _ p q a b
theorem V.agg' {N : Names} {μ : Mp} {n : Nat} {l : List AV} {x : List Value} (h : Vs N μ n l x) : V N μ n (.agg l) (.agg x.toArray) :=
  .agg l _ (by simpa using h.1) fun j p q a b => h.2 j p q a (by simpa using b)
theorem V.tup' {N : Names} {μ : Mp} {n : Nat} {l : List AV} {x : List Value} (h : Vs N μ n l x) : V N μ n (.tup l) (.tuple x.toArray) :=
  .tup l _ (by simpa using h.1) fun j p q a b => h.2 j p q a (by simpa using b)
theorem V.und {N : Names} {μ : Mp} {n : Nat} : V N μ n AV.und undef := .tup [] #[] rfl fun j p q a => by simp at a
theorem V.agg_inv {N : Names} {μ : Mp} {n : Nat} {l : List AV} {x : Value} (h : V N μ n (.agg l) x) : ∃ xs, x = .agg xs ∧ Vs N μ n l xs.toList := by
  cases h with
  | agg _ x hl h => exact ⟨x, rfl, by simpa using hl, fun j p q a b => h j p q a (by simpa using b)⟩
theorem V.tup_inv {N : Names} {μ : Mp} {n : Nat} {l : List AV} {x : Value} (h : V N μ n (.tup l) x) : ∃ xs, x = .tuple xs ∧ Vs N μ n l xs.toList := by
  cases h with
  | tup _ x hl h => exact ⟨x, rfl, by simpa using hl, fun j p q a b => h j p q a (by simpa using b)⟩
theorem V.one {N : Names} {μ : Mp} {n : Nat} {v : AV} {x : Value} (h : V N μ n v x) : v.one = x.oneCell' := by cases h <;> rfl
theorem V.cells {N : Names} {μ : Mp} {n : Nat} {v : AV} {x : Value} (h : V N μ n v x) : Vs N μ n v.cells x.cells.toList := by
  cases h with
  | agg l x hl h => exact ⟨by simpa [AV.cells, Value.cells] using hl, fun j p q a b => h j p q a (by simpa [Value.cells] using b)⟩
  | _ => exact Vs.cons (by constructor <;> assumption) Vs.nil

/-! The heap -/
def AObj.tag : AObj → Nat
  | .cells _ _ _ _ _ tag _ => tag
  | _ => 0
def AObj.len : AObj → Nat
  | .cells _ n _ _ _ _ _ => n
  | _ => 0
def AObj.ro : AObj → Bool
  | .cells _ _ _ _ _ _ ro => ro
  | _ => false
/-- The frozen cells of a block, as the evaluator knows them. -/
def Fz (fl fh b size lo hi : Nat) : Prop :=
  (fl = fh → lo = hi) ∧ (fl < fh → lo = b + fl ∧ hi = b + fh) ∧ (fh < fl → ∀ j, j < size → ¬ (lo ≤ j ∧ j < hi))

def Holds (N : Names) (μ : Mp) (h : AH) (i : Nat) (w : World) : AObj → Prop
  | .cells c n e fl fh tag _ => ∃ arr lo hi, w.heap[μ.blk i]? = some (.cells arr e (lo, hi)) ∧ arr.size = μ.tot i ∧ μ.bas i + n ≤ arr.size ∧ Fz fl fh (μ.bas i) arr.size lo hi ∧
      (readable h i tag = true → ∀ j v, j < n → c.get j = some v → ∃ x, arr[μ.bas i + j]? = some x ∧ V N μ h.nx v x ∧ x.oneCell' = true)
  | .map es clock => ∃ en, w.heap[μ.blk i]? = some (.map en clock) ∧ en.size = es.length ∧
      ∀ (j : Nat) (e : AE) (x : MapEntry), es[j]? = some e → en[j]? = some x → V N μ h.nx e.key x.key ∧ V N μ h.nx e.val x.val ∧ x.born = e.born
  | .siter l n p => ∃ s, w.heap[μ.blk i]? = some (.stringIter s p) ∧ n < 256 ^ l ∧ s.data.toList = sb l n ∧ μ.bas i = 0
  | .miter m since seen last => w.heap[μ.blk i]? = some (.mapIter (m.map μ.blk) since seen.toArray last) ∧ (∀ j, m = some j → j < h.nx) ∧ μ.bas i = 0

/-- The evaluator's heap stands for the world's; what is told by F is as it was. -/
structure R (N : Names) (G : Tr (Tr AV)) (F : Nat → Option Obj) (w0 : World) (μ : Mp) (h : AH) (w : World) : Prop where
  os : w.os = w0.os
  out : w.output = w0.output
  lo : w0.heap.size ≤ w.heap.size
  fr : ∀ b o, F b = some o → w.heap[b]? = some o
  ids : ∀ i o, h.t.get i = some o → i < h.nx
  obj : ∀ i o, h.t.get i = some o → Holds N μ h i w o
  apart : ∀ i j a b, h.t.get i = some a → h.t.get j = some b → i ≠ j → μ.blk i = μ.blk j → a.tag ≠ 0 ∧ a.tag = b.tag
  own : ∀ i o, h.t.get i = some o → o.ro = false → F (μ.blk i) = none
  grp : ∀ i o, h.t.get i = some o → o.tag ≠ 0 → ∃ a f, h.g.get o.tag = some (a, f) ∧ i ≤ a ∧ f ≤ a
  tags : ∀ i o t, h.t.get i = some o → o.tag = t + 1 → ∃ p, h.t.get t = some p ∧ p.tag = t + 1
  glb : ∀ g c o v, G.get g = some c → c.get o = some v → ∃ x, w.cell? ⟨g, o, none⟩ = some x ∧ V N μ 0 v x ∧ x.oneCell' = true
  gfr : ∀ g c, G.get g = some c → ∃ ob, F g = some ob
  inc : ∀ i j a b, h.t.get i = some a → h.t.get j = some b → i ≤ j → a.tag ≠ 0 → μ.blk i = μ.blk j → μ.bas i + a.len ≤ μ.bas j + b.len
  fnone : ∀ b, w0.heap.size ≤ b → F b = none
  mxl : ∃ (arr : Array Value) (t : TypeId) (f : Nat × Nat) (m : Int), F mxG = some (.cells arr t f) ∧ arr[0]? = some (.int .i64 m)

section
variable {N : Names} {G : Tr (Tr AV)} {F : Nat → Option Obj} {w0 : World} {μ : Mp} {h : AH} {w : World}

theorem R.drew (r : R N G F w0 μ h w) : R N G F w0 μ h w.drew :=
  ⟨r.os, r.out, r.lo, r.fr, r.ids, fun i o hi => by have := r.obj i o hi; cases o <;> exact this, r.apart, r.own, r.grp, r.tags, r.glb, r.gfr, r.inc, r.fnone, r.mxl⟩

/-- A load. -/
theorem R.load (r : R N G F w0 μ h w) {i o : Nat} {v : AV} (hl : hload h i o = some v) :
    i < h.nx ∧ ∃ x, w.cell? ⟨μ.blk i, μ.bas i + o, none⟩ = some x ∧ V N μ h.nx v x ∧ x.oneCell' = true := by
  unfold hload at hl
  cases hg : h.t.get i with
  | none => rw [hg] at hl; cases hl
  | some ob =>
    rw [hg] at hl
    cases ob with
    | cells c n e fl fh tag ro =>
      simp only [bcase] at hl
      split at hl
      · rename_i hn
        split at hl
        · rename_i hr
          obtain ⟨arr, lo, hi, hb, hs, hn', hfz, hc⟩ := r.obj i _ hg
          have hlt : o < n := by have : o + 1 ≤ n := by simpa using hn
                                 omega
          obtain ⟨x, hx, hv, h1⟩ := hc hr o v hlt hl
          exact ⟨r.ids i _ hg, x, by simp [World.cell?, hb, hx], hv, h1⟩
        · cases hl
      · cases hl
    | map _ _ => cases hl
    | siter _ _ _ => cases hl
    | miter _ _ _ _ => cases hl

theorem R.loads (r : R N G F w0 μ h w) {i : Nat} : ∀ (m o : Nat) (acc l : List AV), hloads h i o m acc = some l →
    ∃ k, l = acc.reverse ++ k ∧ k.length = m ∧ ∀ j v, k[j]? = some v → hload h i (o + j) = some v
  | 0, o, acc, l, hl => ⟨[], by simp [hloads] at hl; simp [hl], rfl, fun j v h => by simp at h⟩
  | m + 1, o, acc, l, hl => by
    simp only [hloads] at hl
    cases hv : hload h i o with
    | none => simp [hv] at hl
    | some v =>
      simp only [hv] at hl
      obtain ⟨k, h1, h2, h3⟩ := R.loads r m (o + 1) (v :: acc) l hl
      refine ⟨v :: k, by simp [h1], by simp [h2], fun j u hj => ?_⟩
      cases j with
      | zero => simp at hj; subst hj; exact hv
      | succ j => have := h3 j u (by simpa using hj); rwa [Nat.add_assoc, Nat.add_comm 1 j] at this

/-- What a row of loads gives, in the world. -/
theorem R.cellsOf (r : R N G F w0 μ h w) {i o m : Nat} {l : List AV} (hl : hloads h i o m [] = some l) :
    l.length = m ∧ (m ≠ 0 → i < h.nx) ∧ ∃ xs : List Value, Vs N μ h.nx l xs ∧ (∀ j x, xs[j]? = some x → w.cell? ((⟨μ.blk i, μ.bas i + o, none⟩ : Addr).add j) = some x) ∧ ∀ x ∈ xs, x.oneCell' = true := by
  obtain ⟨k, h1, h2, h3⟩ := R.loads r m o [] l hl
  simp at h1; subst h1
  have key : ∀ j v, l[j]? = some v → i < h.nx ∧ ∃ x, w.cell? ⟨μ.blk i, μ.bas i + (o + j), none⟩ = some x ∧ V N μ h.nx v x ∧ x.oneCell' = true := fun j v hj => r.load (h3 j v hj)
  refine ⟨h2, fun hm => ?_, ?_⟩
  · cases l with
    | nil => exact absurd h2.symm hm
    | cons v l => exact (key 0 v rfl).1
  · clear h3 hl
    have : ∃ xs : List Value, xs.length = l.length ∧ ∀ (j : Nat) (x : Value), xs[j]? = some x → ∃ v, l[j]? = some v ∧ w.cell? ⟨μ.blk i, μ.bas i + (o + j), none⟩ = some x ∧ V N μ h.nx v x ∧ x.oneCell' = true := by
      clear h2
      refine ⟨(List.range l.length).map fun j => (w.cell? ⟨μ.blk i, μ.bas i + (o + j), none⟩).getD undef, by simp, fun j x hj => ?_⟩
      have hlt : j < l.length := by
        have := (List.getElem?_eq_some_iff.1 hj).1
        simpa using this
      obtain ⟨_, y, hy, hv, h1⟩ := key j l[j] (List.getElem?_eq_getElem hlt)
      have : x = y := by simp [hlt, hy] at hj; exact hj.symm
      subst this
      exact ⟨l[j], List.getElem?_eq_getElem hlt, hy, hv, h1⟩
    obtain ⟨xs, hlen, hx⟩ := this
    refine ⟨xs, ⟨hlen.symm, fun j p q a b => ?_⟩, fun j x hj => ?_, fun x hm => ?_⟩
    · obtain ⟨v, hv, _, h4, _⟩ := hx j q b
      rw [a] at hv; cases hv; exact h4
    · obtain ⟨v, hv, h4, _, _⟩ := hx j x hj
      rw [← h4]
      unfold Addr.add
      by_cases hj0 : j = 0
      · subst hj0; simp
      · simp [hj0, Nat.add_assoc]
    · obtain ⟨j, hj⟩ := List.getElem?_of_mem hm
      obtain ⟨_, _, _, _, h5⟩ := hx j x hj
      exact h5
end

/-- A row of stores. -/
theorem run_storeCells (P : Program) (b off e lo hi : Nat) : ∀ (xs : List Value) (i : Nat) (w : World) (arr : Array Value), w.heap[b]? = some (.cells arr e (lo, hi)) →
    off + i + xs.length ≤ arr.size → (∀ j, j < xs.length → ¬ (lo ≤ off + i + j ∧ off + i + j < hi)) → (∀ x ∈ xs, x.oneCell' = true) →
    ∃ w' arr', (storeCells ⟨b, off, none⟩ xs i).run P w = .ok () w' ∧ w'.heap[b]? = some (.cells arr' e (lo, hi)) ∧ arr'.size = arr.size ∧
      (∀ j, arr'[j]? = if off + i ≤ j ∧ j < off + i + xs.length then xs[j - (off + i)]? else arr[j]?) ∧ (∀ k, k ≠ b → w'.heap[k]? = w.heap[k]?) ∧
      w'.heap.size = w.heap.size ∧ w'.os = w.os ∧ w'.tape = w.tape ∧ w'.output = w.output
  | [], i, w, arr, hb, _, _, _ => ⟨w, arr, rfl, hb, rfl, fun j => by rw [if_neg (by simp)], fun _ _ => rfl, rfl, rfl, rfl, rfl⟩
  | x :: xs, i, w, arr, hb, hsz, hfr, hone => by
    have ha : (⟨b, off, none⟩ : Addr).add i = ⟨b, off + i, none⟩ := by
      unfold Addr.add
      by_cases h0 : i = 0
      · subst h0; simp
      · simp [h0]
    have hx : x.oneCell' = true := hone x (by simp)
    simp only [List.length_cons] at hsz hfr
    have hcell : w.cell? ⟨b, off + i, none⟩ = some (arr[off + i]'(by omega)) := by
      simp only [World.cell?, hb]
      simp [Array.getElem?_eq_getElem (show off + i < arr.size by omega)]
    have hfro : w.frozen? ⟨b, off + i, none⟩ = false := by
      simp only [World.frozen?, hb]
      have h0 := hfr 0 (by omega)
      simp only [Nat.add_zero] at h0
      simp
      omega
    have hb' : (w.setCell ⟨b, off + i, none⟩ x).heap[b]? = some (.cells (arr.setIfInBounds (off + i) x) e (lo, hi)) := by
      simp [World.setCell, Array.getElem?_modify, hb]
    obtain ⟨w', arr', h1, h2, h3, h4, h5, h6, h7, h8, h9⟩ := run_storeCells P b off e lo hi xs (i + 1) (w.setCell ⟨b, off + i, none⟩ x) _ hb'
      (by simp; omega) (fun j hj => by have := hfr (j + 1) (by omega); rwa [show off + (i + 1) + j = off + i + (j + 1) by omega]) (fun y hy => hone y (by simp [hy]))
    refine ⟨w', arr', ?_, h2, by simpa using h3, fun j => ?_, fun k hk => ?_, by simpa using h6, h7, h8, h9⟩
    · simp only [storeCells, Sem.run_bind, ha, run_store P w _ _ _ hx, hcell, hfro]
      exact h1
    · rw [h4]
      simp only [List.length_cons]
      by_cases hj : off + (i + 1) ≤ j ∧ j < off + (i + 1) + xs.length
      · rw [if_pos hj, if_pos (by omega), show j - (off + i) = (j - (off + (i + 1))) + 1 by omega]
        simp
      · rw [if_neg hj]
        by_cases hji : j = off + i
        · subst hji
          rw [if_pos (by omega)]
          simp [show off + i < arr.size by omega]
        · rw [if_neg (by omega), Array.getElem?_setIfInBounds, if_neg (by omega)]
    · rw [h5 k hk]
      simp only [World.setCell, Array.getElem?_modify]
      rw [if_neg (fun h => hk h.symm)]

theorem setAll_spec {β : Type} {n : Nat} {f : Tr AV → Option β} {r : β} : ∀ (vs : List AV) (o : Nat) (c : Tr AV), setAll n vs o c f = some r →
    ∃ c', (∀ j, c'.get j = if o ≤ j ∧ j < o + vs.length then vs[j - o]? else c.get j) ∧ (vs ≠ [] → o + vs.length ≤ n) ∧ (∀ v ∈ vs, v.one = true) ∧ f c' = some r
  | [], o, c, h => ⟨c, fun j => by rw [if_neg (by simp)], fun h => absurd rfl h, fun v hv => by simp at hv, h⟩
  | v :: vs, o, c, h => by
    simp only [setAll, bcase] at h
    split at h
    · rename_i hn
      split at h
      · rename_i h1
        obtain ⟨c1, hc1, h⟩ := Tr.setK_get h
        obtain ⟨c', hc', h2, h3, h4⟩ := setAll_spec vs (o + 1) c1 h
        have hn' : o + 1 ≤ n := by simpa using hn
        refine ⟨c', fun j => ?_, fun _ => ?_, fun u hu => ?_, h4⟩
        · rw [hc', hc1]
          simp only [List.length_cons]
          by_cases hj : o + 1 ≤ j ∧ j < o + 1 + vs.length
          · rw [if_pos hj, if_pos (by omega), show j - o = (j - (o + 1)) + 1 by omega]; simp
          · rw [if_neg hj]
            by_cases hjo : j = o
            · subst hjo; rw [if_pos rfl, if_pos (by omega)]; simp
            · rw [if_neg hjo, if_neg (by omega)]
        · simp only [List.length_cons]
          cases vs with
          | nil => simp; omega
          | cons u us => have := h2 (by simp); simp at this ⊢; omega
        · rcases List.mem_cons.1 hu with rfl | hu
          · exact h1
          · exact h3 u hu
      · cases h
    · cases h

section
variable {N : Names} {G : Tr (Tr AV)} {F : Nat → Option Obj} {w0 : World} {μ : Mp} {h : AH} {w : World}

theorem R.blk_lt (r : R N G F w0 μ h w) {i : Nat} {o : AObj} (hi : h.t.get i = some o) : μ.blk i < w.heap.size := by
  have := r.obj i o hi
  cases o with
  | cells c n e fl fh tag ro => obtain ⟨_, _, _, hb, _⟩ := this; exact (Array.getElem?_eq_some_iff.1 hb).1
  | map es c => obtain ⟨_, hb, _⟩ := this; exact (Array.getElem?_eq_some_iff.1 hb).1
  | siter l n p => obtain ⟨_, hb, _⟩ := this; exact (Array.getElem?_eq_some_iff.1 hb).1
  | miter m s se l => exact (Array.getElem?_eq_some_iff.1 this.1).1

/-- What a row that is not the changed one holds, holds on. -/
theorem Holds.keep {h' : AH} {w' : World} {i : Nat} {o : AObj} (hh : Holds N μ h i w o) (hb : w'.heap[μ.blk i]? = w.heap[μ.blk i]?) (hn : h.nx ≤ h'.nx)
    (hr : ∀ c n e fl fh tag ro, o = .cells c n e fl fh tag ro → readable h' i tag = true → readable h i tag = true) : Holds N μ h' i w' o := by
  cases o with
  | cells c n e fl fh tag ro =>
    obtain ⟨arr, lo, hi, h1, h2, h3, h4, h5⟩ := hh
    exact ⟨arr, lo, hi, hb.trans h1, h2, h3, h4, fun hrd j v hj hv => let ⟨x, a, b, c⟩ := h5 (hr _ _ _ _ _ _ _ rfl hrd) j v hj hv; ⟨x, a, b.mono .refl hn, c⟩⟩
  | map es c =>
    obtain ⟨en, h1, h2, h3⟩ := hh
    exact ⟨en, hb.trans h1, h2, fun j e x a b => let ⟨p, q, s⟩ := h3 j e x a b; ⟨p.mono .refl hn, q.mono .refl hn, s⟩⟩
  | siter l n p => obtain ⟨s, h1, h2⟩ := hh; exact ⟨s, hb.trans h1, h2⟩
  | miter m s se l => exact ⟨hb.trans hh.1, fun j hj => Nat.lt_of_lt_of_le (hh.2.1 j hj) hn, hh.2.2⟩
end
end Go.Vm
namespace Go.Vm
open Go

section
variable {N : Names} {G : Tr (Tr AV)} {F : Nat → Option Obj} {w0 : World} {μ : Mp} {h : AH} {w : World}

theorem lastOf_spec {h : AH} {i tag : Nat} (hl : lastOf h i tag = true) (ht : tag ≠ 0) : ∃ f, h.g.get tag = some (i, f) := by
  unfold lastOf at hl
  rw [bcase, if_neg (by simpa using ht)] at hl
  split at hl
  · rename_i a f hg
    exact ⟨f, by rw [hg]; simp at hl; rw [hl]⟩
  · cases hl
theorem readable_zero (h : AH) (i : Nat) : readable h i 0 = true := rfl
theorem readable_spec {h : AH} {i tag a f : Nat} (ht : tag ≠ 0) (hg : h.g.get tag = some (a, f)) : readable h i tag = true ↔ f ≤ i := by
  unfold readable
  rw [bcase, if_neg (by simpa using ht), hg]
  simp
theorem readable_none {h : AH} {i tag : Nat} (ht : tag ≠ 0) (hg : h.g.get tag = none) : readable h i tag = false := by
  unfold readable
  rw [bcase, if_neg (by simpa using ht), hg]
theorem frOk_spec {fl fh o m : Nat} (h : frOk fl fh o m = true) : fh ≤ o ∨ o + m ≤ fl := by
  unfold frOk at h
  rw [bcase] at h
  split at h
  · rename_i h1; exact .inl (by simpa using h1)
  · exact .inr (by simpa using h)
theorem Fz.not {fl fh b size lo hi o m j : Nat} (hz : Fz fl fh b size lo hi) (hf : fh ≤ o ∨ o + m ≤ fl) (h1 : o ≤ j) (h2 : j < o + m) (hs : b + j < size) : ¬ (lo ≤ b + j ∧ b + j < hi) := by
  obtain ⟨z1, z2, z3⟩ := hz
  rcases Nat.lt_trichotomy fl fh with hlt | heq | hgt
  · obtain ⟨a, c⟩ := z2 hlt; omega
  · have := z1 heq; omega
  · exact z3 hgt _ hs

/-- The world's block of one row changed, its groups' older rows shut. -/
theorem R.put (r : R N G F w0 μ h w) {i : Nat} {c c' : Tr AV} {n e fl fh fl' fh' tag : Nat} (hg : h.t.get i = some (.cells c n e fl fh tag false)) {w' : World} {arr arr' : Array Value} {lo hi lo' hi' : Nat}
    (hb : w.heap[μ.blk i]? = some (.cells arr e (lo, hi))) (hb' : w'.heap[μ.blk i]? = some (.cells arr' e (lo', hi'))) (hsz : arr'.size = arr.size) (hfz : Fz fl' fh' (μ.bas i) arr'.size lo' hi')
    (hfo : lo' = lo ∧ hi' = hi ∨ tag = 0)
    (hcell : ∀ j v, j < n → c'.get j = some v → ∃ x, arr'[μ.bas i + j]? = some x ∧ V N μ h.nx v x ∧ x.oneCell' = true)
    (hoth : ∀ k, k ≠ μ.blk i → w'.heap[k]? = w.heap[k]?) (hs : w'.heap.size = w.heap.size) (hos : w'.os = w.os) (htp : w'.tape = w.tape) (hout : w'.output = w.output)
    {t : Tr AObj} (ht : ∀ j, t.get j = if j = i then some (.cells c' n e fl' fh' tag false) else h.t.get j)
    (hlast : lastOf h i tag = true) {h' : AH} (hst : setTag h i tag t = some h') : R N G F w0 μ h' w' ∧ h'.nx = h.nx := by
  have hh' : h'.t = t ∧ h'.nx = h.nx ∧ (tag = 0 → h'.g = h.g) ∧ (tag ≠ 0 → ∀ k, h'.g.get k = if k = tag then some (i, i) else h.g.get k) := by
    unfold setTag at hst
    rw [bcase] at hst
    split at hst
    · rename_i h0
      cases hst
      exact ⟨rfl, rfl, fun _ => rfl, fun hne => absurd (by simpa using h0) hne⟩
    · rename_i h0
      obtain ⟨g, hgk, hf⟩ := Tr.setK_get hst
      cases hf
      exact ⟨rfl, rfl, fun hz => absurd (by simpa using hz) h0, fun _ => hgk⟩
  obtain ⟨e1, e2, e3, e4⟩ := hh'
  have hget : ∀ j o, h'.t.get j = some o → (j = i ∧ o = .cells c' n e fl' fh' tag false) ∨ (j ≠ i ∧ h.t.get j = some o) := fun j o hj => by
    rw [e1, ht] at hj
    by_cases hji : j = i
    · rw [if_pos hji] at hj; cases hj; exact .inl ⟨hji, rfl⟩
    · rw [if_neg hji] at hj; exact .inr ⟨hji, hj⟩
  have hgrp : ∀ j o, h'.t.get j = some o → ∃ o', h.t.get j = some o' ∧ o'.tag = o.tag ∧ o'.ro = o.ro := fun j o hj => by
    rcases hget j o hj with ⟨rfl, rfl⟩ | ⟨_, hj⟩
    · exact ⟨_, hg, rfl, rfl⟩
    · exact ⟨o, hj, rfl, rfl⟩
  have hrd : ∀ j tg, tg ≠ 0 → (tg = tag → j < i) → readable h' j tg = true → tg ≠ tag ∧ readable h j tg = true := fun j tg htg hlt hr => by
    by_cases htt : tg = tag
    · subst htt
      rw [readable_spec htg (by rw [e4 htg, if_pos rfl])] at hr
      have := hlt rfl
      omega
    · refine ⟨htt, ?_⟩
      by_cases ht0 : tag = 0
      · have := e3 ht0
        unfold readable at hr ⊢
        rw [this] at hr; exact hr
      · have hk := e4 ht0 tg
        rw [if_neg htt] at hk
        unfold readable at hr ⊢
        rw [hk] at hr; exact hr
  have holder : ∀ j o, h.t.get j = some o → j ≠ i → o.tag ≠ 0 → o.tag = tag → j < i := fun j o hj hji ht0 htt => by
    obtain ⟨a, f, hgt, hle, _⟩ := r.grp j o hj ht0
    obtain ⟨f', hl⟩ := lastOf_spec hlast (htt ▸ ht0)
    rw [htt, hl] at hgt
    cases hgt
    omega
  refine ⟨⟨hos.trans r.os, hout.trans r.out, by rw [hs]; exact r.lo, fun b o hF => ?_, fun j o hj => ?_, fun j o hj => ?_, fun j k a b hj hk hjk hblk => ?_,
    fun j o hj hro => ?_, fun j o hj ht0 => ?_, fun j o tg hj htg => ?_, fun g c o v hG hv => ?_, r.gfr, fun j k a b hj hk hjk ht0 hblk => ?_, r.fnone, r.mxl⟩, e2⟩
  · have hne : b ≠ μ.blk i := fun hbe => by have := r.own i _ hg rfl; rw [← hbe, hF] at this; cases this
    rw [hoth b hne]; exact r.fr b o hF
  · rw [e2]; obtain ⟨o', ho', _⟩ := hgrp j o hj; exact r.ids j o' ho'
  · rcases hget j o hj with ⟨rfl, rfl⟩ | ⟨hji, hj⟩
    · exact ⟨arr', lo', hi', hb', by rw [hsz]; exact (by obtain ⟨a, l, hh, q, q2, _⟩ := r.obj _ _ hg; rw [hb] at q; cases q; exact q2),
        by rw [hsz]; exact (by obtain ⟨a, l, hh, q, q2, q3, _⟩ := r.obj _ _ hg; rw [hb] at q; cases q; exact q3), hfz, fun _ => by rw [e2]; exact hcell⟩
    · have hob := r.obj j o hj
      by_cases hblk : μ.blk j = μ.blk i
      · obtain ⟨ht0, htt⟩ := r.apart j i o _ hj hg hji hblk
        have htt : o.tag = tag := htt
        have hlt := holder j o hj hji ht0 htt
        cases o with
        | cells c1 n1 e1' fl1 fh1 tag1 ro1 =>
          obtain ⟨a, l, hh, q, q2, q3, q4, q5⟩ := hob
          rw [hblk, hb] at q
          cases q
          have htag : tag1 = tag := htt
          have hne0 : tag ≠ 0 := htag ▸ ht0
          obtain ⟨rfl, rfl⟩ := hfo.resolve_right hne0
          refine ⟨arr', _, _, by rw [hblk]; exact hb', by rw [hsz]; exact q2, by rw [hsz]; exact q3, by rw [hsz]; exact q4, fun hr => ?_⟩
          have := hrd j tag1 ht0 (fun _ => hlt) hr
          exact absurd htag this.1
        | map _ _ => exact absurd rfl ht0
        | siter _ _ _ => exact absurd rfl ht0
        | miter _ _ _ _ => exact absurd rfl ht0
      · refine hob.keep (hoth _ hblk) (Nat.le_of_eq e2.symm) fun c1 n1 e1' fl1 fh1 tag1 ro1 ho hr => ?_
        by_cases ht1 : tag1 = 0
        · subst ht1; rfl
        · subst ho
          exact (hrd j tag1 ht1 (fun htt => holder j _ hj hji ht1 htt) hr).2
  · obtain ⟨a', ha', hat, _⟩ := hgrp j a hj
    obtain ⟨b', hb', hbt, _⟩ := hgrp k b hk
    have := r.apart j k a' b' ha' hb' hjk hblk
    rw [hat, hbt] at this; exact this
  · obtain ⟨o', ho', _, hro'⟩ := hgrp j o hj
    exact r.own j o' ho' (hro'.trans hro)
  · obtain ⟨o', ho', htt, _⟩ := hgrp j o hj
    obtain ⟨a, f, hgt, hle, hfa⟩ := r.grp j o' ho' (htt ▸ ht0)
    rw [htt] at hgt
    by_cases ht : tag = 0
    · exact ⟨a, f, by rw [e3 ht]; exact hgt, hle, hfa⟩
    · by_cases hot : o.tag = tag
      · obtain ⟨f', hl⟩ := lastOf_spec hlast ht
        rw [hot, hl] at hgt
        cases hgt
        exact ⟨i, i, by rw [e4 ht, if_pos hot], hle, Nat.le_refl _⟩
      · exact ⟨a, f, by rw [e4 ht, if_neg hot]; exact hgt, hle, hfa⟩
  · obtain ⟨o', ho', htt, _⟩ := hgrp j o hj
    obtain ⟨p, hp, hpt⟩ := r.tags j o' tg ho' (htt.trans htg)
    by_cases hti : tg = i
    · subst hti
      refine ⟨.cells c' n e fl' fh' tag false, by rw [e1, ht, if_pos rfl], ?_⟩
      rw [hg] at hp; cases hp; exact hpt
    · exact ⟨p, by rw [e1, ht, if_neg hti]; exact hp, hpt⟩
  · obtain ⟨x, hx, hv', h1⟩ := r.glb g c o v hG hv
    obtain ⟨ob, hF⟩ := r.gfr g c hG
    refine ⟨x, ?_, hv', h1⟩
    have hne : g ≠ μ.blk i := fun hbe => by have := r.own i _ hg rfl; rw [← hbe, hF] at this; cases this
    simp only [World.cell?] at hx ⊢
    rw [hoth g hne]; exact hx
  · have hlen : ∀ j o, h'.t.get j = some o → ∃ o', h.t.get j = some o' ∧ o'.tag = o.tag ∧ o'.len = o.len := fun j o hj => by
      rcases hget j o hj with ⟨rfl, rfl⟩ | ⟨_, hj⟩
      · exact ⟨_, hg, rfl, rfl⟩
      · exact ⟨o, hj, rfl, rfl⟩
    obtain ⟨a', ha', hat, hal⟩ := hlen j a hj
    obtain ⟨b', hb', hbt, hbl⟩ := hlen k b hk
    have := r.inc j k a' b' ha' hb' hjk (by rw [hat]; exact ht0) hblk
    rw [hal, hbl] at this; exact this

/-- A row of stores into a block. -/
theorem R.store (r : R N G F w0 μ h w) (P : Program) {i o : Nat} {vs : List AV} {h' : AH} (hs : hstore h i o vs = some h') {xs : List Value} (hv : Vs N μ h.nx vs xs) {x : Nat} (hx : vs ≠ [] → x = μ.bas i + o) :
    ∃ w', (storeCells ⟨μ.blk i, x, none⟩ xs 0).run P w = .ok () w' ∧ R N G F w0 μ h' w' ∧ h'.nx = h.nx := by
  cases vs with
  | nil =>
    have := hv.nil_inv; subst this
    cases hs
    exact ⟨w, rfl, r, rfl⟩
  | cons v vs =>
    have hx := hx (by simp)
    subst hx
    simp only [hstore] at hs
    split at hs
    · rename_i c n e fl fh tag hg
      unfold hstoreC at hs
      obtain ⟨hlast, hs⟩ := grd_some.1 hs
      obtain ⟨hfr, hs⟩ := grd_some.1 hs
      obtain ⟨c', hc', hn, h1, hs⟩ := setAll_spec _ _ _ hs
      obtain ⟨t, ht, hs⟩ := Tr.setK_get hs
      have hn := hn (by simp)
      obtain ⟨arr, lo, hi, hb, hsz, hle, hfz, hcl⟩ := r.obj i _ hg
      have hlen : (v :: vs).length = xs.length := hv.1
      have hone : ∀ y ∈ xs, y.oneCell' = true := fun y hy => by
        obtain ⟨j, hj⟩ := List.getElem?_of_mem hy
        have hjl : j < (v :: vs).length := by rw [hlen]; exact (List.getElem?_eq_some_iff.1 hj).1
        have := hv.2 j _ y (List.getElem?_eq_getElem hjl) hj
        rw [← this.one]; exact h1 _ (List.getElem_mem _)
      obtain ⟨w', arr', q1, q2, q3, q4, q5, q6, q7, q8, q9⟩ := run_storeCells P (μ.blk i) (μ.bas i + o) e lo hi xs 0 w arr hb (by omega)
        (fun j hj => by
          have := hfz.not (frOk_spec hfr) (j := o + j) (by omega) (by omega) (by omega)
          simpa [Nat.add_assoc] using this) hone
      refine ⟨w', q1, ?_⟩
      have hrd : readable h i tag = true := by
        by_cases ht0 : tag = 0
        · subst ht0; rfl
        · obtain ⟨f, hl⟩ := lastOf_spec hlast ht0
          obtain ⟨a, f', hgt, _, hfa⟩ := r.grp i _ hg ht0
          have hgt : h.g.get tag = some (a, f') := hgt
          rw [hl] at hgt; cases hgt
          exact (readable_spec ht0 hl).2 hfa
      refine r.put hg hb q2 q3 (by rw [q3]; exact hfz) (.inl ⟨rfl, rfl⟩) (fun j u hj hu => ?_) q5 q6 q7 q8 q9 ht hlast hs
      rw [hc'] at hu
      rw [q4]
      by_cases hjo : o ≤ j ∧ j < o + (v :: vs).length
      · rw [if_pos hjo] at hu
        rw [if_pos (by omega)]
        obtain ⟨y, hy, hvy⟩ := hv.get hu
        exact ⟨y, by rw [show μ.bas i + j - (μ.bas i + o + 0) = j - o by omega]; exact hy, hvy, hone y (List.mem_of_getElem? hy)⟩
      · rw [if_neg hjo] at hu
        rw [if_neg (by omega)]
        exact hcl hrd j u hj hu
    · cases hs

/-- The map with one block more. -/
def Mp.ext (μ : Mp) (n b x t : Nat) : Mp := ⟨fun i => if i = n then b else μ.blk i, fun i => if i = n then x else μ.bas i, fun i => if i = n then t else μ.tot i⟩
theorem Mp.ext_agree (μ : Mp) (n b x t : Nat) : Mp.agree n μ (μ.ext n b x t) := fun i hi => by
  have : i ≠ n := by omega
  simp [Mp.ext, this]
theorem Mp.ext_blk (μ : Mp) (n b x t : Nat) : (μ.ext n b x t).blk n = b := by simp [Mp.ext]
theorem Mp.ext_bas (μ : Mp) (n b x t : Nat) : (μ.ext n b x t).bas n = x := by simp [Mp.ext]
theorem Mp.ext_tot (μ : Mp) (n b x t : Nat) : (μ.ext n b x t).tot n = t := by simp [Mp.ext]

theorem Holds.ext {h' : AH} {w' : World} {μ' : Mp} {i : Nat} {o : AObj} (hh : Holds N μ h i w o) (ha : Mp.agree h.nx μ μ') (hi : i < h.nx) (hb : w'.heap[μ.blk i]? = w.heap[μ.blk i]?) (hn : h.nx ≤ h'.nx)
    (hr : readable h' i o.tag = true → readable h i o.tag = true) : Holds N μ' h' i w' o := by
  obtain ⟨a1, a2, a3⟩ := ha i hi
  cases o with
  | cells c n e fl fh tag ro =>
    obtain ⟨arr, lo, hi', h1, h2, h3, h4, h5⟩ := hh
    exact ⟨arr, lo, hi', by rw [← a1]; exact hb.trans h1, by rw [← a3]; exact h2, by rw [← a2]; exact h3, by rw [← a2]; exact h4,
      fun hrd j v hj hv => let ⟨x, a, b, c⟩ := h5 (hr hrd) j v hj hv; ⟨x, by rw [← a2]; exact a, b.mono ha hn, c⟩⟩
  | map es c =>
    obtain ⟨en, h1, h2, h3⟩ := hh
    exact ⟨en, by rw [← a1]; exact hb.trans h1, h2, fun j e x a b => let ⟨p, q, s⟩ := h3 j e x a b; ⟨p.mono ha hn, q.mono ha hn, s⟩⟩
  | siter l n p => obtain ⟨s, h1, h2, h3, h4⟩ := hh; exact ⟨s, by rw [← a1]; exact hb.trans h1, h2, h3, by rw [← a2]; exact h4⟩
  | miter m s se l =>
    refine ⟨?_, fun j hj => Nat.lt_of_lt_of_le (hh.2.1 j hj) hn, by rw [← a2]; exact hh.2.2⟩
    rw [← a1]
    have : m.map μ'.blk = m.map μ.blk := by
      cases m with
      | none => rfl
      | some j => simp [(ha j (hh.2.1 j rfl)).1]
    rw [this]
    exact hb.trans hh.1

/-- A new block, not of a group. -/
theorem R.alloc (r : R N G F w0 μ h w) {ob : AObj} {j : Nat} {h' : AH} (hn : hnew h ob = some (j, h')) (o : Obj) (b t : Nat) (hro : ob.ro = false) (htag : ob.tag = 0)
    (hold : ∀ h' : AH, h'.nx = h.nx + 1 → h'.g = h.g → Holds N (μ.ext h.nx w.heap.size b t) h' h.nx (w.alloc o) ob) :
    j = h.nx ∧ h'.nx = h.nx + 1 ∧ R N G F w0 (μ.ext h.nx w.heap.size b t) h' (w.alloc o) := by
  unfold hnew at hn
  obtain ⟨t', ht, hn⟩ := Tr.setK_get hn
  rw [nat_eq] at hn
  cases hn
  have hag := μ.ext_agree h.nx w.heap.size b t
  have hold := hold { h with t := t', nx := h.nx + 1 } rfl rfl
  have hget : ∀ j a, t'.get j = some a → (j = h.nx ∧ a = ob) ∨ (j < h.nx ∧ h.t.get j = some a) := fun j a hj => by
    rw [ht] at hj
    by_cases hjn : j = h.nx
    · rw [if_pos hjn] at hj; cases hj; exact .inl ⟨hjn, rfl⟩
    · rw [if_neg hjn] at hj; exact .inr ⟨r.ids j a hj, hj⟩
  have hheap : ∀ k, k < w.heap.size → (w.alloc o).heap[k]? = w.heap[k]? := fun k hk => RowKit.Below.heap_alloc w o k hk
  refine ⟨rfl, rfl, ⟨r.os, r.out, by simp; have := r.lo; omega, fun b o' hF' => ?_, fun j a hj => ?_, fun j a hj => ?_, fun j k a c hj hk hjk hblk => ?_, fun j a hj hro => ?_,
    fun j a hj ht0 => ?_, fun j a tg hj htg => ?_, fun g c x v hG hv => ?_, r.gfr, fun j k a c hj hk hjk ht0 hblk => ?_, r.fnone, r.mxl⟩⟩
  · have := r.fr b o' hF'
    rw [hheap b (Array.getElem?_eq_some_iff.1 this).1]; exact this
  · rcases hget j a hj with ⟨rfl, _⟩ | ⟨h1, _⟩ <;> (show _ < h.nx + 1; omega)
  · rcases hget j a hj with ⟨rfl, rfl⟩ | ⟨h1, h2⟩
    · exact hold
    · exact (r.obj j a h2).ext hag h1 (hheap _ (r.blk_lt h2)) (Nat.le_succ _) fun hr => hr
  · rcases hget j a hj with ⟨rfl, rfl⟩ | ⟨h1, h2⟩ <;> rcases hget k c hk with ⟨rfl, rfl⟩ | ⟨h3, h4⟩
    · exact absurd rfl hjk
    · have := r.blk_lt h4
      rw [Mp.ext_blk, ← (hag k h3).1] at hblk; omega
    · have := r.blk_lt h2
      rw [Mp.ext_blk, ← (hag j h1).1] at hblk; omega
    · rw [← (hag j h1).1, ← (hag k h3).1] at hblk
      exact r.apart j k a c h2 h4 hjk hblk
  · rcases hget j a hj with ⟨rfl, rfl⟩ | ⟨h1, h2⟩
    · rw [Mp.ext_blk]; exact r.fnone _ r.lo
    · rw [← (hag j h1).1]; exact r.own j a h2 hro
  · rcases hget j a hj with ⟨rfl, rfl⟩ | ⟨h1, h2⟩
    · exact absurd htag ht0
    · exact r.grp j a h2 ht0
  · rcases hget j a hj with ⟨rfl, rfl⟩ | ⟨h1, h2⟩
    · rw [htag] at htg; cases htg
    · obtain ⟨p, hp, hpt⟩ := r.tags j a tg h2 htg
      have := r.ids tg p hp
      exact ⟨p, by show t'.get tg = _; rw [ht, if_neg (by omega)]; exact hp, hpt⟩
  · obtain ⟨y, hy, hv', h1⟩ := r.glb g c x v hG hv
    refine ⟨y, ?_, hv'.mono (fun i hi => absurd hi (Nat.not_lt_zero _)) (Nat.zero_le _), h1⟩
    have hlt := World.block_lt_of_cell? w _ hy
    rw [World.cell?_alloc_lt w o _ hlt]; exact hy
  · rcases hget j a hj with ⟨rfl, rfl⟩ | ⟨h1, h2⟩
    · exact absurd htag ht0
    · rcases hget k c hk with ⟨rfl, rfl⟩ | ⟨h3, h4⟩
      · have := r.blk_lt h2
        rw [Mp.ext_blk, ← (hag j h1).1] at hblk; omega
      · rw [← (hag j h1).1, ← (hag k h3).1] at hblk
        rw [← (hag j h1).2.1, ← (hag k h3).2.1]
        exact r.inc j k a c h2 h4 hjk ht0 hblk
end
end Go.Vm
