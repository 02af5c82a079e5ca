/- The abstract machine over the model's own code, and its soundness: text 1 of 4. No program in sight. -/
import Derived.WalkKit
import Derived.Orders
import Derived.Lib.Strings
/- An abstract machine over the model's own code: its definitions. No program in sight. -/
set_option linter.unusedVariables false
namespace Go.JL

/-- Codes of layouts: what a value is made of. -/
inductive TC where
  | bool | int (k : IntKind) | str | list (c : TC) | pair (a b : TC) | one (a : TC) | unit | fn (c : TC)
  deriving DecidableEq

/-- The pure data of a code. -/
@[reducible] def El : TC → Type
  | .bool => Bool
  | .int _ => Int
  | .str => List UInt8
  | .list c => List (El c)
  | .pair a b => El a × El b
  | .one a => El a
  | .unit => Unit
  | .fn c => Option (Nat × El c)

/-- 'fn bool' stands for an interface that is nil. -/
def isBoolC : TC → Bool
  | .bool => true
  | _ => false
def nilOf (c : TC) : Value := bif isBoolC c then .nilIface else .nilFunc
def TC.size : TC → Nat
  | .pair a b => a.size + b.size
  | .one a => a.size
  | .unit => 0
  | _ => 1
def TC.isAgg : TC → Bool
  | .pair _ _ | .one _ | .unit => true
  | _ => false
/-- Nothing in it leads to memory. -/
def TC.flat : TC → Bool
  | .bool | .int _ | .str | .unit => true
  | .pair a b => a.flat && b.flat
  | .one a => a.flat
  | _ => false

/-- Which part of an own row a slice is. -/
inductive Win where
  | full | pre (n : Nat) | sub (off n : Nat)

/-- What one cell holds. -/
inductive CV where
  | s (c : TC) (x : El c)
  | nils
  | own (k v : Nat) (w : Win)
  | ptr (k v off : Nat)
  | rptr (k v i j : Nat)
  | eptr (c : TC) (x : El c) (off : Nat)
  | nilp
  | clo (f : Nat) (l : List (Nat × Nat))
  | dead
  /-- what a skipped operation leaves -/
  | und

/-- What a slot holds. -/
inductive LV where
  | c (x : CV)
  | agg (l : List CV)
  | tup (l : List (List CV × Bool))

/-- An object that the call knows. -/
inductive Ob where
  | cells (l : List CV)
  | row (c : TC) (l : List (El c))

structure VO where
  v : Nat
  ob : Ob
  fz : Bool

structure St where
  T : Nat → LV
  H : Nat → Option VO

def dead : LV := .c .dead
def und : LV := .c .und

/-- Types as the machine reads them. -/
inductive TD where
  | int (k : IntKind) | bool | str | slice (e : Nat) | struct (fs : List (Nat × Nat)) | array (n e : Nat) | ptr (e : Nat) | iface | other
structure Ty where
  d : TD
  size : Nat
  bytes : Nat
  code : TC
  zero : List CV
  cc : List TC
  /-- a struct that '==' compares part by part, no part of an interface type -/
  eq : Bool := false
def TD.agg : TD → Bool
  | .struct _ | .array _ _ => true
  | _ => false

/-! ### Contracts -/
inductive PK where
  | val (c : TC) | ptr (c : TC) | clo (f : Nat) (cs : List TC)
@[reducible] def Tup : List TC → Type
  | [] => Unit
  | c :: r => El c × Tup r
@[reducible] def Args : List PK → Type
  | [] => Unit
  | .val c :: r => El c × Args r
  | .ptr c :: r => El c × Args r
  | .clo _ cs :: r => Tup cs × Args r
@[reducible] def Ios : List PK → Type
  | [] => Unit
  | .val _ :: r => Ios r
  | .ptr c :: r => El c × Ios r
  | .clo _ cs :: r => Tup cs × Ios r
structure Con where
  ps : List PK
  rs : List TC
  F : Args ps → Option (Tup rs × Ios ps)

/-- A function that gives back a pointer to a new object. -/
structure NCon where
  ps : List PK
  c : TC
  F : Args ps → Option (El c)

structure Cx where
  tt : Nat → Option Ty
  G : Nat → Option Con
  /-- the number of slots -/
  n : Nat
  N : Nat → Option NCon := fun _ => none
  /-- the functions that an unknown function value may be -/
  dyn : List Nat := []
  dynu : List Nat := []

/-! ### Helpers -/
def upd {α : Type} (f : Nat → α) (i : Nat) (x : α) : Nat → α := fun j => bif j == i then x else f j
def updH (H : Nat → Option VO) : List (Nat × VO) → Nat → Option VO
  | [] => H
  | (k, o) :: r => updH (upd H k (some o)) r
def castE (c c' : TC) (x : El c) : Option (El c') := if h : c = c' then some (h ▸ x) else none

def flatA : (c : TC) → El c → List CV → List CV
  | .pair a b, x, r => flatA a x.1 (flatA b x.2 r)
  | .one a, x, r => flatA a x r
  | .unit, _, r => r
  | .bool, x, r => .s .bool x :: r
  | .int k, x, r => .s (.int k) x :: r
  | .str, x, r => .s .str x :: r
  | .list c, x, r => .s (.list c) x :: r
  | .fn c, x, r => .s (.fn c) x :: r
def flat (c : TC) (x : El c) : List CV := flatA c x []
def toLV (c : TC) (x : El c) : LV :=
  match c, x with
  | .pair a b, x => .agg (flat (.pair a b) x)
  | .one a, x => .agg (flat (.one a) x)
  | .unit, x => .agg []
  | c, x => .c (.s c x)

def Win.on {α : Type} : Win → List α → List α
  | .full, l => l
  | .pre n, l => l.take n
  | .sub o n, l => (l.drop o).take n

/-- One cell as pure data of a code that is one cell. -/
def toEl (H : Nat → Option VO) (c : TC) : CV → Option (El c)
  | .s c' x => castE c' c x
  | .nils => match c with
    | .list _ => some []
    | _ => none
  | .own k v w => match H k with
    | some ⟨v', .row c' l, _⟩ => bif v == v' && Nat.blt k 1000000 then castE (.list c') c (w.on l) else none
    | _ => none
  | _ => none
def build (H : Nat → Option VO) : (c : TC) → List CV → Option (El c × List CV)
  | .pair a b, l => match build H a l with
    | some (x, r) => match build H b r with
      | some (y, r') => some ((x, y), r')
      | none => none
    | none => none
  | .one a, l => build H a l
  | .unit, l => some ((), l)
  | .bool, v :: r => match toEl H .bool v with
    | some x => some (x, r)
    | none => none
  | .int k, v :: r => match toEl H (.int k) v with
    | some x => some (x, r)
    | none => none
  | .str, v :: r => match toEl H .str v with
    | some x => some (x, r)
    | none => none
  | .list c, v :: r => match toEl H (.list c) v with
    | some x => some (x, r)
    | none => none
  | .fn c, v :: r => match toEl H (.fn c) v with
    | some x => some (x, r)
    | none => none
  | _, [] => none
/-- All cells are used up. -/
def buildAll (H : Nat → Option VO) (c : TC) (l : List CV) : Option (El c) :=
  match build H c l with
  | some (x, []) => some x
  | _ => none
def buildMany (H : Nat → Option VO) (c : TC) : Nat → List CV → Option (List (El c))
  | 0, [] => some []
  | 0, _ :: _ => none
  | n + 1, l => match build H c l with
    | some (x, r) => match buildMany H c n r with
      | some xs => some (x :: xs)
      | none => none
    | none => none

def LV.cells : LV → List CV
  | .c x => [x]
  | .agg l => l
  | .tup _ => [.dead]
def LV.isAgg : LV → Bool
  | .agg _ => true
  | _ => false
def CV.alive : CV → Bool
  | .dead => false
  | .und => false
  | _ => true
def ownKeys : List CV → List Nat
  | [] => []
  | .own k _ _ :: r => k :: ownKeys r
  | _ :: r => ownKeys r
def freeze (H : Nat → Option VO) : List Nat → List (Nat × VO)
  | [] => []
  | k :: r => match H k with
    | some ⟨v, .row c l, _⟩ => bif Nat.blt k 1000000 then (k, ⟨v, .row c l, true⟩) :: freeze H r else freeze H r
    | _ => freeze H r

def ioKey (i j : Nat) : Nat := 1000000 + 100 * i + j
def siteKey (d j : Nat) : Nat := 100 * d + j

def constLV : Value → LV
  | .bool b => .c (.s .bool b)
  | .int k n => .c (.s (.int k) n)
  | .string s => .c (.s .str s.data.toList)
  | .slice none 0 0 => .c .nils
  | .pointer none => .c .nilp
  | .nilFunc => .c (.s (.fn .unit) none)
  | .nilIface => .c (.s (.fn .bool) none)
  | _ => dead
def evalO (T : Nat → LV) : Operand → LV
  | .tmp t => T t
  | .const v => constLV v
  | .func f => .c (.s (.fn .unit) (some (f, ())))
  | .global _ => dead

/-- cells with one stretch replaced -/
def splice {α : Type} (l : List α) (off : Nat) (new : List α) : List α := l.take off ++ (new ++ l.drop (off + new.length))

/-- The limit of an append, in bytes. -/
def roomFor (n bytes : Nat) : Bool := decide (n * bytes ≤ 140737488355328)

/-! ### Arguments and results of calls -/
def toTup (H : Nat → Option VO) : (cs : List TC) → List (Nat × Nat) → Option (Tup cs)
  | [], [] => some ()
  | c :: cs, (k, v) :: ks => match H k with
    | some ⟨v', .cells l, false⟩ => bif v == v' then (match buildAll H c l with
        | some x => match toTup H cs ks with
          | some r => some (x, r)
          | none => none
        | none => none) else none
    | _ => none
  | _, _ => none
def cellsOf (H : Nat → Option VO) (k : Nat) : List CV :=
  match H k with
  | some ⟨_, .cells l, _⟩ => l
  | _ => []
structure Conv (ps : List PK) where
  args : Args ps
  /-- the objects that the callee may write -/
  ios : List Nat
  /-- own rows whose content is told -/
  own : List Nat
def conv (H : Nat → Option VO) : (ps : List PK) → List LV → Option (Conv ps)
  | [], [] => some ⟨(), [], []⟩
  | .val c :: ps, v :: vs => bif c.isAgg == v.isAgg then (match buildAll H c v.cells with
    | some x => match conv H ps vs with
      | some r => some ⟨(x, r.args), r.ios, ownKeys v.cells ++ r.own⟩
      | none => none
    | none => none) else none
  | .ptr c :: ps, .c (.ptr k v 0) :: vs => match H k with
    | some ⟨v', .cells l, false⟩ => bif v == v' then (match buildAll H c l with
      | some x => match conv H ps vs with
        | some r => some ⟨(x, r.args), k :: r.ios, ownKeys l ++ r.own⟩
        | none => none
      | none => none) else none
    | _ => none
  | .clo f cs :: ps, .c (.clo f' ks) :: vs => bif f == f' then (match toTup H cs ks with
    | some x => match conv H ps vs with
      | some r => some ⟨(x, r.args), ks.map (·.1) ++ r.ios, ownKeys (ks.flatMap fun p => cellsOf H p.1) ++ r.own⟩
      | none => none
    | none => none) else none
  | _, _ => none
def tupLV : (rs : List TC) → Tup rs → List (List CV × Bool)
  | [], _ => []
  | c :: rs, x => (flat c x.1, c.isAgg) :: tupLV rs x.2
def outLV : (rs : List TC) → Tup rs → LV
  | [c], x => toLV c x.1
  | rs, x => .tup (tupLV rs x)
def backTup (v : List (Nat × Nat)) : (cs : List TC) → Tup cs → List (Nat × VO)
  | [], _ => []
  | c :: cs, x => match v with
    | (k, w) :: ks => (k, ⟨w, .cells (flat c x.1), false⟩) :: backTup ks cs x.2
    | [] => []
/-- What the objects hold behind the call. -/
def back (H : Nat → Option VO) : (ps : List PK) → List LV → Ios ps → List (Nat × VO)
  | .val _ :: ps, _ :: vs, x => back H ps vs x
  | .ptr c :: ps, .c (.ptr k v _) :: vs, x => (k, ⟨v, .cells (flat c x.1), false⟩) :: back H ps vs x.2
  | .clo _ cs :: ps, .c (.clo _ ks) :: vs, x => backTup ks cs x.1 ++ back H ps vs x.2
  | _, _, _ => []
def PK.flat : PK → Bool
  | .val _ => true
  | .ptr c => c.flat
  | .clo _ cs => cs.all TC.flat
def nodupB : List Nat → Bool
  | [] => true
  | k :: r => !r.contains k && nodupB r
def apartB (a b : List Nat) : Bool := a.all fun k => !b.contains k

section
variable {α : Type}
/-- A call of function f. -/
def vcall (cx : Cx) (f : Nat) (vs : List LV) (H : Nat → Option VO) (K : LV → List (Nat × VO) → Option α) : Option α :=
  match cx.G f with
  | none => none
  | some C => match conv H C.ps vs with
    | none => none
    | some cv => bif nodupB cv.ios && apartB cv.ios cv.own then
        Option.bind (C.F cv.args) fun r =>
          K (outLV C.rs r.1) (back H C.ps vs r.2 ++ (bif C.rs.all TC.flat && C.ps.all PK.flat then [] else freeze H cv.own))
      else none

/-! ### Operations -/
def vbin (op : BinOp) (x y : LV) (K : LV → Option α) : Option α :=
  match x, y with
  | .c (.s (.int k) a), .c (.s (.int k') b) =>
    match op with
    | .shl => bif decide (b < 0) then none else K (.c (.s (.int k) (k.wrap (a * 2 ^ min b.toNat k.bits))))
    | .shr => bif decide (b < 0) then none else K (.c (.s (.int k) (a.fdiv (2 ^ min b.toNat k.bits))))
    | _ => bif decide (k = k') then
      match op with
      | .add => K (.c (.s (.int k) (k.wrap (a + b))))
      | .sub => K (.c (.s (.int k) (k.wrap (a - b))))
      | .mul => K (.c (.s (.int k) (k.wrap (a * b))))
      | .quo => bif decide (b = 0) then none else K (.c (.s (.int k) (k.wrap (a.tdiv b))))
      | .rem => bif decide (b = 0) then none else K (.c (.s (.int k) (a.tmod b)))
      | .eql => K (.c (.s .bool (a == b)))
      | .neq => K (.c (.s .bool (a != b)))
      | .lss => K (.c (.s .bool (decide (a < b))))
      | .leq => K (.c (.s .bool (decide (a ≤ b))))
      | .gtr => K (.c (.s .bool (decide (a > b))))
      | .geq => K (.c (.s .bool (decide (a ≥ b))))
      | _ => none
      else none
  | .c (.s .str a), .c (.s .str b) =>
    match op with
    | .add => bif decide (a.length + b.length ≤ 9223372036854775807) then K (.c (.s .str (a ++ b))) else none
    | .eql => K (.c (.s .bool (a == b)))
    | .neq => K (.c (.s .bool !(a == b)))
    | .lss => K (.c (.s .bool (Op.bytesLess a b)))
    | .leq => K (.c (.s .bool (Op.bytesLess a b || a == b)))
    | .gtr => K (.c (.s .bool !(Op.bytesLess a b || a == b)))
    | .geq => K (.c (.s .bool !(Op.bytesLess a b)))
    | _ => none
  | _, _ => none
def vun (op : UnOp) (x : LV) (K : LV → Option α) : Option α :=
  match op, x with
  | .not, .c (.s .bool b) => K (.c (.s .bool !b))
  | .neg, .c (.s (.int k) n) => K (.c (.s (.int k) (k.wrap (0 - n))))
  | _, _ => none

/-- the length of a slice value -/
def vlen (ty : Ty) (x : LV) (H : Nat → Option VO) (K : LV → Option α) : Option α :=
  match ty.d, x with
  | .slice _, .c .nils => K (.c (.s (.int .i64) 0))
  | .slice _, .c (.s (.list c) l) => K (.c (.s (.int .i64) (l.length : Int)))
  | .str, .c (.s .str l) => K (.c (.s (.int .i64) (l.length : Int)))
  | .slice _, .c (.own k v w) => match H k with
    | some ⟨v', .row c l, _⟩ => bif v == v' then (match w with
      | .full => K (.c (.s (.int .i64) (l.length : Int)))
      | .pre n => K (.c (.s (.int .i64) (n : Int)))
      | .sub _ n => K (.c (.s (.int .i64) (n : Int)))) else none
    | _ => none
  | _, _ => none

/-- the elements of a slice (or the bytes of a string) as a list of a code -/
def elemsOf (H : Nat → Option VO) (c : TC) (x : LV) : Option (List (El c)) :=
  match x with
  | .c y => toEl H (.list c) y
  | _ => none

def vappend (cx : Cx) (d : Nat) (t : Nat) (x y : LV) (H : Nat → Option VO) (K : LV → List (Nat × VO) → Option α) : Option α :=
  match cx.tt t with
  | some ⟨.slice e, _, _, .list c, _, _, _⟩ => match cx.tt e with
    | some ⟨_, sz, bytes, c', _, _, _⟩ => bif decide (c = c') && decide (c.size = sz) && decide (0 < sz) && decide (0 < bytes) then
      (match elemsOf H c y with
      | some ys => match x with
        | .c .nils => match H (siteKey d 0) with
          | none => bif roomFor ys.length bytes then K (.c (.own (siteKey d 0) 0 .full)) [(siteKey d 0, ⟨0, .row c ys, false⟩)] else none
          | some _ => none
        | .c (.own k v .full) => match H k with
          | some ⟨v', .row c₁ l, false⟩ => bif v == v' && Nat.blt k 1000000 then (match castE (.list c₁) (.list c) l with
            | some l => bif roomFor (l.length + ys.length) bytes then K (.c (.own k (v + 1) .full)) [(k, ⟨v + 1, .row c (l ++ ys), false⟩)] else none
            | none => none) else none
          | _ => none
        | .c (.own k v (.pre n)) => match H k with
          | some ⟨v', .row c₁ l, false⟩ => bif v == v' && Nat.blt k 1000000 then (match castE (.list c₁) (.list c) l with
            | some l => bif roomFor (n + ys.length) bytes then K (.c (.own k (v + 1) .full)) [(k, ⟨v + 1, .row c (l.take n ++ ys), false⟩)] else none
            | none => none) else none
          | _ => none
        | _ => none
      | none => none) else none
    | none => none
  | _ => none

/-- a variable's cells: nil slices become empty rows of the call's own -/
def vars (d : Nat) : Nat → List CV → List TC → List CV × List (Nat × VO)
  | j, .nils :: r, .list c :: cs => let p := vars d (j + 1) r cs; bif decide (0 < c.size) then (.own (siteKey d j) 0 .full :: p.1, (siteKey d j, ⟨0, .row c [], false⟩) :: p.2) else (.nils :: p.1, p.2)
  | j, x :: r, _ :: cs => let p := vars d (j + 1) r cs; (x :: p.1, p.2)
  | _, r, _ => (r, [])
def freshB (H : Nat → Option VO) : List (Nat × VO) → Bool
  | [] => true
  | (k, _) :: r => (match H k with | none => true | some _ => false) && freshB H r
def vvar (d : Nat) (cells : List CV) (cc : List TC) (H : Nat → Option VO) (K : LV → List (Nat × VO) → Option α) : Option α :=
  let p := vars d 1 cells cc
  let ups := p.2 ++ [(siteKey d 0, ⟨0, .cells p.1, false⟩)]
  bif freshB H ups && decide (cells.length = cc.length) && decide (cells.length < 99) then K (.c (.ptr (siteKey d 0) 0 0)) ups else none

def vgive (ty : Ty) (cs : List CV) (K : LV → Option α) : Option α :=
  bif ty.d.agg then (bif decide ((cs.take ty.size).length = ty.size) && (cs.take ty.size).all CV.alive then K (.agg (cs.take ty.size)) else none)
  else match cs with
    | x :: _ => bif x.alive then K (.c x) else none
    | [] => none
def vload (ty : Ty) (p : LV) (H : Nat → Option VO) (K : LV → Option α) : Option α :=
  match p with
  | .c (.ptr k v off) => match H k with
    | some ⟨v', .cells l, _⟩ => bif v == v' then vgive ty (l.drop off) K else none
    | _ => none
  | .c (.rptr k v i j) => match H k with
    | some ⟨v', .row c l, _⟩ => bif v == v' then Option.bind l[i]? fun x => vgive ty ((flat c x).drop j) K else none
    | _ => none
  | .c (.eptr c x off) => vgive ty ((flat c x).drop off) K
  | _ => none
def vstore (ty : Ty) (p x : LV) (H : Nat → Option VO) (K : List (Nat × VO) → Option α) : Option α :=
  bif decide (x.cells.length = ty.size) && x.cells.all CV.alive then
    match p with
    | .c (.ptr k v off) => match H k with
      | some ⟨v', .cells l, false⟩ => bif v == v' && decide (off + x.cells.length ≤ l.length) then K [(k, ⟨v, .cells (splice l off x.cells), false⟩)] else none
      | _ => none
    | .c (.rptr k v i j) => match H k with
      | some ⟨v', .row c l, false⟩ => bif v == v' && !(ownKeys x.cells).contains k then Option.bind l[i]? fun y =>
          match buildAll H c (splice (flat c y) j x.cells) with
          | some z => bif decide (j + x.cells.length ≤ c.size) then K (freeze H (ownKeys x.cells) ++ [(k, ⟨v, .row c (l.set i z), false⟩)]) else none
          | none => none
        else none
      | _ => none
    | _ => none
  else none
def vfieldAddr (ty : Ty) (p : LV) (f : Nat) (K : LV → Option α) : Option α :=
  match ty.d with
  | .struct fs => match fs[f]? with
    | some (off, _) => match p with
      | .c (.ptr k v o) => K (.c (.ptr k v (o + off)))
      | .c (.rptr k v i j) => K (.c (.rptr k v i (j + off)))
      | .c (.eptr c x o) => K (.c (.eptr c x (o + off)))
      | _ => none
    | none => none
  | _ => none
def vindexAddr (cx : Cx) (ty : Ty) (x i : LV) (H : Nat → Option VO) (K : LV → Option α) : Option α :=
  match i with
  | .c (.s (.int _) n) => match ty.d with
    | .slice e => match cx.tt e with
      | some te => match x with
        | .c (.s (.list c) l) => bif decide (c.size = te.size) then bif decide (0 ≤ n) then Option.bind l[n.toNat]? fun y => K (.c (.eptr c y 0)) else none else none
        | .c (.own k v w) => match H k with
          | some ⟨v', .row c l, _⟩ => bif v == v' && decide (c.size = te.size) then bif decide (0 ≤ n) then (match w with
            | .full => bif decide (n.toNat < l.length) then K (.c (.rptr k v n.toNat 0)) else none
            | .pre m => bif decide (n.toNat < m) then K (.c (.rptr k v n.toNat 0)) else none
            | .sub o m => bif decide (n.toNat < m) then K (.c (.rptr k v (o + n.toNat) 0)) else none) else none else none
          | _ => none
        | _ => none
      | none => none
    | .array m e => match cx.tt e, x with
      | some te, .c (.ptr k v o) => bif decide (0 ≤ n) && decide (n.toNat < m) then K (.c (.ptr k v (o + n.toNat * te.size))) else none
      | _, _ => none
    | _ => none
  | _ => none
def vindex (ty : Ty) (x i : LV) (K : LV → Option α) : Option α :=
  match i with
  | .c (.s (.int _) n) => match x with
    | .c (.s .str l) => match ty.d with
      | .str => bif decide (0 ≤ n) then Option.bind l[n.toNat]? fun b => K (.c (.s (.int .u8) (b.toNat : Int))) else none
      | _ => none
    | _ => none
  | _ => none
def vnum : Option LV → Option (Option Int)
  | none => some none
  | some (.c (.s (.int _) n)) => some (some n)
  | _ => none
def vslice (cx : Cx) (ty : Ty) (x : LV) (lo hi : Option LV) (H : Nat → Option VO) (K : LV → Option α) : Option α :=
  match vnum lo, vnum hi with
  | some a, some b => match x with
    | .c (.s .str l) => match ty.d with
      | .str => match a, b with
        | none, none => K x
        | some a, none => bif decide (0 ≤ a) && decide (a.toNat ≤ l.length) then K (.c (.s .str (l.drop a.toNat))) else none
        | none, some b => bif decide (0 ≤ b) && decide (b.toNat ≤ l.length) then K (.c (.s .str (l.take b.toNat))) else none
        | some a, some b => bif decide (0 ≤ a) && (decide (a ≤ b) && decide (b.toNat ≤ l.length)) then K (.c (.s .str ((l.take b.toNat).drop a.toNat))) else none
      | _ => none
    | .c (.s (.list c) l) => match ty.d with
      | .slice e => bif (match cx.tt e with | some te => decide (te.size = c.size) | none => false) then (match a, b with
        | none, none => K x
        | some a, none => bif decide (0 ≤ a) && decide (a.toNat ≤ l.length) then K (.c (.s (.list c) (l.drop a.toNat))) else none
        | none, some b => bif decide (0 ≤ b) && decide (b.toNat ≤ l.length) then K (.c (.s (.list c) (l.take b.toNat))) else none
        | some a, some b => bif decide (0 ≤ a) && (decide (a ≤ b) && decide (b.toNat ≤ l.length)) then K (.c (.s (.list c) ((l.take b.toNat).drop a.toNat))) else none) else none
      | _ => none
    | .c (.own k v .full) => match ty.d with
      | .slice e => match H k with
        | some ⟨v', .row c l, _⟩ => bif v == v' && (match cx.tt e with | some te => decide (te.size = c.size) | none => false) then (match a, b with
          | none, none => K x
          | some a, none => bif decide (0 ≤ a) && decide (a.toNat ≤ l.length) then K (.c (.own k v (.sub a.toNat (l.length - a.toNat)))) else none
          | none, some b => bif decide (0 ≤ b) && decide (b.toNat ≤ l.length) then K (.c (.own k v (.pre b.toNat))) else none
          | some a, some b => bif decide (0 ≤ a) && (decide (a ≤ b) && decide (b.toNat ≤ l.length)) then K (.c (.own k v (.sub a.toNat (b.toNat - a.toNat)))) else none) else none
        | _ => none
      | _ => none
    | _ => none
  | _, _ => none

def fillV : List (Nat × Nat) → List CV → List (Nat × LV) → Option (List CV)
  | _, cells, [] => some cells
  | place, cells, (i, v) :: r => match place[i]? with
    | some (off, size) => bif decide (v.cells.length = size) && decide (off + size ≤ cells.length) && v.cells.all CV.alive then fillV place (splice cells off v.cells) r else none
    | none => none
def places (cx : Cx) : List (Nat × Nat) → Option (List (Nat × Nat))
  | [] => some []
  | (off, t) :: r => match cx.tt t, places cx r with
    | some ty, some l => some ((off, ty.size) :: l)
    | _, _ => none
def rowPlaces (size : Nat) (n : Nat) : List (Nat × Nat) := (List.range n).map fun i => (i * size, size)
def vbuild (cx : Cx) (ty : Ty) (parts : List (Nat × LV)) (K : LV → Option α) : Option α :=
  match ty.d with
  | .struct fs => match places cx fs with
    | some pl => match fillV pl ty.zero parts with
      | some cells => K (.agg cells)
      | none => none
    | none => none
  | .array n e => match cx.tt e with
    | some te => match fillV (rowPlaces te.size n) ty.zero parts with
      | some cells => K (.agg cells)
      | none => none
    | none => none
  | _ => none
def repeatL {β : Type} : Nat → List β → List β
  | 0, _ => []
  | n + 1, l => l ++ repeatL n l
def vbuildSlice (cx : Cx) (d : Nat) (ty : Ty) (n : Nat) (parts : List (Nat × LV)) (H : Nat → Option VO) (K : LV → List (Nat × VO) → Option α) : Option α :=
  match ty.d, ty.code with
  | .slice e, .list c => match cx.tt e with
    | some te => bif decide (te.code = c) && decide (te.size = c.size) && decide (0 < te.size) && decide (n * te.size ≤ 10000) then
      (match fillV (rowPlaces te.size n) (repeatL n te.zero) parts with
      | some cells => match buildMany H c n cells, H (siteKey d 0) with
        | some xs, none => K (.c (.own (siteKey d 0) 0 .full)) (freeze H (ownKeys cells) ++ [(siteKey d 0, ⟨0, .row c xs, false⟩)])
        | _, _ => none
      | none => none) else none
    | none => none
  | _, _ => none
def vmake (cx : Cx) (d : Nat) (ty : Ty) (x : LV) (H : Nat → Option VO) (K : LV → List (Nat × VO) → Option α) : Option α :=
  match ty.d, ty.code, x with
  | .slice e, .list c, .c (.s (.int k) n) => match cx.tt e with
    | some te => bif decide (k = .i64) && decide (te.code = c) && decide (te.size = c.size) && decide (0 < te.size) && decide (0 < te.bytes) then
      (match buildAll H c te.zero, H (siteKey d 0) with
      | some z, none => bif decide (0 ≤ n) && decide (te.bytes * n.toNat ≤ 140737488355328) then
          K (.c (.own (siteKey d 0) 0 .full)) [(siteKey d 0, ⟨0, .row c (List.replicate n.toNat z), false⟩)] else none
      | _, _ => none) else none
    | none => none
  | _, _, _ => none
def vconvert (cx : Cx) (src dst : Ty) (x : LV) (H : Nat → Option VO) (K : LV → Option α) : Option α :=
  match dst.d with
  | .int k => match x with
    | .c (.s (.int _) n) => K (.c (.s (.int k) (k.wrap n)))
    | _ => none
  | .str => match src.d with
    | .str => match x with
      | .c (.s .str l) => K (.c (.s .str l))
      | _ => none
    | .slice e => match (cx.tt e).map Ty.d with
      | some (.int .u8) => match elemsOf H (.int .u8) x with
        | some l => K (.c (.s .str (l.map fun n => UInt8.ofNat n.toNat)))
        | none => none
      | _ => none
    | _ => none
  | .slice e => match (cx.tt e).map Ty.d with
    | some (.int .u8) => match x with
      | .c (.s .str l) => K (.c (.s (.list (.int .u8)) (l.map fun b => ((b.toNat : Nat) : Int))))
      | _ => none
    | _ => none
  | _ => none
def vpick (c a b : LV) (K : LV → Option α) : Option α :=
  match c with
  | .c (.s .bool t) => match t, a, b with
    | true, .c (.s .bool x), _ => K (.c (.s .bool x))
    | false, _, .c (.s .bool y) => K (.c (.s .bool y))
    | _, _, _ => none
  | _ => none
end
end Go.JL
/- The abstract machine, second part: an operation, a region, the code of a function. No program in sight. -/
set_option linter.unusedVariables false
namespace Go.JL

def cvKeys : CV → List Nat
  | .own k _ _ => [k]
  | .ptr k _ _ => [k]
  | .rptr k _ _ _ => [k]
  | .clo _ l => l.map (·.1)
  | _ => []
def lvKeys : LV → List Nat
  | .c x => cvKeys x
  | .agg l => l.flatMap cvKeys
  | .tup l => l.flatMap fun p => p.1.flatMap cvKeys

def eqCell : Option TD → CV → CV → Option Bool
  | some (.int _), .s (.int k) a, .s (.int k') b => bif decide (k = k') then some (a == b) else none
  | some .str, .s .str a, .s .str b => some (a == b)
  | some .bool, .s .bool a, .s .bool b => some (a == b)
  | _, _, _ => none
def eqFs (cx : Cx) : List (Nat × Nat) → Nat → List CV → List CV → Option Bool
  | [], _, [], [] => some true
  | (off, ft) :: gs, i, x :: r, y :: s => bif off == i then (match eqCell ((cx.tt ft).map Ty.d) x y, eqFs cx gs (i + 1) r s with
    | some a, some b => some (a && b)
    | _, _ => none) else none
  | _, _, _, _ => none

section
variable {α : Type}
def vbinA (cx : Cx) (op : BinOp) (t : Nat) (x y : LV) (K : LV → Option α) : Option α :=
  match x, y with
  | .agg a, .agg b => match cx.tt t with
    | some ty => match ty.d with
      | .struct fs => bif ty.eq then match eqFs cx fs 0 a b with
        | some r => match op with
          | .eql => K (.c (.s .bool r))
          | .neq => K (.c (.s .bool !r))
          | _ => none
        | none => none
        else none
      | _ => none
    | none => none
  | .c (.s .bool a), .c (.s .bool b) => match (cx.tt t).map Ty.d with
    | some .bool => match op with
      | .eql => K (.c (.s .bool (a == b)))
      | .neq => K (.c (.s .bool !(a == b)))
      | _ => none
    | _ => none
  | x, y => vbin op x y K
def isIface : Option Ty → Bool
  | some ty => match ty.d with
    | .iface => true
    | _ => false
  | none => false
def isNilI : Operand → Bool
  | .const .nilIface => true
  | _ => false
/-- '== nil' of an interface -/
def vnilI (cx : Cx) (op : BinOp) (t : Nat) (x : LV) (K : LV → Option α) : Option α :=
  match x with
  | .c (.s (.fn c) e) => bif isBoolC c && isIface (cx.tt t) then match op with
    | .eql => bif e.isNone then K (.c (.s .bool true)) else none
    | .neq => bif e.isNone then K (.c (.s .bool false)) else none
    | _ => none
    else none
  | _ => none
def isNilC : Operand → Bool
  | .const (.slice none 0 0) => true
  | _ => false
def isSlice : Option Ty → Bool
  | some ty => match ty.d with
    | .slice _ => true
    | _ => false
  | none => false
/-- '== nil' of a slice -/
def vnilS (cx : Cx) (op : BinOp) (t : Nat) (x : LV) (K : LV → Option α) : Option α :=
  bif isSlice (cx.tt t) then match x with
  | .c .nils => match op with
    | .eql => K (.c (.s .bool true))
    | .neq => K (.c (.s .bool false))
    | _ => none
  | .c (.s (.list c) l) => match op with
    | .eql => bif List.isEmpty l then none else K (.c (.s .bool false))
    | .neq => bif List.isEmpty l then none else K (.c (.s .bool true))
    | _ => none
  | _ => none
  else none
def vfield (cx : Cx) (t : Nat) (x : LV) (f : Nat) (K : LV → Option α) : Option α :=
  match cx.tt t, x with
  | some ty, .agg l => match ty.d with
    | .struct fs => match fs[f]? with
      | some (off, ft) => match cx.tt ft with
        | some fty => bif decide (off + fty.size ≤ l.length) then
            (bif fty.d.agg then K (.agg ((l.drop off).take fty.size)) else match (l.drop off).take fty.size with
              | [x] => K (.c x)
              | _ => none) else none
        | none => none
      | none => none
    | _ => none
  | _, _ => none
def vmin (mx : Bool) : List LV → (LV → Option α) → Option α
  | [.c (.s (.int k) a), .c (.s (.int _) b)], K => K (.c (.s (.int k) (bif mx then (if b > a then b else a) else (if b < a then b else a))))
  | [.c (.s (.int k) a), .c (.s (.int _) b), .c (.s (.int _) c)], K =>
    let m : Int := (bif mx then (if b > a then b else a) else (if b < a then b else a))
    K (.c (.s (.int k) (bif mx then (if c > m then c else m) else (if c < m then c else m))))
  | _, _ => none
def vbuiltin (cx : Cx) (d : Nat) (b : Builtin) (ts : List TypeId) (vs : List LV) (H : Nat → Option VO) (K : LV → List (Nat × VO) → Option α) : Option α :=
  match b, ts, vs with
  | .len, [t], [x] => match cx.tt t with
    | some ty => vlen ty x H fun v => K v []
    | none => none
  | .append, [t, t'], [x, y] => bif isSlice (cx.tt t') then vappend cx d t x y H K else none
  | .min, _, vs => vmin false vs fun v => K v []
  | .max, _, vs => vmin true vs fun v => K v []
  | _, _, _ => none
def vmove (cx : Cx) (d t : Nat) (x : Operand) (T : Nat → LV) (H : Nat → Option VO) (K : LV → List (Nat × VO) → Option α) : Option α :=
  bif isNilC x then match H (siteKey d 0) with
    | none => match (cx.tt t).map Ty.code with
      | some (.list c) => bif decide (0 < c.size) then K (.c (.own (siteKey d 0) 0 .full)) [(siteKey d 0, ⟨0, .row c [], false⟩)] else K (.c .nils) []
      | _ => K (.c .nils) []
    | some _ => K (.c .nils) []
  else K (evalO T x) []
def ptrKey : LV → Option (Nat × Nat)
  | .c (.ptr k v 0) => some (k, v)
  | _ => none
def ptrKeys (T : Nat → LV) : List Operand → Option (List (Nat × Nat))
  | [] => some []
  | x :: r => match ptrKey (evalO T x), ptrKeys T r with
    | some p, some l => some (p :: l)
    | _, _ => none
def vmakeFunc (cx : Cx) (f : Nat) (first captured : List Operand) (T : Nat → LV) (H : Nat → Option VO) (K : LV → List (Nat × VO) → Option α) : Option α :=
  match first, captured with
  | [], [] => K (.c (.s (.fn .unit) (some (f, ())))) []
  | [x], [] => match cx.G f with
    | some C => match C.ps with
      | .val c :: _ => bif (c.isAgg == (evalO T x).isAgg) && decide (0 < c.size) then (match buildAll H c (evalO T x).cells with
        | some y => K (.c (.s (.fn c) (some (f, y)))) (freeze H (ownKeys (evalO T x).cells))
        | none => none) else none
      | _ => none
    | none => none
  | [], y :: l => match ptrKeys T (y :: l) with
    | some ks => K (.c (.clo f ks)) []
    | none => none
  | _, _ => none
def constLen : Value → Operand → Option LV
  | .int .i64 a, .const (.int .i64 b) => bif decide (a = b) then some (.c (.s (.int .i64) a)) else none
  | _, _ => none
/-- length and capacity are the same -/
def makeLen (T : Nat → LV) (n m : Operand) : Option LV :=
  match n with
  | .tmp a => match m with
    | .tmp b => bif a == b then some (T a) else none
    | _ => none
  | .const v => constLen v m
  | _ => none
def isUnit : TC → Bool
  | .unit => true
  | _ => false
/-- A call of one of some functions. -/
def vdyn (cx : Cx) (b : TC) (f : Nat) (vs : List LV) (H : Nat → Option VO) (K : LV → List (Nat × VO) → Option α) : List Nat → Option α
  | [] => none
  | g :: r => bif f == g then vcall cx g vs H K else vdyn cx b f vs H K r
/-- A call that gives back a pointer to a new object. -/
def vnew (C : NCon) (d : Nat) (vs : List LV) (H : Nat → Option VO) (K : LV → List (Nat × VO) → Option α) : Option α :=
  match conv H C.ps vs with
  | none => none
  | some cv => bif cv.ios.isEmpty then (match H (siteKey d 0) with
    | none => Option.bind (C.F cv.args) fun y => K (.c (.ptr (siteKey d 0) 0 0)) (freeze H cv.own ++ [(siteKey d 0, ⟨0, .cells (flat C.c y), false⟩)])
    | some _ => none) else none
def newOf (cx : Cx) : Operand → Option NCon
  | .func f => cx.N f
  | _ => none
/-- A call of a function value. -/
def vcallV (cx : Cx) (f : LV) (vs : List LV) (H : Nat → Option VO) (K : LV → List (Nat × VO) → Option α) : Option α :=
  match f with
  | .c (.s (.fn b) y) => bif isUnit b then (match y with
    | some p => bif cx.dynu.isEmpty then vcall cx p.1 vs H K else vdyn cx b p.1 vs H K cx.dynu
    | none => none) else Option.bind y fun p => vdyn cx b p.1 (toLV b p.2 :: vs) H K cx.dyn
  | .c (.clo g ks) => vcall cx g (vs ++ ks.map fun p => .c (.ptr p.1 p.2 0)) H K
  | _ => none
/-- One operation. -/
def vopB (cx : Cx) (o : Oper) (T : Nat → LV) (H : Nat → Option VO) (K : LV → List (Nat × VO) → Option α) : Option α :=
  let d := o.dst.getD 0
  let K0 := fun v => K v []
  match o.op with
  | .move x => vmove cx d o.type x T H K
  | .assign x => vmove cx d o.type x T H K
  | .pick c a b => vpick (evalO T c) (evalO T a) (evalO T b) K0
  | .alloc e => match cx.tt e with
    | some ty => vvar d ty.zero ty.cc H K
    | none => none
  | .box e x => match cx.tt e with
    | some ty => bif ((evalO T x).cells.length == ty.size) && (evalO T x).cells.all CV.alive then vvar d (evalO T x).cells ty.cc H K else none
    | none => none
  | .build t parts => match cx.tt t with
    | some ty => vbuild cx ty (parts.toList.map fun p => (p.1, evalO T p.2)) K0
    | none => none
  | .buildSlice t n parts => match cx.tt t with
    | some ty => vbuildSlice cx d ty n (parts.toList.map fun p => (p.1, evalO T p.2)) H K
    | none => none
  | .load t p => match cx.tt t with
    | some ty => vload ty (evalO T p) H K0
    | none => none
  | .store t p x => match cx.tt t with
    | some ty => vstore ty (evalO T p) (evalO T x) H (fun ups => K dead ups)
    | none => none
  | .nilCheck x => match evalO T x with
    | .c (.ptr k v o) => K0 (.c (.ptr k v o))
    | .c (.rptr k v i j) => K0 (.c (.rptr k v i j))
    | .c (.eptr c x o) => K0 (.c (.eptr c x o))
    | .c (.clo f l) => K0 (.c (.clo f l))
    | _ => none
  | .binOp op t x y _ => bif isNilI y then vnilI cx op t (evalO T x) K0 else bif isNilC y then vnilS cx op t (evalO T x) K0 else vbinA cx op t (evalO T x) (evalO T y) K0
  | .unOp op _ x => vun op (evalO T x) K0
  | .convert src dst x => match cx.tt src, cx.tt dst with
    | some s, some t => vconvert cx s t (evalO T x) H K0
    | _, _ => none
  | .makeFunc (.func f) first captured => vmakeFunc cx f first.toList captured.toList T H K
  | .makeSlice t n m => match cx.tt t, makeLen T n m with
    | some ty, some x => vmake cx d ty x H K
    | _, _ => none
  | .slice t x lo hi none => match cx.tt t with
    | some ty => vslice cx ty (evalO T x) (lo.map (evalO T)) (hi.map (evalO T)) H K0
    | none => none
  | .fieldAddr t p f => match cx.tt t with
    | some ty => vfieldAddr ty (evalO T p) f K0
    | none => none
  | .field t x f => vfield cx t (evalO T x) f K0
  | .indexAddr t x i => match cx.tt t with
    | some ty => vindexAddr cx ty (evalO T x) (evalO T i) H K0
    | none => none
  | .index t x i => match cx.tt t with
    | some ty => vindex ty (evalO T x) (evalO T i) K0
    | none => none
  | .extract x i => match evalO T x with
    | .tup l => match l[i]? with
      | some ([x], false) => K0 (.c x)
      | some (l, true) => K0 (.agg l)
      | _ => none
    | _ => none
  | .call c => match c.callee with
    | .builtin b => vbuiltin cx d b c.argTypes.toList (c.args.toList.map (evalO T)) H K
    | .value f => match newOf cx f with
      | some C => vnew C d (c.args.toList.map (evalO T)) H K
      | none => vcallV cx (evalO T f) (c.args.toList.map (evalO T)) H K
    | _ => none
  | _ => none
def vop (cx : Cx) (o : Oper) (T : Nat → LV) (H : Nat → Option VO) (K : LV → List (Nat × VO) → Option α) : Option α :=
  bif Nat.blt (o.dst.getD 0) 10000 then vopB cx o T H K else none

def putT (n : Nat) (T : Nat → LV) (dst : Option Nat) (v : LV) (K : (Nat → LV) → Option α) : Option α :=
  match dst with
  | none => K T
  | some d => bif decide (d < n) then K (upd T d v) else none

/-- Operations in the order of the text. -/
def vops (cx : Cx) (ops : Array Oper) : List Oper → (Nat → LV) → (Nat → Option VO) → ((Nat → LV) → (Nat → Option VO) → Option α) → Option α
  | [], T, H, K => K T H
  | o :: r, T, H, K => match o.guard with
    | none => vop cx o T H fun v ups => putT cx.n T o.dst v fun T => vops cx ops r T (updH H ups) K
    | some (j, want) => match (ops[j]?).bind (·.dst) with
      | none => none
      | some dj => match T dj with
        | .c (.s .bool b) =>
          let go (b : Bool) : Option α :=
            let T1 := upd T dj (.c (.s .bool b))
            bif b == want then vop cx o T1 H fun v ups => putT cx.n T1 o.dst v fun T => vops cx ops r T (updH H ups) K
            else putT cx.n T1 o.dst und fun T => vops cx ops r T H K
          bif b then go true else go false
        | .c .und => putT cx.n T o.dst und fun T => vops cx ops r T H K
        | _ => none

/-! ### A region whose order is open: each operation sees the objects alone that it names -/
def siteKeys (cx : Cx) (o : Oper) : List Nat :=
  let d := o.dst.getD 0
  match o.op with
  | .alloc e | .box e _ => match cx.tt e with
    | some ty => (List.range (ty.cc.length + 1)).map (siteKey d)
    | none => []
  | _ => [siteKey d 0]
def reach (H : Nat → Option VO) (l : List Nat) : List Nat :=
  l ++ l.flatMap fun k => match H k with
    | some ⟨_, .cells c, _⟩ => c.flatMap cvKeys
    | _ => []
/-- It does not look into the objects that it names. -/
def quiet : Op → Bool
  | .move _ => true
  | .assign _ => true
  | .pick _ _ _ => true
  | .nilCheck _ => true
  | .fieldAddr _ _ _ => true
  | .field _ _ _ => true
  | .extract _ _ => true
  | .build _ _ => true
  | .binOp _ _ _ _ _ => true
  | .unOp _ _ _ => true
  | .index _ _ _ => true
  | .alloc _ => true
  | .box _ _ => true
  | _ => false
def named (o : Oper) (T : Nat → LV) : List Nat := bif quiet o.op then [] else o.op.operands.toList.flatMap fun x => lvKeys (evalO T x)
def foot (cx : Cx) (o : Oper) (T : Nat → LV) (H : Nat → Option VO) : List Nat :=
  reach H (siteKeys cx o ++ named o T)
def mask (l : List Nat) (H : Nat → Option VO) : Nat → Option VO := fun k => bif l.contains k then H k else none
/-- (what it may read, what it writes) for each operation, the last one first -/
abbrev Feet := List (List Nat × List Nat)
def waits (md : Region.Mode) (o : Oper) (i : Nat) : Bool := o.after.any fun e => Region.binds md e && e.on == i
/-- .. or on one that waits, and so on -/
def waitsT (ops : Array Oper) : Nat → Nat → Nat → Bool
  | 0, _, _ => false
  | n + 1, j, i => match ops[j]? with
    | some o => waits .any o i || o.after.any fun e => Region.binds .any e && waitsT ops n e.on i
    | none => false
/-- feet: in the order of the text -/
def feetOk (ops : Array Oper) (f : Feet) : Bool :=
  (List.range ops.size).all fun j => match ops[j]?, f[j]? with
    | some _, some (rj, wj) => (List.range j).all fun i => (match f[i]? with
      | some (ri, wi) => apartB wi rj && apartB wj ri
      | none => false) || waitsT ops 5 j i
    | _, _ => false
def vopsD (cx : Cx) (ops : Array Oper) : List Oper → (Nat → LV) → (Nat → Option VO) → Feet → ((Nat → LV) → (Nat → Option VO) → Feet → Option α) → Option α
  | [], T, H, f, K => K T H f
  | o :: r, T, H, f, K =>
    let run (T : Nat → LV) : Option α :=
      let R := foot cx o T H
      vop cx o T H fun v ups => bif (ups.map (·.1)).all R.contains then
        putT cx.n T o.dst v fun T => vopsD cx ops r T (updH H ups) ((R, ups.map (·.1)) :: f) K else none
    match o.guard with
    | none => run T
    | some (j, want) => match (ops[j]?).bind (·.dst) with
      | none => none
      | some dj => match T dj with
        | .c (.s .bool b) =>
          let go (b : Bool) : Option α :=
            let T1 := upd T dj (.c (.s .bool b))
            bif b == want then run T1 else putT cx.n T1 o.dst und fun T => vopsD cx ops r T H (([], []) :: f) K
          bif b then go true else go false
        | .c .und => putT cx.n T o.dst und fun T => vopsD cx ops r T H (([], []) :: f) K
        | _ => none

/-! ### Code -/
structure An where
  T : List Nat
  H : List Nat
  /-- (object, cell, key of a row, code): what the cell names is called by that key from here on -/
  Z : List (Nat × Nat × Nat × TC) := []
structure Ann where
  loops : Nat → Option An
  seqs : Nat → Option An
def nextv (H : Nat → Option VO) (k : Nat) : Nat := match H k with
  | some o => o.v + 1
  | none => 0
def home (k i k1 : Nat) (c : TC) (H : Nat → Option VO) : Nat → Option VO :=
  match H k with
  | some ⟨v, .cells l, fz⟩ => bif Nat.blt k1 1000000 && (!(k1 == k) && Nat.blt 0 c.size) then (match l[i]? with
    | some .nils => upd (upd H k1 (some ⟨nextv H k1, .row c [], false⟩)) k (some ⟨v, .cells (l.set i (.own k1 (nextv H k1) .full)), fz⟩)
    | some (.own k2 v2 w) => bif (k2 == k1 || k2 == k) || !Nat.blt k2 1000000 then H else (match H k2 with
      | some ⟨v2', .row c' l', fz'⟩ => bif v2 == v2' then upd (upd (upd H k1 (some ⟨nextv H k1, .row c' l', fz'⟩)) k2 (some ⟨v2' + 1, .row c' [], false⟩)) k (some ⟨v, .cells (l.set i (.own k1 (nextv H k1) w)), fz⟩) else H
      | _ => H)
    | _ => H) else H
  | _ => H
def homes : List (Nat × Nat × Nat × TC) → (Nat → Option VO) → Nat → Option VO
  | [], H => H
  | (k, i, k1, c) :: r, H => homes r (home k i k1 c H)
/-- A row that is given up: what it holds from now on. -/
def giveUp (H : Nat → Option VO) (k v : Nat) (w : Win) : CV := match H k with
  | some ⟨v', .row c l, _⟩ => bif v == v' && Nat.blt k 1000000 then .s (.list c) (w.on l) else .dead
  | _ => .dead
def renC (m : List Nat) (H : Nat → Option VO) : CV → CV
  | .own k v w => match mask m H k with
    | some vo => bif vo.v == v then .own k 0 w else .dead
    | none => giveUp H k v w
  | .ptr k v o => match mask m H k with
    | some vo => bif vo.v == v then .ptr k 0 o else .dead
    | none => .dead
  | .rptr k v i j => match mask m H k with
    | some vo => bif vo.v == v then .rptr k 0 i j else .dead
    | none => .dead
  | .clo f l => bif l.all (fun p => match mask m H p.1 with
      | some vo => vo.v == p.2
      | none => false) then .clo f (l.map fun p => (p.1, 0)) else .dead
  | x => x
def ren (m : List Nat) (H : Nat → Option VO) : LV → LV
  | .c x => .c (renC m H x)
  | .agg l => .agg (l.map (renC m H))
  | .tup _ => dead
def ren0 (m : List Nat) (H : Nat → Option VO) (o : VO) : VO :=
  ⟨0, (match o.ob with
    | .cells l => .cells (l.map (renC m H))
    | .row c l => .row c l), o.fz⟩
def tbl (l : List (Nat × LV)) : Nat → LV := fun i => match l with
  | [] => dead
  | (j, v) :: r => bif i == j then v else tbl r i
def tblH (l : List (Nat × Option VO)) : Nat → Option VO := fun i => match l with
  | [] => none
  | (j, v) :: r => bif i == j then v else tblH r i
def cutT0 (a : An) (T : Nat → LV) (H : Nat → Option VO) : Nat → LV := tbl (a.T.map fun j => (j, ren a.H H (T j)))
def cutH0 (a : An) (H : Nat → Option VO) : Nat → Option VO := tblH (a.H.map fun k => (k, (H k).map (ren0 a.H H)))
def cutT (a : An) (T : Nat → LV) (H : Nat → Option VO) : Nat → LV := cutT0 a T (homes a.Z H)
def cutH (a : An) (H : Nat → Option VO) : Nat → Option VO := cutH0 a (homes a.Z H)

def headId : Code → Nat
  | .region id _ _ => id
  | .seq a _ => headId a
  | .block _ c => headId c
  | .loop c => headId c
  | _ => 1000000
def vrun (cx : Cx) (an : Ann) (k : Nat) : Code → Nat → (Nat → LV) → (Nat → Option VO) → (Exit → (Nat → LV) → (Nat → Option VO) → Option α) → Option α
  | .skip, _, T, H, K => K .normal T H
  | .region _ ops draw, _, T, H, K => bif draw then
      bif Region.lexB .any ops then vopsD cx ops ops.toList T H [] fun T H f => bif feetOk ops f.reverse then K .normal T H else none else none
    else vops cx ops ops.toList T H fun T H => K .normal T H
  | .seq a b, i, T, H, K => vrun cx an k a i T H fun e T H => match e with
    | .normal => match an.seqs (headId b) with
      | some c => vrun cx an k b i (cutT c T H) (cutH c H) K
      | none => vrun cx an k b i T H K
    | e => K e T H
  | .cond c x y, i, T, H, K => match evalO T c with
    | .c (.s .bool b) => bif b then vrun cx an k x i T H K else vrun cx an k y i T H K
    | _ => none
  | .block id c, _, T, H, K => vrun cx an k c id T H fun e T H => match e with
    | .exit j => bif j == id then K .normal T H else K (.exit j) T H
    | e => K e T H
  | .loop c, i, T, H, K => match an.loops i with
    | some a => Nat.rec (motive := fun _ => (Nat → LV) → (Nat → Option VO) → Option α) (fun _ _ => none)
        (fun _ again T H => vrun cx an k c i T H fun e T H => match e with
          | .normal => again (cutT a T H) (cutH a H)
          | e => K e T H) k (cutT a T H) (cutH a H)
    | none => none
  | .exit id, _, T, H, K => K (.exit id) T H
  | .ret, _, T, H, K => K .ret T H
  | _, _, _, _, _ => none
end

/-! ### Functions -/
def initTup (i : Nat) : (cs : List TC) → Nat → Tup cs → List (Nat × Option VO)
  | [], _, _ => []
  | c :: cs, j, x => (ioKey i j, some ⟨0, .cells (flat c x.1), false⟩) :: initTup i cs (j + 1) x.2
def initT : (ps : List PK) → Nat → Args ps → List (Nat × LV)
  | [], _, _ => []
  | .val c :: ps, i, x => (i, toLV c x.1) :: initT ps (i + 1) x.2
  | .ptr c :: ps, i, x => (i, .c (.ptr (ioKey i 0) 0 0)) :: initT ps (i + 1) x.2
  | .clo f cs :: ps, i, x => (i, .c (.clo f ((List.range cs.length).map fun j => (ioKey i j, 0)))) :: initT ps (i + 1) x.2
def initH : (ps : List PK) → Nat → Args ps → List (Nat × Option VO)
  | [], _, _ => []
  | .val _ :: ps, i, x => initH ps (i + 1) x.2
  | .ptr c :: ps, i, x => (ioKey i 0, some ⟨0, .cells (flat c x.1), false⟩) :: initH ps (i + 1) x.2
  | .clo _ cs :: ps, i, x => initTup i cs 0 x.1 ++ initH ps (i + 1) x.2
def outTup (H : Nat → Option VO) (i : Nat) : (cs : List TC) → Nat → Option (Tup cs)
  | [], _ => some ()
  | c :: cs, j => match H (ioKey i j) with
    | some ⟨_, .cells l, false⟩ => match buildAll H c l with
      | some x => match outTup H i cs (j + 1) with
        | some r => some (x, r)
        | none => none
      | none => none
    | _ => none
def outIos (H : Nat → Option VO) : (ps : List PK) → Nat → Option (Ios ps)
  | [], _ => some ()
  | .val _ :: ps, i => outIos H ps (i + 1)
  | .ptr c :: ps, i => match H (ioKey i 0) with
    | some ⟨_, .cells l, false⟩ => match buildAll H c l with
      | some x => match outIos H ps (i + 1) with
        | some r => some (x, r)
        | none => none
      | none => none
    | _ => none
  | .clo _ cs :: ps, i => match outTup H i cs 0 with
    | some x => match outIos H ps (i + 1) with
      | some r => some (x, r)
      | none => none
    | none => none
def outRs (H : Nat → Option VO) : (rs : List TC) → List LV → Option (Tup rs)
  | [], [] => some ()
  | c :: rs, v :: vs => bif c.isAgg == v.isAgg then (match buildAll H c v.cells with
    | some x => match outRs H rs vs with
      | some r => some (x, r)
      | none => none
    | none => none) else none
  | _, _ => none
def resLV (cx : Cx) (T : Nat → LV) (H : Nat → Option VO) : List ResultVar → Option (List LV)
  | [] => some []
  | .tmp t :: r => match resLV cx T H r with
    | some l => some (T t :: l)
    | none => none
  | .cell a t :: r => match cx.tt t with
    | some ty => match vload ty (T a) H some with
      | some v => match resLV cx T H r with
        | some l => some (v :: l)
        | none => none
      | none => none
    | none => none
def vout (cx : Cx) (fn : Func) (ps : List PK) (rs : List TC) (T : Nat → LV) (H : Nat → Option VO) : Option (Tup rs × Ios ps) :=
  match resLV cx T H fn.results.toList with
  | some l => match outRs H rs l with
    | some x => match outIos H ps 0 with
      | some y => some (x, y)
      | none => none
    | none => none
  | none => none
def vend (cx : Cx) (fn : Func) (ps : List PK) (rs : List TC) (e : Exit) (T : Nat → LV) (H : Nat → Option VO) : Option (Tup rs × Ios ps) :=
  match e with
  | .normal => vout cx fn ps rs T H
  | .ret => vout cx fn ps rs T H
  | _ => none
def vfun (cx : Cx) (an : Ann) (k : Nat) (fn : Func) (ps : List PK) (rs : List TC) (x : Args ps) : Option (Tup rs × Ios ps) :=
  match fn.body with
  | some c => vrun cx an k c 0 (tbl (initT ps 0 x)) (tblH (initH ps 0 x)) (vend cx fn ps rs)
  | none => none
end Go.JL
/- The abstract machine, third part: what its states say of the model's worlds. No program in sight. -/
set_option linter.unusedVariables false
namespace Go.JL

/-- Memory that nobody writes any more, as far as it is known. -/
abbrev Mem := Addr → Option Value
def Mem.le (M M' : Mem) : Prop := ∀ a v, M a = some v → M' a = some v
theorem Mem.le.refl (M : Mem) : M.le M := fun _ _ h => h
theorem Mem.le.trans {M M' M'' : Mem} (h : M.le M') (h' : M'.le M'') : M.le M'' := fun a v x => h' a v (h a v x)

/-- Consecutive cells ('rd': by their offset) hold the pure data x of the code c. -/
def CR (M : Mem) : (c : TC) → El c → (Nat → Option Value) → Prop
  | .bool, x, rd => rd 0 = some (.bool x)
  | .int k, x, rd => rd 0 = some (.int k x)
  | .str, x, rd => rd 0 = some (.string ⟨(x : List UInt8).toArray⟩)
  | .list c, l, rd => ∃ A cap, rd 0 = some (.slice A (List.length l) cap) ∧ List.length l ≤ cap ∧
      ∀ (i : Nat) (x : El c), (l : List (El c))[i]? = some x → ∃ ad, A = some ad ∧ CR M c x (fun o => M (ad.add (i * c.size + o)))
  | .pair a b, x, rd => CR M a x.1 rd ∧ CR M b x.2 (fun o => rd (a.size + o))
  | .one a, x, rd => CR M a x rd
  | .unit, _, _ => True
  | .fn c, none, rd => rd 0 = some (nilOf c)
  | .fn c, some p, rd => (c = .unit ∧ rd 0 = some (.func (.func p.1) #[] #[])) ∨
      (c ≠ .unit ∧ ∃ v : Value, rd 0 = some (.func (.func p.1) #[v] #[]) ∧ v.cells.size = c.size ∧ (c.isAgg = true ↔ ∃ vs, v = .agg vs) ∧ CR M c p.2 (fun o => v.cells[o]?))

theorem CR.mono {M M' : Mem} (hM : M.le M') : ∀ (c : TC) (x : El c) (rd rd' : Nat → Option Value), (∀ o v, o < c.size → rd o = some v → rd' o = some v) → CR M c x rd → CR M' c x rd'
  | .bool, x, rd, rd', h, H => h 0 _ (by simp [TC.size]) H
  | .int _, x, rd, rd', h, H => h 0 _ (by simp [TC.size]) H
  | .str, x, rd, rd', h, H => h 0 _ (by simp [TC.size]) H
  | .list c, l, rd, rd', h, H => by
    obtain ⟨A, cap, h0, hc, hl⟩ := H
    refine ⟨A, cap, h 0 _ (by simp [TC.size]) h0, hc, fun i x hx => ?_⟩
    obtain ⟨ad, ha, hr⟩ := hl i x hx
    exact ⟨ad, ha, CR.mono hM c x _ _ (fun o v _ hv => hM _ _ hv) hr⟩
  | .pair a b, x, rd, rd', h, H => ⟨CR.mono hM a x.1 rd rd' (fun o v ho hv => h o v (by simp [TC.size]; omega) hv) H.1,
      CR.mono hM b x.2 _ _ (fun o v ho hv => h _ v (by simp [TC.size]; omega) hv) H.2⟩
  | .one a, x, rd, rd', h, H => CR.mono hM a x rd rd' (fun o v ho hv => h o v (by simpa [TC.size] using ho) hv) H
  | .unit, _, _, _, _, _ => trivial
  | .fn _, none, rd, rd', h, H => h 0 _ (by simp [TC.size]) H
  | .fn c, some p, rd, rd', h, H => by
    rcases H with ⟨hc, h0⟩ | ⟨hc, v, h0, hs, ha, hr⟩
    · exact .inl ⟨hc, h 0 _ (by simp [TC.size]) h0⟩
    · exact .inr ⟨hc, v, h 0 _ (by simp [TC.size]) h0, hs, ha, CR.mono hM c p.2 _ _ (fun _ _ _ hv => hv) hr⟩

/-- Nothing is read where the code is flat. -/
theorem CR.noMem {M M' : Mem} : ∀ (c : TC) (x : El c) (rd : Nat → Option Value), c.flat = true → CR M c x rd → CR M' c x rd
  | .bool, x, rd, _, H => H
  | .int _, x, rd, _, H => H
  | .str, x, rd, _, H => H
  | .list c, l, rd, h, _ => by simp [TC.flat] at h
  | .pair a b, x, rd, h, H => by
    simp only [TC.flat, Bool.and_eq_true] at h
    exact ⟨CR.noMem a x.1 rd h.1 H.1, CR.noMem b x.2 _ h.2 H.2⟩
  | .one a, x, rd, h, H => CR.noMem a x rd (by simpa [TC.flat] using h) H
  | .unit, _, _, _, _ => trivial
  | .fn _, _, _, h, _ => by simp [TC.flat] at h

/-- The real block of an object, and its number of cells. -/
abbrev Place := Nat → Option (Nat × Nat)
abbrev adr (b o : Nat) : Addr := (⟨b, 0, none⟩ : Addr).add o

def RowV (β : Place) (k : Nat) (size len : Nat) (v : Value) : Win → Prop
  | .full => match β k with
    | some (b, n) => ∃ cap, v = .slice (some ⟨b, 0, none⟩) len cap ∧ len ≤ cap ∧ cap * size ≤ n
    | none => v = .slice none 0 0 ∧ len = 0
  | .pre m => m ≤ len ∧ match β k with
    | some (b, n) => ∃ cap, v = .slice (some ⟨b, 0, none⟩) m cap ∧ m ≤ cap ∧ cap * size ≤ n
    | none => v = .slice none 0 0 ∧ len = 0
  | .sub o m => o + m ≤ len ∧ ∃ A cap, v = .slice A m cap ∧ m ≤ cap ∧ (0 < m → ∃ b n, β k = some (b, n) ∧ A = some (adr b (o * size)))

/-- What a cell's abstract value says of the real one. -/
def CVR (β : Place) (H : Nat → Option VO) (M : Mem) (v : Value) : CV → Prop
  | .s c x => c.isAgg = false ∧ CR M c x (fun o => if o = 0 then some v else none)
  | .nils => v = .slice none 0 0
  | .own k ver w => v.oneCell' = true ∧ (∃ vo, H k = some vo ∧ ver ≤ vo.v) ∧ ∀ c l fz, H k = some ⟨ver, .row c l, fz⟩ → RowV β k c.size (List.length l) v w
  | .ptr k ver off => (∃ vo, H k = some vo ∧ ver ≤ vo.v) ∧ ∃ ad : Addr, v = .pointer (some ad) ∧ ∀ l fz, H k = some ⟨ver, .cells l, fz⟩ → ∃ b n, β k = some (b, n) ∧ ad = adr b off
  | .rptr k ver i j => (∃ vo, H k = some vo ∧ ver ≤ vo.v) ∧ ∃ ad : Addr, v = .pointer (some ad) ∧ ∀ c l fz, H k = some ⟨ver, .row c l, fz⟩ → ∃ b n, β k = some (b, n) ∧ ad = adr b (i * c.size + j)
  | .eptr c x off => ∃ ad : Addr, v = .pointer (some (ad.add off)) ∧ CR M c x (fun o => M (ad.add o))
  | .nilp => v = .pointer none
  | .clo f ks => ∃ vs : Array Value, v = .func (.func f) #[] vs ∧ vs.size = ks.length ∧ ∀ (i : Nat) (p : Nat × Nat), ks[i]? = some p →
      ∃ u, vs[i]? = some u ∧ (∃ vo, H p.1 = some vo ∧ p.2 ≤ vo.v) ∧ ∃ ad : Addr, u = .pointer (some ad) ∧ ∀ l fz, H p.1 = some ⟨p.2, .cells l, fz⟩ → ∃ b n, β p.1 = some (b, n) ∧ ad = adr b 0
  | .dead => True
  | .und => v = undef

def CellsR (β : Place) (H : Nat → Option VO) (M : Mem) (rd : Nat → Option Value) (l : List CV) : Prop :=
  ∀ (i : Nat) (x : CV), l[i]? = some x → ∃ u, rd i = some u ∧ CVR β H M u x
def LVR (β : Place) (H : Nat → Option VO) (M : Mem) (v : Value) : LV → Prop
  | .c x => CVR β H M v x
  | .agg l => ∃ vs : Array Value, v = .agg vs ∧ vs.size = l.length ∧ CellsR β H M (fun i => vs[i]?) l
  | .tup l => ∃ vs : Array Value, v = .tuple vs ∧ vs.size = l.length ∧ ∀ (i : Nat) (p : List CV × Bool), l[i]? = some p → ∃ u, vs[i]? = some u ∧
      (if p.2 then ∃ us : Array Value, u = .agg us ∧ us.size = p.1.length ∧ CellsR β H M (fun i => us[i]?) p.1 else ∃ x, p.1 = [x] ∧ CVR β H M u x)

/-- What an object says of its block. -/
def ObR (β : Place) (H : Nat → Option VO) (M : Mem) (w : World) (k : Nat) (vo : VO) : Prop :=
  match vo.ob with
  | .cells l => vo.fz = false ∧ ∃ b cs e, β k = some (b, l.length) ∧ w.heap[b]? = some (.cells cs e (0, 0)) ∧ cs.size = l.length ∧
      CellsR β H M (fun i => cs[i]?) l ∧ ∀ a : Addr, a.block = b → M a = none
  | .row c l => 0 < c.size ∧ match β k with
    | none => l = []
    | some (b, n) => ∃ cs e, w.heap[b]? = some (.cells cs e (0, 0)) ∧ cs.size = n ∧ List.length l * c.size ≤ n ∧
      (∀ (i : Nat) (x : El c), (l : List (El c))[i]? = some x → CR M c x (fun o => cs[i * c.size + o]?)) ∧
      (vo.fz = false → ∀ a : Addr, a.block = b → M a = none) ∧
      (vo.fz = true → ∀ (j : Nat) (v : Value), j < List.length l * c.size → cs[j]? = some v → M (adr b j) = some v)

/-- Blocks that the call may write: those of 'io' and new ones. -/
structure Ext (io : List (Nat × Nat)) (w0 w : World) : Prop where
  os : w.os = w0.os
  tape : w.tape = w0.tape
  output : w.output = w0.output
  size : w0.heap.size ≤ w.heap.size
  block : ∀ b, b < w0.heap.size → (∀ k, (k, b) ∉ io) → w.heap[b]? = w0.heap[b]?

structure Base where
  w0 : World
  M0 : Mem
  /-- key and block of the objects that came in -/
  io : List (Nat × Nat)
  n : Nat
  far : ∀ k b, (k, b) ∈ io → 1000000 ≤ k

structure Sim (B : Base) (β : Place) (M : Mem) (T : Nat → LV) (H : Nat → Option VO) (a : Act) (w : World) : Prop where
  size : a.tmps.size = B.n
  defs : a.defers = []
  tm : ∀ i, LVR β H M (a.tmps.getD i undef) (T i)
  hp : ∀ k vo, H k = some vo → ObR β H M w k vo
  inj : ∀ k k' vo vo' b n b' n', H k = some vo → H k' = some vo' → β k = some (b, n) → β k' = some (b', n') → k ≠ k' → b ≠ b'
  mem : ∀ a v, M a = some v → w.cell? a = some v
  own : ∀ k vo b n, H k = some vo → β k = some (b, n) → B.w0.heap.size ≤ b ∨ (k, b) ∈ B.io
  ins : ∀ k b vo, (k, b) ∈ B.io → H k = some vo → ∃ n, β k = some (b, n)
  le : B.M0.le M
  new : ∀ a v, M a = some v → B.M0 a = some v ∨ B.w0.heap.size ≤ a.block
  ext : Ext B.io B.w0 w

def R (B : Base) (T : Nat → LV) (H : Nat → Option VO) (a : Act) (w : World) : Prop := ∃ β M, Sim B β M T H a w
/-- The same, beside a value that no slot holds yet. -/
def RV (B : Base) (T : Nat → LV) (H : Nat → Option VO) (a : Act) (w : World) (v : Value) (x : LV) : Prop := ∃ β M, Sim B β M T H a w ∧ LVR β H M v x

theorem adr_add (b o p : Nat) : (adr b o).add p = adr b (o + p) := by
  unfold adr Addr.add
  by_cases h1 : o = 0 <;> by_cases h2 : p = 0 <;> simp [h1, h2]
theorem adr_block (b o : Nat) : (adr b o).block = b := by
  unfold adr Addr.add
  split <;> rfl
theorem adr_eq (b o : Nat) : adr b o = ⟨b, o, none⟩ := by
  unfold adr Addr.add
  by_cases h : o = 0 <;> simp [h]
theorem add_add (a : Addr) (o p : Nat) : (a.add o).add p = a.add (o + p) := by
  unfold Addr.add
  by_cases h1 : o = 0 <;> by_cases h2 : p = 0 <;> simp [h1, h2, Nat.add_assoc]
theorem add_block (a : Addr) (o : Nat) : (a.add o).block = a.block := by
  unfold Addr.add
  split <;> rfl

/-- A value of a code that is one cell is one cell. -/
theorem CR.one {M : Mem} {v : Value} : ∀ (c : TC) (x : El c), c.isAgg = false → CR M c x (fun o => if o = 0 then some v else none) → v.oneCell' = true
  | .bool, x, _, H => by have H : some v = _ := H; injection H with H; rw [H]; rfl
  | .int _, x, _, H => by have H : some v = _ := H; injection H with H; rw [H]; rfl
  | .str, x, _, H => by have H : some v = _ := H; injection H with H; rw [H]; rfl
  | .list c, x, _, H => by
    obtain ⟨A, cap, h, _⟩ := H
    have h : some v = _ := h
    injection h with h; rw [h]; rfl
  | .fn c, none, _, H => by
    have H : some v = _ := H
    injection H with H
    rw [H]
    unfold nilOf
    cases isBoolC c <;> rfl
  | .fn _, some p, _, H => by
    rcases H with ⟨_, h⟩ | ⟨_, u, h, _⟩ <;> (have h : some v = _ := h; injection h with h; rw [h]; rfl)
theorem CVR.one {β : Place} {H : Nat → Option VO} {M : Mem} {v : Value} {x : CV} (hx : x.alive = true) (h : CVR β H M v x) : v.oneCell' = true := by
  cases x with
  | s c x => exact CR.one c x h.1 h.2
  | nils => cases h; rfl
  | own k ver w => exact h.1
  | ptr k ver o => obtain ⟨_, ad, rfl, _⟩ := h; rfl
  | rptr k ver i j => obtain ⟨_, ad, rfl, _⟩ := h; rfl
  | eptr c x o => obtain ⟨ad, rfl, _⟩ := h; rfl
  | nilp => cases h; rfl
  | clo f l => obtain ⟨vs, rfl, _⟩ := h; rfl
  | dead => cases hx
  | und => cases hx
theorem cells_one {v : Value} (h : v.oneCell' = true) : v.cells = #[v] := by cases v <;> first | rfl | cases h

/-! ### Flat data -/
theorem flatA_eq : ∀ (c : TC) (x : El c) (r : List CV), flatA c x r = flat c x ++ r
  | .pair a b, x, r => by
    have h1 := flatA_eq a x.1
    have h2 := flatA_eq b x.2
    show flatA a x.1 (flatA b x.2 r) = flatA a x.1 (flatA b x.2 []) ++ r
    rw [h1 (flatA b x.2 r), h2 r, h1 (flatA b x.2 []), h2 [], List.append_nil, List.append_assoc]
  | .one a, x, r => flatA_eq a x r
  | .unit, _, _ => rfl
  | .bool, _, _ => rfl
  | .int _, _, _ => rfl
  | .str, _, _ => rfl
  | .list _, _, _ => rfl
  | .fn _, _, _ => rfl
theorem flat_pair (a b : TC) (x : El a × El b) : flat (.pair a b) x = flat a x.1 ++ flat b x.2 := by
  show flatA a x.1 (flatA b x.2 []) = _
  rw [flatA_eq]; rfl
theorem flat_one (a : TC) (x : El a) : flat (.one a) x = flat a x := rfl
theorem flat_length : ∀ (c : TC) (x : El c), (flat c x).length = c.size
  | .pair a b, x => by rw [flat_pair, List.length_append, flat_length a, flat_length b]; rfl
  | .one a, x => by rw [flat_one, flat_length a]; rfl
  | .unit, _ => rfl
  | .bool, _ => rfl
  | .int _, _ => rfl
  | .str, _ => rfl
  | .list _, _ => rfl
  | .fn _, _ => rfl
theorem CR.cells {β : Place} {H : Nat → Option VO} {M : Mem} : ∀ (c : TC) (x : El c) (rd : Nat → Option Value), CR M c x rd → CellsR β H M rd (flat c x)
  | .pair a b, x, rd, h => by
    intro i y hy
    rw [flat_pair] at hy
    rcases Nat.lt_or_ge i (flat a x.1).length with hi | hi
    · rw [List.getElem?_append_left hi] at hy
      exact CR.cells a x.1 rd h.1 i y hy
    · rw [List.getElem?_append_right hi] at hy
      obtain ⟨u, hu, hr⟩ := CR.cells (β := β) (H := H) b x.2 _ h.2 _ y hy
      refine ⟨u, ?_, hr⟩
      rw [flat_length] at hi hu
      simpa [Nat.add_sub_cancel' hi] using hu
  | .one a, x, rd, h => CR.cells a x rd h
  | .unit, _, _, _ => fun i y hy => by simp [JL.flat, flatA] at hy
  | .bool, x, rd, h => fun i y hy => by
    cases i with
    | zero => simp [JL.flat, flatA] at hy; subst hy; exact ⟨_, h, rfl, by simp [CR]⟩
    | succ i => simp [JL.flat, flatA] at hy
  | .int k, x, rd, h => fun i y hy => by
    cases i with
    | zero => simp [JL.flat, flatA] at hy; subst hy; exact ⟨_, h, rfl, by simp [CR]⟩
    | succ i => simp [JL.flat, flatA] at hy
  | .str, x, rd, h => fun i y hy => by
    cases i with
    | zero => simp [JL.flat, flatA] at hy; subst hy; exact ⟨_, h, rfl, by simp [CR]⟩
    | succ i => simp [JL.flat, flatA] at hy
  | .list c, l, rd, h => fun i y hy => by
    obtain ⟨A, cap, h0, hc, hl⟩ := h
    cases i with
    | zero => simp [JL.flat, flatA] at hy; subst hy; exact ⟨_, h0, rfl, A, cap, by simp, hc, hl⟩
    | succ i => simp [JL.flat, flatA] at hy
  | .fn c, none, rd, h => fun i y hy => by
    cases i with
    | zero =>
      simp [JL.flat, flatA] at hy; subst hy
      exact ⟨_, h, rfl, by simp [CR]⟩
    | succ i => simp [JL.flat, flatA] at hy
  | .fn c, some p, rd, h => fun i y hy => by
    cases i with
    | zero =>
      simp [JL.flat, flatA] at hy; subst hy
      rcases h with ⟨hc, h0⟩ | ⟨hc, v, h0, hr⟩
      · exact ⟨_, h0, rfl, .inl ⟨hc, by simp⟩⟩
      · exact ⟨_, h0, rfl, .inr ⟨hc, v, by simp, hr⟩⟩
    | succ i => simp [JL.flat, flatA] at hy
end Go.JL
/- The abstract machine, fourth part: how what is told lives on. No program in sight. -/
set_option linter.unusedVariables false
namespace Go.JL

def sameOb : Ob → Ob → Prop
  | .cells _, .cells _ => True
  | .row c l, .row c' l' => c = c' ∧ List.length l = List.length l'
  | _, _ => False
/-- No object goes; one whose version stays keeps its shape and its place. -/
def Keeps (β β' : Place) (H H' : Nat → Option VO) : Prop :=
  ∀ k vo, H k = some vo → ∃ vo', H' k = some vo' ∧ vo.v ≤ vo'.v ∧ (vo'.v = vo.v → β' k = β k ∧ sameOb vo.ob vo'.ob)
theorem sameOb.refl (o : Ob) : sameOb o o := by cases o <;> simp [sameOb]
theorem Keeps.refl (β : Place) (H : Nat → Option VO) : Keeps β β H H := fun k vo h => ⟨vo, h, Nat.le_refl _, fun _ => ⟨rfl, sameOb.refl _⟩⟩

theorem RowV.place {β β' : Place} {k size len : Nat} {v : Value} (hβ : β' k = β k) : ∀ w : Win, RowV β k size len v w → RowV β' k size len v w
  | .full, h => by simpa [RowV, hβ] using h
  | .pre m, h => by simpa [RowV, hβ] using h
  | .sub o m, h => by simpa [RowV, hβ] using h

section
variable {β β' : Place} {H H' : Nat → Option VO} {M M' : Mem}
theorem CVR.keep (hk : Keeps β β' H H') (hM : M.le M') {v : Value} : ∀ x : CV, CVR β H M v x → CVR β' H' M' v x
  | .s c x, h => ⟨h.1, CR.mono hM c x _ _ (fun _ _ _ h => h) h.2⟩
  | .nils, h => h
  | .own k ver w, h => by
    obtain ⟨h1, ⟨vo, h2, h3⟩, h4⟩ := h
    obtain ⟨vo', k1, k2, k3⟩ := hk k vo h2
    refine ⟨h1, ⟨vo', k1, Nat.le_trans h3 k2⟩, fun c l fz hH => ?_⟩
    rw [k1] at hH
    cases hH
    have hv : ver = vo.v := Nat.le_antisymm h3 k2
    subst hv
    obtain ⟨e1, e2⟩ := k3 rfl
    obtain ⟨vv, ob, f⟩ := vo
    cases ob with
    | cells l0 => exact e2.elim
    | row c0 l0 =>
      obtain ⟨rfl, hl⟩ := e2
      rw [← hl]
      exact (h4 c0 l0 f h2).place e1
  | .ptr k ver off, h => by
    obtain ⟨⟨vo, h2, h3⟩, ad, h1, h4⟩ := h
    obtain ⟨vo', k1, k2, k3⟩ := hk k vo h2
    refine ⟨⟨vo', k1, Nat.le_trans h3 k2⟩, ad, h1, fun l fz hH => ?_⟩
    rw [k1] at hH
    cases hH
    have hv : ver = vo.v := Nat.le_antisymm h3 k2
    subst hv
    obtain ⟨e1, e2⟩ := k3 rfl
    obtain ⟨vv, ob, f⟩ := vo
    cases ob with
    | cells l0 => rw [e1]; exact h4 l0 f h2
    | row c0 l0 => exact e2.elim
  | .rptr k ver i j, h => by
    obtain ⟨⟨vo, h2, h3⟩, ad, h1, h4⟩ := h
    obtain ⟨vo', k1, k2, k3⟩ := hk k vo h2
    refine ⟨⟨vo', k1, Nat.le_trans h3 k2⟩, ad, h1, fun c l fz hH => ?_⟩
    rw [k1] at hH
    cases hH
    have hv : ver = vo.v := Nat.le_antisymm h3 k2
    subst hv
    obtain ⟨e1, e2⟩ := k3 rfl
    obtain ⟨vv, ob, f⟩ := vo
    cases ob with
    | cells l0 => exact e2.elim
    | row c0 l0 => obtain ⟨rfl, hl⟩ := e2; rw [e1]; exact h4 c0 l0 f h2
  | .eptr c x off, h => by
    obtain ⟨ad, h1, h2⟩ := h
    exact ⟨ad, h1, CR.mono hM c x _ _ (fun _ _ _ h => hM _ _ h) h2⟩
  | .nilp, h => h
  | .clo f ks, h => by
    obtain ⟨vs, h1, h2, h3⟩ := h
    refine ⟨vs, h1, h2, fun i p hp => ?_⟩
    obtain ⟨u, g1, ⟨vo, g3, g4⟩, ad, g2, g5⟩ := h3 i p hp
    obtain ⟨vo', k1, k2, k3⟩ := hk p.1 vo g3
    refine ⟨u, g1, ⟨vo', k1, Nat.le_trans g4 k2⟩, ad, g2, fun l fz hH => ?_⟩
    rw [k1] at hH
    cases hH
    have hv : p.2 = vo.v := Nat.le_antisymm g4 k2
    obtain ⟨e1, e2⟩ := k3 hv
    obtain ⟨vv, ob, f⟩ := vo
    cases ob with
    | cells l0 => rw [e1]; exact g5 l0 f (by rw [g3, hv])
    | row c0 l0 => exact e2.elim
  | .dead, _ => trivial
  | .und, h => h
theorem CellsR.keep (hk : Keeps β β' H H') (hM : M.le M') {rd rd' : Nat → Option Value} (hr : ∀ o v, rd o = some v → rd' o = some v) {l : List CV} (h : CellsR β H M rd l) : CellsR β' H' M' rd' l := by
  intro i x hx
  obtain ⟨u, h1, h2⟩ := h i x hx
  exact ⟨u, hr _ _ h1, h2.keep hk hM⟩
theorem LVR.keep (hk : Keeps β β' H H') (hM : M.le M') {v : Value} : ∀ x : LV, LVR β H M v x → LVR β' H' M' v x
  | .c x, h => CVR.keep hk hM x h
  | .agg l, h => by
    obtain ⟨vs, h1, h2, h3⟩ := h
    exact ⟨vs, h1, h2, h3.keep hk hM (fun _ _ h => h)⟩
  | .tup l, h => by
    obtain ⟨vs, h1, h2, h3⟩ := h
    refine ⟨vs, h1, h2, fun i p hp => ?_⟩
    obtain ⟨u, g1, g2⟩ := h3 i p hp
    refine ⟨u, g1, ?_⟩
    split at g2
    · rename_i hb
      obtain ⟨us, e1, e2, e3⟩ := g2
      rw [if_pos hb]
      exact ⟨us, e1, e2, e3.keep hk hM (fun _ _ h => h)⟩
    · rename_i hb
      obtain ⟨x, e1, e2⟩ := g2
      rw [if_neg hb]
      exact ⟨x, e1, e2.keep hk hM⟩
theorem ObR.keep (hk : Keeps β β' H H') (hM : M.le M') {w w' : World} {k : Nat} {vo : VO} (hβ : β' k = β k) (hw : ∀ b n, β k = some (b, n) → w'.heap[b]? = w.heap[b]?)
    (hav : ∀ b n, β k = some (b, n) → vo.fz = false → ∀ a : Addr, a.block = b → M' a = none) (h : ObR β H M w k vo) : ObR β' H' M' w' k vo := by
  obtain ⟨v, ob, fz⟩ := vo
  cases ob with
  | cells l =>
    obtain ⟨h1, b, cs, e, h2, h3, h4, h5, h6⟩ := h
    exact ⟨h1, b, cs, e, by rw [hβ]; exact h2, by rw [hw b _ h2]; exact h3, h4, h5.keep hk hM (fun _ _ h => h), hav b _ h2 h1⟩
  | row c l =>
    obtain ⟨h0, h⟩ := h
    refine ⟨h0, ?_⟩
    rw [hβ]
    cases hb : β k with
    | none => simpa [hb] using h
    | some p =>
      obtain ⟨b, n⟩ := p
      simp only [hb] at h ⊢
      obtain ⟨cs, e, h1, h2, h3, h4, h5, h6⟩ := h
      exact ⟨cs, e, by rw [hw b n hb]; exact h1, h2, h3, fun i x hx => CR.mono hM c x _ _ (fun _ _ _ h => h) (h4 i x hx), fun hf => hav b n hb hf, fun hf j v hj hv => hM _ _ (h6 hf j v hj hv)⟩
end

theorem Ext.refl (io : List (Nat × Nat)) (w : World) : Ext io w w := ⟨rfl, rfl, rfl, Nat.le_refl _, fun _ _ _ => rfl⟩
theorem Ext.trans {io : List (Nat × Nat)} {a b c : World} (h : Ext io a b) (k : Ext io b c) : Ext io a c :=
  ⟨k.os.trans h.os, k.tape.trans h.tape, k.output.trans h.output, Nat.le_trans h.size k.size, fun i hi hn => (k.block i (Nat.lt_of_lt_of_le hi h.size) hn).trans (h.block i hi hn)⟩

theorem heap_lt {w : World} {b : Nat} {o : Obj} (h : w.heap[b]? = some o) : b < w.heap.size := by
  rcases Nat.lt_or_ge b w.heap.size with hl | hl
  · exact hl
  · rw [Array.getElem?_eq_none hl] at h; cases h
theorem ObR.block {β : Place} {H : Nat → Option VO} {M : Mem} {w : World} {k b n : Nat} {vo : VO} (h : ObR β H M w k vo) (hb : β k = some (b, n)) :
    ∃ cs e, w.heap[b]? = some (.cells cs e (0, 0)) ∧ cs.size = n ∧ (vo.fz = false → ∀ a : Addr, a.block = b → M a = none) := by
  obtain ⟨v, ob, fz⟩ := vo
  cases ob with
  | cells l =>
    obtain ⟨h1, b', cs, e, h2, h3, h4, h5, h6⟩ := h
    rw [hb] at h2
    cases h2
    exact ⟨cs, e, h3, h4, fun _ => h6⟩
  | row c l =>
    obtain ⟨h0, h⟩ := h
    simp only [hb] at h
    obtain ⟨cs, e, h1, h2, h3, h4, h5, h6⟩ := h
    exact ⟨cs, e, h1, h2, h5⟩
theorem Sim.lt {B : Base} {β : Place} {M : Mem} {T : Nat → LV} {H : Nat → Option VO} {a : Act} {w : World} (h : Sim B β M T H a w) {k b n : Nat} {vo : VO} (hk : H k = some vo) (hb : β k = some (b, n)) : b < w.heap.size := by
  obtain ⟨cs, e, h1, _⟩ := (h.hp k vo hk).block hb
  exact heap_lt h1

/-- A step that changes objects. -/
theorem Sim.step {B : Base} {β β' : Place} {M M' : Mem} {T : Nat → LV} {H H' : Nat → Option VO} {a : Act} {w w' : World} (h : Sim B β M T H a w)
    (hk : Keeps β β' H H') (hM : M.le M') (hp : ∀ k vo, H' k = some vo → ObR β' H' M' w' k vo)
    (inj : ∀ k k' vo vo' b n b' n', H' k = some vo → H' k' = some vo' → β' k = some (b, n) → β' k' = some (b', n') → k ≠ k' → b ≠ b')
    (mem : ∀ a v, M' a = some v → w'.cell? a = some v) (own : ∀ k vo b n, H' k = some vo → β' k = some (b, n) → B.w0.heap.size ≤ b ∨ (k, b) ∈ B.io)
    (ins : ∀ k b vo, (k, b) ∈ B.io → H' k = some vo → ∃ n, β' k = some (b, n)) (new : ∀ a v, M' a = some v → M a = some v ∨ B.w0.heap.size ≤ a.block) (ext : Ext B.io B.w0 w') :
    Sim B β' M' T H' a w' where
  size := h.size
  defs := h.defs
  tm := fun i => (h.tm i).keep hk hM
  hp := hp
  inj := inj
  mem := mem
  own := own
  ins := ins
  le := h.le.trans hM
  new := fun a v hv => (new a v hv).elim (fun h' => h.new a v h') .inr
  ext := ext
end Go.JL
/- The abstract machine, fifth part: types, operands, and the operations that only compute. No program in sight. -/
set_option linter.unusedVariables false
namespace Go.JL

/-! ### Types -/
def zB : Value → CV → Bool
  | .bool b, .s .bool x => b == x
  | .int k n, .s (.int k') m => decide (k = k') && decide (n = m)
  | .string s, .s .str l => s.data.toList == l
  | .slice none 0 0, .nils => true
  | .pointer none, .nilp => true
  | .nilFunc, .s (.fn c) none => !isBoolC c
  | .nilIface, .s (.fn c) none => isBoolC c
  | _, _ => false
def zsB : List Value → List CV → Bool
  | [], [] => true
  | v :: r, x :: s => zB v x && zsB r s
  | _, _ => false
def dB (P : Program) : TypeDesc → TD → Bool
  | .int k, .int k' => decide (k = k')
  | .bool, .bool => true
  | .string, .str => true
  | .slice e, .slice e' => e == e'
  | .array n e, .array n' e' => n == n' && e == e'
  | .pointer e, .ptr e' => e == e'
  | .interface _, .iface => true
  | .struct fs, .struct gs => (fs.toList.map fun f => (f.offset, f.type)) == gs && fs.toList.all fun f => match P.info? f.type with
    | some i => i.size != 0
    | none => false
  | .struct _, .other => false
  | .array _ _, .other => false
  | _, .other => true
  | _, _ => false
def eqB (P : Program) (t : Nat) : Bool :=
  !P.stoodInHeld t && (match P.underlying t with
    | some (.struct fs) => fs.toList.all fun f => f.name != "_" && (match P.underlying f.type with
      | some (.int _) => true
      | some .string => true
      | some .bool => true
      | _ => false)
    | _ => false) && !P.eqGuardType P.depth t
def tyB (P : Program) (t : Nat) (ty : Ty) : Bool :=
  match P.info? t, P.underlying t with
  | some i, some d => i.size == ty.size && i.bytes == ty.bytes && dB P d ty.d && (ty.zero.length == ty.size) && (match i.zero with
    | some z => zsB z.cells.toList ty.zero && (match z with
      | .agg _ => ty.d.agg
      | .tuple _ => false
      | _ => !ty.d.agg)
    | none => false) && (!ty.eq || eqB P t)
  | _, _ => false
structure TyOk (P : Program) (t : Nat) (ty : Ty) : Prop where
  ok : tyB P t ty = true
theorem TyOk.facts {P : Program} {t : Nat} {ty : Ty} (h : TyOk P t ty) : ∃ i d z, P.info? t = some i ∧ P.underlying t = some d ∧ i.size = ty.size ∧ i.bytes = ty.bytes ∧ dB P d ty.d = true ∧
    ty.zero.length = ty.size ∧ i.zero = some z ∧ zsB z.cells.toList ty.zero = true ∧ (ty.d.agg = true ↔ ∃ vs, z = .agg vs) ∧ (ty.eq = true → eqB P t = true) := by
  have h := h.ok
  unfold tyB at h
  split at h
  · rename_i i d hi hd
    simp only [Bool.and_eq_true, beq_iff_eq] at h
    obtain ⟨⟨⟨⟨⟨h1, h2⟩, h3⟩, h4⟩, h5⟩, h6⟩ := h
    split at h5
    · rename_i z hz
      simp only [Bool.and_eq_true] at h5
      refine ⟨i, d, z, hi, hd, h1, h2, h3, h4, hz, h5.1, ?_, ?_⟩
      · have h7 := h5.2
        split at h7
        · simp [h7]
        · cases h7
        · rename_i hno _
          simp only [Bool.not_eq_true'] at h7
          simp only [h7, Bool.false_eq_true, false_iff, not_exists]
          exact fun vs hv => hno vs hv
      · intro he
        simpa [he] using h6
    · cases h5
  · cases h

section
variable {P : Program} {β : Place} {H : Nat → Option VO} {M : Mem}
theorem inv_int {v : Value} {k : IntKind} {n : Int} (h : CVR β H M v (.s (.int k) n)) : v = .int k n := by
  have h : some v = some (.int k n) := h.2
  injection h
theorem inv_bool {v : Value} {b : Bool} (h : CVR β H M v (.s .bool b)) : v = .bool b := by
  have h : some v = some (.bool b) := h.2
  injection h
theorem inv_str {v : Value} {s : List UInt8} (h : CVR β H M v (.s .str s)) : v = .string ⟨s.toArray⟩ := by
  have h : some v = some (.string ⟨s.toArray⟩) := h.2
  injection h
theorem mk_int (k : IntKind) (n : Int) : CVR β H M (.int k n) (.s (.int k) n) := ⟨rfl, rfl⟩
theorem mk_bool (b : Bool) : CVR β H M (.bool b) (.s .bool b) := ⟨rfl, rfl⟩
theorem mk_str (s : List UInt8) : CVR β H M (.string ⟨s.toArray⟩) (.s .str s) := ⟨rfl, rfl⟩
theorem linv_int {v : Value} {k : IntKind} {n : Int} (h : LVR β H M v (.c (.s (.int k) n))) : v = .int k n := inv_int (β := β) (H := H) (M := M) h
theorem linv_bool {v : Value} {b : Bool} (h : LVR β H M v (.c (.s .bool b))) : v = .bool b := inv_bool (β := β) (H := H) (M := M) h
theorem linv_str {v : Value} {s : List UInt8} (h : LVR β H M v (.c (.s .str s))) : v = .string ⟨s.toArray⟩ := inv_str (β := β) (H := H) (M := M) h
theorem lmk_int (k : IntKind) (n : Int) : LVR β H M (.int k n) (.c (.s (.int k) n)) := mk_int (β := β) (H := H) (M := M) k n
theorem lmk_bool (b : Bool) : LVR β H M (.bool b) (.c (.s .bool b)) := mk_bool (β := β) (H := H) (M := M) b
theorem lmk_str (s : List UInt8) : LVR β H M (.string ⟨s.toArray⟩) (.c (.s .str s)) := mk_str (β := β) (H := H) (M := M) s
theorem zB_ok {v : Value} {x : CV} (h : zB v x = true) : CVR β H M v x := by
  unfold zB at h
  split at h
  · rename_i b x; have := eq_of_beq h; subst this; exact mk_bool _
  · rename_i k n k' m
    simp only [Bool.and_eq_true, decide_eq_true_eq] at h
    obtain ⟨rfl, rfl⟩ := h; exact mk_int _ _
  · rename_i s l
    have := eq_of_beq h; subst this
    exact mk_str _
  · rfl
  · rfl
  · simp only [Bool.not_eq_true'] at h
    exact ⟨rfl, by simp [CR, nilOf, h]⟩
  · exact ⟨rfl, by simp [CR, nilOf, h]⟩
  · cases h
theorem zsB_ok : ∀ (l : List Value) (xs : List CV), zsB l xs = true → l.length = xs.length ∧ CellsR β H M (fun i => l[i]?) xs
  | [], [], _ => ⟨rfl, fun i x hx => by simp at hx⟩
  | [], _ :: _, h => by simp [zsB] at h
  | _ :: _, [], h => by simp [zsB] at h
  | v :: r, x :: s, h => by
    simp only [zsB, Bool.and_eq_true] at h
    obtain ⟨h1, h2⟩ := zsB_ok r s h.2
    refine ⟨by simp [h1], fun i y hy => ?_⟩
    cases i with
    | zero => simp at hy; subst hy; exact ⟨v, rfl, zB_ok h.1⟩
    | succ i => simpa using h2 i y (by simpa using hy)
theorem constLV_ok (v : Value) : LVR β H M v (constLV v) := by
  unfold constLV
  split
  · exact mk_bool (β := β) (H := H) (M := M) _
  · exact mk_int (β := β) (H := H) (M := M) _ _
  · exact mk_str (β := β) (H := H) (M := M) _
  · exact rfl
  · exact rfl
  · exact ⟨rfl, rfl⟩
  · exact ⟨rfl, rfl⟩
  · trivial
theorem evalO_ok {B : Base} {T : Nat → LV} {a : Act} {w : World} (h : Sim B β M T H a w) (x : Operand) : LVR β H M (a.eval x) (evalO T x) := by
  cases x with
  | tmp t => exact h.tm t
  | const v => exact constLV_ok v
  | global g => trivial
  | func f => exact ⟨rfl, .inl ⟨rfl, rfl⟩⟩
end
end Go.JL
/- The abstract machine, sixth part: operations that only compute, one by one. No program in sight. -/
set_option linter.unusedVariables false
set_option linter.unusedSimpArgs false
namespace Go.JL

section
variable {P : Program} {β : Place} {H : Nat → Option VO} {M : Mem}

theorem run_guard_other (op : BinOp) (t : Nat) (X Y : Operand) (v u : Value) (h1 : v.oneCell' = true) (h2 : v ≠ .nilIface) (w : World) : (eqGuard op t X Y v u).run P w = .ok () w := by
  unfold eqGuard
  cases op <;> first
    | rfl
    | (cases v <;> first | rfl | (exact absurd rfl h2) | cases h1)

/-- What a pure operation comes to. -/
def Pure1 (P : Program) (β : Place) (H : Nat → Option VO) (M : Mem) (f : (γ : Type) → (LV → Option γ) → Option γ) (s : Sem Value) : Prop :=
  ∃ lv z, (∀ (γ : Type) (K : LV → Option γ), f γ K = K lv) ∧ LVR β H M z lv ∧ ∀ w, s.run P w = .ok z w

theorem vbin_ok {α : Type} {K : LV → Option α} {r : α} {op : BinOp} {x y : LV} {v u : Value} (t : Nat) (X Y : Operand) (h : vbin op x y K = some r) (hv : LVR β H M v x) (hu : LVR β H M u y) :
    Pure1 P β H M (fun γ K => vbin op x y K) (do eqGuard op t X Y v u; binOp op t v u) := by
  unfold vbin at h
  split at h
  · rename_i k a k' b
    have hv := linv_int hv
    have hu := linv_int hu
    subst hv; subst hu
    have hg : ∀ w, (eqGuard op t X Y (.int k a) (.int k' b)).run P w = .ok () w := fun w => run_guard_other op t X Y _ _ rfl (by simp) w
    have mk : ∀ (lv : LV) (z : Value), (∀ (γ : Type) (K : LV → Option γ), vbin op (.c (.s (.int k) a)) (.c (.s (.int k') b)) K = K lv) → LVR β H M z lv → (∀ w, (binOp op t (.int k a) (.int k' b)).run P w = .ok z w) →
        Pure1 P β H M (fun γ K => vbin op (.c (.s (.int k) a)) (.c (.s (.int k') b)) K) (do eqGuard op t X Y (.int k a) (.int k' b); binOp op t (.int k a) (.int k' b)) :=
      fun lv z h1 h2 h3 => ⟨lv, z, h1, h2, fun w => by simp only [Sem.run_bind, hg, Result.andThen_ok, h3]⟩
    split at h
    · simp only [Bool.cond_eq_ite, decide_eq_true_eq] at h
      split at h
      · cases h
      · rename_i hb
        exact mk _ _ (fun γ K => by simp [vbin, hb]) (lmk_int k (k.wrap (a * 2 ^ min (Int.toNat b) k.bits))) (fun w => by simp [binOp, Op.shift, hb])
    · simp only [Bool.cond_eq_ite, decide_eq_true_eq] at h
      split at h
      · cases h
      · rename_i hb
        exact mk _ _ (fun γ K => by simp [vbin, hb]) (lmk_int k (Int.fdiv a (2 ^ min (Int.toNat b) k.bits))) (fun w => by simp [binOp, Op.shift, hb])
    · rename_i h1 h2
      simp only [Bool.cond_eq_ite, decide_eq_true_eq] at h
      split at h
      · rename_i hk
        subst hk
        cases op <;> simp only [reduceCtorEq] at h
        case add => exact mk _ _ (fun γ K => by simp [vbin]) (lmk_int k (k.wrap (a + b))) (fun w => by simp [binOp, Op.intArith])
        case sub => exact mk _ _ (fun γ K => by simp [vbin]) (lmk_int k (k.wrap (a - b))) (fun w => by simp [binOp, Op.intArith])
        case mul => exact mk _ _ (fun γ K => by simp [vbin]) (lmk_int k (k.wrap (a * b))) (fun w => by simp [binOp, Op.intArith])
        case quo =>
          split at h
          · cases h
          · rename_i hb
            exact mk _ _ (fun γ K => by simp [vbin, hb]) (lmk_int k (k.wrap (Int.tdiv a b))) (fun w => by simp [binOp, Op.intDiv, hb])
        case rem =>
          split at h
          · cases h
          · rename_i hb
            exact mk _ _ (fun γ K => by simp [vbin, hb]) (lmk_int k (Int.tmod a b)) (fun w => by simp [binOp, Op.intDiv, hb])
        case eql => exact mk _ _ (fun γ K => by simp [vbin]) (lmk_bool ((a : Int) == b)) (fun w => by simp [binOp, Op.intCmp])
        case neq => exact mk _ _ (fun γ K => by simp [vbin]) (lmk_bool ((a : Int) != b)) (fun w => by simp [binOp, Op.intCmp])
        case lss => exact mk _ _ (fun γ K => by simp [vbin]) (lmk_bool (decide ((a : Int) < b))) (fun w => by simp [binOp, Op.intCmp])
        case leq => exact mk _ _ (fun γ K => by simp [vbin]) (lmk_bool (decide ((a : Int) ≤ b))) (fun w => by simp [binOp, Op.intCmp])
        case gtr => exact mk _ _ (fun γ K => by simp [vbin]) (lmk_bool (decide ((a : Int) > b))) (fun w => by simp [binOp, Op.intCmp])
        case geq => exact mk _ _ (fun γ K => by simp [vbin]) (lmk_bool (decide ((a : Int) ≥ b))) (fun w => by simp [binOp, Op.intCmp])
      · cases h
  · rename_i a b
    have hv := linv_str hv
    have hu := linv_str hu
    subst hv; subst hu
    have hg : ∀ w, (eqGuard op t X Y (.string ⟨a.toArray⟩) (.string ⟨b.toArray⟩)).run P w = .ok () w := fun w => run_guard_other op t X Y _ _ rfl (by simp) w
    have mk : ∀ (lv : LV) (z : Value), (∀ (γ : Type) (K : LV → Option γ), vbin op (.c (.s .str a)) (.c (.s .str b)) K = K lv) → LVR β H M z lv → (∀ w, (binOp op t (.string ⟨a.toArray⟩) (.string ⟨b.toArray⟩)).run P w = .ok z w) →
        Pure1 P β H M (fun γ K => vbin op (.c (.s .str a)) (.c (.s .str b)) K) (do eqGuard op t X Y (.string ⟨a.toArray⟩) (.string ⟨b.toArray⟩); binOp op t (.string ⟨a.toArray⟩) (.string ⟨b.toArray⟩)) :=
      fun lv z h1 h2 h3 => ⟨lv, z, h1, h2, fun w => by simp only [Sem.run_bind, hg, Result.andThen_ok, h3]⟩
    cases op <;> simp only [reduceCtorEq] at h
    case add =>
      simp only [Bool.cond_eq_ite, decide_eq_true_eq] at h
      split at h
      · rename_i hb
        refine mk _ _ (fun γ K => by simp [vbin, hb]) (lmk_str ((a : List UInt8) ++ b)) (fun w => ?_)
        have hsz : ¬ (((ByteArray.mk a.toArray).size + (ByteArray.mk b.toArray).size : Nat) : Int) > IntKind.i64.max := by
          have e1 : (ByteArray.mk a.toArray).size = a.length := by simp [ByteArray.size]
          have e2 : (ByteArray.mk b.toArray).size = b.length := by simp [ByteArray.size]
          rw [e1, e2]
          have : IntKind.i64.max = 9223372036854775807 := by decide
          omega
        have hap : (ByteArray.mk a.toArray ++ ByteArray.mk b.toArray) = ByteArray.mk (a ++ b).toArray := by
          apply ByteArray.ext
          simp
        simp only [binOp, Op.stringOp]
        rw [if_neg hsz, hap]
        rfl
      · cases h
    case eql => exact mk _ _ (fun γ K => by simp [vbin]) (lmk_bool ((a : List UInt8) == b)) (fun w => by simp [binOp, Op.stringOp])
    case neq => exact mk _ _ (fun γ K => by simp [vbin]) (lmk_bool (!((a : List UInt8) == b))) (fun w => by simp [binOp, Op.stringOp])
    case lss => exact mk _ _ (fun γ K => by simp [vbin]) (lmk_bool (Op.bytesLess a b)) (fun w => by simp [binOp, Op.stringOp])
    case leq => exact mk _ _ (fun γ K => by simp [vbin]) (lmk_bool (Op.bytesLess a b || (a : List UInt8) == b)) (fun w => by simp [binOp, Op.stringOp])
    case gtr => exact mk _ _ (fun γ K => by simp [vbin]) (lmk_bool (!(Op.bytesLess a b || (a : List UInt8) == b))) (fun w => by simp [binOp, Op.stringOp])
    case geq => exact mk _ _ (fun γ K => by simp [vbin]) (lmk_bool (!(Op.bytesLess a b))) (fun w => by simp [binOp, Op.stringOp])
  · cases h

theorem vun_ok {α : Type} {K : LV → Option α} {r : α} {op : UnOp} {x : LV} {v : Value} (h : vun op x K = some r) (hv : LVR β H M v x) :
    Pure1 P β H M (fun γ K => vun op x K) (Op.unary op v) := by
  unfold vun at h
  split at h
  · rename_i b
    have hv := linv_bool hv
    subst hv
    exact ⟨_, _, fun γ K => rfl, lmk_bool (!b), fun w => by simp [Op.unary]⟩
  · rename_i k n
    have hv := linv_int hv
    subst hv
    exact ⟨_, _, fun γ K => rfl, lmk_int k _, fun w => by simp [Op.unary, Op.intArith]⟩
  · cases h

theorem vpick_ok {α : Type} {K : LV → Option α} {r : α} {c a b : LV} {vc va vb : Value} (h : vpick c a b K = some r) (hc : LVR β H M vc c) (ha : LVR β H M va a) (hb : LVR β H M vb b) :
    Pure1 P β H M (fun γ K => vpick c a b K) (do pure (if ← asBool vc then va else vb)) := by
  unfold vpick at h
  split at h
  · rename_i t
    have hc := linv_bool hc
    subst hc
    cases t with
    | true =>
      split at h
      · have ha' := linv_bool ha
        subst ha'
        exact ⟨_, _, fun γ K => rfl, ha, fun w => by simp [asBool]⟩
      · contradiction
      · cases h
    | false =>
      split at h
      · contradiction
      · have hb' := linv_bool hb
        subst hb'
        exact ⟨_, _, fun γ K => by unfold vpick; rfl, hb, fun w => by simp [asBool]⟩
      · cases h
  · cases h
end
end Go.JL
/- The abstract machine, seventh part: operations that read memory. No program in sight. -/
set_option linter.unusedVariables false
set_option linter.unusedSimpArgs false
namespace Go.JL

section
variable {P : Program} {β : Place} {H : Nat → Option VO} {M : Mem}

/-- What an operation that leaves world w alone comes to. -/
def Read1 (P : Program) (β : Place) (H : Nat → Option VO) (M : Mem) (w : World) (f : (γ : Type) → (LV → Option γ) → Option γ) (s : Sem Value) : Prop :=
  ∃ lv z, (∀ (γ : Type) (K : LV → Option γ), f γ K = K lv) ∧ LVR β H M z lv ∧ s.run P w = .ok z w
theorem Pure1.read {f : (γ : Type) → (LV → Option γ) → Option γ} {s : Sem Value} (h : Pure1 P β H M f s) (w : World) : Read1 P β H M w f s := by
  obtain ⟨lv, z, h1, h2, h3⟩ := h
  exact ⟨lv, z, h1, h2, h3 w⟩

theorem add_zero (a : Addr) : a.add 0 = a := rfl
theorem CellsR.drop {rd : Nat → Option Value} {l : List CV} (h : CellsR β H M rd l) (n : Nat) : CellsR β H M (fun o => rd (n + o)) (l.drop n) := by
  intro i x hx
  rw [List.getElem?_drop] at hx
  exact h _ _ hx
theorem CellsR.take {rd : Nat → Option Value} {l : List CV} (h : CellsR β H M rd l) (n : Nat) : CellsR β H M rd (l.take n) := by
  intro i x hx
  rw [List.getElem?_take] at hx
  split at hx
  · exact h _ _ hx
  · cases hx
theorem CellsR.values {rd : Nat → Option Value} : ∀ {l : List CV}, CellsR β H M rd l → ∃ vs : List Value, vs.length = l.length ∧ (∀ i v, vs[i]? = some v → rd i = some v) ∧ CellsR β H M (fun i => vs[i]?) l
  | [], _ => ⟨[], rfl, fun i v h => by simp at h, fun i x hx => by simp at hx⟩
  | x :: r, h => by
    obtain ⟨u, h1, h2⟩ := h 0 x rfl
    obtain ⟨vs, g1, g2, g3⟩ := CellsR.values (l := r) (rd := fun o => rd (1 + o)) (h.drop 1)
    refine ⟨u :: vs, by simp [g1], fun i v hv => ?_, fun i y hy => ?_⟩
    · cases i with
      | zero => simp at hv; subst hv; exact h1
      | succ i => rw [Nat.add_comm]; exact g2 i v (by simpa using hv)
    · cases i with
      | zero => simp at hy; subst hy; exact ⟨u, rfl, h2⟩
      | succ i => simpa using g3 i y (by simpa using hy)
theorem cell_adr {w : World} {b : Nat} {cs : Array Value} {e : TypeId} {fr : Nat × Nat} (h : w.heap[b]? = some (.cells cs e fr)) (o : Nat) : w.cell? (adr b o) = cs[o]? := by
  rw [adr_eq]; exact cell_of_row w b o cs e fr h

theorem TyOk.run_size {t : Nat} {ty : Ty} (h : TyOk P t ty) (w : World) : (sizeOf t).run P w = .ok ty.size w := by
  obtain ⟨i, d, z, h1, h2, h3, _⟩ := h.facts
  simp [sizeOf, typeInfo, h1, h3]
theorem TyOk.run_isAgg {t : Nat} {ty : Ty} (h : TyOk P t ty) (w : World) : (isAgg t).run P w = .ok ty.d.agg w := by
  obtain ⟨i, d, z, h1, h2, h3, h4, h5, _⟩ := h.facts
  simp only [isAgg, Sem.run_bind, run_underlying h2, Result.andThen_ok]
  cases d <;> cases hd : ty.d <;> simp [dB, hd, TD.agg] at h5 ⊢
theorem vgive_ok {t : Nat} {ty : Ty} (h : TyOk P t ty) {w : World} {ad : Addr} {cs : List CV} (hc : CellsR β H M (fun o => w.cell? (ad.add o)) cs)
    {α : Type} {K : LV → Option α} {r : α} (hk : vgive ty cs K = some r) : Read1 P β H M w (fun γ K => vgive ty cs K) (loadVar t ad) := by
  unfold vgive at hk
  cases ha : ty.d.agg with
  | true =>
    rw [ha] at hk
    simp only [cond_true] at hk
    cases hb : (decide ((cs.take ty.size).length = ty.size) && (cs.take ty.size).all CV.alive) with
    | false => rw [hb] at hk; cases hk
    | true =>
      obtain ⟨vs, g1, g2, g3⟩ := (hc.take ty.size).values
      refine ⟨.agg (cs.take ty.size), .agg vs.toArray, fun γ K => by simp only [vgive, ha, cond_true, hb], ⟨vs.toArray, rfl, by simpa using g1, by simpa using g3⟩, ?_⟩
      simp only [Bool.and_eq_true, decide_eq_true_eq] at hb
      have hl : vs.length = ty.size := g1.trans hb.1
      have hload := run_loadCells_list (P := P) w ad vs g2
      rw [hl] at hload
      simp only [loadVar, Sem.run_bind, h.run_isAgg w, ha, Result.andThen_ok, if_true, h.run_size w, hload, Sem.run_pure]
  | false =>
    rw [ha] at hk
    simp only [cond_false] at hk
    cases cs with
    | nil => cases hk
    | cons x rest =>
      cases hx : x.alive with
      | false => simp [hx] at hk
      | true =>
        obtain ⟨u, h1, h2⟩ := hc 0 x rfl
        refine ⟨.c x, u, fun γ K => by simp only [vgive, ha, cond_false, hx, cond_true], h2, ?_⟩
        have h1 : w.cell? ad = some u := h1
        simp only [loadVar, Sem.run_bind, h.run_isAgg w, ha, Result.andThen_ok, Bool.false_eq_true, if_false, run_load, h1]

theorem vload_ok {B : Base} {T : Nat → LV} {a : Act} {w : World} (hs : Sim B β M T H a w) {t : Nat} {ty : Ty} (hty : TyOk P t ty) {p : LV} {v : Value} (hp : LVR β H M v p)
    {α : Type} {K : LV → Option α} {r : α} (h : vload ty p H K = some r) : Read1 P β H M w (fun γ K => vload ty p H K) (Instr.loadAt t v) := by
  have go : ∀ (ad : Addr) (cs : List CV), v = .pointer (some ad) → CellsR β H M (fun o => w.cell? (ad.add o)) cs → (∀ (γ : Type) (K : LV → Option γ), vload ty p H K = vgive ty cs K) →
      Read1 P β H M w (fun γ K => vload ty p H K) (Instr.loadAt t v) := by
    intro ad cs hv hc he
    subst hv
    rw [he] at h
    obtain ⟨lv, z, g1, g2, g3⟩ := vgive_ok (P := P) hty hc h
    refine ⟨lv, z, fun γ K => (he γ K).trans (g1 γ K), g2, ?_⟩
    simp only [Instr.loadAt, Instr.sureAddr, Sem.run_bind, Sem.run_pure, Result.andThen_ok, g3]
  unfold vload at h
  split at h
  · rename_i k ver off
    split at h
    · rename_i v' l fz hH
      simp only [Bool.cond_eq_ite, beq_iff_eq] at h
      split at h
      · rename_i hv
        subst hv
        obtain ⟨_, ad, rfl, h4⟩ := hp
        obtain ⟨b, n, hb, rfl⟩ := h4 l fz hH
        obtain ⟨_, b', cs, e, g1, g2, g3, g4, g5⟩ := hs.hp k _ hH
        rw [hb] at g1
        cases g1
        refine go (adr b off) (l.drop off) rfl ?_ (fun γ K => by simp only [vload, hH, beq_self_eq_true, cond_true])
        have := g4.drop off
        refine this.keep (Keeps.refl _ _) (Mem.le.refl _) (fun o u hu => ?_)
        rw [adr_add, cell_adr g2]; exact hu
      · cases h
    · cases h
  · rename_i k ver i j
    split at h
    · rename_i v' c l fz hH
      simp only [Bool.cond_eq_ite, beq_iff_eq] at h
      split at h
      · rename_i hv
        subst hv
        cases hx : (l : List (El c))[i]? with
        | none => rw [hx] at h; cases h
        | some x =>
          obtain ⟨_, ad, rfl, h4⟩ := hp
          obtain ⟨b, n, hb, rfl⟩ := h4 c l fz hH
          obtain ⟨g0, g⟩ := hs.hp k _ hH
          simp only [hb] at g
          obtain ⟨cs, e, g1, g2, g3, g4, _, _⟩ := g
          refine go _ ((flat c x).drop j) rfl ?_ (fun γ K => by simp only [vload, hH, beq_self_eq_true, cond_true, hx, Option.bind_some])
          have := (CR.cells (β := β) (H := H) c x _ (g4 i x hx)).drop j
          refine this.keep (Keeps.refl _ _) (Mem.le.refl _) (fun o u hu => ?_)
          rw [adr_add, cell_adr g1, Nat.add_assoc]; exact hu
      · cases h
    · cases h
  · rename_i c x off
    obtain ⟨ad, rfl, hc⟩ := hp
    refine go _ ((flat c x).drop off) rfl ?_ (fun γ K => by simp only [vload])
    have := (CR.cells (β := β) (H := H) c x _ hc).drop off
    refine this.keep (Keeps.refl _ _) (Mem.le.refl _) (fun o u hu => ?_)
    rw [add_add]; exact hs.mem _ _ hu
  · cases h
theorem TyOk.under_slice {t e : Nat} {ty : Ty} (h : TyOk P t ty) (hd : ty.d = .slice e) : P.underlying t = some (.slice e) := by
  obtain ⟨i, d, z, h1, h2, h3, h4, h5, _⟩ := h.facts
  rw [hd] at h5
  cases d <;> simp [dB] at h5
  subst h5; exact h2
theorem TyOk.under_array {t n e : Nat} {ty : Ty} (h : TyOk P t ty) (hd : ty.d = .array n e) : P.underlying t = some (.array n e) := by
  obtain ⟨i, d, z, h1, h2, h3, h4, h5, _⟩ := h.facts
  rw [hd] at h5
  cases d <;> simp [dB] at h5
  obtain ⟨rfl, rfl⟩ := h5; exact h2
theorem TyOk.under_int {t : Nat} {k : IntKind} {ty : Ty} (h : TyOk P t ty) (hd : ty.d = .int k) : P.underlying t = some (.int k) := by
  obtain ⟨i, d, z, h1, h2, h3, h4, h5, _⟩ := h.facts
  rw [hd] at h5
  cases d <;> simp [dB] at h5
  subst h5; exact h2
theorem TyOk.under_str {t : Nat} {ty : Ty} (h : TyOk P t ty) (hd : ty.d = .str) : P.underlying t = some .string := by
  obtain ⟨i, d, z, h1, h2, h3, h4, h5, _⟩ := h.facts
  rw [hd] at h5
  cases d <;> simp [dB] at h5
  exact h2
theorem TyOk.under_bool {t : Nat} {ty : Ty} (h : TyOk P t ty) (hd : ty.d = .bool) : P.underlying t = some .bool := by
  obtain ⟨i, d, z, h1, h2, h3, h4, h5, _⟩ := h.facts
  rw [hd] at h5
  cases d <;> simp [dB] at h5
  exact h2
theorem TyOk.under_struct {t : Nat} {gs : List (Nat × Nat)} {ty : Ty} (h : TyOk P t ty) (hd : ty.d = .struct gs) :
    ∃ fs : Array Field, P.underlying t = some (.struct fs) ∧ (fs.toList.map fun f => (f.offset, f.type)) = gs ∧ ∀ f ∈ fs.toList, ∃ i, P.info? f.type = some i ∧ i.size ≠ 0 := by
  obtain ⟨i, d, z, h1, h2, h3, h4, h5, _⟩ := h.facts
  rw [hd] at h5
  cases d <;> simp only [dB, Bool.false_eq_true] at h5
  rename_i fs
  simp only [Bool.and_eq_true, beq_iff_eq, List.all_eq_true] at h5
  refine ⟨fs, h2, h5.1, fun f hf => ?_⟩
  have := h5.2 f hf
  cases hi : P.info? f.type with
  | none => simp [hi] at this
  | some i => exact ⟨i, rfl, by simpa [hi] using this⟩
theorem field_of {fs : Array Field} {gs : List (Nat × Nat)} (hg : (fs.toList.map fun f => (f.offset, f.type)) = gs) {i off ft : Nat} (h : gs[i]? = some (off, ft)) :
    ∃ f, fs[i]? = some f ∧ f.offset = off ∧ f.type = ft ∧ f ∈ fs.toList := by
  subst hg
  rw [List.getElem?_map] at h
  cases hf : fs.toList[i]? with
  | none => rw [hf] at h; cases h
  | some f =>
    rw [hf] at h
    simp only [Option.map_some, Option.some.injEq, Prod.mk.injEq] at h
    exact ⟨f, by simpa using hf, h.1, h.2, List.mem_of_getElem? hf⟩

theorem vfieldAddr_ok {t : Nat} {ty : Ty} (hty : TyOk P t ty) {p : LV} {v : Value} (hp : LVR β H M v p) {f : Nat} (w : World)
    {α : Type} {K : LV → Option α} {r : α} (h : vfieldAddr ty p f K = some r) : Read1 P β H M w (fun γ K => vfieldAddr ty p f K) (Instr.fieldAt t v f) := by
  unfold vfieldAddr at h
  split at h
  · rename_i gs hd
    split at h
    · rename_i off ft hf
      obtain ⟨fs, h1, h2, h3⟩ := hty.under_struct hd
      obtain ⟨fl, e1, e2, e3, e4⟩ := field_of h2 hf
      obtain ⟨i, e5, e6⟩ := h3 fl e4
      have hrun : ∀ ad : Addr, (Instr.fieldAt t (.pointer (some ad)) f).run P w = .ok (.pointer (some (ad.add off))) w := by
        intro ad
        simp [Instr.fieldAt, run_underlying h1, e1, Instr.sureAddr, fieldPlace, sizeOf, typeInfo, e5, e6, e2]
      split at h
      · rename_i k ver o
        obtain ⟨hx, ad, rfl, hv⟩ := hp
        refine ⟨.c (.ptr k ver (o + off)), .pointer (some (ad.add off)), fun γ K => by simp only [vfieldAddr, hd, hf], ⟨hx, _, rfl, fun l fz hl => ?_⟩, hrun ad⟩
        obtain ⟨b, n, hb, rfl⟩ := hv l fz hl
        exact ⟨b, n, hb, by rw [adr_add]⟩
      · rename_i k ver i' j
        obtain ⟨hx, ad, rfl, hv⟩ := hp
        refine ⟨.c (.rptr k ver i' (j + off)), .pointer (some (ad.add off)), fun γ K => by simp only [vfieldAddr, hd, hf], ⟨hx, _, rfl, fun c l fz hl => ?_⟩, hrun ad⟩
        obtain ⟨b, n, hb, rfl⟩ := hv c l fz hl
        exact ⟨b, n, hb, by rw [adr_add, Nat.add_assoc]⟩
      · rename_i c x o
        obtain ⟨ad, rfl, hc⟩ := hp
        exact ⟨.c (.eptr c x (o + off)), .pointer (some (ad.add (o + off))), fun γ K => by simp only [vfieldAddr, hd, hf], ⟨ad, rfl, hc⟩, by rw [← add_add]; exact hrun _⟩
      · cases h
    · cases h
  · cases h
end
end Go.JL
/- The abstract machine, eighth part: more operations that read memory. No program in sight. -/
set_option linter.unusedVariables false
set_option linter.unusedSimpArgs false
namespace Go.JL

section
variable {P : Program} {β : Place} {H : Nat → Option VO} {M : Mem}

theorem run_indexAt_slice {t e sz : Nat} (ht : P.underlying t = some (.slice e)) (w : World) (hsz : (sizeOf e).run P w = .ok sz w) (a : Addr) (len cap : Nat) (k : IntKind) (n : Int) (h0 : 0 ≤ n) (hn : n.toNat < len) :
    (Instr.indexAt t (.slice (some a) len cap) (.int k n)).run P w = .ok (.pointer (some (a.add (n.toNat * sz)))) w := by
  have h1 : 0 ≤ n ∧ n < (len : Int) := ⟨h0, by omega⟩
  simp [Instr.indexAt, asIntOf, run_underlying ht, h1, hsz]
theorem run_indexAt_array {t e m sz : Nat} (ht : P.underlying t = some (.array m e)) (w : World) (hsz : (sizeOf e).run P w = .ok sz w) (a : Addr) (k : IntKind) (n : Int) (h0 : 0 ≤ n) (hn : n.toNat < m) :
    (Instr.indexAt t (.pointer (some a)) (.int k n)).run P w = .ok (.pointer (some (a.add (n.toNat * sz)))) w := by
  have h1 : 0 ≤ n ∧ n < (m : Int) := ⟨h0, by omega⟩
  simp [Instr.indexAt, asIntOf, run_underlying ht, h1, hsz, Instr.sureAddr]

theorem row_place {B : Base} {T : Nat → LV} {a : Act} {w : World} (hs : Sim B β M T H a w) {k v : Nat} {c : TC} {l : List (El c)} {fz : Bool} (h : H k = some ⟨v, .row c l, fz⟩) (hl : 0 < l.length) : ∃ b n, β k = some (b, n) := by
  obtain ⟨_, h2⟩ := hs.hp k _ h
  cases hb : β k with
  | none => simp only [hb] at h2; subst h2; simp at hl
  | some p => exact ⟨p.1, p.2, rfl⟩

theorem vindexAddr_ok {B : Base} {T : Nat → LV} {a : Act} {w : World} (hs : Sim B β M T H a w) {cx : Cx} (htt : ∀ t ty, cx.tt t = some ty → TyOk P t ty) {t : Nat} {ty : Ty} (hty : TyOk P t ty)
    {x i : LV} {v u : Value} (hx : LVR β H M v x) (hi : LVR β H M u i)
    {α : Type} {K : LV → Option α} {r : α} (h : vindexAddr cx ty x i H K = some r) : Read1 P β H M w (fun γ K => vindexAddr cx ty x i H K) (Instr.indexAt t v u) := by
  unfold vindexAddr at h
  split at h
  · rename_i ik n
    have hi := linv_int hi
    subst hi
    split at h
    · rename_i e hd
      have ht := hty.under_slice hd
      split at h
      · rename_i te hte
        have hsz := (htt e te hte).run_size w
        split at h
        · rename_i c l
          simp only [Bool.cond_eq_ite, decide_eq_true_eq] at h
          split at h
          · rename_i hc
            split at h
            · rename_i h0
              cases hy : (l : List (El c))[n.toNat]? with
              | none => rw [hy] at h; cases h
              | some y =>
                obtain ⟨hag, A, cap, hv, hcap, hl⟩ := hx
                have hv : some v = _ := hv
                injection hv with hv
                subst hv
                obtain ⟨ad, rfl, hr⟩ := hl _ y hy
                have hlt : n.toNat < (l : List (El c)).length := (List.getElem?_eq_some_iff.1 hy).1
                refine ⟨.c (.eptr c y 0), .pointer (some (ad.add (n.toNat * te.size))), fun γ K => by simp only [vindexAddr, hd, hte, hc, decide_true, cond_true, h0, hy, Option.bind_some], ?_, run_indexAt_slice ht w hsz ad _ cap ik n h0 hlt⟩
                refine ⟨ad.add (n.toNat * te.size), rfl, ?_⟩
                refine CR.mono (Mem.le.refl _) c y _ _ (fun o v _ hv => ?_) hr
                rw [add_add, ← hc]; exact hv
            · cases h
          · cases h
        · rename_i k ver w'
          split at h
          · rename_i v' c l fz hH
            simp only [Bool.cond_eq_ite, Bool.and_eq_true, beq_iff_eq, decide_eq_true_eq] at h
            split at h
            · rename_i hvc
              obtain ⟨rfl, hc⟩ := hvc
              split at h
              · rename_i h0
                obtain ⟨hone, hex, hrow⟩ := hx
                have hrow := hrow c l fz hH
                cases w' with
                | full =>
                  simp only at h
                  split at h
                  · rename_i hlt
                    obtain ⟨b, bn, hb⟩ := row_place hs hH (Nat.lt_of_le_of_lt (Nat.zero_le _) hlt)
                    simp only [RowV, hb] at hrow
                    obtain ⟨cap, rfl, h1, h2⟩ := hrow
                    refine ⟨.c (.rptr k ver n.toNat 0), .pointer (some (adr b (n.toNat * te.size))), fun γ K => by simp only [vindexAddr, hd, hte, hH, beq_self_eq_true, hc, decide_true, Bool.and_self, cond_true, h0, hlt], ⟨hex, _, rfl, fun c1 l1 f1 hH1 => ?_⟩, run_indexAt_slice ht w hsz _ _ cap ik n h0 hlt⟩
                    rw [hH] at hH1; cases hH1
                    exact ⟨b, bn, hb, by rw [Nat.add_zero, hc]⟩
                  · cases h
                | pre m =>
                  simp only at h
                  split at h
                  · rename_i hlt
                    obtain ⟨hml, hrow⟩ := hrow
                    obtain ⟨b, bn, hb⟩ := row_place hs hH (by omega)
                    simp only [hb] at hrow
                    obtain ⟨cap, rfl, h1, h2⟩ := hrow
                    refine ⟨.c (.rptr k ver n.toNat 0), .pointer (some (adr b (n.toNat * te.size))), fun γ K => by simp only [vindexAddr, hd, hte, hH, beq_self_eq_true, hc, decide_true, Bool.and_self, cond_true, h0, hlt], ⟨hex, _, rfl, fun c1 l1 f1 hH1 => ?_⟩, run_indexAt_slice ht w hsz _ _ cap ik n h0 hlt⟩
                    rw [hH] at hH1; cases hH1
                    exact ⟨b, bn, hb, by rw [Nat.add_zero, hc]⟩
                  · cases h
                | sub o m =>
                  simp only at h
                  split at h
                  · rename_i hlt
                    obtain ⟨hml, A, cap, rfl, h1, h2⟩ := hrow
                    obtain ⟨b, bn, hb, rfl⟩ := h2 (by omega)
                    refine ⟨.c (.rptr k ver (o + n.toNat) 0), .pointer (some ((adr b (o * c.size)).add (n.toNat * te.size))), fun γ K => by simp only [vindexAddr, hd, hte, hH, beq_self_eq_true, hc, decide_true, Bool.and_self, cond_true, h0, hlt], ⟨hex, _, rfl, fun c1 l1 f1 hH1 => ?_⟩, run_indexAt_slice ht w hsz _ _ cap ik n h0 hlt⟩
                    rw [hH] at hH1; cases hH1
                    exact ⟨b, bn, hb, by rw [adr_add, Nat.add_zero, Nat.add_mul, hc]⟩
                  · cases h
              · cases h
            · cases h
          · cases h
        · cases h
      · cases h
    · rename_i m e hd
      have ht := hty.under_array hd
      split at h
      · rename_i te k ver o hte
        have hsz := (htt e te hte).run_size w
        simp only [Bool.cond_eq_ite, Bool.and_eq_true, decide_eq_true_eq] at h
        split at h
        · rename_i h0
          obtain ⟨hex, ad, rfl, hv⟩ := hx
          refine ⟨.c (.ptr k ver (o + n.toNat * te.size)), .pointer (some (ad.add (n.toNat * te.size))), fun γ K => by simp only [vindexAddr, hd, hte, h0.1, h0.2, decide_true, Bool.and_self, cond_true], ⟨hex, _, rfl, fun l fz hl => ?_⟩, run_indexAt_array ht w hsz ad ik n h0.1 h0.2⟩
          obtain ⟨b, bn, hb, rfl⟩ := hv l fz hl
          exact ⟨b, bn, hb, by rw [adr_add]⟩
        · cases h
      · cases h
    · cases h
  · cases h

theorem vindex_ok {t : Nat} {ty : Ty} (hty : TyOk P t ty) (w : World) {x i : LV} {v u : Value} (hx : LVR β H M v x) (hi : LVR β H M u i)
    {α : Type} {K : LV → Option α} {r : α} (h : vindex ty x i K = some r) : Read1 P β H M w (fun γ K => vindex ty x i K) (Instr.index t v u) := by
  unfold vindex at h
  split at h
  · rename_i ik n
    have hi := linv_int hi
    subst hi
    split at h
    · rename_i l
      have hx := linv_str hx
      subst hx
      split at h
      · rename_i hd
        simp only [Bool.cond_eq_ite, decide_eq_true_eq] at h
        split at h
        · rename_i h0
          cases hy : (l : List UInt8)[n.toNat]? with
          | none => rw [hy] at h; cases h
          | some y =>
            have ht := hty.under_str hd
            have hg : (ByteArray.mk (l : List UInt8).toArray)[n.toNat]? = some y := by
              have hlt : n.toNat < (l : List UInt8).length := (List.getElem?_eq_some_iff.1 hy).1
              have hv : (l : List UInt8)[n.toNat] = y := (List.getElem?_eq_some_iff.1 hy).2
              have hlt' : n.toNat < (ByteArray.mk (l : List UInt8).toArray).size := by simpa [ByteArray.size] using hlt
              rw [getElem?_pos (ByteArray.mk (l : List UInt8).toArray) n.toNat hlt']
              exact congrArg some hv
            refine ⟨.c (.s (.int .u8) (y.toNat : Int)), .int .u8 y.toNat, fun γ K => by simp only [vindex, hd, h0, decide_true, cond_true, hy, Option.bind_some], lmk_int .u8 _, ?_⟩
            simp [Instr.index, asIntOf, run_underlying ht, h0, hg]
        · cases h
      · cases h
    · cases h
  · cases h

theorem vlen_ok {t : Nat} {ty : Ty} (hty : TyOk P t ty) (w : World) {x : LV} {v : Value} (hx : LVR β H M v x) (rt : TypeId)
    {α : Type} {K : LV → Option α} {r : α} (h : vlen ty x H K = some r) : Read1 P β H M w (fun γ K => vlen ty x H K) (Builtin.len_ #[t] rt #[v]) := by
  have hsl : ∀ (e : Nat) (A : Option Addr) (n cap : Nat), ty.d = .slice e → (Builtin.len_ #[t] rt #[.slice A n cap]).run P w = .ok (.int .i64 n) w := by
    intro e A n cap hd
    have ht := hty.under_slice hd
    simp [Builtin.len_, run_underlying ht, goInt]
  unfold vlen at h
  split at h
  · rename_i e hd
    have hx : v = _ := hx
    subst hx
    exact ⟨.c (.s (.int .i64) 0), .int .i64 (0 : Nat), fun γ K => by simp only [vlen, hd], lmk_int .i64 0, hsl e _ _ _ hd⟩
  · rename_i e c l hd
    obtain ⟨hag, A, cap, hv, hcap, hl⟩ := hx
    have hv : some v = _ := hv
    injection hv with hv
    subst hv
    exact ⟨.c (.s (.int .i64) ((l : List (El c)).length : Int)), .int .i64 ((l : List (El c)).length : Int), fun γ K => by simp only [vlen, hd], lmk_int .i64 _, hsl e _ _ _ hd⟩
  · rename_i l hd
    have hx := linv_str hx
    subst hx
    have ht := hty.under_str hd
    refine ⟨.c (.s (.int .i64) ((l : List UInt8).length : Int)), .int .i64 ((l : List UInt8).length : Int), fun γ K => by simp only [vlen, hd], lmk_int .i64 _, ?_⟩
    have hs : (ByteArray.mk (l : List UInt8).toArray).size = (l : List UInt8).length := by simp [ByteArray.size]
    simp [Builtin.len_, run_underlying ht, goInt, hs]
  · rename_i e k ver w' hd
    split at h
    · rename_i v' c l fz hH
      simp only [Bool.cond_eq_ite, beq_iff_eq] at h
      split at h
      · rename_i hv
        subst hv
        obtain ⟨hone, hex, hrow⟩ := hx
        have hrow := hrow c l fz hH
        cases w' with
        | full =>
          have : ∃ A cap, v = .slice A (l : List (El c)).length cap := by
            simp only [RowV] at hrow
            split at hrow
            · obtain ⟨cap, rfl, _⟩ := hrow; exact ⟨_, _, rfl⟩
            · obtain ⟨rfl, h0⟩ := hrow; rw [h0]; exact ⟨_, _, rfl⟩
          obtain ⟨A, cap, rfl⟩ := this
          exact ⟨.c (.s (.int .i64) ((l : List (El c)).length : Int)), .int .i64 ((l : List (El c)).length : Int), fun γ K => by simp only [vlen, hd, hH, beq_self_eq_true, cond_true], lmk_int .i64 _, hsl e _ _ _ hd⟩
        | pre m =>
          have : ∃ A cap, v = .slice A m cap := by
            simp only [RowV] at hrow
            obtain ⟨hm, hrow⟩ := hrow
            split at hrow
            · obtain ⟨cap, rfl, _⟩ := hrow; exact ⟨_, _, rfl⟩
            · obtain ⟨rfl, h0⟩ := hrow
              have : m = 0 := by omega
              rw [this]; exact ⟨_, _, rfl⟩
          obtain ⟨A, cap, rfl⟩ := this
          exact ⟨.c (.s (.int .i64) (m : Int)), .int .i64 (m : Int), fun γ K => by simp only [vlen, hd, hH, beq_self_eq_true, cond_true], lmk_int .i64 _, hsl e _ _ _ hd⟩
        | sub o m =>
          obtain ⟨_, A, cap, rfl, _⟩ := hrow
          exact ⟨.c (.s (.int .i64) (m : Int)), .int .i64 (m : Int), fun γ K => by simp only [vlen, hd, hH, beq_self_eq_true, cond_true], lmk_int .i64 _, hsl e _ _ _ hd⟩
      · cases h
    · cases h
  · cases h
end
end Go.JL
/- The abstract machine, ninth part: slicing, parts of structs, literals. No program in sight. -/
set_option linter.unusedVariables false
set_option linter.unusedSimpArgs false
namespace Go.JL

section
variable {P : Program} {β : Place} {H : Nat → Option VO} {M : Mem}

/-- the bounds of a slice expression -/
def loOf : Option Int → Nat
  | none => 0
  | some a => a.toNat
def hiOf (len : Nat) : Option Int → Nat
  | none => len
  | some b => b.toNat
def okB (len : Nat) (a b : Option Int) : Prop := (∀ x, a = some x → 0 ≤ x) ∧ (∀ x, b = some x → 0 ≤ x) ∧ loOf a ≤ hiOf len b ∧ hiOf len b ≤ len
theorem vnum_ok {x : Option LV} {v : Option Value} (hx : match x, v with
    | none, none => True
    | some x, some v => LVR β H M v x
    | _, _ => False) {a : Option Int} (h : vnum x = some a) : (a = none ∧ v = none) ∨ ∃ k n, a = some n ∧ v = some (.int k n) := by
  unfold vnum at h
  split at h
  · cases v with
    | none => cases h; exact .inl ⟨rfl, rfl⟩
    | some v => exact hx.elim
  · rename_i k n
    cases v with
    | none => exact hx.elim
    | some v =>
      cases h
      have := linv_int (β := β) (H := H) (M := M) hx
      subst this
      exact .inr ⟨k, n, rfl, rfl⟩
  · cases h
theorem run_bounds (isSlice : Bool) (len cap : Nat) (hc : len ≤ cap) {a b : Option Int} {va vb : Option Value} (ha : (a = none ∧ va = none) ∨ ∃ k n, a = some n ∧ va = some (.int k n))
    (hb : (b = none ∧ vb = none) ∨ ∃ k n, b = some n ∧ vb = some (.int k n)) (h : okB len a b) (w : World) :
    (Instr.sliceBounds isSlice len cap va vb none).run P w = .ok (loOf a, hiOf len b, cap) w := by
  obtain ⟨h1, h2, h3, h4⟩ := h
  rcases ha with ⟨rfl, rfl⟩ | ⟨ka, na, rfl, rfl⟩ <;> rcases hb with ⟨rfl, rfl⟩ | ⟨kb, nb, rfl, rfl⟩
  · simp [Instr.sliceBounds, loOf, hiOf]
  · have e1 := h2 nb rfl
    simp only [loOf, hiOf] at h3 h4 ⊢
    have e2 : nb ≤ (cap : Int) := by omega
    simp [Instr.sliceBounds, run_sliceBound, e1, e2]
  · have e1 := h1 na rfl
    simp only [loOf, hiOf] at h3 h4 ⊢
    have e2 : na ≤ (len : Int) := by omega
    simp [Instr.sliceBounds, run_sliceBound, e1, e2]
  · have e1 := h1 na rfl
    have e2 := h2 nb rfl
    simp only [loOf, hiOf] at h3 h4 ⊢
    have e3 : nb ≤ (cap : Int) := by omega
    have e4 : na ≤ (nb.toNat : Int) := by omega
    simp [Instr.sliceBounds, run_sliceBound, e2, e3]
    rw [run_sliceBound _ _ _ _ _ e1 e4]
    rfl
theorem run_sliceAt_slice' {t e sz : Nat} (ht : P.underlying t = some (.slice e)) (w : World) (hsz : (sizeOf e).run P w = .ok sz w) (A : Option Addr) (len cap : Nat) (va vb : Option Value) (l h : Nat)
    (hb : (Instr.sliceBounds true len cap va vb none).run P w = .ok (l, h, cap) w) :
    (Instr.sliceAt t (.slice A len cap) va vb none).run P w = .ok (.slice (if cap = l then A else A.map (·.add (l * sz))) (h - l) (cap - l)) w := by
  simp only [Instr.sliceAt, Instr.slice, Sem.run_bind, run_underlying ht, Result.andThen_ok, hb, hsz, Sem.run_pure]
theorem run_sliceAt_str {t : Nat} (ht : P.underlying t = some .string) (w : World) (s : ByteArray) (va vb : Option Value) (l h m : Nat)
    (hb : (Instr.sliceBounds false s.size s.size va vb none).run P w = .ok (l, h, m) w) :
    (Instr.sliceAt t (.string s) va vb none).run P w = .ok (.string (s.extract l h)) w := by
  simp [Instr.sliceAt, Instr.slice, run_underlying ht, hb]

theorem extract_mk (l : List UInt8) (a b : Nat) (h : b ≤ l.length) : (ByteArray.mk l.toArray).extract a b = ByteArray.mk ((l.take b).drop a).toArray := by
  apply ByteArray.ext
  apply Array.ext'
  have := Lib.extract_data (ByteArray.mk l.toArray) a b
  rw [this, List.drop_take]

/-- A part of a slice that nobody writes. -/
theorem CR.cut {c : TC} {l : List (El c)} {A : Option Addr} {cap : Nat} (h : CR M (.list c) l (fun o => if o = 0 then some (.slice A l.length cap) else none)) (lo hi : Nat) (h1 : lo ≤ hi) (h2 : hi ≤ l.length) :
    CR M (.list c) ((l.take hi).drop lo) (fun o => if o = 0 then some (.slice (if cap = lo then A else A.map (·.add (lo * c.size))) (hi - lo) (cap - lo)) else none) := by
  obtain ⟨A', cap', h0, hc, hl⟩ := h
  have h0 : some (Value.slice A l.length cap) = some (.slice A' l.length cap') := h0
  injection h0 with h0
  injection h0 with h01 _ h02
  subst h01; subst h02
  have hlen : ((l.take hi).drop lo).length = hi - lo := by rw [List.length_drop, List.length_take]; omega
  refine ⟨if cap = lo then A else A.map (·.add (lo * c.size)), cap - lo, by show some (Value.slice _ _ _) = some (Value.slice _ _ _); rw [hlen], by rw [hlen]; omega, fun i x hx => ?_⟩
  rw [List.getElem?_drop, List.getElem?_take] at hx
  split at hx
  · rename_i hlt
    obtain ⟨ad, rfl, hr⟩ := hl _ x hx
    refine ⟨ad.add (lo * c.size), by rw [if_neg (by omega)]; rfl, ?_⟩
    refine CR.mono (Mem.le.refl _) c x _ _ (fun o v _ hv => ?_) hr
    rw [add_add, ← Nat.add_assoc, ← Nat.add_mul]; exact hv
  · cases hx

theorem vslice_ok {B : Base} {T : Nat → LV} {a : Act} {w : World} (hs : Sim B β M T H a w) {cx : Cx} (htt : ∀ t ty, cx.tt t = some ty → TyOk P t ty) {t : Nat} {ty : Ty} (hty : TyOk P t ty)
    {x : LV} {v : Value} (hx : LVR β H M v x) {lo hi : Option LV} {vlo vhi : Option Value} (hlo : match lo, vlo with
    | none, none => True
    | some x, some v => LVR β H M v x
    | _, _ => False) (hhi : match hi, vhi with
    | none, none => True
    | some x, some v => LVR β H M v x
    | _, _ => False)
    {α : Type} {K : LV → Option α} {r : α} (h : vslice cx ty x lo hi H K = some r) : Read1 P β H M w (fun γ K => vslice cx ty x lo hi H K) (Instr.sliceAt t v vlo vhi none) := by
  unfold vslice at h
  split at h
  · rename_i ma mb ha hb
    have ra := vnum_ok (β := β) (H := H) (M := M) hlo ha
    have rb := vnum_ok (β := β) (H := H) (M := M) hhi hb
    split at h
    · rename_i l
      have hx' := linv_str hx
      subst hx'
      split at h
      · rename_i hd
        have ht := hty.under_str hd
        have hsz : (ByteArray.mk (l : List UInt8).toArray).size = (l : List UInt8).length := by simp [ByteArray.size]
        have fin : okB (l : List UInt8).length ma mb → (Instr.sliceAt t (.string ⟨(l : List UInt8).toArray⟩) vlo vhi none).run P w = .ok (.string ⟨(((l : List UInt8).take (hiOf (l : List UInt8).length mb)).drop (loOf ma)).toArray⟩) w := by
          intro hok
          have := run_bounds (P := P) false _ _ (Nat.le_refl _) ra rb (show okB (ByteArray.mk (l : List UInt8).toArray).size ma mb by rw [hsz]; exact hok) w
          rw [run_sliceAt_str ht w _ vlo vhi _ _ _ this, hsz, extract_mk _ _ _ hok.2.2.2]
        split at h
        · refine ⟨_, _, fun γ K => by simp only [vslice, ha, hb, hd], hx, ?_⟩
          have := fin ⟨by simp, by simp, by simp [loOf, hiOf], by simp [hiOf]⟩
          simpa [loOf, hiOf] using this
        · rename_i n
          simp only [Bool.cond_eq_ite, Bool.and_eq_true, decide_eq_true_eq] at h
          split at h
          · rename_i hc
            refine ⟨_, _, fun γ K => by simp only [vslice, ha, hb, hd, hc.1, hc.2, decide_true, Bool.and_self, cond_true], lmk_str ((l : List UInt8).drop n.toNat), ?_⟩
            have := fin ⟨by intro x e; cases e; exact hc.1, by simp, by simpa [loOf, hiOf] using hc.2, by simp [hiOf]⟩
            simpa [loOf, hiOf] using this
          · cases h
        · rename_i n
          simp only [Bool.cond_eq_ite, Bool.and_eq_true, decide_eq_true_eq] at h
          split at h
          · rename_i hc
            refine ⟨_, _, fun γ K => by simp only [vslice, ha, hb, hd, hc.1, hc.2, decide_true, Bool.and_self, cond_true], lmk_str ((l : List UInt8).take n.toNat), ?_⟩
            have := fin ⟨by simp, by intro x e; cases e; exact hc.1, by simp [loOf], by simpa [hiOf] using hc.2⟩
            simpa [loOf, hiOf] using this
          · cases h
        · rename_i n m
          simp only [Bool.cond_eq_ite, Bool.and_eq_true, decide_eq_true_eq] at h
          split at h
          · rename_i hc
            refine ⟨_, _, fun γ K => by simp only [vslice, ha, hb, hd, hc.1, hc.2.1, hc.2.2, decide_true, Bool.and_self, cond_true], lmk_str (((l : List UInt8).take m.toNat).drop n.toNat), ?_⟩
            have := fin ⟨by intro x e; cases e; exact hc.1, by intro x e; cases e; omega, by simp only [loOf, hiOf]; omega, by simpa [hiOf] using hc.2.2⟩
            simpa [loOf, hiOf] using this
          · cases h
      · cases h
    · rename_i c l
      split at h
      · rename_i e hd
        have ht := hty.under_slice hd
        cases hte : cx.tt e with
        | none => simp only [hte, cond_false] at h; cases h
        | some te =>
          simp only [hte] at h
          cases hsz : decide (te.size = c.size) with
          | false => simp only [hsz, cond_false] at h; cases h
          | true =>
            simp only [hsz, cond_true] at h
            have hsz' : te.size = c.size := of_decide_eq_true hsz
            have hse := (htt e te hte).run_size w
            rw [hsz'] at hse
            obtain ⟨hag, hcr⟩ := hx
            have hcr0 := hcr
            obtain ⟨A, cap, hv, hcap, hl⟩ := hcr0
            have hv : some v = _ := hv
            injection hv with hv
            subst hv
            have fin : okB (l : List (El c)).length ma mb → LVR β H M (.slice (if cap = loOf ma then A else A.map (·.add (loOf ma * c.size))) (hiOf (l : List (El c)).length mb - loOf ma) (cap - loOf ma)) (.c (.s (.list c) (((l : List (El c)).take (hiOf (l : List (El c)).length mb)).drop (loOf ma)))) ∧
                (Instr.sliceAt t (.slice A (l : List (El c)).length cap) vlo vhi none).run P w = .ok (.slice (if cap = loOf ma then A else A.map (·.add (loOf ma * c.size))) (hiOf (l : List (El c)).length mb - loOf ma) (cap - loOf ma)) w := by
              intro hok
              exact ⟨⟨rfl, CR.cut hcr _ _ hok.2.2.1 hok.2.2.2⟩, run_sliceAt_slice' ht w hse A _ cap vlo vhi _ _ (run_bounds true _ _ hcap ra rb hok w)⟩
            split at h
            · have := fin ⟨by simp, by simp, by simp [loOf, hiOf], by simp [hiOf]⟩
              refine ⟨.c (.s (.list c) l), _, fun γ K => by simp only [vslice, ha, hb, hd, hte, hsz, cond_true], ?_, this.2⟩
              simpa [loOf, hiOf] using this.1
            · rename_i n
              simp only [Bool.cond_eq_ite, Bool.and_eq_true, decide_eq_true_eq] at h
              split at h
              · rename_i hc
                have := fin ⟨by intro x e; cases e; exact hc.1, by simp, by simpa [loOf, hiOf] using hc.2, by simp [hiOf]⟩
                refine ⟨.c (.s (.list c) ((l : List (El c)).drop n.toNat)), _, fun γ K => by simp only [vslice, ha, hb, hd, hte, hsz, hc.1, hc.2, decide_true, Bool.and_self, cond_true], ?_, this.2⟩
                simpa [loOf, hiOf] using this.1
              · cases h
            · rename_i n
              simp only [Bool.cond_eq_ite, Bool.and_eq_true, decide_eq_true_eq] at h
              split at h
              · rename_i hc
                have := fin ⟨by simp, by intro x e; cases e; exact hc.1, by simp [loOf], by simpa [hiOf] using hc.2⟩
                refine ⟨.c (.s (.list c) ((l : List (El c)).take n.toNat)), _, fun γ K => by simp only [vslice, ha, hb, hd, hte, hsz, hc.1, hc.2, decide_true, Bool.and_self, cond_true], ?_, this.2⟩
                simpa [loOf, hiOf] using this.1
              · cases h
            · rename_i n m
              simp only [Bool.cond_eq_ite, Bool.and_eq_true, decide_eq_true_eq] at h
              split at h
              · rename_i hc
                have := fin ⟨by intro x e; cases e; exact hc.1, by intro x e; cases e; omega, by simp only [loOf, hiOf]; omega, by simpa [hiOf] using hc.2.2⟩
                refine ⟨.c (.s (.list c) (((l : List (El c)).take m.toNat).drop n.toNat)), _, fun γ K => by simp only [vslice, ha, hb, hd, hte, hsz, hc.1, hc.2.1, hc.2.2, decide_true, Bool.and_self, cond_true], ?_, this.2⟩
                simpa [loOf, hiOf] using this.1
              · cases h
      · cases h
    · rename_i k ver
      split at h
      · rename_i e hd
        have ht := hty.under_slice hd
        split at h
        · rename_i v' c l fz hH
          cases hte : cx.tt e with
          | none => simp only [hte, Bool.and_false, cond_false] at h; cases h
          | some te =>
            simp only [hte] at h
            cases hq : (ver == v' && decide (te.size = c.size)) with
            | false => simp only [hq, cond_false] at h; cases h
            | true =>
              simp only [hq, cond_true] at h
              have hq' := hq
              simp only [Bool.and_eq_true, beq_iff_eq, decide_eq_true_eq] at hq'
              obtain ⟨rfl, hsz'⟩ := hq'
              have hse := (htt e te hte).run_size w
              rw [hsz'] at hse
              have hx0 := hx
              obtain ⟨hone, hex, hrow⟩ := hx
              have hrow := hrow c l fz hH
              have hform : ∃ A cap, v = .slice A (l : List (El c)).length cap ∧ (l : List (El c)).length ≤ cap ∧ ((∃ b n, β k = some (b, n) ∧ A = some ⟨b, 0, none⟩ ∧ cap * c.size ≤ n) ∨ (β k = none ∧ A = none ∧ cap = 0 ∧ (l : List (El c)).length = 0)) := by
                simp only [RowV] at hrow
                split at hrow
                · rename_i b n hb
                  obtain ⟨cap, rfl, q1, q2⟩ := hrow
                  exact ⟨_, cap, rfl, q1, .inl ⟨b, n, hb, rfl, q2⟩⟩
                · rename_i hb
                  obtain ⟨rfl, q⟩ := hrow
                  exact ⟨none, 0, by rw [q], by omega, .inr ⟨hb, rfl, rfl, q⟩⟩
              obtain ⟨A, cap, rfl, hcap, hpl⟩ := hform
              have run : okB (l : List (El c)).length ma mb → (Instr.sliceAt t (.slice A (l : List (El c)).length cap) vlo vhi none).run P w = .ok (.slice (if cap = loOf ma then A else A.map (·.add (loOf ma * c.size))) (hiOf (l : List (El c)).length mb - loOf ma) (cap - loOf ma)) w :=
                fun hok => run_sliceAt_slice' ht w hse A _ cap vlo vhi _ _ (run_bounds true _ _ hcap ra rb hok w)
              have hsub : ∀ lo n : Nat, lo + n ≤ (l : List (El c)).length → LVR β H M (.slice (if cap = lo then A else A.map (·.add (lo * c.size))) n (cap - lo)) (.c (.own k ver (.sub lo n))) := by
                intro lo n hle
                refine ⟨rfl, hex, fun c1 l1 f1 hH1 => ?_⟩
                rw [hH] at hH1; cases hH1
                refine ⟨hle, _, _, rfl, by omega, fun hn => ?_⟩
                rcases hpl with ⟨b, m, hb, rfl, _⟩ | ⟨_, _, hc0, hl0⟩
                · exact ⟨b, m, hb, by rw [if_neg (by omega)]; rfl⟩
                · omega
              split at h
              · refine ⟨.c (.own k ver .full), _, fun γ K => by simp only [vslice, ha, hb, hd, hH, hte, hq, cond_true], hx0, ?_⟩
                have := run ⟨by simp, by simp, by simp [loOf, hiOf], by simp [hiOf]⟩
                simp only [loOf, hiOf, Nat.zero_mul, Nat.sub_zero] at this
                rw [this]
                congr 2
                cases A <;> simp [add_zero]
              · rename_i n
                simp only [Bool.cond_eq_ite, Bool.and_eq_true, decide_eq_true_eq] at h
                split at h
                · rename_i hc
                  have := run ⟨by intro x e; cases e; exact hc.1, by simp, by simpa [loOf, hiOf] using hc.2, by simp [hiOf]⟩
                  exact ⟨.c (.own k ver (.sub n.toNat ((l : List (El c)).length - n.toNat))), _, fun γ K => by simp only [vslice, ha, hb, hd, hH, hte, hq, hc.1, hc.2, decide_true, Bool.and_self, cond_true], hsub _ _ (by omega), this⟩
                · cases h
              · rename_i n
                simp only [Bool.cond_eq_ite, Bool.and_eq_true, decide_eq_true_eq] at h
                split at h
                · rename_i hc
                  have := run ⟨by simp, by intro x e; cases e; exact hc.1, by simp [loOf], by simpa [hiOf] using hc.2⟩
                  refine ⟨.c (.own k ver (.pre n.toNat)), _, fun γ K => by simp only [vslice, ha, hb, hd, hH, hte, hq, hc.1, hc.2, decide_true, Bool.and_self, cond_true], ⟨rfl, hex, fun c1 l1 f1 hH1 => ?_⟩, this⟩
                  rw [hH] at hH1; cases hH1
                  refine ⟨hc.2, ?_⟩
                  rcases hpl with ⟨b, m, hb', rfl, q⟩ | ⟨hb', rfl, rfl, hl0⟩
                  · simp only [hb']
                    refine ⟨cap, ?_, by omega, q⟩
                    simp [loOf, hiOf, add_zero]
                  · simp only [hb']
                    have : n.toNat = 0 := by omega
                    simp [loOf, hiOf, this, hl0]
                · cases h
              · rename_i n m
                simp only [Bool.cond_eq_ite, Bool.and_eq_true, decide_eq_true_eq] at h
                split at h
                · rename_i hc
                  have := run ⟨by intro x e; cases e; exact hc.1, by intro x e; cases e; omega, by simp only [loOf, hiOf]; omega, by simpa [hiOf] using hc.2.2⟩
                  exact ⟨.c (.own k ver (.sub n.toNat (m.toNat - n.toNat))), _, fun γ K => by simp only [vslice, ha, hb, hd, hH, hte, hq, hc.1, hc.2.1, hc.2.2, decide_true, Bool.and_self, cond_true], hsub _ _ (by omega), this⟩
                · cases h
        · cases h
      · cases h
    · cases h
  · cases h
end
end Go.JL
