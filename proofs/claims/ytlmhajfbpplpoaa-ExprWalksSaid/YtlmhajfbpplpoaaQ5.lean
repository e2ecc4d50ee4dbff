/-
  Code with all types' sizes resolved, run over a small heap of its own. No program in sight.
  A call over a small heap of its own: what the arguments reach is renamed to 0, 1, .., handed over, and written back. No program in sight.
  Code with its types' sizes resolved, out of a program's code. No program in sight.
-/
import Derived.Test.YtlmhajfbpplpoaaQH
set_option linter.unusedSectionVars false
set_option linter.unusedSimpArgs false
set_option linter.unusedVariables false
namespace Go.Proofs.Ytlmhajfbpplpoaa
open Go.RowKit

/-- Arithmetic, by name: so that a run over symbols stops there and nowhere deeper. -/
structure Ar0 where
  add : IntKind → Int → Int → Int
  sub : IntKind → Int → Int → Int
  mul : IntKind → Int → Int → Int
  quo : IntKind → Int → Int → Int
  rem : IntKind → Int → Int → Int
  bits : BinOp → IntKind → Int → Int → Int
  shl : IntKind → Int → Int → Int
  shr : IntKind → Int → Int → Int
  conv : IntKind → Int → Int
  lt : Int → Int → Bool
  le : Int → Int → Bool
  eq : Int → Int → Bool
  max : Int → Int → Int
  min : Int → Int → Int
  beq : Bool → Bool → Bool
  band : Bool → Bool → Bool
  seq : ByteArray → ByteArray → Bool
  slt : ByteArray → ByteArray → Bool
  slen : ByteArray → Nat
  cat : ByteArray → ByteArray → ByteArray
  sat : ByteArray → Nat → Int
  ssub : ByteArray → Nat → Nat → ByteArray
/-- Wrapped so that a run over an unknown arithmetic stops at its name. -/
inductive Ar where
  | mk (r : Ar0)
  | no
def Ar.add (A : Ar) (x0 : IntKind) (x1 : Int) (x2 : Int) : Int := match A with
  | .mk r => r.add x0 x1 x2
  | .no => 0
def Ar.sub (A : Ar) (x0 : IntKind) (x1 : Int) (x2 : Int) : Int := match A with
  | .mk r => r.sub x0 x1 x2
  | .no => 0
def Ar.mul (A : Ar) (x0 : IntKind) (x1 : Int) (x2 : Int) : Int := match A with
  | .mk r => r.mul x0 x1 x2
  | .no => 0
def Ar.quo (A : Ar) (x0 : IntKind) (x1 : Int) (x2 : Int) : Int := match A with
  | .mk r => r.quo x0 x1 x2
  | .no => 0
def Ar.rem (A : Ar) (x0 : IntKind) (x1 : Int) (x2 : Int) : Int := match A with
  | .mk r => r.rem x0 x1 x2
  | .no => 0
def Ar.bits (A : Ar) (x0 : BinOp) (x1 : IntKind) (x2 : Int) (x3 : Int) : Int := match A with
  | .mk r => r.bits x0 x1 x2 x3
  | .no => 0
def Ar.shl (A : Ar) (x0 : IntKind) (x1 : Int) (x2 : Int) : Int := match A with
  | .mk r => r.shl x0 x1 x2
  | .no => 0
def Ar.shr (A : Ar) (x0 : IntKind) (x1 : Int) (x2 : Int) : Int := match A with
  | .mk r => r.shr x0 x1 x2
  | .no => 0
def Ar.conv (A : Ar) (x0 : IntKind) (x1 : Int) : Int := match A with
  | .mk r => r.conv x0 x1
  | .no => 0
def Ar.lt (A : Ar) (x0 : Int) (x1 : Int) : Bool := match A with
  | .mk r => r.lt x0 x1
  | .no => false
def Ar.le (A : Ar) (x0 : Int) (x1 : Int) : Bool := match A with
  | .mk r => r.le x0 x1
  | .no => false
def Ar.eq (A : Ar) (x0 : Int) (x1 : Int) : Bool := match A with
  | .mk r => r.eq x0 x1
  | .no => false
def Ar.max (A : Ar) (x0 : Int) (x1 : Int) : Int := match A with
  | .mk r => r.max x0 x1
  | .no => 0
def Ar.min (A : Ar) (x0 : Int) (x1 : Int) : Int := match A with
  | .mk r => r.min x0 x1
  | .no => 0
def Ar.not (_ : Ar) (b : Bool) : Bool := !b
def Ar.beq (A : Ar) (x0 : Bool) (x1 : Bool) : Bool := match A with
  | .mk r => r.beq x0 x1
  | .no => false
def Ar.band (A : Ar) (x0 : Bool) (x1 : Bool) : Bool := match A with
  | .mk r => r.band x0 x1
  | .no => false
def Ar.seq (A : Ar) (x0 : ByteArray) (x1 : ByteArray) : Bool := match A with
  | .mk r => r.seq x0 x1
  | .no => false
def Ar.slt (A : Ar) (x0 : ByteArray) (x1 : ByteArray) : Bool := match A with
  | .mk r => r.slt x0 x1
  | .no => false
def Ar.slen (A : Ar) (x0 : ByteArray) : Nat := match A with
  | .mk r => r.slen x0
  | .no => 0
def Ar.cat (A : Ar) (x0 : ByteArray) (x1 : ByteArray) : ByteArray := match A with
  | .mk r => r.cat x0 x1
  | .no => ByteArray.empty
def Ar.sat (A : Ar) (x0 : ByteArray) (x1 : Nat) : Int := match A with
  | .mk r => r.sat x0 x1
  | .no => 0
def Ar.ssub (A : Ar) (x0 : ByteArray) (x1 : Nat) (x2 : Nat) : ByteArray := match A with
  | .mk r => r.ssub x0 x1 x2
  | .no => ByteArray.empty
def bitsV (b : BinOp) (k : IntKind) (x y : Int) : Int := match b with
  | .and => k.wrap (BitVec.ofInt k.bits x &&& BitVec.ofInt k.bits y).toNat
  | .or => k.wrap (BitVec.ofInt k.bits x ||| BitVec.ofInt k.bits y).toNat
  | .xor => k.wrap (BitVec.ofInt k.bits x ^^^ BitVec.ofInt k.bits y).toNat
  | _ => k.wrap (BitVec.ofInt k.bits x &&& ~~~BitVec.ofInt k.bits y).toNat
def realA0 : Ar0 where
  add k x y := k.wrap (x + y)
  sub k x y := k.wrap (x - y)
  mul k x y := k.wrap (x * y)
  quo k x y := k.wrap (x.tdiv y)
  rem _ x y := x.tmod y
  bits b k x y := bitsV b k x y
  shl k x y := k.wrap (x * 2 ^ (Nat.min y.toNat k.bits))
  shr k x y := x.fdiv (2 ^ (Nat.min y.toNat k.bits))
  conv k x := k.wrap x
  lt x y := decide (x < y)
  le x y := decide (x ≤ y)
  eq x y := x == y
  max x y := if x < y then y else x
  min x y := if y < x then y else x
  beq a b := a == b
  band a b := a && b
  seq a b := a.toList == b.toList
  slt a b := Op.bytesLess a.toList b.toList
  slen a := a.size
  cat a b := a ++ b
  sat a i := match a[i]? with
    | some c => Int.ofNat c.toNat
    | none => 0
  ssub a l h := a.extract l h
def realA : Ar := .mk realA0
/-- An operation, its types' sizes resolved. -/
inductive MO where
  | mv (x : Operand)
  | pick (c a b : Operand)
  | alloc (z : List Value)
  | box (x : Operand)
  | buildS (z : List Value) (pl : List (Nat × Nat)) (ps : List (Nat × Operand))
  | buildR (z : List Value) (e : Nat) (ps : List (Nat × Operand))
  | buildSl (z : List Value) (e n : Nat) (ps : List (Nat × Operand))
  | ld (row : Bool) (n : Nat) (a : Operand)
  | st (n : Nat) (a x : Operand)
  | nilck (x : Operand)
  | bin (ek : Nat) (b : BinOp) (x y : Operand)
  | eqs (neg : Bool) (ks : List Nat) (x y : Operand)
  | not (x : Operand)
  | mkfn (f : Fn) (a c : List Operand)
  | slice (e : Nat) (x : Operand) (lo hi : Option Operand)
  | faddr (off : Nat) (a : Operand)
  | field (row : Bool) (off n : Nat) (x : Operand)
  | iaddr (e : Nat) (x i : Operand)
  | aaddr (n e : Nat) (x i : Operand)
  | index (n e : Nat) (row : Bool) (sz : Nat) (x i : Operand)
  | ext (x : Operand) (i : Nat)
  | mksl (z : List Value) (e bytes : Nat) (l c : Operand)
  | app (e bytes : Nat) (s x : Operand)
  | cpy (e : Nat) (d x : Operand)
  | len (sl : Bool) (x : Operand)
  | sidx (x i : Operand)
  | sslice (x : Operand) (lo hi : Option Operand)
  | iconv (k : IntKind) (x : Operand)
  | mx (x y : Operand)
  | mn (x y : Operand)
  | callF (f : FuncId) (args : List Operand)
  | callV (ents : Nat) (x : Operand) (args : List Operand)
  | bad

structure MOp where
  dst : Option Nat
  op : MO
  g : Option (Nat × Bool)
/-- What is told of a loop: how many temporaries there are, which of them are looked at from there on, which empty ones become rows of one's own, which are looked at behind each way out. -/
structure LpH where
  n : Nat
  live : List Bool
  ad : List (Nat × Nat)
  fz : List Nat
  outs : List (Nat × (List Bool × (List Nat × List Nat)))
inductive MC where
  | skip
  | reg (ops : List MOp) (bf : Option (List Nat))
  | seq (a b : MC)
  | cond (c : Operand) (a b : MC)
  | block (id : Nat) (c : MC)
  | loop (i : Nat) (h : LpH)
  | exit (id : Nat)
  | ret
  | bad

section
variable (A : Ar)
def loadM (row : Bool) (n : Nat) (a : AV) : AM AV := match row with
  | true => (rdAt a n).bind fun cs => AM.ret (.agg cs)
  | false => (rdAt a 1).bind fun cs => AM.opt (one? cs)
def storeM (n : Nat) (a x : AV) : AM AV := match a with
  | .ptr b o =>
    if x.cells.length = n ∧ x.cells.all AV.one = true then
      (AM.getB b).bind fun k => if k.st = true ∧ o + n ≤ k.cells.length ∧ (!k.ex || noidL x.cells) = true then (AM.setB b { k with cells := splice k.cells o x.cells }).bind fun _ => AM.ret AV.undef else AM.fail
    else AM.fail
  | _ => AM.fail
def partM (row : Bool) (off n : Nat) (cs : List AV) : Option AV := match row with
  | true => some (.agg ((cs.drop off).take n))
  | false => cs[off]?
def fieldM (row : Bool) (off n : Nat) (x : AV) : Option AV := match x with
  | .agg cs => partM row off n cs
  | _ => none
def buildM (place : Nat → Option (Nat × Nat)) (z : List Value) (ps : List (Nat × AV)) : Option AV :=
  if ps.any (fun p => isTup p.2) then none else (fillA place (z.map .v) ps).map .agg
def buildSlM (z : List Value) (e n : Nat) (ps : List (Nat × AV)) : AM AV :=
  if n * e ≤ 16777216 ∧ n ≤ maxLen ∧ ps.any (fun p => isTup p.2) = false then
    match fillA (fun i => some (i * e, e)) (zeros (z.map .v) (n * e)) ps with
    | some cs => if noidL cs = true then (AM.newB ⟨cs, true, true⟩).bind fun b => AM.ret (.sl b 0 n e) else AM.fail
    | none => AM.fail
  else AM.fail
/-- The row at a number. -/
def nthR : List (List AV) → Nat → Option (List AV)
  | [], _ => none
  | x :: _, 0 => some x
  | _ :: r, n + 1 => nthR r n
theorem nthR_eq : ∀ (xs : List (List AV)) (n : Nat), nthR xs n = xs[n]?
  | [], _ => by simp [nthR]
  | x :: r, 0 => by simp [nthR]
  | x :: r, n + 1 => by simp [nthR, nthR_eq r n]
def iaddrM (e : Nat) (x ix : AV) : Option AV := match ix.idx with
  | some i => (match x with
    | .sl b o n e' => (match Nat.blt i n with
      | true => if e' = e then some (.ptr b (o + i * e)) else none
      | false => none)
    | .ls xs => (match nthR xs i with
      | some cs => (match Nat.beq cs.length e with
        | true => some (.lp cs)
        | false => none)
      | none => none)
    | _ => none)
  | none => none
def aaddrM (n e : Nat) (x ix : AV) : Option AV := match ix.idx with
  | some i => (match Nat.blt i n with
    | true => moved x (i * e)
    | false => none)
  | none => none
def indexM (n e : Nat) (row : Bool) (sz : Nat) (x ix : AV) : Option AV := match x, ix.idx with
  | .agg cs, some i => (match Nat.blt i n with
    | true => partM row (i * e) sz cs
    | false => none)
  | _, _ => none
def takeR : List (List AV) → Nat → List (List AV)
  | [], _ => []
  | _ :: _, 0 => []
  | x :: r, n + 1 => x :: takeR r n
def dropR : List (List AV) → Nat → List (List AV)
  | [], _ => []
  | x :: r, 0 => x :: r
  | _ :: r, n + 1 => dropR r n
def lenR : List (List AV) → Nat
  | [] => 0
  | _ :: r => lenR r + 1
def wideR (e : Nat) : List (List AV) → Bool
  | [] => true
  | x :: r => Nat.beq x.length e && wideR e r
def optM (n : Nat) : Option AV → Option Nat
  | some x => x.idx
  | none => some n
def sliceM (e : Nat) (x : AV) (lo hi : Option AV) : Option AV := match x with
  | .sl b o n e' => (match optM 0 lo, optM n hi with
    | some l, some h => (match Nat.ble l h, Nat.ble h n, Nat.beq e' e with
      | true, true, true => some (.sl b (o + l * e) (h - l) e)
      | _, _, _ => none)
    | _, _ => none)
  | .ls xs => (match optM 0 lo, optM (lenR xs) hi with
    | some l, some h => (match Nat.ble l h, Nat.ble h (lenR xs), wideR e xs with
      | true, true, true => some (.ls (dropR (takeR xs h) l))
      | _, _, _ => none)
    | _, _ => none)
  | _ => none
def lenM (sl : Bool) (x : AV) : Option AV := match sl with
  | true => (match x with
    | .sl _ _ n _ => some (.v (.int .i64 (Int.ofNat n)))
    | .ls xs => some (.v (.int .i64 (Int.ofNat (lenR xs))))
    | .v (.slice none 0 0) => some (.v (.int .i64 (Int.ofNat 0)))
    | _ => none)
  | false => (match x with
    | .v (.string s) => some (.v (.int .i64 (Int.ofNat (A.slen s))))
    | _ => none)
/-- Cells that are values of their own, one by one: 0 int, 1 bool, 2 string. -/
def eqL : List Nat → List AV → List AV → Option Bool
  | [], [], [] => some true
  | 1 :: ks, .v (.bool a) :: r, .v (.bool b) :: q => (match eqL ks r q with
    | some t => some (A.band (A.beq a b) t)
    | none => none)
  | 0 :: ks, .v (.int k a) :: r, .v (.int k' b) :: q => if k = k' then (match eqL ks r q with
    | some t => some (A.band (A.eq a b) t)
    | none => none) else none
  | 2 :: ks, .v (.string a) :: r, .v (.string b) :: q => (match eqL ks r q with
    | some t => some (A.band (A.seq a b) t)
    | none => none)
  | _, _, _ => none
def eqsM (neg : Bool) (ks : List Nat) (x y : AV) : Option AV := match x, y with
  | .agg xs, .agg ys => (match eqL A ks xs ys with
    | some t => (match neg with
      | true => some (.v (.bool (A.not t)))
      | false => some (.v (.bool t)))
    | none => none)
  | _, _ => none
def eqM (ek : Nat) (x y : AV) : Option Bool := match ek, x, y with
  | 4, .v (.bool a), .v (.bool b) => some (A.beq a b)
  | 1, .ptr .., .v (.pointer none) => some false
  | 1, .lp .., .v (.pointer none) => some false
  | 1, .v (.pointer none), .v (.pointer none) => some true
  | 2, .sl _ _ (_ + 1) _, .v (.slice none 0 0) => some false
  | 2, .v (.slice none 0 0), .v (.slice none 0 0) => some true
  | 3, .fn .., .v .nilFunc => some false
  | 3, .v .nilFunc, .v .nilFunc => some true
  | _, _, _ => none
def binM (b : BinOp) (x y : AV) : Option AV := match x, y with
  | .v (.int k a), .v (.int k' c) => (match b with
    | .shl => (match A.lt c 0 with
      | true => none
      | false => some (.v (.int k (A.shl k a c))))
    | .shr => (match A.lt c 0 with
      | true => none
      | false => some (.v (.int k (A.shr k a c))))
    | b => if k = k' then (match b with
      | .and => some (.v (.int k (A.bits .and k a c)))
      | .or => some (.v (.int k (A.bits .or k a c)))
      | .xor => some (.v (.int k (A.bits .xor k a c)))
      | .andNot => some (.v (.int k (A.bits .andNot k a c)))
      | .quo => (match A.eq c 0 with
        | true => none
        | false => some (.v (.int k (A.quo k a c))))
      | .rem => (match A.eq c 0 with
        | true => none
        | false => some (.v (.int k (A.rem k a c))))
      | .add => some (.v (.int k (A.add k a c)))
      | .sub => some (.v (.int k (A.sub k a c)))
      | .mul => some (.v (.int k (A.mul k a c)))
      | .eql => some (.v (.bool (A.eq a c)))
      | .neq => some (.v (.bool (A.not (A.eq a c))))
      | .lss => some (.v (.bool (A.lt a c)))
      | .leq => some (.v (.bool (A.le a c)))
      | .gtr => some (.v (.bool (A.lt c a)))
      | .geq => some (.v (.bool (A.le c a)))
      | _ => none) else none)
  | .v (.string a), .v (.string c) => (match b with
      | .add => (match Nat.ble (A.slen a + A.slen c) 9223372036854775807 with
        | true => some (.v (.string (A.cat a c)))
        | false => none)
      | .eql => some (.v (.bool (A.seq a c)))
      | .neq => some (.v (.bool (A.not (A.seq a c))))
      | .lss => some (.v (.bool (A.slt a c)))
      | .geq => some (.v (.bool (A.not (A.slt a c))))
      | _ => none)
  | _, _ => none
def cmpM (ek : Nat) (b : BinOp) (x y : AV) : Option AV := match ek, b with
  | 0, _ => binM A b x y
  | _, .eql => (eqM A ek x y).map fun t => .v (.bool t)
  | _, .neq => (eqM A ek x y).map fun t => .v (.bool (A.not t))
  | _, _ => none
def bigM (f : Int → Int → Int) (x y : AV) : Option AV := match x, y with
  | .v (.int k a), .v (.int k' c) => if k = k' then some (.v (.int k (f a c))) else none
  | _, _ => none
def sidxM (x i : AV) : Option AV := match x, i.idx with
  | .v (.string s), some i => (match Nat.blt i (A.slen s) with
    | true => some (.v (.int .u8 (A.sat s i)))
    | false => none)
  | _, _ => none
def ssliceM (x : AV) (lo hi : Option AV) : Option AV := match x with
  | .v (.string s) => (match optM 0 lo, optM (A.slen s) hi with
    | some l, some h => (match Nat.ble l h, Nat.ble h (A.slen s) with
      | true, true => some (.v (.string (A.ssub s l h)))
      | _, _ => none)
    | _, _ => none)
  | _ => none
def convM (k : IntKind) (x : AV) : Option AV := match x with
  | .v (.int _ n) => some (.v (.int k (A.conv k n)))
  | _ => none
def notM (x : AV) : Option AV := match x with
  | .v (.bool b) => some (.v (.bool (A.not b)))
  | _ => none
/-- How many elements, and their cells. -/
def catR : List (List AV) → List AV
  | [] => []
  | x :: r => x ++ catR r
def newsM (e : Nat) (x : AV) : AM (Nat × List AV) := match x with
  | .sl b o n e' => if e' = e then (AM.getB b).bind fun k => match Nat.ble (o + n * e) k.cells.length, (k.ex || noidL ((k.cells.drop o).take (n * e))) with
      | true, true => AM.ret (n, (k.cells.drop o).take (n * e))
      | _, _ => AM.fail
      else AM.fail
  | .ls xs => (match wideR e xs with
    | true => AM.ret (lenR xs, catR xs)
    | false => AM.fail)
  | .v (.slice none 0 0) => AM.ret (0, [])
  | _ => AM.fail
def oneL : List AV → Bool
  | [] => true
  | x :: r => x.one && oneL r
def appM (e bytes : Nat) (s x : AV) : AM AV := (newsM e x).bind fun r =>
  match Nat.beq r.1 0 with
  | true => if isSl s = true then AM.ret s else AM.fail
  | false => match oneL r.2 with
    | false => AM.fail
    | true => (match s with
      | .v (.slice none 0 0) => (match Nat.ble (r.1 * bytes) 140737488355328, Nat.ble r.1 maxLen with
        | true, true => (AM.newB ⟨r.2, true, true⟩).bind fun b => AM.ret (.sl b 0 r.1 e)
        | _, _ => AM.fail)
      | .sl b o n e' => (match Nat.beq e' e, Nat.ble ((n + r.1) * bytes) 140737488355328, Nat.ble (n + r.1) maxLen with
        | true, true, true => (AM.getB b).bind fun k => match k.ex, k.st, Nat.beq (o + n * e) k.cells.length with
          | true, true, true => (AM.delB b).bind fun _ => (AM.newB ⟨(k.cells.take (o + n * e)).drop o ++ r.2, true, true⟩).bind fun b' => AM.ret (.sl b' 0 (n + r.1) e)
          | true, false, true => (AM.setB b { k with ex := false }).bind fun _ => (AM.newB ⟨(k.cells.take (o + n * e)).drop o ++ r.2, false, true⟩).bind fun b' => AM.ret (.sl b' 0 (n + r.1) e)
          | true, true, false => (match Nat.ble (o + n * e) k.cells.length with
            | true => (AM.delB b).bind fun _ => (AM.newB ⟨(k.cells.take (o + n * e)).drop o ++ r.2, true, true⟩).bind fun b' => AM.ret (.sl b' 0 (n + r.1) e)
            | false => AM.fail)
          | _, _, _ => AM.fail
        | _, _, _ => AM.fail)
      | _ => AM.fail)
def mkslM (z : List Value) (e bytes : Nat) (l c : AV) : AM AV := match l.idx, c.idx with
  | some n, some m => (match Nat.ble n m, Nat.ble (m * bytes) 140737488355328, Nat.ble m maxLen with
    | true, true, true => (AM.newB ⟨zeros (z.map .v) (n * e), true, true⟩).bind fun b => AM.ret (.sl b 0 n e)
    | _, _, _ => AM.fail)
  | _, _ => AM.fail
def cpyM (e : Nat) (d x : AV) : AM AV := match d with
  | .sl b o n e' => (match Nat.beq e' e with
    | true => (newsM e x).bind fun r => match oneL (r.2.take (Nat.min r.1 n * e)) with
      | true => (AM.getB b).bind fun k => match k.st, Nat.ble (o + n * e) k.cells.length with
        | true, true => (AM.setB b { k with cells := splice k.cells o (r.2.take (Nat.min r.1 n * e)) }).bind fun _ => AM.ret (.v (.int .i64 (Int.ofNat (Nat.min r.1 n))))
        | _, _ => AM.fail
      | false => AM.fail
    | false => AM.fail)
  | _ => AM.fail
def pairM (T : List AV) : List (Nat × Operand) → List (Nat × AV)
  | [] => []
  | (i, x) :: r => (i, opdA T x) :: pairM T r
def opsM (T : List AV) : List Operand → List AV
  | [] => []
  | x :: r => opdA T x :: opsM T r
def mop (Γ : FuncId → List AV → AM AV) (o : MO) (T : List AV) : AM AV := match o with
  | .mv x => AM.ret (opdA T x)
  | .pick c a b => (match opdA T c with
    | .v (.bool t) => (match t with
      | true => AM.ret (opdA T a)
      | false => AM.ret (opdA T b))
    | _ => AM.fail)
  | .alloc z => (AM.newB ⟨z.map .v, true, false⟩).bind fun b => AM.ret (.ptr b 0)
  | .box x => boxA (opdA T x)
  | .buildS z pl ps => AM.opt (buildM (pl[·]?) z (pairM T ps))
  | .buildR z e ps => AM.opt (buildM (fun i => some (i * e, e)) z (pairM T ps))
  | .buildSl z e n ps => buildSlM z e n (pairM T ps)
  | .ld row n a => loadM row n (opdA T a)
  | .st n a x => storeM n (opdA T a) (opdA T x)
  | .nilck x => (match opdA T x with
    | .ptr b o => AM.ret (.ptr b o)
    | .lp cs => AM.ret (.lp cs)
    | .fn (.func f) a c => AM.ret (.fn (.func f) a c)
    | _ => AM.fail)
  | .bin ek b x y => AM.opt (cmpM A ek b (opdA T x) (opdA T y))
  | .eqs neg ks x y => AM.opt (eqsM A neg ks (opdA T x) (opdA T y))
  | .not x => AM.opt (notM A (opdA T x))
  | .mkfn f a c => AM.ret (.fn f (opsM T a) (opsM T c))
  | .slice e x lo hi => AM.opt (sliceM e (opdA T x) (lo.map (opdA T)) (hi.map (opdA T)))
  | .faddr off a => AM.opt (moved (opdA T a) off)
  | .field row off n x => AM.opt (fieldM row off n (opdA T x))
  | .iaddr e x i => AM.opt (iaddrM e (opdA T x) (opdA T i))
  | .aaddr n e x i => AM.opt (aaddrM n e (opdA T x) (opdA T i))
  | .index n e row sz x i => AM.opt (indexM n e row sz (opdA T x) (opdA T i))
  | .ext x i => AM.opt (extractA (opdA T x) i)
  | .mksl z e bytes l c => mkslM z e bytes (opdA T l) (opdA T c)
  | .app e bytes s x => appM e bytes (opdA T s) (opdA T x)
  | .cpy e d x => cpyM e (opdA T d) (opdA T x)
  | .len sl x => AM.opt (lenM A sl (opdA T x))
  | .sidx x i => AM.opt (sidxM A (opdA T x) (opdA T i))
  | .sslice x lo hi => AM.opt (ssliceM A (opdA T x) (lo.map (opdA T)) (hi.map (opdA T)))
  | .iconv k x => AM.opt (convM A k (opdA T x))
  | .mx x y => AM.opt (bigM (A.max) (opdA T x) (opdA T y))
  | .mn x y => AM.opt (bigM (A.min) (opdA T x) (opdA T y))
  | .callF f args => Γ f (opsM T args)
  | .callV ents x args => (match opdA T x with
    | .fn (.func g) a cs => (match ents.testBit g with
      | true => Γ g (a ++ opsM T args ++ cs)
      | false => AM.fail)
    | _ => AM.fail)
  | .bad => AM.fail
def wantM (T : List AV) (g : Option (Nat × Bool)) : Option Bool := match g with
  | none => some true
  | some (d, want) => match T[d]? with
    | some (.v (.bool b)) => (match want with
      | true => some b
      | false => some (A.not b))
    | some (.v (.tuple _)) => some false
    | _ => none
def coreM (Γ : FuncId → List AV → AM AV) (o : MOp) (T : List AV) : AM AV := match wantM A T o.g with
  | some t => (match t with
    | true => mop A Γ o.op T
    | false => AM.ret AV.undef)
  | none => AM.fail
def runM (Γ : FuncId → List AV → AM AV) : List MOp → List AV → AH → Option (List AV × AH × List Foot)
  | [], T, H => some (T, H, [])
  | o :: r, T, H => match coreM A Γ o T H with
    | none => none
    | some (v, H1, f) => match runM Γ r (dstSet T o.dst v) H1 with
      | none => none
      | some (T2, H2, fs) => some (T2, H2, f :: fs)
def regM (Γ : FuncId → List AV → AM AV) (ops : List MOp) (bf : Option (List Nat)) (T : List AV) : AM (AX × List AV) := fun H => match runM A Γ ops T H with
  | none => none
  | some (T', H', fs) => match bf with
    | none => some ((.normal, T'), H', ⟨fs.flatMap (·.rd), fs.flatMap (·.wr)⟩)
    | some bf => (match heapOk bf fs with
      | true => some ((.normal, T'), H', ⟨fs.flatMap (·.rd), fs.flatMap (·.wr)⟩)
      | false => none)
def pickB {α : Type} : List Bool → List α → List α
  | true :: l, x :: r => x :: pickB l r
  | false :: l, _ :: r => pickB l r
  | _, _ => []
def spreadB : List Bool → Nat → List AV → List AV
  | _, 0, _ => []
  | true :: l, n + 1, x :: xs => x :: spreadB l n xs
  | true :: l, n + 1, [] => .any :: spreadB l n []
  | false :: l, n + 1, xs => .any :: spreadB l n xs
  | [], n + 1, _ => .any :: spreadB [] n []
def axN : AX → Nat
  | .exit i => i + 1
  | _ => 0
def keyB : List (Nat × (List Bool × (List Nat × List Nat))) → Nat → List Bool × (List Nat × List Nat)
  | [], _ => ([], ([], []))
  | (k, m) :: r, n => match Nat.beq k n with
    | true => m
    | false => keyB r n
/-- What is looked at behind a way out of a loop; what is kept for reading there; whose rows and boxes are done with. -/
def LpH.out (h : LpH) (x : AX) : List Bool := (keyB h.outs (axN x)).1
def LpH.fzo (h : LpH) (x : AX) : List Nat := (keyB h.outs (axN x)).2.1
def LpH.dlo (h : LpH) (x : AX) : List Nat := (keyB h.outs (axN x)).2.2
def nilAt (T : List AV) (t : Nat) : Bool := match T[t]? with
  | some (.v z) => isNilV z
  | _ => false
theorem nilAt_eq {T : List AV} {t : Nat} (h : nilAt T t = true) : T[t]? = some (.v (.slice none 0 0)) := by
  unfold nilAt at h
  split at h
  · rename_i z e
    rw [e, isNilV_eq h]
  · cases h
def adoptM : List (Nat × Nat) → List AV → AM (List AV)
  | [], T => AM.ret T
  | (t, e) :: r, T => match nilAt T t with
    | true => (AM.newB ⟨[], true, true⟩).bind fun b => adoptM r (T.set t (.sl b 0 0 e))
    | false => adoptM r T
/-- A row of one's own handed over for reading: from now on nobody stores into it. -/
def chunk : Nat → Nat → List AV → List (List AV)
  | 0, _, _ => []
  | n + 1, e, l => l.take e :: chunk n e (l.drop e)
/-- An empty row that is nobody's reads like any empty row. -/
def nilA (z : Value) : AV := match isNilV z with
  | true => .ls []
  | false => .v z
def frz0 (x : AV) : AM AV := match x with
  | .v z => AM.ret (nilA z)
  | .sl .. => AM.fail
  | .agg _ => AM.fail
  | .tup _ => AM.fail
  | x => AM.ret x
mutual
def frz : Nat → AV → AM AV
  | 0, x => frz0 x
  | n + 1, x => match x with
    | .v z => AM.ret (nilA z)
    | .sl b o m e => (AM.getB b).bind fun k => match Nat.ble (o + m * e) k.cells.length with
      | false => AM.fail
      | true => (match k.st with
        | true => AM.setB b { k with st := false }
        | false => AM.ret ()).bind fun _ => match (k.ex || noidL ((k.cells.drop o).take (m * e))) with
          | true => AM.ret (.ls (chunk m e ((k.cells.drop o).take (m * e))))
          | false => (frzL n ((k.cells.drop o).take (m * e))).bind fun cs => match noidL cs with
            | true => AM.ret (.ls (chunk m e cs))
            | false => AM.fail
    | .agg cs => (frzL n cs).bind fun cs => AM.ret (.agg cs)
    | .tup cs => (frzL n cs).bind fun cs => AM.ret (.tup cs)
    | x => AM.ret x
def frzL : Nat → List AV → AM (List AV)
  | _, [] => AM.ret []
  | 0, _ :: _ => AM.fail
  | n + 1, x :: r => (frz n x).bind fun x => (frzL n r).bind fun r => AM.ret (x :: r)
end
/-- The rows that lie in a box, for reading from now on. -/
def frzB (b : Nat) : AM Unit := (AM.getB b).bind fun k => match k.ex, k.st with
  | false, true => (frzL 1000 k.cells).bind fun cs => (AM.getB b).bind fun k2 => (match k2.ex, Nat.beq cs.length k2.cells.length with
    | false, true => AM.setB b { k2 with cells := cs }
    | _, _ => AM.fail)
  | _, _ => AM.ret ()
def frzT : List Nat → List AV → AM (List AV)
  | [], T => AM.ret T
  | t :: r, T => match T[t]? with
    | some (.ptr b _) => (frzB b).bind fun _ => frzT r T
    | some x => (frz 1000 x).bind fun y => frzT r (T.set t y)
    | none => frzT r T
def evC (Γ : FuncId → List AV → AM AV) (Λ : Nat → List AV → AM (AX × List AV)) : MC → List AV → AM (AX × List AV)
  | .skip, T => AM.ret (.normal, T)
  | .reg ops bf, T => regM A Γ ops bf T
  | .seq a b, T => (evC Γ Λ a T).bind fun r => match r.1 with
    | .normal => evC Γ Λ b r.2
    | ax => AM.ret (ax, r.2)
  | .cond c a b, T => (match opdA T c with
    | .v (.bool t) => (match t with
      | true => evC Γ Λ a T
      | false => evC Γ Λ b T)
    | _ => AM.fail)
  | .block id c, T => (evC Γ Λ c T).bind fun r => match r.1 with
    | .exit i => if i = id then AM.ret (.normal, r.2) else AM.ret (.exit i, r.2)
    | ax => AM.ret (ax, r.2)
  | .loop i h, T => (adoptM h.ad T).bind fun T => (frzT h.fz T).bind fun T => match Nat.beq T.length h.n with
    | true => (Λ i (pickB h.live T)).bind fun r => AM.ret (r.1, spreadB (h.out r.1) h.n r.2)
    | false => AM.fail
  | .exit id, T => AM.ret (.exit id, T)
  | .ret, T => AM.ret (.ret, T)
  | .bad, _ => AM.fail
end
end Go.Proofs.Ytlmhajfbpplpoaa
namespace Go.Proofs.Ytlmhajfbpplpoaa
open Go.RowKit

mutual
def AV.ids : AV → List Nat
  | .v _ => []
  | .ptr b _ => [b]
  | .sl b _ _ _ => [b]
  | .ls _ => []
  | .lp _ => []
  | .agg cs => idsL cs
  | .tup cs => idsL cs
  | .fn _ a c => idsL a ++ idsL c
  | .any => []
def idsL : List AV → List Nat
  | [] => []
  | x :: r => x.ids ++ idsL r
end
mutual
def AV.ren (τ : Nat → Nat) : AV → AV
  | .v x => .v x
  | .ptr b o => .ptr (τ b) o
  | .sl b o n e => .sl (τ b) o n e
  | .ls xs => .ls xs
  | .lp cs => .lp cs
  | .agg cs => .agg (renL τ cs)
  | .tup cs => .tup (renL τ cs)
  | .fn f a c => .fn f (renL τ a) (renL τ c)
  | .any => .any
def renL (τ : Nat → Nat) : List AV → List AV
  | [] => []
  | x :: r => x.ren τ :: renL τ r
end
def ABlk.ren (τ : Nat → Nat) (k : ABlk) : ABlk := match k.ex with
  | true => k
  | false => { k with cells := renL τ k.cells }
def ABlk.ids (k : ABlk) : List Nat := match k.ex with
  | true => []
  | false => idsL k.cells
/-- What became of a block. -/
inductive BO where
  | keep
  | del
  | set (k : ABlk)
def BO.ids : BO → List Nat
  | .set k => k.ids
  | _ => []
def BO.ren (τ : Nat → Nat) : BO → BO
  | .keep => .keep
  | .del => .del
  | .set k => .set (k.ren τ)
abbrev DF := List AV → List ABlk → Option (AV × List BO)
inductive Key where
  | fn (f : Nat)
  | lp (f i : Nat)
/-- What is known of functions and loops. -/
inductive Orc where
  | mk (f : Key → List AV → List ABlk → Option (AV × List BO))
  | no
def Orc.ask (D : Orc) (k : Key) (args : List AV) (bs : List ABlk) : Option (AV × List BO) := match D with
  | .mk f => f k args bs
  | .no => none

def hasN (b : Nat) : List Nat → Bool
  | [] => false
  | c :: r => match Nat.beq b c with
    | true => true
    | false => hasN b r
/-- The place in a list; the list's length if it is not there. -/
def idx (b : Nat) : List Nat → Nat
  | [] => 0
  | c :: r => match Nat.beq b c with
    | true => 0
    | false => idx b r + 1
/-- All blocks that can be reached, in order. -/
def trav : Nat → List Nat → List Nat → AM (List Nat)
  | _, [], acc => AM.ret acc
  | 0, _ :: _, _ => AM.fail
  | n + 1, b :: r, acc => match hasN b acc with
    | true => trav n r acc
    | false => (AM.getB b).bind fun k => trav n (r ++ k.ids) (acc ++ [b])
def readAll : List Nat → AM (List ABlk)
  | [] => AM.ret []
  | b :: r => (AM.getB b).bind fun k => (readAll r).bind fun l => AM.ret (k :: l)
def nextB : AM Nat := fun H => some (H.next, H, ⟨[], []⟩)
def writeAll (σ : Nat → Nat) : List Nat → List BO → AM (List BO)
  | [], out => AM.ret out
  | _ :: _, [] => AM.fail
  | b :: r, o :: out => (match o with
    | .keep => AM.ret ()
    | .del => AM.delB b
    | .set k => AM.setB b (k.ren σ)).bind fun _ => writeAll σ r out
def newAll (σ : Nat → Nat) : List BO → AM Unit
  | [] => AM.ret ()
  | .set k :: out => (AM.newB (k.ren σ)).bind fun _ => newAll σ out
  | _ :: _ => AM.fail
def nthN : List Nat → Nat → Option Nat
  | [], _ => none
  | x :: _, 0 => some x
  | _ :: r, n + 1 => nthN r n
/-- Back to the caller's numbers. -/
def backN (L : List Nat) (n c : Nat) : Nat := match nthN L c with
  | some b => b
  | none => n + (c - L.length)
def bndN (n : Nat) : List Nat → Bool
  | [] => true
  | c :: r => match Nat.blt c n with
    | true => bndN n r
    | false => false
def bndO (n : Nat) : List BO → Bool
  | [] => true
  | o :: r => match bndN n o.ids with
    | true => bndO n r
    | false => false
def callD (D : DF) (args : List AV) : AM AV :=
  (trav 4096 (idsL args) []).bind fun L => (readAll L).bind fun bs =>
    (AM.opt (D (renL (fun b => idx b L) args) (bs.map (ABlk.ren fun b => idx b L)))).bind fun r =>
      match bndN r.2.length r.1.ids, bndO r.2.length r.2 with
      | true, true => nextB.bind fun n => (writeAll (backN L n) L r.2).bind fun out => (newAll (backN L n) out).bind fun _ => AM.ret (r.1.ren (backN L n))
      | _, _ => AM.fail

/-- A run of its own. -/
def enumB : Nat → List ABlk → List (Nat × ABlk)
  | _, [] => []
  | n, k :: r => (n, k) :: enumB (n + 1) r
def outK (H : AH) (wr : List Nat) (b : Nat) : BO := match hasN b wr with
  | false => .keep
  | true => (match H.get b with
    | some k => .set k
    | none => .del)
def outN (H : AH) (b : Nat) : BO := match H.get b with
  | some k => .set k
  | none => .del
def rangeN : Nat → Nat → List Nat
  | _, 0 => []
  | a, n + 1 => a :: rangeN (a + 1) n
def runD (m : List AV → AM AV) : DF := fun args bs => match m args ⟨enumB 0 bs, bs.length, none⟩ with
  | some (r, H', ft) => some (r, (rangeN 0 bs.length).map (outK H' ft.wr) ++ (rangeN bs.length (H'.next - bs.length)).map (outN H'))
  | none => none
/-- What of the new blocks is still reached. -/
def nthO : List BO → Nat → Option BO
  | [], _ => none
  | x :: _, 0 => some x
  | _ :: r, n + 1 => nthO r n
def gcTrav (k : Nat) (out : List BO) : Nat → List Nat → List Nat → Option (List Nat)
  | _, [], acc => some acc
  | 0, _ :: _, _ => none
  | n + 1, b :: r, acc => match Nat.blt b k with
    | true => gcTrav k out n r acc
    | false => match hasN b acc with
      | true => gcTrav k out n r acc
      | false => match nthO out b with
        | some (.set kb) => gcTrav k out n (r ++ kb.ids) (acc ++ [b])
        | _ => none
def gcN (k : Nat) (acc : List Nat) (b : Nat) : Nat := match Nat.blt b k with
  | true => b
  | false => k + idx b acc
def takeO : List BO → Nat → List BO
  | [], _ => []
  | _ :: _, 0 => []
  | x :: r, n + 1 => x :: takeO r n
def idsO : List BO → List Nat
  | [] => []
  | o :: r => o.ids ++ idsO r
def pickO (τ : Nat → Nat) (out : List BO) : List Nat → List BO
  | [] => []
  | b :: r => (match nthO out b with
    | some o => o.ren τ
    | none => .del) :: pickO τ out r
def renO (τ : Nat → Nat) : List BO → List BO
  | [] => []
  | o :: r => o.ren τ :: renO τ r
def gcD (D : DF) : DF := fun args bs => match D args bs with
  | none => none
  | some (r, out) => match gcTrav bs.length out 4096 (r.ids ++ idsO (takeO out bs.length)) [] with
    | none => none
    | some acc => some (r.ren (gcN bs.length acc), renO (gcN bs.length acc) (takeO out bs.length) ++ pickO (gcN bs.length acc) out acc)

/-- Which arguments go over as they are. -/
def ownB (own : List (Nat × Nat)) (f i : Nat) : Bool := match own with
  | [] => false
  | (g, j) :: r => match Nat.beq f g, Nat.beq i j with
    | true, true => true
    | _, _ => ownB r f i
def frzA (own : List (Nat × Nat)) (f : Nat) : Nat → List AV → AM (List AV)
  | _, [] => AM.ret []
  | i, x :: r => match ownB own f i with
    | true => (frzA own f (i + 1) r).bind fun r => AM.ret (x :: r)
    | false => (frz 1000 x).bind fun x => (frzA own f (i + 1) r).bind fun r => AM.ret (x :: r)

/-- A row of one's own is given a number of its own anew: so a result's form tells nothing of the way to it. -/
def touchS (x : AV) : AM AV := match x with
  | .sl b o n e => (AM.getB b).bind fun k => match k.ex with
    | true => (AM.delB b).bind fun _ => (AM.newB k).bind fun c => AM.ret (.sl c o n e)
    | false => AM.ret (.sl b o n e)
  | x => AM.ret x
def touchL : List AV → AM (List AV)
  | [] => AM.ret []
  | x :: r => (touchS x).bind fun x => (touchL r).bind fun r => AM.ret (x :: r)
/-- The rows that lie in a box. -/
def touchB (b : Nat) : AM Unit := (AM.getB b).bind fun k => match k.ex, k.st with
  | false, true => (touchL k.cells).bind fun cs => (AM.getB b).bind fun k2 => (match k2.ex, Nat.beq cs.length k2.cells.length with
    | false, true => AM.setB b { k2 with cells := cs }
    | _, _ => AM.fail)
  | _, _ => AM.ret ()
def touchI : List Nat → AM Unit
  | [] => AM.ret ()
  | b :: r => (touchB b).bind fun _ => touchI r
def touchV (x : AV) : AM AV := match x with
  | .sl b o n e => touchS (.sl b o n e)
  | .agg cs => (touchL cs).bind fun cs => (touchI (idsL cs)).bind fun _ => AM.ret (.agg cs)
  | x => (touchI x.ids).bind fun _ => AM.ret x
def touchA : List AV → AM (List AV)
  | [] => AM.ret []
  | x :: r => (touchV x).bind fun x => (touchA r).bind fun r => AM.ret (x :: r)

def delT : List Nat → List AV → AM Unit
  | [], _ => AM.ret ()
  | t :: r, T => match T[t]? with
    | some (.sl b _ _ _) => (AM.delB b).bind fun _ => delT r T
    | some (.ptr b _) => (AM.delB b).bind fun _ => delT r T
    | _ => delT r T

inductive MRes where
  | tmp (t : Nat)
  | cell (t : Nat) (row : Bool) (n : Nat)
structure MFn where
  nt : Nat
  res : List MRes
  body : MC
  loops : List (LpH × MC)
  own : Bool
  tch : Bool
def resM (T : List AV) : List MRes → AM (List AV)
  | [] => AM.ret []
  | .tmp t :: r => (resM T r).bind fun l => AM.ret ((T[t]?).getD AV.undef :: l)
  | .cell x row n :: r => (loadM row n ((T[x]?).getD AV.undef)).bind fun v => (resM T r).bind fun l => AM.ret (v :: l)
def axA : AX → AV
  | .normal => .v (.bool false)
  | .ret => .v (.bool true)
  | .exit i => .v (.int .i64 (Int.ofNat i))
  | .goto _ => .any
def axOf : AV → Option AX
  | .v (.bool true) => some .ret
  | .v (.bool false) => some .normal
  | .v (.int .i64 (.ofNat i)) => some (.exit i)
  | _ => none
section
variable (A : Ar) (D : Orc) (own : List (Nat × Nat))
def callsM (f : FuncId) (args : List AV) : AM AV := (frzA own f 0 args).bind fun l => callD (D.ask (.fn f)) l
def loopsM (f i : Nat) (xs : List AV) : AM (AX × List AV) := (callD (D.ask (.lp f i)) xs).bind fun r => match r with
  | .tup (x :: ys) => (match axOf x with
    | some ax => AM.ret (ax, ys)
    | none => AM.fail)
  | _ => AM.fail
def fnM (f : Nat) (mf : MFn) (args : List AV) : AM AV := (evC A (callsM D own) (loopsM D f) mf.body (frame0 mf.nt args)).bind fun r => match r.1 with
  | .exit _ => AM.fail
  | .goto _ => AM.fail
  | _ => (resM r.2 mf.res).bind fun l => (match mf.own with
    | true => AM.ret (tupA l)
    | false => frz 1000 (tupA l)).bind fun v => match mf.tch with
      | true => (touchI (idsL args)).bind fun _ => AM.ret v
      | false => AM.ret v
/-- One round of a loop, and the rounds behind it. -/
def lpM (f i : Nat) (h : LpH) (c : MC) (xs : List AV) : AM AV := (evC A (callsM D own) (loopsM D f) c (spreadB h.live h.n xs)).bind fun r => match r.1 with
  | .normal => (frzT h.fz r.2).bind fun T => (loopsM D f i (pickB h.live T)).bind fun q => AM.ret (.tup (axA q.1 :: q.2))
  | .goto _ => AM.fail
  | ax => (frzT (h.fzo ax) r.2).bind fun T => (delT (h.dlo ax) T).bind fun _ => (touchA (pickB (h.out ax) T)).bind fun ys => AM.ret (.tup (axA ax :: ys))
end
end Go.Proofs.Ytlmhajfbpplpoaa
namespace Go.Proofs.Ytlmhajfbpplpoaa
open Go.RowKit

section
variable (P : Program)
/-- A type whose value is one cell that is compared as it stands: 0 int, 1 bool, 2 string. -/
def plainT (t : TypeId) : Option Nat := match P.underlying t with
  | some .bool => some 1
  | some (.int _) => some 0
  | some .string => some 2
  | _ => none
def flatS : List Field → Nat → Option (List Nat)
  | [], _ => some []
  | f :: r, n => if (f.offset == n && f.name != "_" && (isRowT P f.type == some false)) = true then (match plainT P f.type, flatS r (n + 1) with
    | some k, some ks => some (k :: ks)
    | _, _ => none) else none
def eqS (t : TypeId) : Option (List Nat) := match P.underlying t with
  | some (.struct fs) => if (!P.stoodInHeld t && !P.eqGuardType P.depth t) = true then flatS P fs.toList 0 else none
  | _ => none
/-- 1 pointer, 2 slice, 3 function, 4 bool, 9 else. -/
def kindT (t : TypeId) : Nat := match P.underlying t with
  | some (.pointer _) => 1
  | some (.slice _) => 2
  | some (.func ..) => 3
  | some .bool => 4
  | some (.int _) => 0
  | some .string => 0
  | _ => 9
/-- Size of an element, its zero, its bytes; only where append and the like go over well-formed zeros. -/
def elemI (t : TypeId) : Option (Nat × List Value × Nat) := match elemT P t with
  | some et => (match P.info? et, zeroT P et with
    | some i, some z => if z.cells.size = i.size ∧ 0 < i.size then some (i.size, z.cells.toList, i.bytes) else none
    | _, _ => none)
  | none => none
def compOp (ents : Nat) (o : Op) : MO := match o with
  | .move x => .mv x
  | .assign x => .mv x
  | .pick c a b => .pick c a b
  | .alloc t => (match zeroT P t with
    | some z => .alloc z.cells.toList
    | none => .bad)
  | .box _ x => .box x
  | .build t ps => (match zeroT P t, fieldsT P t with
    | some z, some fs => (match placesT P fs.toList with
      | some pl => .buildS z.cells.toList pl ps.toList
      | none => .bad)
    | some z, none => (match arrET P t with
      | some et => (match szT P et with
        | some e => .buildR z.cells.toList e ps.toList
        | none => .bad)
      | none => .bad)
    | _, _ => .bad)
  | .buildSlice t n ps => (match elemT P t with
    | some et => (match szT P et, zeroT P et with
      | some e, some z => .buildSl z.cells.toList e n ps.toList
      | _, _ => .bad)
    | none => .bad)
  | .load t a => (match isRowT P t, szT P t with
    | some true, some n => .ld true n a
    | some false, _ => .ld false 0 a
    | _, _ => .bad)
  | .store t a x => (match szT P t with
    | some n => .st n a x
    | none => .bad)
  | .nilCheck x => .nilck x
  | .binOp b t x y _ => (match eqS P t with
    | some ks => (match b with
      | .eql => .eqs false ks x y
      | .neq => .eqs true ks x y
      | _ => .bad)
    | none => (match kindT P t with
      | 9 => .bad
      | k => .bin k b x y))
  | .unOp .not _ x => .not x
  | .makeFunc f a c => .mkfn f a.toList c.toList
  | .slice t x lo hi none => (match elemT P t with
    | some et => (match szT P et with
      | some e => .slice e x lo hi
      | none => .bad)
    | none => if isStringT P t then .sslice x lo hi else .bad)
  | .fieldAddr t a f => (match fieldsT P t with
    | some fs => (match fs[f]? with
      | some fd => (match szT P fd.type with
        | some (_ + 1) => .faddr fd.offset a
        | _ => .bad)
      | none => .bad)
    | none => .bad)
  | .field t x f => (match fieldsT P t with
    | some fs => (match fs[f]? with
      | some fd => (match isRowT P fd.type, szT P fd.type with
        | some true, some n => .field true fd.offset n x
        | some false, _ => .field false fd.offset 0 x
        | _, _ => .bad)
      | none => .bad)
    | none => .bad)
  | .indexAddr t x i => (match elemT P t, arrT P t with
    | some et, _ => (match szT P et with
      | some e => .iaddr e x i
      | none => .bad)
    | none, some (n, et) => (match szT P et with
      | some e => .aaddr n e x i
      | none => .bad)
    | _, _ => .bad)
  | .index t x i => (match arrT P t with
    | some (n, et) => (match szT P et, isRowT P et with
      | some e, some true => .index n e true e x i
      | some e, some false => .index n e false 0 x i
      | _, _ => .bad)
    | none => if isStringT P t then .sidx x i else .bad)
  | .convert s d x => (match P.underlying s, P.underlying d with
    | some (.int _), some (.int k) => .iconv k x
    | _, _ => .bad)
  | .extract x i => .ext x i
  | .makeSlice t l c => (match elemI P t with
    | some (e, z, by') => .mksl z e by' l c
    | none => .bad)
  | .call c => (match c.callee with
    | .builtin .append => (match c.args.toList, c.argTypes.toList with
      | [s, x], [t, u] => (match elemI P t, isSliceT P u with
        | some (e, _, by'), true => .app e by' s x
        | _, _ => .bad)
      | _, _ => .bad)
    | .builtin .copy => (match c.args.toList, c.argTypes.toList with
      | [d, x], [t, u] => (match elemT P t, isSliceT P u with
        | some et, true => (match szT P et with
          | some e => .cpy e d x
          | none => .bad)
        | _, _ => .bad)
      | _, _ => .bad)
    | .builtin .len => (match c.args.toList, c.argTypes.toList with
      | [x], [t] => if isSliceT P t then .len true x else if isStringT P t then .len false x else .bad
      | _, _ => .bad)
    | .builtin .max => (match c.args.toList with
      | [x, y] => .mx x y
      | _ => .bad)
    | .builtin .min => (match c.args.toList with
      | [x, y] => .mn x y
      | _ => .bad)
    | .builtin _ => .bad
    | .value f => (match f with
      | .func g => if enterable P g then .callF g c.args.toList else .bad
      | _ => .callV ents f c.args.toList)
    | .invoke .. => .bad)
  | _ => .bad
/-- A guard by the temporary that it looks at. -/
def compG (ops : Array Oper) (g : Option (Nat × Bool)) : Option (Option (Nat × Bool)) := match g with
  | none => some none
  | some (j, want) => match (ops[j]?).bind (·.dst) with
    | some d => some (some (d, want))
    | none => none
def compO (ents : Nat) (ops : Array Oper) (o : Oper) : MOp := match compG ops o.guard with
  | some g => ⟨o.dst, compOp P ents o.op, g⟩
  | none => ⟨o.dst, .bad, none⟩
abbrev Hints := List LpH
def compC (ents : Nat) (hs : Hints) : Code → Nat → MC × List (LpH × MC)
  | .skip, _ => (.skip, [])
  | .region _ ops d, _ => (.reg (ops.toList.map (compO P ents ops)) (if d then some (bef ops) else none), [])
  | .seq a b, n => match compC ents hs a n with
    | (ma, la) => match compC ents hs b (n + la.length) with
      | (mb, lb) => (.seq ma mb, la ++ lb)
  | .cond c a b, n => match compC ents hs a n with
    | (ma, la) => match compC ents hs b (n + la.length) with
      | (mb, lb) => (.cond c ma mb, la ++ lb)
  | .block id c, n => match compC ents hs c n with
    | (mc, lc) => (.block id mc, lc)
  | .loop c, n => match compC ents hs c (n + 1), hs[n]? with
    | (mc, lc), some h => (.loop n h, (h, mc) :: lc)
    | (mc, lc), none => (.bad, (⟨0, [], [], [], []⟩, mc) :: lc)
  | .exit id, _ => (.exit id, [])
  | .ret, _ => (.ret, [])
  | _, _ => (.bad, [])
def compR (rs : List ResultVar) : List MRes := rs.map fun r => match r with
  | .tmp t => .tmp t
  | .cell t ty => match isRowT P ty, szT P ty with
    | some true, some n => .cell t true n
    | some false, _ => .cell t false 0
    | _, _ => .tmp 1000000
end
end Go.Proofs.Ytlmhajfbpplpoaa
