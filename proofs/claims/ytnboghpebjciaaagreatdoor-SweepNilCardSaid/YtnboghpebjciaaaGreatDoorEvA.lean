/-
  An evaluator for closed runs of a program of the model, in Lean, and what its values, its heap and its tables mean in a world of the machine: laws of one step each; no condition.
-/
import GoSem.Claims
import Derived.Orders
import Derived.Lib.Bytealg
import Derived.Below
import Derived.Laws.Cells
import Derived.Laws.Sem
import Derived.Laws.StructEq
set_option linter.unusedSectionVars false
set_option linter.unusedVariables false
set_option linter.unusedSimpArgs false
namespace Go.Proofs.YtnboghpebjciaaaGreatDoor.Ev

/-! Binary tries keyed by numbers. -/
inductive Bt (α : Type) where
  | lf
  | nd (l : Bt α) (v : Option α) (r : Bt α)

namespace Bt
variable {α : Type}
def get : Bt α → Nat → Option α
  | .lf, _ => none
  | .nd l v r, i => match i with
    | 0 => v
    | j + 1 => match Nat.mod j 2 with
      | 0 => l.get (Nat.div j 2)
      | _ + 1 => r.get (Nat.div j 2)
def left : Bt α → Bt α
  | .lf => .lf
  | .nd l _ _ => l
def right : Bt α → Bt α
  | .lf => .lf
  | .nd _ _ r => r
def top : Bt α → Option α
  | .lf => none
  | .nd _ v _ => v
def put (x : Option α) : Nat → Bt α → Nat → Bt α
  | 0, t, _ => t
  | f + 1, t, i => match i with
    | 0 => .nd t.left x t.right
    | j + 1 => match Nat.mod j 2 with
      | 0 => .nd (put x f t.left (Nat.div j 2)) t.top t.right
      | _ + 1 => .nd t.left t.top (put x f t.right (Nat.div j 2))
end Bt

/-! Tables keyed by numbers: 512 places, eight by eight by eight, and a trie for the rest. -/
structure N8 (α : Type) where
  (a b c d e f g h : α)
inductive D8 where
  | a | b | c | d | e | f | g | h
  deriving DecidableEq
def D8.of : Nat → D8
  | 0 => .a
  | 1 => .b
  | 2 => .c
  | 3 => .d
  | 4 => .e
  | 5 => .f
  | 6 => .g
  | _ => .h
def N8.get {α : Type} (n : N8 α) : D8 → α
  | .a => n.a
  | .b => n.b
  | .c => n.c
  | .d => n.d
  | .e => n.e
  | .f => n.f
  | .g => n.g
  | .h => n.h
def N8.set {α : Type} (n : N8 α) (i : D8) (x : α) : N8 α := match i with
  | .a => ⟨x, n.b, n.c, n.d, n.e, n.f, n.g, n.h⟩
  | .b => ⟨n.a, x, n.c, n.d, n.e, n.f, n.g, n.h⟩
  | .c => ⟨n.a, n.b, x, n.d, n.e, n.f, n.g, n.h⟩
  | .d => ⟨n.a, n.b, n.c, x, n.e, n.f, n.g, n.h⟩
  | .e => ⟨n.a, n.b, n.c, n.d, x, n.f, n.g, n.h⟩
  | .f => ⟨n.a, n.b, n.c, n.d, n.e, x, n.g, n.h⟩
  | .g => ⟨n.a, n.b, n.c, n.d, n.e, n.f, x, n.h⟩
  | .h => ⟨n.a, n.b, n.c, n.d, n.e, n.f, n.g, x⟩
def N8.all {α : Type} (x : α) : N8 α := ⟨x, x, x, x, x, x, x, x⟩
structure Tr (α : Type) where
  r : N8 (N8 (N8 (Option α)))
  o : Bt α
namespace Tr
variable {α : Type}
def lf : Tr α := ⟨.all (.all (.all none)), .lf⟩
def hi (i : Nat) : D8 := .of (Nat.div i 64)
def mi (i : Nat) : D8 := .of (Nat.mod (Nat.div i 8) 8)
def lo (i : Nat) : D8 := .of (Nat.mod i 8)
def get (t : Tr α) (i : Nat) : Option α := bif Nat.blt i 512 then ((t.r.get (hi i)).get (mi i)).get (lo i) else t.o.get i
def upd (t : Tr α) (i : Nat) (x : Option α) : Tr α :=
  bif Nat.blt i 512 then ⟨t.r.set (hi i) ((t.r.get (hi i)).set (mi i) (((t.r.get (hi i)).get (mi i)).set (lo i) x)), t.o⟩ else ⟨t.r, t.o.put x (i + 1) i⟩
def set (t : Tr α) (i : Nat) (x : α) : Tr α := t.upd i (some x)
def del (t : Tr α) (i : Nat) : Tr α := t.upd i none
end Tr

/-- A value of the machine's that is not looked into: known, or one of those given by number (of one cell each). -/
inductive Sy where
  | val (x : Value)
  | sym (i : Nat)
  deriving Inhabited
inductive V where
  | bool (b : Bool)
  | int (k : IntKind) (n : Int)
  | str (s : List UInt8)
  | nilp
  | ptr (b off : Nat)
  | gp (g off : Nat)
  | snil
  | sl (b off len cap : Nat) (op : Bool)
  | e0 (b off off1 : Nat)
  | mnil
  | mp (b : Nat)
  | fn (f : Fn) (first cap : List V)
  | nilf
  | iface (t : TypeId) (v : V)
  | nili
  | agg (l : List V)
  | tup (l : List V)
  | opq (x : Sy)
  deriving Inhabited

def V.undef : V := .tup []
def V.scalar : V → Bool
  | .agg _ | .tup _ | .opq (.val _) => false
  | _ => true

/-- The cells of a row: written out, or a repeated pattern with what is written over it. -/
inductive C where
  | l (xs : List V)
  | s (z : List V) (t : Tr V)

inductive O where
  | cells (n : Nat) (c : C) (esz : Nat)
  | map (es : List (V × V × Nat)) (clock : Nat)
  | mapIter (m : Option Nat) (since : Nat) (seen : List Nat) (stepped : Nat)
  | strIter (s : List UInt8) (pos : Nat)
  | loop (st : LoopState) (pending : Option Code) (fn : FuncId) (e : Tr V) (sz : Nat) (params : Array Tmp) (assign body : Code) (defers : Nat)
  | dfr (opened : Bool)

structure H where
  t : Tr O
  n : Nat

def nth {α : Type} : List α → Nat → Option α
  | [], _ => none
  | x :: xs, i => match i with
    | 0 => some x
    | j + 1 => nth xs j

def C.get : C → Nat → Option V
  | .l xs, i => nth xs i
  | .s z t, i => match t.get i with
    | some v => some v
    | none => nth z (Nat.mod i z.length)

def C.range (c : C) : Nat → Nat → Option (List V)
  | _, 0 => some []
  | i, n + 1 => match c.get i with
    | none => none
    | some v => match c.range (i + 1) n with
      | none => none
      | some vs => some (v :: vs)

def setNth {α : Type} (x : α) : List α → Nat → List α
  | [], _ => []
  | y :: ys, i => match i with
    | 0 => x :: ys
    | j + 1 => y :: setNth x ys j

def C.set (c : C) (i : Nat) (v : V) : C := match c with
  | .l xs => .l (setNth v xs i)
  | .s z t => .s z (t.set i v)

def C.put : C → Nat → List V → C
  | c, _, [] => c
  | c, i, v :: vs => (c.set i v).put (i + 1) vs

def H.add (h : H) (o : O) : H := ⟨h.t.set h.n o, h.n + 1⟩
def H.set (h : H) (b : Nat) (o : O) : H := ⟨h.t.set b o, h.n⟩
def H.del (h : H) (b : Nat) : H := ⟨h.t.del b, h.n⟩

def small : Nat := 40
def C.ofList (l : List V) : C := bif Nat.ble l.length small then .l l else (C.s [] .lf).put 0 l
/-- `n` times the pattern `z`. -/
def rep (z : List V) : Nat → List V
  | 0 => []
  | n + 1 => z ++ rep z n
def C.zeros (z : List V) (n zn : Nat) : C := bif Nat.ble (Nat.mul n zn) small then .l (rep z n) else .s z .lf

def V.cells : V → List V
  | .agg l => l
  | .opq (.val x) => x.cells.toList.map fun x => .opq (.val x)
  | v => [v]

/-! Numbers. -/
def wrapU (m : Nat) : Int → Int
  | .ofNat n => .ofNat (Nat.mod n m)
  | .negSucc n => .ofNat (Nat.sub (Nat.sub m 1) (Nat.mod n m))
def wrapS (h m : Nat) : Int → Int
  | .ofNat n => bif Nat.blt n h then .ofNat n else
      bif Nat.blt (Nat.mod n m) h then .ofNat (Nat.mod n m) else .negSucc (Nat.sub (Nat.sub m 1) (Nat.mod n m))
  | .negSucc n => bif Nat.blt n h then .negSucc n else
      bif Nat.blt (Nat.mod n m) h then .negSucc (Nat.mod n m) else .ofNat (Nat.sub (Nat.sub m 1) (Nat.mod n m))
def wrapK : IntKind → Int → Int
  | .i64, n => wrapS 9223372036854775808 18446744073709551616 n
  | .u64, n => wrapU 18446744073709551616 n
  | .u8, n => wrapU 256 n
  | .u32, n => wrapU 4294967296 n
  | .i32, n => wrapS 2147483648 4294967296 n
  | .u16, n => wrapU 65536 n
  | .i16, n => wrapS 32768 65536 n
  | .i8, n => wrapS 128 256 n
def modK : IntKind → Nat
  | .i64 | .u64 => 18446744073709551616
  | .i32 | .u32 => 4294967296
  | .i16 | .u16 => 65536
  | .i8 | .u8 => 256
def toU (k : IntKind) : Int → Nat
  | .ofNat n => Nat.mod n (modK k)
  | .negSucc n => Nat.sub (Nat.sub (modK k) 1) (Nat.mod n (modK k))
def ltI : Int → Int → Bool
  | .ofNat a, .ofNat b => Nat.blt a b
  | .negSucc _, .ofNat _ => true
  | .ofNat _, .negSucc _ => false
  | .negSucc a, .negSucc b => Nat.blt b a
def eqI : Int → Int → Bool
  | .ofNat a, .ofNat b => Nat.beq a b
  | .negSucc a, .negSucc b => Nat.beq a b
  | _, _ => false
def eqK : IntKind → IntKind → Bool
  | .i8, .i8 | .i16, .i16 | .i32, .i32 | .i64, .i64 | .u8, .u8 | .u16, .u16 | .u32, .u32 | .u64, .u64 => true
  | _, _ => false
def bitsK : IntKind → Nat
  | .i64 | .u64 => 64
  | .i32 | .u32 => 32
  | .i16 | .u16 => 16
  | .i8 | .u8 => 8
def shlI (x : Int) (n : Nat) : Int := match x with
  | .ofNat a => .ofNat (Nat.shiftLeft a n)
  | .negSucc a => .negSucc (Nat.sub (Nat.shiftLeft (Nat.succ a) n) 1)
def shrI (x : Int) (n : Nat) : Int := match x with
  | .ofNat a => .ofNat (Nat.shiftRight a n)
  | .negSucc a => .negSucc (Nat.shiftRight a n)
def eqS : List UInt8 → List UInt8 → Bool
  | [], [] => true
  | a :: x, b :: y => bif Nat.beq a.toNat b.toNat then eqS x y else false
  | _, _ => false
def ltS : List UInt8 → List UInt8 → Bool
  | _, [] => false
  | [], _ :: _ => true
  | a :: x, b :: y => bif Nat.blt a.toNat b.toNat then true else bif Nat.beq a.toNat b.toNat then ltS x y else false

def binInt (op : BinOp) (k : IntKind) (a b : Int) : Option V :=
  match op with
  | .add => some (.int k (wrapK k (a + b)))
  | .sub => some (.int k (wrapK k (a - b)))
  | .mul => some (.int k (wrapK k (a * b)))
  | .quo => bif eqI b 0 then none else some (.int k (wrapK k (a.tdiv b)))
  | .rem => bif eqI b 0 then none else some (.int k (a.tmod b))
  | .and => some (.int k (wrapK k (.ofNat (Nat.land (toU k a) (toU k b)))))
  | .or => some (.int k (wrapK k (.ofNat (Nat.lor (toU k a) (toU k b)))))
  | .xor => some (.int k (wrapK k (.ofNat (Nat.xor (toU k a) (toU k b)))))
  | .andNot => some (.int k (wrapK k (.ofNat (Nat.xor (toU k a) (Nat.land (toU k a) (toU k b))))))
  | .eql => some (.bool (eqI a b))
  | .neq => some (.bool (!eqI a b))
  | .lss => some (.bool (ltI a b))
  | .leq => some (.bool (!ltI b a))
  | .gtr => some (.bool (ltI b a))
  | .geq => some (.bool (!ltI a b))
  | _ => none
def binStr (op : BinOp) (a b : List UInt8) : Option V :=
  match op with
  | .add => bif Nat.ble (Nat.add a.length b.length) 1000000000 then some (.str (a ++ b)) else none
  | .eql => some (.bool (eqS a b))
  | .neq => some (.bool (!eqS a b))
  | .lss => some (.bool (ltS a b))
  | .leq => some (.bool (!ltS b a))
  | .gtr => some (.bool (ltS b a))
  | .geq => some (.bool (!ltS a b))
  | _ => none

/-! Equality by type. -/
def szOf (p : Program) (t : TypeId) : Option Nat := match p.info? t with
  | some i => some i.size
  | none => none
def partV (p : Program) (t : TypeId) (cs : List V) (off : Nat) : Option V :=
  match p.underlying t with
  | some (.struct _) | some (.array _ _) => some (.agg ((cs.drop off).take (p.cellsOf t)))
  | some _ => nth cs off
  | none => none

def eqFields (p : Program) (eq : TypeId → V → V → Option Bool) (xs ys : List V) : List Field → Option Bool
  | [] => some true
  | f :: fs =>
    match partV p f.type xs f.offset, partV p f.type ys f.offset with
    | some x, some y => match eq f.type x y with
      | some true => bif f.name == "_" then none else eqFields p eq xs ys fs
      | some false => bif f.name == "_" then none else some false
      | none => none
    | _, _ => none
def eqElems (p : Program) (eq : TypeId → V → V → Option Bool) (elem n : Nat) (xs ys : List V) : Nat → Nat → Option Bool
  | 0, _ => some true
  | k + 1, i => match partV p elem xs (Nat.mul i n), partV p elem ys (Nat.mul i n) with
    | some x, some y => match eq elem x y with
      | some true => eqElems p eq elem n xs ys k (Nat.succ i)
      | some false => some false
      | none => none
    | _, _ => none
def eqV (p : Program) : Nat → TypeId → V → V → Option Bool
  | 0, _, _, _ => none
  | d + 1, t, x, y =>
    match x, y with
    | .bool a, .bool b => match p.underlying t with
      | some .bool => some (a == b)
      | _ => none
    | .int k a, .int k' b => match p.underlying t with
      | some (.int _) => bif eqK k k' then some (eqI a b) else none
      | _ => none
    | .str a, .str b => match p.underlying t with
      | some .string => some (eqS a b)
      | _ => none
    | .agg xs, .agg ys => match p.underlying t with
      | some (.struct fs) => bif p.stoodInHeld t then none else eqFields p (eqV p d) xs ys fs.toList
      | some (.array len elem) => match szOf p elem with
        | some n => eqElems p (eqV p d) elem n xs ys len 0
        | none => none
      | _ => none
    | x, y => match p.underlying t with
      | some (.pointer _) => match x, y with
        | .nilp, .nilp => some true
        | .nilp, .ptr .. | .ptr .., .nilp => some false
        | _, _ => none
      | some (.interface _) => match x, y with
        | .nili, .nili => some true
        | .nili, .iface .. | .iface .., .nili => some false
        | _, _ => none
      | some (.slice _) => match x, y with
        | .snil, .snil => some true
        | .snil, .sl .. | .sl .., .snil | .snil, .e0 .. | .e0 .., .snil => some false
        | _, _ => none
      | some (.map _ _) => match x, y with
        | .mnil, .mnil => some true
        | .mnil, .mp _ | .mp _, .mnil => some false
        | _, _ => none
      | some (.func _ _ _) => match x, y with
        | .nilf, .nilf => some true
        | .nilf, .fn .. | .fn .., .nilf => some false
        | _, _ => none
      | _ => none
def eqDepth : Nat := 9999

/-- May a value be a key? (No interfaces; arrays of single cells alone.) -/
def chkV (p : Program) : Nat → TypeId → V → Bool
  | 0, _, _ => false
  | d + 1, t, v => match p.underlying t with
    | some (.interface _) => false
    | some (.array len elem) => match v, p.underlying elem, szOf p elem with
      | .agg _, some (.interface _), _ => false
      | .agg _, some (.array _ _), _ => false
      | .agg _, some (.struct _), _ => false
      | .agg cs, some _, some n => Nat.beq n 1 && Nat.ble len cs.length && Nat.ble 1 d
      | _, _, _ => false
    | some (.struct fs) => match v with
      | .agg cs => fs.toList.all fun f => f.name == "_" || (match partV p f.type cs f.offset with
        | some x => chkV p d f.type x
        | none => false)
      | _ => false
    | some _ => true
    | none => false
/-- Plain data: numbers, bools, strings, and rows of these. -/
def flat : V → Bool
  | .bool _ | .int _ _ | .str _ => true
  | _ => false
def plainV : V → Bool
  | .agg l => l.all flat
  | v => flat v
/-- Where a key stands. -/
inductive Fnd where
  | no
  | at_ (i : Nat) (key v : V) (born : Nat)
def findE (p : Program) (kt : TypeId) (k : V) : Nat → List (V × V × Nat) → Option Fnd
  | _, [] => some .no
  | i, (x, v, born) :: es => match eqV p (Nat.succ eqDepth) kt k x with
    | some true => some (.at_ i x v born)
    | some false => findE p kt k (Nat.succ i) es
    | none => none

/-! Equality of what is written. -/
mutual
def V.beq : V → V → Bool
  | .bool a, .bool b => a == b
  | .int k a, .int j b => eqK k j && eqI a b
  | .str a, .str b => eqS a b
  | .nilp, .nilp => true
  | .ptr a o, .ptr b q => Nat.beq a b && Nat.beq o q
  | .gp a o, .gp b q => Nat.beq a b && Nat.beq o q
  | .snil, .snil => true
  | .e0 a o l, .e0 b q m => Nat.beq a b && Nat.beq o q && Nat.beq l m
  | .sl a o l c p, .sl b q m d r => Nat.beq a b && Nat.beq o q && Nat.beq l m && Nat.beq c d && p == r
  | .mnil, .mnil => true
  | .mp a, .mp b => Nat.beq a b
  | .nilf, .nilf => true
  | .iface t v, .iface u w => Nat.beq t u && V.beq v w
  | .nili, .nili => true
  | .opq (.sym i), .opq (.sym j) => Nat.beq i j
  | .agg l, .agg m => V.beqL l m
  | .tup l, .tup m => V.beqL l m
  | .fn (.func f) a c, .fn (.func g) b d => Nat.beq f g && V.beqL a b && V.beqL c d
  | _, _ => false
def V.beqL : List V → List V → Bool
  | [], [] => true
  | a :: x, b :: y => V.beq a b && V.beqL x y
  | _, _ => false
end
def beqE : List (V × V × Nat) → List (V × V × Nat) → Bool
  | [], [] => true
  | (a, b, n) :: x, (c, d, m) :: y => V.beq a c && V.beq b d && Nat.beq n m && beqE x y
  | _, _ => false

/-! Values. -/
def ofScalar : Value → V
  | .bool b => .bool b
  | .int k n => .int k n
  | .string s => .str s.data.toList
  | .pointer none => .nilp
  | .slice none 0 0 => .snil
  | .map none => .mnil
  | .nilFunc => .nilf
  | .nilIface => .nili
  | x => .opq (.val x)
def ofConst : Value → V
  | .agg cs => .agg (cs.toList.map ofScalar)
  | .tuple vs => .tup (vs.toList.map ofScalar)
  | .func (.func f) ⟨[]⟩ ⟨[]⟩ => .fn (.func f) [] []
  | x => ofScalar x

/-- A deferred call of a frame: a function value's, or the mark of a loop over a function. -/
inductive D where
  | coll (b : Nat)
  | fn (f : FuncId) (args : List V)

structure S where
  e : Tr V
  sz : Nat
  h : H
  d : List D

def evT (e : Tr V) (t : Nat) : V := match e.get t with
  | some v => v
  | none => .undef
def S.ev (s : S) : Operand → V
  | .tmp t => evT s.e t
  | .const v => ofConst v
  | .global g => .gp g 0
  | .func f => .fn (.func f) [] []

/-- The three functions without a body that are known. -/
inductive Ext where
  | indexByte
  | count
  | compare

/-- The result of a call. -/
inductive E where
  | ret (v : V) (h : H)
  | pan (v : V) (h : H)

/-- A step of a drawn region's plan: a quiet operation, or another one (and those that may come ahead of it). -/
inductive PI where
  | q (i : Nat)
  | l (i : Nat) (es : List Nat)
/-- The program; what the listed package-level variables hold; which functions are those without a body; whose ways are to be made one. -/
structure K where
  p : Program
  gl : Nat → Option (List V)
  ex : FuncId → Option Ext
  mg : FuncId → Bool
  orc : FuncId → List V → H → Option (List E) := fun _ _ _ => none
  pl : FuncId → Nat → Option (List PI) := fun _ _ => none

def isAggT (p : Program) (t : TypeId) : Option Bool :=
  match p.underlying t with
  | some (.struct _) | some (.array _ _) => some true
  | some _ => some false
  | none => none
def loadC (p : Program) (t : TypeId) (c : C) (off n : Nat) : Option V :=
  match isAggT p t with
  | some true => bif Nat.ble (Nat.add off (p.cellsOf t)) n then (match c.range off (p.cellsOf t) with
    | some l => some (.agg l)
    | none => none) else none
  | some false => bif Nat.blt off n then c.get off else none
  | none => none
def loadAt (k : K) (t : TypeId) (h : H) : V → Option V
  | .ptr b off => match h.t.get b with
    | some (.cells n c _) => loadC k.p t c off n
    | _ => none
  | .gp g off => match k.gl g with
    | some xs => loadC k.p t (.l xs) off xs.length
    | none => none
  | _ => none
def storeC (h : H) (b off : Nat) (vs : List V) : Option H :=
  match h.t.get b with
  | some (.cells n c z) => bif Nat.ble (Nat.add off vs.length) n && vs.all V.scalar then some (h.set b (.cells n (c.put off vs) z)) else none
  | _ => none
def storeAt (p : Program) (t : TypeId) (h : H) (x : V) : V → Option H
  | .ptr b off => match szOf p t with
    | some n => bif Nat.beq x.cells.length n then storeC h b off x.cells else none
    | none => none
  | _ => none
/-- The zero value, if it has as many cells as its type. -/
def zeroOf (p : Program) (t : TypeId) : Option V := match p.info? t with
  | some i => match i.zero with
    | some z => bif Nat.beq (ofConst z).cells.length i.size then some (ofConst z) else none
    | none => none
  | none => none

def fieldOf (p : Program) (s : TypeId) (f : Nat) : Option Field :=
  match p.underlying s with
  | some (.struct fs) => fs[f]?
  | _ => none
def elemOfT (p : Program) (t : TypeId) : Option TypeId :=
  match p.underlying t with
  | some (.slice e) => some e
  | _ => none

def natOf : V → Option Nat
  | .int _ (.ofNat n) => some n
  | _ => none
def bound (m : Nat) : Option V → Nat → Option Nat
  | none, d => some d
  | some v, _ => match natOf v with
    | some n => bif Nat.ble n m then some n else none
    | none => none
/-- The bounds of a slice expression: from, to, the capacity's end. -/
def bounds (len cap : Nat) (lo hi mx : Option V) : Option (Nat × Nat × Nat) :=
  match hi, mx with
  | none, some _ => none
  | _, _ => match bound cap mx cap with
    | none => none
    | some m => match bound m hi len with
      | none => none
      | some h => bif Nat.ble h m then (match bound h lo 0 with
        | none => none
        | some l => some (l, h, m)) else none
def sliceOf (b off size l h m : Nat) (op : Bool) : V :=
  .sl b (bif Nat.beq m l then off else Nat.add off (Nat.mul l size)) (Nat.sub h l) (Nat.sub m l) op
def sliceV (p : Program) (t : TypeId) (x : V) (lo hi mx : Option V) : Option V :=
  match p.underlying t with
  | some .string => match x, mx with
    | .str s, none => match bounds s.length s.length lo hi none with
      | some (l, h, _) => some (.str ((s.drop l).take (Nat.sub h l)))
      | none => none
    | _, _ => none
  | some (.slice e) => match x with
    | .sl b off len cap op => match bounds len cap lo hi mx, szOf p e with
      | some (l, h, m), some z => match mx with
        | none => bif op && Nat.beq m l then some (.e0 b off (Nat.add off (Nat.mul l z))) else some (sliceOf b off z l h m op)
        | some _ => some (sliceOf b off z l h m false)
      | _, _ => none
    | .snil => match bounds 0 0 lo hi mx, szOf p e with
      | some _, some _ => some .snil
      | _, _ => none
    | .e0 b off off1 => match mx, bounds 0 0 lo hi mx, szOf p e with
      | none, some _, some _ => some (.e0 b off off1)
      | _, _, _ => none
    | _ => none
  | some (.array n e) => match x with
    | .ptr b off => match bounds n n lo hi mx, szOf p e with
      | some (l, h, m), some z => some (sliceOf b off z l h m false)
      | _, _ => none
    | _ => none
  | _ => none

def lenS : V → Option Nat
  | .str s => some s.length
  | .snil => some 0
  | .e0 .. => some 0
  | .sl _ _ n _ _ => some n
  | _ => none

def firstC (size n : Nat) (h : H) : V → Option (List V)
  | .snil => some []
  | .e0 .. => bif Nat.beq n 0 then some [] else none
  | .sl b off _ _ _ => match h.t.get b with
    | some (.cells m c _) => bif Nat.ble (Nat.add off (Nat.mul n size)) m then c.range off (Nat.mul n size) else none
    | _ => none
  | .str s => some ((s.take n).map fun b => .int .u8 (.ofNat b.toNat))
  | _ => none

def strOf : List V → Option (List UInt8)
  | [] => some []
  | v :: vs => match v with
    | .int .u8 (.ofNat n) => match strOf vs with
      | some s => some (UInt8.ofNat n :: s)
      | none => none
    | _ => none

def fillParts (place : Nat → Option (Nat × Nat)) (n : Nat) : C → List (Nat × V) → Option C
  | cells, [] => some cells
  | cells, (i, v) :: rest => match place i with
    | none => none
    | some (off, size) =>
      bif Nat.beq v.cells.length size && Nat.ble (Nat.add off size) n then fillParts place n (cells.put off v.cells) rest else none

def binOpV (p : Program) (op : BinOp) (t : TypeId) (x y : V) : Option V :=
  match x, y with
  | .int k a, .int k' b => match op with
    | .shl => bif ltI b 0 then none else some (.int k (wrapK k (shlI a (Nat.min b.toNat (bitsK k)))))
    | .shr => bif ltI b 0 then none else some (.int k (shrI a (Nat.min b.toNat (bitsK k))))
    | op => bif eqK k k' then binInt op k a b else none
  | .str a, .str b => binStr op a b
  | x, y => match op with
    | .eql => match eqV p (Nat.succ eqDepth) t x y with
      | some b => some (.bool b)
      | none => none
    | .neq => match eqV p (Nat.succ eqDepth) t x y with
      | some b => some (.bool (!b))
      | none => none
    | _ => none
/-- What `==` asks first of two aggregates, and of two nil interfaces. -/
def guardV (p : Program) (op : BinOp) (t : TypeId) (cx : Bool) (x : V) : Bool :=
  match op with
  | .eql | .neq => match x with
    | .agg _ => !p.eqGuardType p.depth t
    | .nili => cx
    | _ => true
  | _ => true

def unOpV (op : UnOp) (x : V) : Option V :=
  match op, x with
  | .neg, .int k n => some (.int k (wrapK k (0 - n)))
  | .xor, .int k n => some (.int k (wrapK k (.ofNat (Nat.xor (toU k (if k.signed then -1 else k.max)) (toU k n)))))
  | .not, .bool b => some (.bool (!b))
  | _, _ => none

def minmax (mx : Bool) : V → List V → Option V
  | v, [] => some v
  | v, w :: rest => match v, w with
    | .int k x, .int _ y => minmax mx (.int k (bif (bif mx then ltI x y else ltI y x) then y else x)) rest
    | _, _ => none

def isConst : Operand → Bool
  | .const _ => true
  | _ => false

/-- Which operations answer a value, and leave the world as it is. -/
def quiet (p : Program) : Op → Bool
  | .move _ | .assign _ | .pick .. | .load .. | .nilCheck _ | .binOp .. | .unOp .. | .sliceToArrayPointer .. | .makeInterface .. | .makeFunc ..
  | .slice .. | .fieldAddr .. | .field .. | .indexAddr .. | .index .. | .lookup .. | .typeAssert .. | .extract .. | .build .. | .entry _ => true
  | .convert s d _ => match p.underlying s, p.underlying d with
    | _, some (.int _) => true
    | _, some .string => true
    | _, _ => false
  | .call c => match c.callee with
    | .builtin b => match b with
      | .len | .cap | .min | .max => true
      | _ => false
    | _ => false
  | _ => false

def lookIn (p : Program) (kt e : TypeId) (k : V) (ok : Bool) (es : List (V × V × Nat)) : Option V :=
  match findE p kt k 0 es with
  | some (.at_ _ _ x _) => some (if ok then .tup [x, .bool true] else x)
  | some .no => match zeroOf p e with
    | some z => some (if ok then .tup [z, .bool false] else z)
    | none => none
  | none => none

def places (p : Program) (fs : Array Field) (i : Nat) : Option (Nat × Nat) := match fs[i]? with
  | some f => some (f.offset, p.cellsOf f.type)
  | none => none

/-- What a quiet operation answers. -/
def evQ0 (k : K) (h : H) (s : S) (o : Oper) : Option V :=
  let p := k.p
  match o.op with
  | .move x | .assign x => some (s.ev x)
  | .pick c a b => match s.ev c with
    | .bool t => some (bif t then s.ev a else s.ev b)
    | _ => none
  | .load t a => loadAt k t h (s.ev a)
  | .nilCheck x => match s.ev x with
    | .ptr b o => some (.ptr b o)
    | .fn (.func f) a b => some (.fn (.func f) a b)
    | _ => none
  | .binOp op t x y _ => bif guardV p op t (isConst x || isConst y) (s.ev x) then binOpV p op t (s.ev x) (s.ev y) else none
  | .unOp op _ x => unOpV op (s.ev x)
  | .convert src dst x => match p.underlying src, p.underlying dst, s.ev x with
    | some _, some (.int k), .int _ n => some (.int k (wrapK k n))
    | some _, some .string, .str s => some (.str s)
    | some (.slice e), some .string, x => match p.underlying e with
      | some (.int .u8) => match x with
        | .snil => some (.str [])
        | .e0 .. => some (.str [])
        | .sl _ _ len _ _ => match firstC 1 len h x with
          | some cs => match strOf cs with
            | some s => some (.str s)
            | none => none
          | none => none
        | _ => none
      | _ => none
    | _, _, _ => none
  | .sliceToArrayPointer arr x => match p.underlying arr, s.ev x with
    | some (.array n _), .sl b off len _ _ => bif Nat.ble n len then some (.ptr b off) else none
    | _, _ => none
  | .makeInterface t x => match p.underlying t with
    | some (.interface _) => none
    | some _ => some (.iface t (s.ev x))
    | none => none
  | .makeFunc fn first cap => match fn with
    | .func f => some (.fn (.func f) (first.toList.map s.ev) (cap.toList.map s.ev))
    | _ => none
  | .slice t x lo hi mx => sliceV p t (s.ev x) (lo.map s.ev) (hi.map s.ev) (mx.map s.ev)
  | .fieldAddr t x f => match fieldOf p t f with
    | some f => bif Nat.beq (p.cellsOf f.type) 0 then none else match s.ev x with
      | .ptr b off => some (.ptr b (Nat.add off f.offset))
      | .gp b off => some (.gp b (Nat.add off f.offset))
      | _ => none
    | none => none
  | .field t x f => match fieldOf p t f, s.ev x with
    | some f, .agg cs => partV p f.type cs f.offset
    | _, _ => none
  | .indexAddr t x i => match natOf (s.ev i) with
    | none => none
    | some i => match p.underlying t with
      | some (.array n e) => match szOf p e with
        | some z => bif Nat.blt i n then (match s.ev x with
          | .ptr b off => some (.ptr b (Nat.add off (Nat.mul i z)))
          | .gp b off => some (.gp b (Nat.add off (Nat.mul i z)))
          | _ => none) else none
        | none => none
      | some (.slice e) => match s.ev x, szOf p e with
        | .sl b off len _ _, some z => bif Nat.blt i len then some (.ptr b (Nat.add off (Nat.mul i z))) else none
        | _, _ => none
      | _ => none
  | .index t x i => match natOf (s.ev i) with
    | none => none
    | some i => match p.underlying t with
      | some (.array n e) => match s.ev x with
        | .agg cs => match szOf p e with
          | some z => bif Nat.blt i n then partV p e cs (Nat.mul i z) else none
          | none => none
        | _ => none
      | some .string => match s.ev x with
        | .str s => match nth s i with
          | some b => some (.int .u8 (.ofNat b.toNat))
          | none => none
        | _ => none
      | _ => none
  | .lookup t x key ok => match p.underlying t with
    | some (.map kt e) => match s.ev x with
      | .mnil => bif chkV p (Nat.succ eqDepth) kt (s.ev key) then lookIn p kt e (s.ev key) ok [] else none
      | .mp b => match h.t.get b with
        | some (.map es _) => bif chkV p (Nat.succ eqDepth) kt (s.ev key) then lookIn p kt e (s.ev key) ok es else none
        | _ => none
      | _ => none
    | _ => none
  | .build t parts => match zeroOf p t with
    | none => none
    | some z => match p.underlying t with
      | some (.struct fs) => bif !fs.toList.all (fun f => (szOf p f.type).isSome) then none else
        match fillParts (places p fs) (p.cellsOf t) (.l z.cells) (parts.toList.map fun x => (x.1, s.ev x.2)) with
        | some (.l l) => some (.agg l)
        | _ => none
      | some (.array _ e) => match szOf p e with
        | some n => match fillParts (fun i => some (Nat.mul i n, n)) (p.cellsOf t) (.l z.cells) (parts.toList.map fun x => (x.1, s.ev x.2)) with
          | some (.l l) => some (.agg l)
          | _ => none
        | none => none
      | _ => none
  | .entry x => match s.ev x with
    | .ptr b 0 => match h.t.get b with
      | some (.mapIter (some m) _ seen stepped) => match h.t.get m with
        | some (.map es clock) =>
          bif Nat.beq clock stepped then
            match seen.getLast? with
            | some stamp => match es.find? (fun e => Nat.beq e.2.2 stamp) with
              | some (k, v, _) => some (.tup [k, v])
              | none => none
            | none => none
          else none
        | _ => none
      | _ => none
    | _ => none
  | .typeAssert x _ t ok => match p.underlying t, s.ev x with
    | some (.interface _), _ => none
    | some _, .iface u v => bif Nat.beq t u then some (if ok then .tup [v, .bool true] else v) else none
    | _, _ => none
  | .extract t i => match s.ev t with
    | .tup vs => nth vs i
    | _ => none
  | .call c => match c.callee with
    | .builtin b => match b, c.args.toList.map s.ev with
      | .len, [x] => match (c.argTypes[0]?).bind p.underlying with
        | some (.array n _) => some (.int .i64 (.ofNat n))
        | some (.pointer a) => match p.underlying a with
          | some (.array n _) => some (.int .i64 (.ofNat n))
          | _ => none
        | some .string => match x with
          | .str s => some (.int .i64 (.ofNat s.length))
          | _ => none
        | some (.slice _) => match x with
          | .str _ => none
          | x => match lenS x with
            | some n => some (.int .i64 (.ofNat n))
            | none => none
        | some (.map _ _) => match x with
          | .mnil => some (.int .i64 0)
          | .mp b => match h.t.get b with
            | some (.map es _) => some (.int .i64 (.ofNat es.length))
            | _ => none
          | _ => none
        | _ => none
      | .cap, [x] => match (c.argTypes[0]?).bind p.underlying with
        | some (.slice _) => match x with
          | .snil => some (.int .i64 0)
          | .sl _ _ _ c false => some (.int .i64 (.ofNat c))
          | _ => none
        | _ => none
      | .min, x :: xs => minmax false x xs
      | .max, x :: xs => minmax true x xs
      | _, _ => none
    | _ => none
  | _ => none

def evQ_pick (k : K) (h : H) (s : S) (c : Operand) (a : Operand) (b : Operand) : Option V :=
  let p := k.p
  match s.ev c with
    | .bool t => some (bif t then s.ev a else s.ev b)
    | _ => none

def evQ_load (k : K) (h : H) (s : S) (t : TypeId) (a : Operand) : Option V :=
  let p := k.p
  loadAt k t h (s.ev a)

def evQ_nilCheck (k : K) (h : H) (s : S) (x : Operand) : Option V :=
  let p := k.p
  match s.ev x with
    | .ptr b o => some (.ptr b o)
    | .fn (.func f) a b => some (.fn (.func f) a b)
    | _ => none

def evQ_binOp (k : K) (h : H) (s : S) (op : BinOp) (t : TypeId) (x : Operand) (y : Operand) : Option V :=
  let p := k.p
  bif guardV p op t (isConst x || isConst y) (s.ev x) then binOpV p op t (s.ev x) (s.ev y) else none

def evQ_unOp (k : K) (h : H) (s : S) (op : UnOp) (x : Operand) : Option V :=
  let p := k.p
  unOpV op (s.ev x)

def evQ_convert (k : K) (h : H) (s : S) (src : TypeId) (dst : TypeId) (x : Operand) : Option V :=
  let p := k.p
  match p.underlying src, p.underlying dst, s.ev x with
    | some _, some (.int k), .int _ n => some (.int k (wrapK k n))
    | some _, some .string, .str s => some (.str s)
    | some (.slice e), some .string, x => match p.underlying e with
      | some (.int .u8) => match x with
        | .snil => some (.str [])
        | .e0 .. => some (.str [])
        | .sl _ _ len _ _ => match firstC 1 len h x with
          | some cs => match strOf cs with
            | some s => some (.str s)
            | none => none
          | none => none
        | _ => none
      | _ => none
    | _, _, _ => none

def evQ_sliceToArrayPointer (k : K) (h : H) (s : S) (arr : TypeId) (x : Operand) : Option V :=
  let p := k.p
  match p.underlying arr, s.ev x with
    | some (.array n _), .sl b off len _ _ => bif Nat.ble n len then some (.ptr b off) else none
    | _, _ => none

def evQ_makeInterface (k : K) (h : H) (s : S) (t : TypeId) (x : Operand) : Option V :=
  let p := k.p
  match p.underlying t with
    | some (.interface _) => none
    | some _ => some (.iface t (s.ev x))
    | none => none

def evQ_makeFunc (k : K) (h : H) (s : S) (fn : Fn) (first : Array Operand) (cap : Array Operand) : Option V :=
  let p := k.p
  match fn with
    | .func f => some (.fn (.func f) (first.toList.map s.ev) (cap.toList.map s.ev))
    | _ => none

def evQ_slice (k : K) (h : H) (s : S) (t : TypeId) (x : Operand) (lo : Option Operand) (hi : Option Operand) (mx : Option Operand) : Option V :=
  let p := k.p
  sliceV p t (s.ev x) (lo.map s.ev) (hi.map s.ev) (mx.map s.ev)

def evQ_fieldAddr (k : K) (h : H) (s : S) (t : TypeId) (x : Operand) (f : Nat) : Option V :=
  let p := k.p
  match fieldOf p t f with
    | some f => bif Nat.beq (p.cellsOf f.type) 0 then none else match s.ev x with
      | .ptr b off => some (.ptr b (Nat.add off f.offset))
      | .gp b off => some (.gp b (Nat.add off f.offset))
      | _ => none
    | none => none

def evQ_field (k : K) (h : H) (s : S) (t : TypeId) (x : Operand) (f : Nat) : Option V :=
  let p := k.p
  match fieldOf p t f, s.ev x with
    | some f, .agg cs => partV p f.type cs f.offset
    | _, _ => none

def evQ_indexAddr (k : K) (h : H) (s : S) (t : TypeId) (x : Operand) (i : Operand) : Option V :=
  let p := k.p
  match natOf (s.ev i) with
    | none => none
    | some i => match p.underlying t with
      | some (.array n e) => match szOf p e with
        | some z => bif Nat.blt i n then (match s.ev x with
          | .ptr b off => some (.ptr b (Nat.add off (Nat.mul i z)))
          | .gp b off => some (.gp b (Nat.add off (Nat.mul i z)))
          | _ => none) else none
        | none => none
      | some (.slice e) => match s.ev x, szOf p e with
        | .sl b off len _ _, some z => bif Nat.blt i len then some (.ptr b (Nat.add off (Nat.mul i z))) else none
        | _, _ => none
      | _ => none

def evQ_index (k : K) (h : H) (s : S) (t : TypeId) (x : Operand) (i : Operand) : Option V :=
  let p := k.p
  match natOf (s.ev i) with
    | none => none
    | some i => match p.underlying t with
      | some (.array n e) => match s.ev x with
        | .agg cs => match szOf p e with
          | some z => bif Nat.blt i n then partV p e cs (Nat.mul i z) else none
          | none => none
        | _ => none
      | some .string => match s.ev x with
        | .str s => match nth s i with
          | some b => some (.int .u8 (.ofNat b.toNat))
          | none => none
        | _ => none
      | _ => none

def evQ_lookup (k : K) (h : H) (s : S) (t : TypeId) (x : Operand) (key : Operand) (ok : Bool) : Option V :=
  let p := k.p
  match p.underlying t with
    | some (.map kt e) => match s.ev x with
      | .mnil => bif chkV p (Nat.succ eqDepth) kt (s.ev key) then lookIn p kt e (s.ev key) ok [] else none
      | .mp b => match h.t.get b with
        | some (.map es _) => bif chkV p (Nat.succ eqDepth) kt (s.ev key) then lookIn p kt e (s.ev key) ok es else none
        | _ => none
      | _ => none
    | _ => none

def evQ_build (k : K) (h : H) (s : S) (t : TypeId) (parts : Array (Nat × Operand)) : Option V :=
  let p := k.p
  match zeroOf p t with
    | none => none
    | some z => match p.underlying t with
      | some (.struct fs) => bif !fs.toList.all (fun f => (szOf p f.type).isSome) then none else
        match fillParts (places p fs) (p.cellsOf t) (.l z.cells) (parts.toList.map fun x => (x.1, s.ev x.2)) with
        | some (.l l) => some (.agg l)
        | _ => none
      | some (.array _ e) => match szOf p e with
        | some n => match fillParts (fun i => some (Nat.mul i n, n)) (p.cellsOf t) (.l z.cells) (parts.toList.map fun x => (x.1, s.ev x.2)) with
          | some (.l l) => some (.agg l)
          | _ => none
        | none => none
      | _ => none

def evQ_entry (k : K) (h : H) (s : S) (x : Operand) : Option V :=
  let p := k.p
  match s.ev x with
    | .ptr b 0 => match h.t.get b with
      | some (.mapIter (some m) _ seen stepped) => match h.t.get m with
        | some (.map es clock) =>
          bif Nat.beq clock stepped then
            match seen.getLast? with
            | some stamp => match es.find? (fun e => Nat.beq e.2.2 stamp) with
              | some (k, v, _) => some (.tup [k, v])
              | none => none
            | none => none
          else none
        | _ => none
      | _ => none
    | _ => none

def evQ_typeAssert (k : K) (h : H) (s : S) (x : Operand) (t : TypeId) (ok : Bool) : Option V :=
  let p := k.p
  match p.underlying t, s.ev x with
    | some (.interface _), _ => none
    | some _, .iface u v => bif Nat.beq t u then some (if ok then .tup [v, .bool true] else v) else none
    | _, _ => none

def evQ_extract (k : K) (h : H) (s : S) (t : Operand) (i : Nat) : Option V :=
  let p := k.p
  match s.ev t with
    | .tup vs => nth vs i
    | _ => none

def evQ_call (k : K) (h : H) (s : S) (c : Call) : Option V :=
  let p := k.p
  match c.callee with
    | .builtin b => match b, c.args.toList.map s.ev with
      | .len, [x] => match (c.argTypes[0]?).bind p.underlying with
        | some (.array n _) => some (.int .i64 (.ofNat n))
        | some (.pointer a) => match p.underlying a with
          | some (.array n _) => some (.int .i64 (.ofNat n))
          | _ => none
        | some .string => match x with
          | .str s => some (.int .i64 (.ofNat s.length))
          | _ => none
        | some (.slice _) => match x with
          | .str _ => none
          | x => match lenS x with
            | some n => some (.int .i64 (.ofNat n))
            | none => none
        | some (.map _ _) => match x with
          | .mnil => some (.int .i64 0)
          | .mp b => match h.t.get b with
            | some (.map es _) => some (.int .i64 (.ofNat es.length))
            | _ => none
          | _ => none
        | _ => none
      | .cap, [x] => match (c.argTypes[0]?).bind p.underlying with
        | some (.slice _) => match x with
          | .snil => some (.int .i64 0)
          | .sl _ _ _ c false => some (.int .i64 (.ofNat c))
          | _ => none
        | _ => none
      | .min, x :: xs => minmax false x xs
      | .max, x :: xs => minmax true x xs
      | _, _ => none
    | _ => none

/-- The same, each operation's part by itself (so that the kernel has less to carry). -/
def evQ (k : K) (h : H) (s : S) (o : Oper) : Option V :=
  match o.op with
  | .move x | .assign x => some (s.ev x)
  | .pick c a b => evQ_pick k h s c a b
  | .load t a => evQ_load k h s t a
  | .nilCheck x => evQ_nilCheck k h s x
  | .binOp op t x y _ => evQ_binOp k h s op t x y
  | .unOp op _ x => evQ_unOp k h s op x
  | .convert src dst x => evQ_convert k h s src dst x
  | .sliceToArrayPointer arr x => evQ_sliceToArrayPointer k h s arr x
  | .makeInterface t x => evQ_makeInterface k h s t x
  | .makeFunc fn first cap => evQ_makeFunc k h s fn first cap
  | .slice t x lo hi mx => evQ_slice k h s t x lo hi mx
  | .fieldAddr t x f => evQ_fieldAddr k h s t x f
  | .field t x f => evQ_field k h s t x f
  | .indexAddr t x i => evQ_indexAddr k h s t x i
  | .index t x i => evQ_index k h s t x i
  | .lookup t x key ok => evQ_lookup k h s t x key ok
  | .build t parts => evQ_build k h s t parts
  | .entry x => evQ_entry k h s x
  | .typeAssert x _ t ok => evQ_typeAssert k h s x t ok
  | .extract t i => evQ_extract k h s t i
  | .call c => evQ_call k h s c
  | _ => none


/-- What follows another operation. -/
inductive R where
  | val (v : V) (h : H)
  | vals (l : List (V × H))
  | skip (h : H)
  | call (f : FuncId) (args : List V) (h : H)
  | yld (l : Nat) (args : List V) (h : H)
  | dfr (f : FuncId) (args : List V)
  | pan (v : V) (h : H)

def append (p : Program) (elem z : Nat) (h : H) (s : V) (new : List V) (n : Nat) : Option R :=
  match s with
  | .snil => bif Nat.beq n 0 then some (.val .snil h) else
      bif Nat.ble (Nat.mul n (p.bytesOf elem)) 1000000000 && Nat.ble n 1000000000 && Nat.beq new.length (Nat.mul n z) then
        match zeroOf p elem with
        | some _ => some (.val (.sl h.n 0 n n true) (h.add (.cells (Nat.mul n z) (.ofList new) z)))
        | none => none
      else none
  | .sl b off len cap op =>
    bif Nat.ble (Nat.add len n) cap then
      match storeC h b (Nat.add off (Nat.mul len z)) new with
      | some h => some (.val (.sl b off (Nat.add len n) cap op) h)
      | none => none
    else match firstC z len h s, zeroOf p elem, h.t.get b with
      | some old, some _, some (.cells m _ y) =>
        bif Nat.ble (Nat.mul (Nat.add len n) (p.bytesOf elem)) 1000000000 && Nat.ble (Nat.add len n) 1000000000 && Nat.beq new.length (Nat.mul n z) && (!op || (Nat.beq (Nat.add off (Nat.mul cap z)) m && Nat.beq y z && new.all V.scalar)) then
          some (.val (.sl h.n 0 (Nat.add len n) (Nat.add len n) true)
            ((bif op then h.del b else h).add (.cells (Nat.mul (Nat.add len n) z) (.ofList (old ++ new)) z)))
        else none
      | _, _, _ => none
  | _ => none

def extV (h : H) (e : Ext) (args : List V) : Option V :=
  match e, args with
  | .indexByte, [.str s, .int .u8 (.ofNat c)] => some (.int .i64 (Lib.indexByte s (UInt8.ofNat c)))
  | .count, [.str s, .int .u8 (.ofNat c)] => some (.int .i64 (.ofNat (Lib.countByte s (UInt8.ofNat c))))
  | .compare, [a, b] => match lenS a, lenS b with
    | some n, some m => match firstC 1 n h a, firstC 1 m h b with
      | some x, some y => match strOf x, strOf y with
        | some x, some y => some (.int .i64 (bif ltS x y then -1 else bif eqS x y then 0 else 1))
        | _, _ => none
      | _, _ => none
    | _, _ => none
  | _, _ => none

def callV (k : K) (h : H) (f : V) (args : List V) : Option R :=
  match f with
  | .fn (.func f) first cap => match k.p.funcs[f]? with
    | some fd => match fd.body with
      | some _ => some (.call f (first ++ args ++ cap) h)
      | none => match k.ex f with
        | some e => match extV h e (first ++ args ++ cap) with
          | some v => some (.val v h)
          | none => none
        | none => none
    | none => none
  | .fn (.yield l) first _ => some (.yld l (first ++ args) h)
  | _ => none

def seenIn (seen : List Nat) (b : Nat) : Bool := match seen with
  | [] => false
  | x :: xs => bif Nat.beq x b then true else seenIn xs b

/-- An operation that is not quiet. -/
def evL0 (k : K) (s : S) (o : Oper) : Option R :=
  let p := k.p
  let h := s.h
  match o.op with
  | .alloc t => match zeroOf p t with
    | some z => some (.val (.ptr h.n 0) (h.add (.cells (p.cellsOf t) (.zeros z.cells 1 (p.cellsOf t)) 0)))
    | none => none
  | .box _ x => some (.val (.ptr h.n 0) (h.add (.cells (s.ev x).cells.length (.ofList (s.ev x).cells) 0)))
  | .buildSlice t len parts => match elemOfT p t with
    | some e => match zeroOf p e with
      | some z => bif Nat.ble (Nat.mul len (p.cellsOf e)) 16777216 then
        match fillParts (fun i => some (Nat.mul i (p.cellsOf e), p.cellsOf e)) (Nat.mul len (p.cellsOf e)) (.zeros z.cells len (p.cellsOf e)) (parts.toList.map fun x => (x.1, s.ev x.2)) with
        | some c => some (.val (.sl h.n 0 len len false) (h.add (.cells (Nat.mul len (p.cellsOf e)) c 0)))
        | none => none
        else none
      | none => none
    | none => none
  | .store t a x => match storeAt p t h (s.ev x) (s.ev a) with
    | some h => some (.skip h)
    | none => none
  | .convert src dst x => match p.underlying src, p.underlying dst, s.ev x with
    | some .string, some (.slice e), .str b => match p.underlying e with
      | some (.int .u8) => bif Nat.beq (p.cellsOf e) 1 then
        some (.val (.sl h.n 0 b.length b.length true) (h.add (.cells b.length (.ofList (b.map fun c => .int .u8 (.ofNat c.toNat))) 1)))
        else none
      | _ => none
    | some (.slice _), some (.slice e), .sl b off len cap op => match p.underlying e, h.t.get b with
      | some (.int .u8), some (.cells _ _ _) => bif Nat.beq src dst then some (.val (.sl b off len cap op) h) else none
      | _, _ => none
    | _, _, _ => none
  | .makeMap t r => match r with
    | none => some (.val (.mp h.n) (h.add (.map [] 0)))
    | some r => match p.underlying t, s.ev r with
      | some (.map _ _), .int _ _ => some (.val (.mp h.n) (h.add (.map [] 0)))
      | _, _ => none
  | .makeSlice t l c => match elemOfT p t, natOf (s.ev l), natOf (s.ev c) with
    | some e, some l, some c => match zeroOf p e with
      | some z => bif Nat.ble l c && Nat.ble c 16777216 && Nat.ble (Nat.mul c (p.bytesOf e)) 1000000000 then
          some (.val (.sl h.n 0 l c false) (h.add (.cells (Nat.mul c (p.cellsOf e)) (.zeros z.cells c (p.cellsOf e)) 0)))
        else none
      | none => none
    | _, _, _ => none
  | .mapUpdate t m key x | .insert t m key x => match p.underlying t, s.ev m with
    | some (.map kt _), .mp b => match h.t.get b with
      | some (.map es clock) =>
        bif !chkV p (Nat.succ eqDepth) kt (s.ev key) then none else
        match findE p kt (s.ev key) 0 es with
        | none => none
        | some (.at_ i old _ born) => bif V.beq old (s.ev key) && plainV old then some (.skip (h.set b (.map (setNth (s.ev key, s.ev x, born) es i) clock))) else none
        | some .no => some (.skip (h.set b (.map (es ++ [(s.ev key, s.ev x, clock)]) (Nat.succ clock))))
      | _ => none
    | _, _ => none
  | .range t x => match p.underlying t, s.ev x with
    | some .string, .str b => some (.val (.ptr h.n 0) (h.add (.strIter b 0)))
    | some (.map _ _), .mnil => some (.val (.ptr h.n 0) (h.add (.mapIter none 0 [] 0)))
    | some (.map _ _), .mp m => match h.t.get m with
      | some (.map _ clock) => some (.val (.ptr h.n 0) (h.add (.mapIter (some m) clock [] clock)))
      | _ => none
    | _, _ => none
  | .next x isS => match s.ev x with
    | .ptr b 0 => match h.t.get b, isS with
      | some (.strIter b' pos), true =>
        match nth b' pos with
        | none => some (.val (.tup [.bool false]) h)
        | some c => bif Nat.blt c.toNat 128 then some (.val (.tup [.bool true, .int .i64 (.ofNat pos), .int .i32 (.ofNat c.toNat)]) (h.set b (.strIter b' (Nat.succ pos)))) else none
      | some (.mapIter none _ _ _), false => some (.val (.tup [.bool false]) h)
      | some (.mapIter (some m) since seen last), false => match h.t.get m with
        | some (.map es clock) =>
          bif (!seen.isEmpty && !es.isEmpty && es.all (fun e => Nat.ble last e.2.2)) then none else
          match es.filter (fun e => !seenIn seen e.2.2) with
          | [] => some (.val (.tup [.bool false]) h)
          | l => bif l.all (fun e => Nat.blt e.2.2 since) then
              some (.vals (l.map fun e => (.tup [.bool true, e.1, e.2.1], h.set b (.mapIter (some m) since (seen ++ [e.2.2]) clock)))) else none
        | _ => none
      | _, _ => none
    | _ => none
  | .call c => match c.callee with
    | .builtin b => match b, c.args.toList.map s.ev with
      | .append, [x, y] => match (c.argTypes[0]?).bind (elemOfT p), (c.argTypes[1]?).bind p.underlying with
        | _, some (.int _) => none
        | some e, some _ => match lenS y, szOf p e with
          | some n, some z => match firstC z n h y with
            | some new => append p e z h x new n
            | none => none
          | _, _ => none
        | _, _ => none
      | .copy, [d, x] => match (c.argTypes[0]?).bind (elemOfT p), lenS d, lenS x with
        | some e, some m, some n =>
          match (szOf p e).bind fun z => firstC z (Nat.min n m) h x with
          | none => none
          | some cs => match d with
            | .snil => some (.val (.int .i64 (.ofNat (Nat.min n m))) h)
            | .e0 .. => some (.val (.int .i64 (.ofNat (Nat.min n m))) h)
            | .sl b off _ _ _ => match storeC h b off cs with
              | some h => some (.val (.int .i64 (.ofNat (Nat.min n m))) h)
              | none => none
            | _ => none
        | _, _, _ => none
      | .clear, [x] => match (c.argTypes[0]?).bind p.underlying, x with
        | some _, .mnil => some (.val (.tup []) h)
        | some _, .snil => some (.val (.tup []) h)
        | some _, .e0 .. => some (.val (.tup []) h)
        | some (.map _ _), .mp b => match h.t.get b with
          | some (.map _ clock) => some (.val (.tup []) (h.set b (.map [] clock)))
          | _ => none
        | some (.slice e), .sl b off len _ _ => match zeroOf p e with
          | some z => match storeC h b off (rep z.cells len) with
            | some h => some (.val (.tup []) h)
            | none => none
          | none => none
        | _, _ => none
      | .delete, [m, key] => match (c.argTypes[0]?).bind p.underlying, m with
        | some (.map kt _), .mp b => match h.t.get b with
          | some (.map es clock) => bif !chkV p (Nat.succ eqDepth) kt key then none else match findE p kt key 0 es with
            | some (.at_ i _ _ _) => some (.val (.tup []) (h.set b (.map (es.eraseIdx i) clock)))
            | some .no => some (.val (.tup []) h)
            | none => none
          | _ => none
        | _, _ => none
      | _, _ => none
    | .value f => callV k h (s.ev f) (c.args.toList.map s.ev)
    | .invoke .. => none
  | .defer c => match c.callee with
    | .value f => match s.ev f with
      | .fn (.func f) first cap => some (.dfr f (first ++ c.args.toList.map s.ev ++ cap))
      | _ => none
    | _ => none
  | .panic x => match s.ev x with
    | .iface t v => some (.pan (.iface t v) h)
    | _ => none
  | _ => none

def evL_alloc (k : K) (s : S) (t : TypeId) : Option R :=
  let p := k.p
  let h := s.h
  match zeroOf p t with
    | some z => some (.val (.ptr h.n 0) (h.add (.cells (p.cellsOf t) (.zeros z.cells 1 (p.cellsOf t)) 0)))
    | none => none

def evL_box (k : K) (s : S) (x : Operand) : Option R :=
  let p := k.p
  let h := s.h
  some (.val (.ptr h.n 0) (h.add (.cells (s.ev x).cells.length (.ofList (s.ev x).cells) 0)))

def evL_buildSlice (k : K) (s : S) (t : TypeId) (len : Nat) (parts : Array (Nat × Operand)) : Option R :=
  let p := k.p
  let h := s.h
  match elemOfT p t with
    | some e => match zeroOf p e with
      | some z => bif Nat.ble (Nat.mul len (p.cellsOf e)) 16777216 then
        match fillParts (fun i => some (Nat.mul i (p.cellsOf e), p.cellsOf e)) (Nat.mul len (p.cellsOf e)) (.zeros z.cells len (p.cellsOf e)) (parts.toList.map fun x => (x.1, s.ev x.2)) with
        | some c => some (.val (.sl h.n 0 len len false) (h.add (.cells (Nat.mul len (p.cellsOf e)) c 0)))
        | none => none
        else none
      | none => none
    | none => none

def evL_store (k : K) (s : S) (t : TypeId) (a : Operand) (x : Operand) : Option R :=
  let p := k.p
  let h := s.h
  match storeAt p t h (s.ev x) (s.ev a) with
    | some h => some (.skip h)
    | none => none

def evL_convert (k : K) (s : S) (src : TypeId) (dst : TypeId) (x : Operand) : Option R :=
  let p := k.p
  let h := s.h
  match p.underlying src, p.underlying dst, s.ev x with
    | some .string, some (.slice e), .str b => match p.underlying e with
      | some (.int .u8) => bif Nat.beq (p.cellsOf e) 1 then
        some (.val (.sl h.n 0 b.length b.length true) (h.add (.cells b.length (.ofList (b.map fun c => .int .u8 (.ofNat c.toNat))) 1)))
        else none
      | _ => none
    | some (.slice _), some (.slice e), .sl b off len cap op => match p.underlying e, h.t.get b with
      | some (.int .u8), some (.cells _ _ _) => bif Nat.beq src dst then some (.val (.sl b off len cap op) h) else none
      | _, _ => none
    | _, _, _ => none

def evL_makeMap (k : K) (s : S) (t : TypeId) (r : Option Operand) : Option R :=
  let p := k.p
  let h := s.h
  match r with
    | none => some (.val (.mp h.n) (h.add (.map [] 0)))
    | some r => match p.underlying t, s.ev r with
      | some (.map _ _), .int _ _ => some (.val (.mp h.n) (h.add (.map [] 0)))
      | _, _ => none

def evL_makeSlice (k : K) (s : S) (t : TypeId) (l : Operand) (c : Operand) : Option R :=
  let p := k.p
  let h := s.h
  match elemOfT p t, natOf (s.ev l), natOf (s.ev c) with
    | some e, some l, some c => match zeroOf p e with
      | some z => bif Nat.ble l c && Nat.ble c 16777216 && Nat.ble (Nat.mul c (p.bytesOf e)) 1000000000 then
          some (.val (.sl h.n 0 l c false) (h.add (.cells (Nat.mul c (p.cellsOf e)) (.zeros z.cells c (p.cellsOf e)) 0)))
        else none
      | none => none
    | _, _, _ => none

def evL_mapUpdate (k : K) (s : S) (t : TypeId) (m : Operand) (key : Operand) (x : Operand) : Option R :=
  let p := k.p
  let h := s.h
  match p.underlying t, s.ev m with
    | some (.map kt _), .mp b => match h.t.get b with
      | some (.map es clock) =>
        bif !chkV p (Nat.succ eqDepth) kt (s.ev key) then none else
        match findE p kt (s.ev key) 0 es with
        | none => none
        | some (.at_ i old _ born) => bif V.beq old (s.ev key) && plainV old then some (.skip (h.set b (.map (setNth (s.ev key, s.ev x, born) es i) clock))) else none
        | some .no => some (.skip (h.set b (.map (es ++ [(s.ev key, s.ev x, clock)]) (Nat.succ clock))))
      | _ => none
    | _, _ => none

def evL_range (k : K) (s : S) (t : TypeId) (x : Operand) : Option R :=
  let p := k.p
  let h := s.h
  match p.underlying t, s.ev x with
    | some .string, .str b => some (.val (.ptr h.n 0) (h.add (.strIter b 0)))
    | some (.map _ _), .mnil => some (.val (.ptr h.n 0) (h.add (.mapIter none 0 [] 0)))
    | some (.map _ _), .mp m => match h.t.get m with
      | some (.map _ clock) => some (.val (.ptr h.n 0) (h.add (.mapIter (some m) clock [] clock)))
      | _ => none
    | _, _ => none

def evL_next (k : K) (s : S) (x : Operand) (isS : Bool) : Option R :=
  let p := k.p
  let h := s.h
  match s.ev x with
    | .ptr b 0 => match h.t.get b, isS with
      | some (.strIter b' pos), true =>
        match nth b' pos with
        | none => some (.val (.tup [.bool false]) h)
        | some c => bif Nat.blt c.toNat 128 then some (.val (.tup [.bool true, .int .i64 (.ofNat pos), .int .i32 (.ofNat c.toNat)]) (h.set b (.strIter b' (Nat.succ pos)))) else none
      | some (.mapIter none _ _ _), false => some (.val (.tup [.bool false]) h)
      | some (.mapIter (some m) since seen last), false => match h.t.get m with
        | some (.map es clock) =>
          bif (!seen.isEmpty && !es.isEmpty && es.all (fun e => Nat.ble last e.2.2)) then none else
          match es.filter (fun e => !seenIn seen e.2.2) with
          | [] => some (.val (.tup [.bool false]) h)
          | l => bif l.all (fun e => Nat.blt e.2.2 since) then
              some (.vals (l.map fun e => (.tup [.bool true, e.1, e.2.1], h.set b (.mapIter (some m) since (seen ++ [e.2.2]) clock)))) else none
        | _ => none
      | _, _ => none
    | _ => none

def evL_call (k : K) (s : S) (c : Call) : Option R :=
  let p := k.p
  let h := s.h
  match c.callee with
    | .builtin b => match b, c.args.toList.map s.ev with
      | .append, [x, y] => match (c.argTypes[0]?).bind (elemOfT p), (c.argTypes[1]?).bind p.underlying with
        | _, some (.int _) => none
        | some e, some _ => match lenS y, szOf p e with
          | some n, some z => match firstC z n h y with
            | some new => append p e z h x new n
            | none => none
          | _, _ => none
        | _, _ => none
      | .copy, [d, x] => match (c.argTypes[0]?).bind (elemOfT p), lenS d, lenS x with
        | some e, some m, some n =>
          match (szOf p e).bind fun z => firstC z (Nat.min n m) h x with
          | none => none
          | some cs => match d with
            | .snil => some (.val (.int .i64 (.ofNat (Nat.min n m))) h)
            | .e0 .. => some (.val (.int .i64 (.ofNat (Nat.min n m))) h)
            | .sl b off _ _ _ => match storeC h b off cs with
              | some h => some (.val (.int .i64 (.ofNat (Nat.min n m))) h)
              | none => none
            | _ => none
        | _, _, _ => none
      | .clear, [x] => match (c.argTypes[0]?).bind p.underlying, x with
        | some _, .mnil => some (.val (.tup []) h)
        | some _, .snil => some (.val (.tup []) h)
        | some _, .e0 .. => some (.val (.tup []) h)
        | some (.map _ _), .mp b => match h.t.get b with
          | some (.map _ clock) => some (.val (.tup []) (h.set b (.map [] clock)))
          | _ => none
        | some (.slice e), .sl b off len _ _ => match zeroOf p e with
          | some z => match storeC h b off (rep z.cells len) with
            | some h => some (.val (.tup []) h)
            | none => none
          | none => none
        | _, _ => none
      | .delete, [m, key] => match (c.argTypes[0]?).bind p.underlying, m with
        | some (.map kt _), .mp b => match h.t.get b with
          | some (.map es clock) => bif !chkV p (Nat.succ eqDepth) kt key then none else match findE p kt key 0 es with
            | some (.at_ i _ _ _) => some (.val (.tup []) (h.set b (.map (es.eraseIdx i) clock)))
            | some .no => some (.val (.tup []) h)
            | none => none
          | _ => none
        | _, _ => none
      | _, _ => none
    | .value f => callV k h (s.ev f) (c.args.toList.map s.ev)
    | .invoke .. => none

def evL_defer (k : K) (s : S) (c : Call) : Option R :=
  let p := k.p
  let h := s.h
  match c.callee with
    | .value f => match s.ev f with
      | .fn (.func f) first cap => some (.dfr f (first ++ c.args.toList.map s.ev ++ cap))
      | _ => none
    | _ => none

def evL_panic (k : K) (s : S) (x : Operand) : Option R :=
  let p := k.p
  let h := s.h
  match s.ev x with
    | .iface t v => some (.pan (.iface t v) h)
    | _ => none

/-- The same, each operation's part by itself (so that the kernel has less to carry). -/
def evL (k : K) (s : S) (o : Oper) : Option R :=
  match o.op with
  | .alloc t => evL_alloc k s t
  | .box _ x => evL_box k s x
  | .buildSlice t len parts => evL_buildSlice k s t len parts
  | .store t a x => evL_store k s t a x
  | .convert src dst x => evL_convert k s src dst x
  | .makeMap t r => evL_makeMap k s t r
  | .makeSlice t l c => evL_makeSlice k s t l c
  | .mapUpdate t m key x | .insert t m key x => evL_mapUpdate k s t m key x
  | .range t x => evL_range k s t x
  | .next x isS => evL_next k s x isS
  | .call c => evL_call k s c
  | .defer c => evL_defer k s c
  | .panic x => evL_panic k s x
  | _ => none


inductive X where
  | normal
  | exit (id : Nat)
  | ret
  | pan (v : V)

abbrev Outs := List (X × S)
/-- On from where a code has ended as it should. -/
def goOn (f : S → Option Outs) : Outs → Option Outs
  | [] => some []
  | (x, s) :: r => match x with
    | .normal => match f s with
      | some a => match r with
        | [] => some a
        | r => match goOn f r with
          | some b => some (a ++ b)
          | none => none
      | none => none
    | x => match goOn f r with
      | some b => some ((x, s) :: b)
      | none => none

/-- What runs calls: a function; a round of a loop over a function. -/
structure Run where
  f : FuncId → List V → H → Option (List E)
  y : Nat → List V → H → Option (List E)
  rd : Bool

def fillEnv : Tr V → Nat → List V → Tr V
  | e, _, [] => e
  | e, i, v :: vs => fillEnv (e.set i v) (Nat.succ i) vs

def S.put (s : S) (dst : Option Tmp) (v : V) : Option S := match dst with
  | none => some s
  | some d => bif Nat.blt d s.sz then some { s with e := s.e.set d v } else none

/-- Is an operation to be done? (Its guard.) -/
def wantedV (ops : Array Oper) (s : S) (o : Oper) : Option Bool := match o.guard with
  | none => some true
  | some (j, want) => match (ops[j]?).bind (·.dst) with
    | none => none
    | some d => match s.e.get d with
      | some (.bool b) => some (b == want)
      | some (.tup []) => some false
      | none => some false
      | _ => none

def ok1 (s : Option S) : Option Outs := match s with
  | some s => some [(.normal, s)]
  | none => none

def after (s : S) (o : Oper) : List E → Option Outs
  | [] => some []
  | e :: r => match e with
    | .ret v h => match { s with h := h }.put o.dst v with
      | some s' => match after s o r with
        | some l => some ((.normal, s') :: l)
        | none => none
      | none => none
    | .pan v h => match after s o r with
      | some l => some ((.pan v, { s with h := h }) :: l)
      | none => none
def afters (s : S) (o : Oper) : Option (List E) → Option Outs
  | some l => after s o l
  | none => none
def putAll (s : S) (o : Oper) : List (V × H) → Option Outs
  | [] => some []
  | (v, h) :: r => match { s with h := h }.put o.dst v with
    | some s' => match putAll s o r with
      | some l => some ((.normal, s') :: l)
      | none => none
    | none => none

/-- An operation that is wanted. -/
def evOp (k : K) (run : Run) (s : S) (o : Oper) : Option Outs :=
  bif quiet k.p o.op then (match evQ k s.h s o with
    | some v => ok1 (s.put o.dst v)
    | none => none)
  else match evL k s o with
    | none => none
    | some (.val v h) => ok1 ({ s with h := h }.put o.dst v)
    | some (.vals l) => putAll s o l
    | some (.skip h) => ok1 ({ s with h := h }.put o.dst .undef)
    | some (.call f args h) => afters s o (run.f f args h)
    | some (.yld l args h) => afters s o (run.y l args h)
    | some (.pan v h) => some [(.pan v, { s with h := h })]
    | some (.dfr f args) => bif run.rd then none else ok1 ({ s with d := .fn f args :: s.d }.put o.dst .undef)

def evStep (k : K) (run : Run) (ops : Array Oper) (o : Oper) (s : S) : Option Outs :=
  match wantedV ops s o with
  | none => none
  | some false => ok1 (s.put o.dst .undef)
  | some true => evOp k run s o

def evOps (k : K) (run : Run) (ops : Array Oper) : List Oper → S → Option Outs
  | [], s => some [(.normal, s)]
  | o :: os, s => match evStep k run ops o s with
    | some l => goOn (evOps k run ops os) l
    | none => none

/-! A region that draws its order: the quiet operations first, else the one that can come. -/
inductive Pick where
  | done
  | quiet (i : Nat)
  | loud (i : Nat) (es : List Nat)
  | stuck
def findFree (p : Program) (ops : Array Oper) (listed : Array Bool) : List Nat → Option Nat
  | [] => none
  | i :: is => match ops[i]? with
    | some o => bif quiet p o.op && Region.free .any ops listed i then some i else findFree p ops listed is
    | none => findFree p ops listed is
/-- Does operation `j` wait for `i`, at once or by others? -/
def waits (ops : Array Oper) (i : Nat) : Nat → Nat → Bool
  | 0, _ => false
  | n + 1, j => match ops[j]? with
    | some o => o.after.toList.any fun e => Region.binds .any e && (Nat.beq e.on i || waits ops i n e.on)
    | none => false
/-- Operations that do no more than make a block of their own. -/
def makes (o : Oper) : Bool := match o.guard with
  | some _ => false
  | none => match o.op with
    | .alloc _ => true
    | .makeSlice .. => true
    | _ => false
def makesAt (ops : Array Oper) (i : Nat) : Bool := match ops[i]? with
  | some o => makes o
  | none => false
/-- `e` may come ahead of `j` or behind it: whoever waits for `e` waits for `j`, too. -/
def floats (ops : Array Oper) (listed : Array Bool) (j e : Nat) : Bool :=
  makesAt ops e && Region.free .any ops listed e && (List.range ops.size).all fun q =>
    listed.getD q true || Nat.beq q e || waits ops j ops.size q || (match ops[q]? with
      | some o => o.after.toList.all fun x => !(Region.binds .any x && Nat.beq x.on e)
      | none => true)
def pick (p : Program) (ops : Array Oper) (listed : Array Bool) : Pick :=
  match Region.ready .any ops listed with
  | [] => .done
  | r => match findFree p ops listed r with
    | some i => .quiet i
    | none => match r.find? fun j => r.all fun e => Nat.beq e j || floats ops listed j e with
      | some j => .loud j (r.filter fun e => !Nat.beq e j)
      | none => .stuck
/-- Those that may come early can be done. -/
def canE (k : K) (s : S) (ops : Array Oper) (e : Nat) : Bool := match ops[e]? with
  | some o => match evL k s o with
    | some (.val _ _) => true
    | _ => false
  | none => false
def isNormal (x : X × S) : Bool := match x.1 with
  | .normal => true
  | _ => false

/-- A cut: cells of a block from a place on, or a map. -/
inductive Cut where
  | none
  | cells (b off : Nat) (vs : List V) (n : Nat)
  | map (b : Nat) (es : List (V × V × Nat)) (clock : Nat)
def Cut.heap (n : Nat) : Cut → H
  | .none => ⟨.lf, n⟩
  | .cells b off vs m => ⟨Tr.lf.set b (.cells m ((C.s [] .lf).put off vs) 0), n⟩
  | .map b es clock => ⟨Tr.lf.set b (.map es clock), n⟩
def Cut.holds (h : H) : Cut → Bool
  | .none => true
  | .cells b off vs m => match h.t.get b with
    | some (.cells n c _) => Nat.beq n m && (match c.range off vs.length with
      | some ws => V.beqL vs ws
      | Option.none => false)
    | _ => false
  | .map b es clock => match h.t.get b with
    | some (.map fs c) => Nat.beq clock c && beqE es fs
    | _ => false
def cutCells (h : H) (b off k : Nat) : Cut := match h.t.get b with
  | some (.cells n c _) => match c.range off k with
    | some vs => .cells b off vs n
    | none => .none
  | _ => .none
def cutMap (h : H) : V → Cut
  | .mp b => match h.t.get b with
    | some (.map es clock) => .map b es clock
    | _ => .none
  | _ => .none
def cutOf (k : K) (s : S) (o : Oper) : Cut := match o.op with
  | .load t a => match s.ev a with
    | .ptr b off => cutCells s.h b off (k.p.cellsOf t)
    | _ => .none
  | .convert _ _ x => match s.ev x with
    | .sl b off len _ _ => cutCells s.h b off len
    | _ => .none
  | .lookup _ x _ _ => cutMap s.h (s.ev x)
  | .call c => match c.args.toList.map s.ev with
    | [x] => cutMap s.h x
    | _ => .none
  | _ => .none

def held (cuts : List (Nat × Cut)) (ops : Array Oper) (i : Nat) : List (Nat × Cut) := cuts.filter fun c => !waits ops c.1 ops.size i

def heldBy (k : K) (ops : Array Oper) (o : Oper) (cuts : List (Nat × Cut)) (i : Nat) : List (Nat × Cut) := bif quiet k.p o.op then cuts else held cuts ops i

def evDraw (k : K) (run : Run) (ops : Array Oper) : Nat → Array Bool → List (Nat × Cut) → S → Option Outs
  | n, listed, cuts, s => match pick k.p ops listed with
    | .done => some [(.normal, s)]
    | .stuck => none
    | .quiet i => match n with
      | 0 => none
      | n + 1 => match ops[i]? with
        | none => none
        | some o => match wantedV ops s o with
          | none => none
          | some false => match s.put o.dst .undef with
            | some s => evDraw k run ops n (listed.setIfInBounds i true) cuts s
            | none => none
          | some true =>
            bif (cutOf k s o).holds s.h then
              match evQ k ((cutOf k s o).heap s.h.n) s o with
              | some v => match s.put o.dst v with
                | some s' => evDraw k run ops n (listed.setIfInBounds i true) ((i, cutOf k s o) :: cuts) s'
                | none => none
              | none => none
            else none
    | .loud i es => match n with
      | 0 => none
      | n + 1 => match ops[i]? with
        | none => none
        | some o => bif !es.all (canE k s ops) then none else match evStep k run ops o s with
          | some l => bif l.all isNormal then goOn (fun s => bif (heldBy k ops o cuts i).all (fun c => c.2.holds s.h) then
              evDraw k run ops n (listed.setIfInBounds i true) (heldBy k ops o cuts i) s else none) l else none
          | none => none

def jumpOf : X → Option (Option Code)
  | .normal => some none
  | .ret => some (some .ret)
  | .exit id => some (some (.exit id))
  | .pan _ => none

def noSelect (ops : Array Oper) : Bool := Region.noSelect ops

/-- What comes of a loop over a function, its function having returned. -/
def endLoop (s : S) (l : Nat) : List E → Option Outs
  | [] => some []
  | e :: r => match e with
    | .pan _ _ => none
    | .ret _ h => match endLoop s l r with
      | none => none
      | some rest => match h.t.get l with
        | some (.loop st pending fn e sz ps a b d) =>
          match st with
          | .busy => none
          | _ => match pending with
            | none => some ((.normal, { s with h := h.set l (.loop .exhausted pending fn e sz ps a b d) }) :: rest)
            | some .ret => some ((.ret, { s with h := h.set l (.loop .exhausted pending fn e sz ps a b d) }) :: rest)
            | some (.exit id) => some ((.exit id, { s with h := h.set l (.loop .exhausted pending fn e sz ps a b d) }) :: rest)
            | _ => none
        | _ => none

def inBlock (id : Nat) (x : X × S) : X × S := match x.1 with
  | .exit i => bif Nat.beq i id then (.normal, x.2) else x
  | _ => x

/-- One code, in a frame of function `fid`, of a round or not. -/
def evCode (k : K) (rd : Bool) (fid : FuncId) (run : Run) (self : Code → S → Option Outs) : Code → S → Option Outs
  | .skip, s => some [(.normal, s)]
  | .region _ ops d, s => bif d then (bif rd || !noSelect ops then none else evDraw k run ops ops.size (Array.replicate ops.size false) [] s) else evOps k run ops ops.toList s
  | .seq a b, s => match evCode k rd fid run self a s with
    | some l => goOn (evCode k rd fid run self b) l
    | none => none
  | .cond c a b, s => match s.ev c with
    | .bool t => bif t then evCode k rd fid run self a s else evCode k rd fid run self b s
    | _ => none
  | .block id c, s => match evCode k rd fid run self c s with
    | some l => some (l.map (inBlock id))
    | none => none
  | .loop c, s => match evCode k rd fid run self c s with
    | some l => goOn (self (.loop c)) l
    | none => none
  | .rangeFunc g params assign body, s =>
    bif rd then none else
    match callV k ((s.h.add (.dfr true)).add (.loop .ready none fid s.e s.sz params assign body s.h.n)) (s.ev g) [.fn (.yield (Nat.succ s.h.n)) [] []] with
    | some (.call f args h) => match run.f f args h with
      | some l => endLoop { s with d := .coll s.h.n :: s.d } (Nat.succ s.h.n) l
      | none => none
    | _ => none
  | .exit id, s => some [(.exit id, s)]
  | .ret, s => some [(.ret, s)]
  | .label _, s => some [(.normal, s)]
  | _, _ => none

def resultsV (k : K) (s : S) : List ResultVar → Option (List V)
  | [] => some []
  | r :: rs => match r with
    | .tmp t => match resultsV k s rs with
      | some vs => some (evT s.e t :: vs)
      | none => none
    | .cell a t => match loadAt k t s.h (evT s.e a) with
      | some v => match resultsV k s rs with
        | some vs => some (v :: vs)
        | none => none
      | none => none

def retV : List V → V
  | [v] => v
  | vs => .tup vs

/-- The marks among the deferred calls are taken; a call that is deferred: not yet. -/
def leave : List D → H → Option H
  | [], h => some h
  | .coll b :: ds, h => match h.t.get b with
    | some (.dfr true) => leave ds (h.set b (.dfr false))
    | _ => none
  | _, _ => none

/-! The ways of a call, made one: what all of them have. -/
def beqOV : Option V → Option V → Bool
  | none, none => true
  | some a, some b => V.beq a b
  | _, _ => false
def beqB : Bt V → Bt V → Bool
  | .lf, .lf => true
  | .nd l v r, .nd m u q => beqB l m && beqOV v u && beqB r q
  | _, _ => false
def N8.beq {α : Type} (f : α → α → Bool) (m n : N8 α) : Bool := f m.a n.a && f m.b n.b && f m.c n.c && f m.d n.d && f m.e n.e && f m.f n.f && f m.g n.g && f m.h n.h
def beqT (t u : Tr V) : Bool := N8.beq (N8.beq (N8.beq beqOV)) t.r u.r && beqB t.o u.o
def beqC : C → C → Bool
  | .l a, .l b => V.beqL a b
  | .s z t, .s y u => V.beqL z y && beqT t u
  | _, _ => false
def beqNs : List Nat → List Nat → Bool
  | [], [] => true
  | a :: x, b :: y => Nat.beq a b && beqNs x y
  | _, _ => false
def beqO : O → O → Bool
  | .cells n c z, .cells m d y => Nat.beq n m && Nat.beq z y && beqC c d
  | .map es c, .map fs d => Nat.beq c d && beqE es fs
  | _, _ => false
def sameRet (v : V) : E → Bool
  | .ret u _ => V.beq v u
  | _ => false
def maxN (n : Nat) : List E → Nat
  | [] => n
  | e :: r => match e with
    | .ret _ h => maxN (bif Nat.ble n h.n then h.n else n) r
    | _ => maxN n r
def hasO (b : Nat) (o : O) : E → Bool
  | .ret _ h => match h.t.get b with
    | some q => beqO o q
    | none => false
  | _ => false
/-- The blocks below `n` that all have. -/
def common (t : Tr O) (r : List E) : Nat → Tr O
  | 0 => .lf
  | n + 1 => match t.get n with
    | some o => bif r.all (hasO n o) then (common t r n).set n o else common t r n
    | none => common t r n
def merge : List E → Option (List E)
  | [] => some []
  | e :: r => match r with
    | [] => some [e]
    | r => match e with
      | .ret v h => bif r.all (sameRet v) then some [.ret v ⟨common h.t r h.n, maxN h.n r⟩] else none
      | _ => none

/-- A body's ends, as the call's. -/
def ends (k : K) (fd : Func) : Outs → Option (List E)
  | [] => some []
  | (x, s) :: r => match ends k fd r with
    | none => none
    | some rest => match x with
      | .exit _ => none
      | .pan v => match s.d with
        | [] => some (.pan v s.h :: rest)
        | _ => none
      | _ => match leave s.d s.h with
        | some h => match resultsV k { s with h := h } fd.results.toList with
          | some vs => some (.ret (retV vs) h :: rest)
          | none => none
        | none => none

def callF (k : K) (code : Bool → FuncId → Code → S → Option Outs) (f : FuncId) (args : List V) (h : H) : Option (List E) :=
  match k.p.funcs[f]? with
  | none => none
  | some fd => match fd.body with
    | none => none
    | some c => match code false f c ⟨fillEnv .lf 0 args, Nat.add args.length (Nat.sub fd.ntmps args.length), h, []⟩ with
      | none => none
      | some l => match ends k fd l with
        | none => none
        | some es => bif k.mg f then merge es else some es

/-- A call: known already, or run. -/
def callO (k : K) (code : Bool → FuncId → Code → S → Option Outs) (f : FuncId) (args : List V) (h : H) : Option (List E) :=
  match k.orc f args h with
  | some es => some es
  | none => callF k code f args h

def setParams : Tr V → Nat → List Nat → List V → Option (Tr V)
  | e, _, [], [] => some e
  | e, sz, t :: ts, v :: vs => bif Nat.blt t sz then setParams (e.set t v) sz ts vs else none
  | _, _, _, _ => none

/-- A round's ends, as the call of yield's. -/
def endRound (l : Nat) : Outs → Option (List E)
  | [] => some []
  | (x, s) :: r => match endRound l r with
    | none => none
    | some rest => match s.d with
      | _ :: _ => none
      | [] => match s.h.t.get l with
        | some (.loop _ _ fn e sz ps a b d) => match jumpOf x with
          | none => none
          | some none => some (.ret (.bool true) (s.h.set l (.loop .ready none fn e sz ps a b d)) :: rest)
          | some (some j) => some (.ret (.bool false) (s.h.set l (.loop .done (some j) fn e sz ps a b d)) :: rest)
        | _ => none

def callY (code : Bool → FuncId → Code → S → Option Outs) (l : Nat) (args : List V) (h : H) : Option (List E) :=
  match h.t.get l with
  | some (.loop .ready _ fn e sz ps assign body _) =>
    match setParams e sz ps.toList args with
    | none => none
    | some e' => match code true fn assign ⟨e', sz, h, []⟩ with
      | some [(.normal, s)] => match s.d with
        | _ :: _ => none
        | [] => match s.h.t.get l with
          | some (.loop .ready pend fn1 e1 sz1 ps1 as1 bo1 d1) =>
            match code true fn body { s with h := s.h.set l (.loop .busy pend fn1 e1 sz1 ps1 as1 bo1 d1) } with
            | some o => endRound l o
            | none => none
          | _ => none
      | _ => none
  | _ => none

/-- Fuel: the depth of calls and of rounds. -/
def code (k : K) : Nat → Bool → FuncId → Code → S → Option Outs
  | 0 => fun _ _ _ _ => none
  | n + 1 => fun rd fid => evCode k rd fid ⟨callO k (code k n), callY (code k n), rd⟩ (code k n rd fid)

def start : H := ⟨.lf, 0⟩
def isTrue : E → Bool
  | .ret (.bool b) _ => b
  | _ => false
def shows (k : K) (fuel : Nat) (f : FuncId) : Bool :=
  match callF k (code k fuel) f [] start with
  | some l => l.all isTrue
  | _ => false

end Go.Proofs.YtnboghpebjciaaaGreatDoor.Ev

namespace Go.Proofs.YtnboghpebjciaaaGreatDoor.Ev

namespace Bt
variable {α : Type}
@[simp] theorem get_lf (i : Nat) : (Bt.lf : Bt α).get i = none := by cases i <;> rfl
theorem get_nd_zero (l r : Bt α) (v : Option α) : (Bt.nd l v r).get 0 = v := rfl
theorem get_left (t : Bt α) (j : Nat) : t.left.get j = t.get (2 * j + 1) := by
  cases t with
  | lf => simp [left]
  | nd l v r =>
    have h : Nat.mod (2 * j) 2 = 0 := by show 2 * j % 2 = 0; omega
    have h2 : Nat.div (2 * j) 2 = j := by show 2 * j / 2 = j; omega
    simp only [left, get, h, h2]
theorem get_right (t : Bt α) (j : Nat) : t.right.get j = t.get (2 * j + 2) := by
  cases t with
  | lf => simp [right]
  | nd l v r =>
    have h : Nat.mod (2 * j + 1) 2 = 1 := by show (2 * j + 1) % 2 = 1; omega
    have h2 : Nat.div (2 * j + 1) 2 = j := by show (2 * j + 1) / 2 = j; omega
    simp only [right, get, h, h2]
theorem get_top (t : Bt α) : t.top = t.get 0 := by cases t <;> rfl
theorem split (j : Nat) : j = 0 ∨ (∃ k, j = 2 * k + 1) ∨ ∃ k, j = 2 * k + 2 := by
  rcases Nat.eq_zero_or_pos j with h | h
  · exact .inl h
  · rcases Nat.mod_two_eq_zero_or_one j with h' | h'
    · exact .inr (.inr ⟨(j - 2) / 2, by omega⟩)
    · exact .inr (.inl ⟨(j - 1) / 2, by omega⟩)
theorem get_nd_odd (l r : Bt α) (v : Option α) (k : Nat) : (Bt.nd l v r).get (2 * k + 1) = l.get k := (get_left (.nd l v r) k).symm
theorem get_nd_even (l r : Bt α) (v : Option α) (k : Nat) : (Bt.nd l v r).get (2 * k + 2) = r.get k := (get_right (.nd l v r) k).symm

theorem get_put (x : Option α) : ∀ (f : Nat) (t : Bt α) (i j : Nat), i < f → (put x f t i).get j = if j = i then x else t.get j := by
  intro f
  induction f with
  | zero => intro t i j h; omega
  | succ f ih =>
    intro t i j h
    rcases split i with rfl | ⟨k, rfl⟩ | ⟨k, rfl⟩
    · simp only [put]
      rcases split j with rfl | ⟨m, rfl⟩ | ⟨m, rfl⟩
      · simp [get_nd_zero]
      · rw [get_nd_odd, get_left]; simp
      · rw [get_nd_even, get_right]; simp
    · have h1 : Nat.mod (2 * k) 2 = 0 := by show 2 * k % 2 = 0; omega
      have h2 : Nat.div (2 * k) 2 = k := by show 2 * k / 2 = k; omega
      simp only [put, h1, h2]
      rcases split j with rfl | ⟨m, rfl⟩ | ⟨m, rfl⟩
      · rw [get_nd_zero, get_top]; simp
      · rw [get_nd_odd, ih _ _ _ (by omega), get_left]
        by_cases e : m = k
        · simp [e]
        · rw [if_neg e, if_neg (by omega)]
      · rw [get_nd_even, get_right, if_neg (by omega)]
    · have h1 : Nat.mod (2 * k + 1) 2 = 1 := by show (2 * k + 1) % 2 = 1; omega
      have h2 : Nat.div (2 * k + 1) 2 = k := by show (2 * k + 1) / 2 = k; omega
      simp only [put, h1, h2]
      rcases split j with rfl | ⟨m, rfl⟩ | ⟨m, rfl⟩
      · rw [get_nd_zero, get_top]; simp
      · rw [get_nd_odd, get_left, if_neg (by omega)]
      · rw [get_nd_even, ih _ _ _ (by omega), get_right]
        by_cases e : m = k
        · simp [e]
        · rw [if_neg e, if_neg (by omega)]
end Bt

def D8.num : D8 → Nat
  | .a => 0 | .b => 1 | .c => 2 | .d => 3 | .e => 4 | .f => 5 | .g => 6 | .h => 7
theorem D8.num_of {n : Nat} (h : n < 8) : (D8.of n).num = n := by
  match n, h with
  | 0, _ | 1, _ | 2, _ | 3, _ | 4, _ | 5, _ | 6, _ | 7, _ => rfl
theorem N8.get_set {α : Type} (n : N8 α) (i j : D8) (x : α) : (n.set i x).get j = if j = i then x else n.get j := by
  cases i <;> cases j <;> rfl
theorem N8.get_all {α : Type} (x : α) (i : D8) : (N8.all x).get i = x := by cases i <;> rfl
namespace Tr
variable {α : Type}
@[simp] theorem get_lf (i : Nat) : (Tr.lf : Tr α).get i = none := by
  unfold get lf
  simp only [N8.get_all, Bt.get_lf]
  cases Nat.blt i 512 <;> rfl
theorem same {i j : Nat} (hi' : i < 512) (hj : j < 512) (h1 : hi j = hi i) (h2 : mi j = mi i) (h3 : lo j = lo i) : j = i := by
  have e1 : (hi j).num = (hi i).num := by rw [h1]
  have e2 : (mi j).num = (mi i).num := by rw [h2]
  have e3 : (lo j).num = (lo i).num := by rw [h3]
  have q1 : ∀ k, k < 512 → Nat.div k 64 < 8 := fun k hk => by show k / 64 < 8; omega
  have q2 : ∀ k, Nat.mod k 8 < 8 := fun k => Nat.mod_lt _ (by decide)
  unfold hi at e1; unfold mi at e2; unfold lo at e3
  rw [D8.num_of (q1 _ hj), D8.num_of (q1 _ hi')] at e1
  rw [D8.num_of (q2 _), D8.num_of (q2 _)] at e2 e3
  have e1 : j / 64 = i / 64 := e1
  have e2 : j / 8 % 8 = i / 8 % 8 := e2
  have e3 : j % 8 = i % 8 := e3
  omega
theorem get_upd (t : Tr α) (i j : Nat) (x : Option α) : (t.upd i x).get j = if j = i then x else t.get j := by
  have hb : ∀ k, Nat.blt k 512 = true ↔ k < 512 := fun k => ⟨fun h => Nat.lt_of_succ_le (Nat.le_of_ble_eq_true h), fun h => Nat.ble_eq_true_of_le (Nat.succ_le_of_lt h)⟩
  unfold upd
  cases hi1 : Nat.blt i 512 with
  | true =>
    simp only [cond_true]
    unfold get
    cases hj1 : Nat.blt j 512 with
    | true =>
      simp only [cond_true, N8.get_set]
      by_cases h1 : hi j = hi i
      · by_cases h2 : mi j = mi i
        · by_cases h3 : lo j = lo i
          · have := same ((hb i).1 hi1) ((hb j).1 hj1) h1 h2 h3
            simp [this, N8.get_set]
          · have : j ≠ i := fun e => h3 (by rw [e])
            simp [h1, h2, h3, this, N8.get_set]
        · have : j ≠ i := fun e => h2 (by rw [e])
          simp [h1, h2, this, N8.get_set]
      · have : j ≠ i := fun e => h1 (by rw [e])
        simp [h1, this]
    | false =>
      have : j ≠ i := fun e => by rw [e, hi1] at hj1; cases hj1
      simp only [cond_false, if_neg this]
  | false =>
    simp only [cond_false]
    unfold get
    cases hj1 : Nat.blt j 512 with
    | true =>
      have : j ≠ i := fun e => by rw [e, hi1] at hj1; cases hj1
      simp only [cond_true, if_neg this]
    | false =>
      simp only [cond_false]
      exact Bt.get_put _ _ _ _ _ (by omega)
theorem get_set (t : Tr α) (i j : Nat) (x : α) : (t.set i x).get j = if j = i then some x else t.get j := get_upd _ _ _ _
theorem get_del (t : Tr α) (i j : Nat) : (t.del i).get j = if j = i then none else t.get j := get_upd _ _ _ _
end Tr

theorem bif_some {α : Type} {b : Bool} {x : Option α} {y : α} (h : (bif b then x else none) = some y) : b = true ∧ x = some y := by cases b <;> simp_all
theorem bif_none {α : Type} {b : Bool} {x : Option α} {y : α} (h : (bif b then none else x) = some y) : b = false ∧ x = some y := by cases b <;> simp_all
theorem nth_eq {α : Type} : ∀ (l : List α) (i : Nat), nth l i = l[i]?
  | [], i => by simp [nth]
  | x :: xs, 0 => by simp [nth]
  | x :: xs, j + 1 => by simp [nth, nth_eq xs j]
theorem setNth_eq {α : Type} (x : α) : ∀ (l : List α) (i : Nat), setNth x l i = l.set i x
  | [], i => by simp [setNth]
  | y :: ys, 0 => by simp [setNth]
  | y :: ys, j + 1 => by simp [setNth, setNth_eq x ys j]

theorem C.get_set {c : C} {i j : Nat} {v : V} (hi : ∀ xs, c = .l xs → i < xs.length) : (c.set i v).get j = if j = i then some v else c.get j := by
  cases c with
  | l xs =>
    simp only [C.set, C.get, nth_eq, setNth_eq, List.getElem?_set]
    have := hi xs rfl
    by_cases e : j = i
    · subst e; simp [this]
    · rw [if_neg (fun h => e h.symm), if_neg e]
  | s z t =>
    simp only [C.set, C.get, Tr.get_set]
    by_cases e : j = i
    · simp [e]
    · simp [e]
/-- How many cells are written out. -/
def C.fits (c : C) (n : Nat) : Prop := ∀ xs, c = .l xs → n ≤ xs.length
theorem C.fits_set {c : C} {n i : Nat} {v : V} (h : c.fits n) : (c.set i v).fits n := by
  cases c with
  | l xs => intro ys e; simp only [C.set, C.l.injEq] at e; subst e; have := h xs rfl; simpa [setNth_eq] using this
  | s z t => intro ys e; simp [C.set] at e
theorem C.fits_mono {c : C} {n m : Nat} (h : c.fits n) (hm : m ≤ n) : c.fits m := fun xs e => Nat.le_trans hm (h xs e)
theorem C.get_put : ∀ (vs : List V) (c : C) (i j : Nat), c.fits (i + vs.length) → (c.put i vs).get j = if i ≤ j ∧ j < i + vs.length then vs[j - i]? else c.get j
  | [], c, i, j, _ => by
    simp only [C.put, List.length_nil, Nat.add_zero]
    rw [if_neg (by omega)]
  | v :: vs, c, i, j, h => by
    simp only [List.length_cons] at h
    simp only [C.put]
    rw [C.get_put vs _ _ _ (C.fits_mono (C.fits_set h) (by omega)), C.get_set (fun xs e => by have := h xs e; omega)]
    simp only [List.length_cons]
    by_cases e1 : j = i
    · subst e1
      rw [if_neg (by omega), if_pos rfl, if_pos (by omega)]; simp
    · by_cases e2 : i + 1 ≤ j ∧ j < i + 1 + vs.length
      · rw [if_pos e2, if_pos (by omega)]
        obtain ⟨k, rfl⟩ : ∃ k, j = i + 1 + k := ⟨j - (i + 1), by omega⟩
        rw [show i + 1 + k - (i + 1) = k from by omega, show i + 1 + k - i = k + 1 from by omega]; simp
      · rw [if_neg e2, if_neg e1, if_neg (by omega)]
theorem C.fits_put : ∀ (vs : List V) (c : C) (i n : Nat), c.fits n → (c.put i vs).fits n
  | [], _, _, _, h => h
  | _ :: vs, _, _, _, h => C.fits_put vs _ _ _ (C.fits_set h)
theorem C.range_get : ∀ (n : Nat) (c : C) (i : Nat) (vs : List V), c.range i n = some vs → vs.length = n ∧ ∀ j, j < n → c.get (i + j) = vs[j]?
  | 0, c, i, vs, h => by simp [C.range] at h; subst h; exact ⟨rfl, fun j hj => by omega⟩
  | n + 1, c, i, vs, h => by
    simp only [C.range] at h
    cases hg : c.get i with
    | none => simp [hg] at h
    | some v =>
      simp only [hg] at h
      cases hr : c.range (i + 1) n with
      | none => simp [hr] at h
      | some ws =>
        simp only [hr, Option.some.injEq] at h
        subst h
        obtain ⟨h1, h2⟩ := C.range_get n c (i + 1) ws hr
        refine ⟨by simp [h1], fun j hj => ?_⟩
        cases j with
        | zero => simpa using hg
        | succ j => have := h2 j (by omega); rw [show i + (j + 1) = i + 1 + j from by omega, this]; simp
theorem C.ofList_get (l : List V) (j : Nat) (h : j < l.length) : (C.ofList l).get j = l[j]? := by
  unfold C.ofList
  cases Nat.ble l.length small with
  | true => simp [C.get, nth_eq]
  | false => simp only [cond_false]; rw [C.get_put _ _ _ _ (fun xs e => by cases e)]; simp [h]
theorem C.ofList_fits (l : List V) : (C.ofList l).fits l.length := by
  unfold C.ofList
  cases Nat.ble l.length small with
  | true => intro xs e; simp only [cond_true, C.l.injEq] at e; subst e; exact Nat.le_refl _
  | false => exact C.fits_put _ _ _ _ (fun xs e => by cases e)
theorem rep_length (z : List V) : ∀ n, (rep z n).length = n * z.length
  | 0 => by simp [rep]
  | n + 1 => by simp [rep, rep_length z n, Nat.succ_mul]; omega
theorem rep_get (z : List V) : ∀ (n j : Nat), j < n * z.length → (rep z n)[j]? = z[j % z.length]?
  | 0, j, h => by omega
  | n + 1, j, h => by
    simp only [rep]
    by_cases hj : j < z.length
    · rw [List.getElem?_append_left hj, Nat.mod_eq_of_lt hj]
    · rw [List.getElem?_append_right (by omega), rep_get z n _ (by rw [Nat.succ_mul] at h; omega)]
      rw [← Nat.mod_eq_sub_mod (by omega)]
theorem C.zeros_get (z : List V) (n j : Nat) (h : j < n * z.length) : (C.zeros z n z.length).get j = z[j % z.length]? := by
  unfold C.zeros
  cases Nat.ble (Nat.mul n z.length) small with
  | true => simp only [cond_true, C.get, nth_eq]; exact rep_get z n j h
  | false => simp only [cond_false, C.get, Tr.get_lf, nth_eq]; rfl
theorem C.zeros_fits (z : List V) (n : Nat) : (C.zeros z n z.length).fits (n * z.length) := by
  unfold C.zeros
  cases Nat.ble (Nat.mul n z.length) small with
  | true => intro xs e; simp only [cond_true, C.l.injEq] at e; subst e; simp [rep_length]
  | false => intro xs e; simp at e

/-! Numbers. -/
theorem emod_neg (n m : Nat) (hm : 0 < m) : (Int.negSucc n) % (m : Int) = ((m - 1 - n % m : Nat) : Int) := by
  have h2 : n % m < m := Nat.mod_lt _ hm
  rw [Int.negSucc_emod _ (by omega)]
  omega
theorem wrapU_eq (m : Nat) (hm : 0 < m) (n : Int) : wrapU m n = n % (m : Int) := by
  cases n with
  | ofNat n => show ((n % m : Nat) : Int) = (n : Int) % m; exact Int.natCast_emod n m
  | negSucc n => rw [emod_neg n m hm]; rfl
theorem wrapS_eq (h m : Nat) (hm : m = 2 * h) (h0 : 0 < h) (n : Int) : wrapS h m n = if n % (m : Int) ≥ (h : Int) then n % (m : Int) - (m : Int) else n % (m : Int) := by
  have hm0 : 0 < m := by omega
  cases n with
  | ofNat n =>
    have e : (Int.ofNat n) % (m : Int) = ((n % m : Nat) : Int) := (Int.natCast_emod n m).symm
    rw [e]
    have hlt : n % m < m := Nat.mod_lt _ hm0
    simp only [wrapS]
    have b1 : Nat.blt n h = decide (n < h) := by rw [Bool.eq_iff_iff]; simp [Nat.blt_eq]
    have b2 : Nat.blt (Nat.mod n m) h = decide (n % m < h) := by rw [Bool.eq_iff_iff]; simp only [Nat.blt_eq, decide_eq_true_eq]; rfl
    rw [b1, b2]
    have h3 : Nat.sub (Nat.sub m 1) (Nat.mod n m) = m - 1 - n % m := rfl
    rw [h3]
    by_cases c : n < h
    · have : n % m = n := Nat.mod_eq_of_lt (by omega)
      rw [decide_eq_true c, cond_true, this, if_neg (by omega)]; rfl
    · rw [decide_eq_false c, cond_false]
      by_cases d : n % m < h
      · rw [decide_eq_true d, cond_true, if_neg (by omega)]; rfl
      · rw [decide_eq_false d, cond_false, if_pos (by omega)]
        omega
  | negSucc n =>
    rw [emod_neg n m hm0]
    have hlt : n % m < m := Nat.mod_lt _ hm0
    simp only [wrapS]
    have b1 : Nat.blt n h = decide (n < h) := by rw [Bool.eq_iff_iff]; simp [Nat.blt_eq]
    have b2 : Nat.blt (Nat.mod n m) h = decide (n % m < h) := by rw [Bool.eq_iff_iff]; simp only [Nat.blt_eq, decide_eq_true_eq]; rfl
    rw [b1, b2]
    have h3 : Nat.sub (Nat.sub m 1) (Nat.mod n m) = m - 1 - n % m := rfl
    rw [h3]
    have h4 : Nat.mod n m = n % m := rfl
    rw [h4]
    by_cases c : n < h
    · have : n % m = n := Nat.mod_eq_of_lt (by omega)
      rw [decide_eq_true c, cond_true, this, if_pos (by omega)]; omega
    · rw [decide_eq_false c, cond_false]
      by_cases d : n % m < h
      · rw [decide_eq_true d, cond_true, if_pos (by omega)]; omega
      · rw [decide_eq_false d, cond_false, if_neg (by omega)]; rfl
theorem wrapK_eq (k : IntKind) (n : Int) : wrapK k n = k.wrap n := by
  cases k
  case i8 => rw [show wrapK .i8 n = wrapS 128 256 n from rfl, wrapS_eq 128 256 rfl (by omega) n]; simp [IntKind.wrap, IntKind.signed, IntKind.bits]
  case i16 => rw [show wrapK .i16 n = wrapS 32768 65536 n from rfl, wrapS_eq 32768 65536 rfl (by omega) n]; simp [IntKind.wrap, IntKind.signed, IntKind.bits]
  case i32 => rw [show wrapK .i32 n = wrapS 2147483648 4294967296 n from rfl, wrapS_eq 2147483648 4294967296 rfl (by omega) n]; simp [IntKind.wrap, IntKind.signed, IntKind.bits]
  case i64 => rw [show wrapK .i64 n = wrapS 9223372036854775808 18446744073709551616 n from rfl, wrapS_eq 9223372036854775808 18446744073709551616 rfl (by omega) n]; simp [IntKind.wrap, IntKind.signed, IntKind.bits]
  case u8 => exact wrapU_eq 256 (by omega) n
  case u16 => exact wrapU_eq 65536 (by omega) n
  case u32 => exact wrapU_eq 4294967296 (by omega) n
  case u64 => exact wrapU_eq 18446744073709551616 (by omega) n
theorem bitsK_eq (k : IntKind) : bitsK k = k.bits := by cases k <;> rfl
theorem modK_eq (k : IntKind) : modK k = 2 ^ k.bits := by cases k <;> rfl
theorem toU_eq (k : IntKind) (n : Int) : toU k n = (BitVec.ofInt k.bits n).toNat := by
  have h0 : 0 < modK k := by cases k <;> decide
  have e : ((toU k n : Nat) : Int) = n % ((2 ^ k.bits : Nat) : Int) := by
    rw [← modK_eq]
    cases n with
    | ofNat n => show ((n % modK k : Nat) : Int) = _; exact Int.natCast_emod n _
    | negSucc n => rw [emod_neg n _ h0]; rfl
  rw [BitVec.toNat_ofInt, ← e]; rfl
theorem ltI_eq (a b : Int) : ltI a b = decide (a < b) := by
  rw [Bool.eq_iff_iff, decide_eq_true_eq]
  cases a <;> cases b <;> simp only [ltI, Nat.blt_eq] <;> (try omega) <;> simp <;> omega
theorem eqI_eq (a b : Int) : eqI a b = (a == b) := by
  rw [Bool.eq_iff_iff, beq_iff_eq]
  cases a <;> cases b <;> simp [eqI]
  omega
theorem eqK_eq (a b : IntKind) : eqK a b = true ↔ a = b := by cases a <;> cases b <;> simp [eqK]
theorem shlI_eq (x : Int) (n : Nat) : shlI x n = x * 2 ^ n := by
  cases x with
  | ofNat a => show ((a <<< n : Nat) : Int) = _; rw [Nat.shiftLeft_eq]; simp
  | negSucc a =>
    show Int.negSucc (((a + 1) <<< n) - 1) = _
    rw [Nat.shiftLeft_eq]
    have h : 0 < (a + 1) * 2 ^ n := Nat.mul_pos (by omega) (Nat.two_pow_pos n)
    have e1 : Int.negSucc ((a + 1) * 2 ^ n - 1) = -(((a + 1) * 2 ^ n : Nat) : Int) := by omega
    rw [e1, Int.negSucc_eq]
    simp
    rw [← Int.neg_mul]
theorem shrI_eq (x : Int) (n : Nat) : shrI x n = x.fdiv (2 ^ n) := by
  have hp : (0 : Int) < 2 ^ n := Int.pow_pos (by omega)
  cases x with
  | ofNat a =>
    show ((a >>> n : Nat) : Int) = _
    rw [Nat.shiftRight_eq_div_pow, Int.fdiv_eq_ediv_of_nonneg _ (Int.le_of_lt hp)]; simp
  | negSucc a =>
    show Int.negSucc (a >>> n) = _
    rw [Nat.shiftRight_eq_div_pow, Int.fdiv_eq_ediv_of_nonneg _ (Int.le_of_lt hp)]
    have e : ((2 ^ n : Nat) : Int) = 2 ^ n := by simp
    rw [← e, Int.negSucc_ediv _ (by rw [e]; exact hp)]
    rw [Int.negSucc_eq]; simp; rfl
theorem u8_toNat_inj {a b : UInt8} (h : a.toNat = b.toNat) : a = b := UInt8.toNat_inj.1 h
theorem eqS_eq : ∀ a b : List UInt8, eqS a b = (a == b)
  | [], [] => rfl
  | [], _ :: _ => rfl
  | _ :: _, [] => rfl
  | a :: x, b :: y => by
    simp only [eqS, List.cons_beq_cons]
    by_cases e : a = b
    · subst e; simp [eqS_eq x y]
    · have : Nat.beq a.toNat b.toNat = false := by
        cases hb : Nat.beq a.toNat b.toNat with
        | false => rfl
        | true => exact absurd (u8_toNat_inj (Nat.eq_of_beq_eq_true hb)) e
      rw [this]; simp [e]
theorem ltS_eq : ∀ a b : List UInt8, ltS a b = Op.bytesLess a b
  | _, [] => by simp [ltS, Op.bytesLess]
  | [], _ :: _ => by simp [ltS, Op.bytesLess]
  | a :: x, b :: y => by
    simp only [ltS, Op.bytesLess]
    have h1 : Nat.blt a.toNat b.toNat = decide (a < b) := by
      rw [Bool.eq_iff_iff, decide_eq_true_eq, Nat.blt_eq, UInt8.lt_iff_toNat_lt]
    have h2 : Nat.beq a.toNat b.toNat = (a == b) := by
      rw [Bool.eq_iff_iff, Nat.beq_eq, beq_iff_eq]
      exact ⟨u8_toNat_inj, fun h => by rw [h]⟩
    rw [h1, h2, ltS_eq x y]
    cases decide (a < b) <;> cases (a == b) <;> simp
end Go.Proofs.YtnboghpebjciaaaGreatDoor.Ev

namespace Go.Proofs.YtnboghpebjciaaaGreatDoor.Ev
open Go.RowKit (Below)

/-- Where an abstract block lies: its block, the offset of its first cell, how many elements more the row has room for. -/
structure Loc where
  blk : Nat
  off : Nat
  ext : Nat
abbrev Th := Nat → Option Loc

def concFn (θ : Th) : Fn → Option Fn
  | .yield l => match θ l with
    | some L => some (.yield L.blk)
    | none => none
  | f => some f

/-- What the numbers stand for. -/
class Sym where
  ρ : Nat → Value
  one : ∀ i, (ρ i).oneCell' = true
variable [Sym]
def Sy.get : Sy → Value
  | .val x => x
  | .sym i => Sym.ρ i

mutual
def conc (θ : Th) : V → Option Value
  | .bool b => some (.bool b)
  | .int k n => some (.int k n)
  | .str s => some (.string ⟨⟨s⟩⟩)
  | .nilp => some (.pointer none)
  | .ptr b off => match θ b with
    | some L => some (.pointer (some ⟨L.blk, L.off + off, none⟩))
    | none => none
  | .gp g off => some (.pointer (some ⟨g, off, none⟩))
  | .snil => some (.slice none 0 0)
  | .sl b off len cap op => match θ b with
    | some L => some (.slice (some ⟨L.blk, L.off + off, none⟩) len (cap + if op then L.ext else 0))
    | none => none
  | .e0 b off off1 => match θ b with
    | some L => some (.slice (some ⟨L.blk, L.off + (if L.ext = 0 then off else off1), none⟩) 0 L.ext)
    | none => none
  | .mnil => some (.map none)
  | .mp b => match θ b with
    | some L => some (.map (some L.blk))
    | none => none
  | .fn f first cap => match concFn θ f, concL θ first, concL θ cap with
    | some f, some a, some c => some (.func f ⟨a⟩ ⟨c⟩)
    | _, _, _ => none
  | .nilf => some .nilFunc
  | .iface t v => match conc θ v with
    | some x => some (.iface t x)
    | none => none
  | .nili => some .nilIface
  | .agg l => match concL θ l with
    | some a => some (.agg ⟨a⟩)
    | none => none
  | .tup l => match concL θ l with
    | some a => some (.tuple ⟨a⟩)
    | none => none
  | .opq x => some x.get
def concL (θ : Th) : List V → Option (List Value)
  | [] => some []
  | v :: vs => match conc θ v, concL θ vs with
    | some x, some xs => some (x :: xs)
    | _, _ => none
end

/-- `θ'` says all that `θ` says. -/
def Th.le (θ θ' : Th) : Prop := ∀ b L, θ b = some L → θ' b = some L
theorem Th.le_refl (θ : Th) : θ.le θ := fun _ _ h => h
theorem Th.le_trans {a b c : Th} (h : a.le b) (h' : b.le c) : a.le c := fun x L e => h' x L (h x L e)

theorem concFn_le {θ θ' : Th} (h : θ.le θ') {f g : Fn} (e : concFn θ f = some g) : concFn θ' f = some g := by
  cases f <;> simp only [concFn] at e ⊢ <;> try exact e
  rename_i l
  cases hl : θ l with
  | none => simp [hl] at e
  | some L => rw [h l L hl]; simpa [hl] using e
mutual
theorem conc_le {θ θ' : Th} (h : θ.le θ') : ∀ (v : V) (x : Value), conc θ v = some x → conc θ' v = some x
  | .bool b, x, e | .int k n, x, e | .str s, x, e | .nilp, x, e | .gp g o, x, e | .snil, x, e | .mnil, x, e | .nilf, x, e | .nili, x, e | .opq y, x, e => by simpa [conc] using e
  | .ptr b off, x, e => by
    simp only [conc] at e ⊢
    cases hb : θ b with
    | none => simp [hb] at e
    | some L => rw [h b L hb]; simpa [hb] using e
  | .sl b off len cap op, x, e => by
    simp only [conc] at e ⊢
    cases hb : θ b with
    | none => simp [hb] at e
    | some L => rw [h b L hb]; simpa [hb] using e
  | .mp b, x, e => by
    simp only [conc] at e ⊢
    cases hb : θ b with
    | none => simp [hb] at e
    | some L => rw [h b L hb]; simpa [hb] using e
  | .e0 b off off1, x, e => by
    simp only [conc] at e ⊢
    cases hb : θ b with
    | none => simp [hb] at e
    | some L => rw [h b L hb]; simpa [hb] using e
  | .fn f a c, x, e => by
    simp only [conc] at e ⊢
    cases hf : concFn θ f with
    | none => simp [hf] at e
    | some g =>
      cases ha : concL θ a with
      | none => simp [hf, ha] at e
      | some as =>
        cases hc : concL θ c with
        | none => simp [hf, ha, hc] at e
        | some cs => rw [concFn_le h hf, concL_le h a as ha, concL_le h c cs hc]; simpa [hf, ha, hc] using e
  | .iface t v, x, e => by
    simp only [conc] at e ⊢
    cases hv : conc θ v with
    | none => simp [hv] at e
    | some y => rw [conc_le h v y hv]; simpa [hv] using e
  | .agg l, x, e => by
    simp only [conc] at e ⊢
    cases hv : concL θ l with
    | none => simp [hv] at e
    | some y => rw [concL_le h l y hv]; simpa [hv] using e
  | .tup l, x, e => by
    simp only [conc] at e ⊢
    cases hv : concL θ l with
    | none => simp [hv] at e
    | some y => rw [concL_le h l y hv]; simpa [hv] using e
theorem concL_le {θ θ' : Th} (h : θ.le θ') : ∀ (l : List V) (x : List Value), concL θ l = some x → concL θ' l = some x
  | [], x, e => by simpa [concL] using e
  | v :: vs, x, e => by
    simp only [concL] at e ⊢
    cases hv : conc θ v with
    | none => simp [hv] at e
    | some y =>
      cases hs : concL θ vs with
      | none => simp [hv, hs] at e
      | some ys => rw [conc_le h v y hv, concL_le h vs ys hs]; simpa [hv, hs] using e
end

theorem concL_nil (θ : Th) : concL θ [] = some [] := by simp [concL]
theorem concL_cons {θ : Th} {v : V} {vs : List V} {xs : List Value} : concL θ (v :: vs) = some xs ↔ ∃ y ys, conc θ v = some y ∧ concL θ vs = some ys ∧ xs = y :: ys := by
  simp only [concL]
  cases conc θ v <;> cases concL θ vs <;> simp [eq_comm]
theorem concL_length {θ : Th} : ∀ {l : List V} {xs : List Value}, concL θ l = some xs → xs.length = l.length
  | [], xs, h => by simp [concL] at h; subst h; rfl
  | v :: vs, xs, h => by obtain ⟨y, ys, _, h2, rfl⟩ := concL_cons.1 h; simp [concL_length h2]
theorem concL_get {θ : Th} : ∀ {l : List V} {xs : List Value} {i : Nat} {v : V}, concL θ l = some xs → l[i]? = some v → ∃ x, conc θ v = some x ∧ xs[i]? = some x
  | [], xs, i, v, _, hi => by simp at hi
  | w :: vs, xs, 0, v, h, hi => by
    obtain ⟨y, ys, h1, h2, rfl⟩ := concL_cons.1 h
    simp at hi; subst hi; exact ⟨y, h1, by simp⟩
  | w :: vs, xs, i + 1, v, h, hi => by
    obtain ⟨y, ys, h1, h2, rfl⟩ := concL_cons.1 h
    simp at hi
    obtain ⟨x, hx, hx'⟩ := concL_get h2 hi
    exact ⟨x, hx, by simpa using hx'⟩
theorem concL_of {θ : Th} : ∀ {l : List V} {xs : List Value}, xs.length = l.length → (∀ (i : Nat) v, l[i]? = some v → ∃ x, conc θ v = some x ∧ xs[i]? = some x) → concL θ l = some xs
  | [], [], _, _ => by simp [concL]
  | [], _ :: _, h, _ => by simp at h
  | v :: vs, [], h, _ => by simp at h
  | v :: vs, x :: xs, h, hi => by
    refine concL_cons.2 ⟨x, xs, ?_, concL_of (by simpa using h) (fun i w hw => by simpa using hi (i + 1) w (by simpa using hw)), rfl⟩
    obtain ⟨y, hy, hy'⟩ := hi 0 v (by simp)
    simp at hy'; subst hy'; exact hy
theorem concL_append {θ : Th} : ∀ {a b : List V} {xs ys : List Value}, concL θ a = some xs → concL θ b = some ys → concL θ (a ++ b) = some (xs ++ ys)
  | [], b, xs, ys, h, h' => by simp [concL] at h; subst h; simpa using h'
  | v :: vs, b, xs, ys, h, h' => by
    obtain ⟨y, zs, h1, h2, rfl⟩ := concL_cons.1 h
    exact concL_cons.2 ⟨y, zs ++ ys, h1, concL_append h2 h', rfl⟩
theorem concL_drop {θ : Th} : ∀ {l : List V} {xs : List Value} (n : Nat), concL θ l = some xs → concL θ (l.drop n) = some (xs.drop n)
  | l, xs, 0, h => by simpa using h
  | [], xs, n + 1, h => by simp [concL] at h; subst h; simp [concL]
  | v :: vs, xs, n + 1, h => by
    obtain ⟨y, ys, _, h2, rfl⟩ := concL_cons.1 h
    simpa using concL_drop n h2
theorem concL_take {θ : Th} : ∀ {l : List V} {xs : List Value} (n : Nat), concL θ l = some xs → concL θ (l.take n) = some (xs.take n)
  | l, xs, 0, h => by simp [concL]
  | [], xs, n + 1, h => by simp [concL] at h; subst h; simp [concL]
  | v :: vs, xs, n + 1, h => by
    obtain ⟨y, ys, h1, h2, rfl⟩ := concL_cons.1 h
    simp only [List.take_succ_cons]
    exact concL_cons.2 ⟨y, _, h1, concL_take n h2, rfl⟩

theorem conc_ofScalar (θ : Th) (x : Value) : conc θ (ofScalar x) = some x := by
  cases x with
  | string s => obtain ⟨⟨l⟩⟩ := s; simp [ofScalar, conc, Sy.get]
  | pointer a => cases a <;> simp [ofScalar, conc, Sy.get]
  | slice a l c =>
    cases a with
    | some a => simp [ofScalar, conc, Sy.get]
    | none => cases l <;> cases c <;> simp [ofScalar, conc, Sy.get]
  | map r => cases r <;> simp [ofScalar, conc, Sy.get]
  | _ => simp [ofScalar, conc, Sy.get]
theorem concL_ofScalar (θ : Th) : ∀ l : List Value, concL θ (l.map ofScalar) = some l
  | [] => by simp [concL]
  | x :: xs => concL_cons.2 ⟨x, xs, conc_ofScalar θ x, concL_ofScalar θ xs, rfl⟩
theorem conc_ofConst (θ : Th) (x : Value) : conc θ (ofConst x) = some x := by
  cases x with
  | agg cs => simp [ofConst, conc, concL_ofScalar]
  | tuple cs => simp [ofConst, conc, concL_ofScalar]
  | func f a c =>
    obtain ⟨a⟩ := a
    obtain ⟨c⟩ := c
    cases a <;> cases c <;> cases f <;> simp [ofConst, ofScalar, conc, concL, concFn, Sy.get]
  | _ => simp only [ofConst]; exact conc_ofScalar θ _
theorem conc_undef (θ : Th) : conc θ .undef = some undef := by simp [V.undef, conc, concL, undef]

/-! What an abstract object is in a world. -/
def OkE (θ : Th) (x : V × V × Nat) (e : MapEntry) : Prop := conc θ x.1 = some e.key ∧ conc θ x.2.1 = some e.val ∧ e.born = x.2.2
inductive OkEs (θ : Th) : List (V × V × Nat) → List MapEntry → Prop
  | nil : OkEs θ [] []
  | cons {x e xs es} : OkE θ x e → OkEs θ xs es → OkEs θ (x :: xs) (e :: es)

/-- A frame's temporaries. -/
def OkTmps (θ : Th) (e : Tr V) (sz : Nat) (tmps : Array Value) : Prop :=
  tmps.size = sz ∧ (∀ t, t < sz → conc θ (evT e t) = some (tmps.getD t undef)) ∧ ∀ t, sz ≤ t → e.get t = none

def OkO (θ : Th) (L : Loc) (w : World) : O → Prop
  | .cells n c esz => ∃ arr el lo hi, w.heap[L.blk]? = some (.cells arr el (lo, hi)) ∧ (lo = hi ∨ arr.size ≤ lo) ∧ L.off + n + L.ext * esz ≤ arr.size ∧ c.fits n ∧
      ∀ i v, i < n → c.get i = some v → ∃ x, conc θ v = some x ∧ arr[L.off + i]? = some x
  | .map es clock => L.off = 0 ∧ ∃ fs : Array MapEntry, w.heap[L.blk]? = some (.map fs clock) ∧ OkEs θ es fs.toList
  | .mapIter m since seen stepped => L.off = 0 ∧ ∃ m', w.heap[L.blk]? = some (.mapIter m' since ⟨seen⟩ stepped) ∧ (match m with
      | none => m' = none
      | some m => ∃ M, θ m = some M ∧ m' = some M.blk)
  | .strIter s pos => L.off = 0 ∧ w.heap[L.blk]? = some (.stringIter ⟨⟨s⟩⟩ pos)
  | .loop st pending _ e sz params assign body _ => ∃ fn tmps Ld, w.heap[L.blk]? = some (.loop { state := st, pending, fn, tmps, params, assign, body, defers := Ld }) ∧ OkTmps θ e sz tmps
  | .dfr b => w.heap[L.blk]? = some (.deferred (if b then some [] else none))

/-- The heap's blocks lie in the world. -/
def HRel (θ : Th) (h : H) (w : World) : Prop := ∀ b o, h.t.get b = some o → ∃ L, θ b = some L ∧ OkO θ L w o

/-- What the listed variables hold. -/
def GRel (gl : Nat → Option (List V)) (blk : Nat → Option Obj) : Prop := ∀ g xs, gl g = some xs → ∃ arr el fz, blk g = some (.cells arr el fz) ∧ ∀ (i : Nat) v, xs[i]? = some v → ∃ x, (∀ θ, conc θ v = some x) ∧ arr[i]? = some x

/-- What must stay as it is: some blocks; the streams. -/
structure Fr where
  blk : Nat → Option Obj
  os : Os
  tape : Nat → Question → Nat
  output : Array (Nat × ByteArray)
def Fr.ok (Φ : Fr) (w : World) : Prop := (∀ k o, Φ.blk k = some o → w.heap[k]? = some o) ∧ w.os = Φ.os ∧ w.tape = Φ.tape ∧ w.output = Φ.output

/-- All that is said of heap and world: the blocks lie each for itself, and none where something must stay. -/
structure Inv (Φ : Fr) (θ : Th) (h : H) (w : World) : Prop where
  rel : HRel θ h w
  fr : Φ.ok w
  far : ∀ b L, θ b = some L → L.blk < w.heap.size ∧ Φ.blk L.blk = none
  apart : ∀ b b' o o' L L', h.t.get b = some o → h.t.get b' = some o' → θ b = some L → θ b' = some L' → b ≠ b' → L.blk ≠ L'.blk
  next : ∀ b, h.n ≤ b → θ b = none

theorem Inv.grel {gl : Nat → Option (List V)} {Φ : Fr} {θ : Th} {h : H} {w : World} (hi : Inv Φ θ h w) (hg : GRel gl Φ.blk) : GRel gl fun k => w.heap[k]? := fun g xs e => by
  obtain ⟨arr, el, fz, h1, h2⟩ := hg g xs e
  exact ⟨arr, el, fz, hi.fr.1 _ _ h1, h2⟩

theorem eval_conc {θ : Th} {s : S} {a : Act} (h : OkTmps θ s.e s.sz a.tmps) (x : Operand) : conc θ (s.ev x) = some (a.eval x) := by
  cases x with
  | tmp t =>
    obtain ⟨h1, h2, h3⟩ := h
    simp only [S.ev, Act.eval]
    by_cases ht : t < s.sz
    · exact h2 t ht
    · have : s.e.get t = none := h3 t (Nat.le_of_not_lt ht)
      simp only [evT, this, conc_undef]
      rw [Array.getD_eq_getD_getElem?, Array.getElem?_eq_none (by rw [h1]; exact Nat.le_of_not_lt ht)]; rfl
  | const v => exact conc_ofConst θ v
  | global g => simp [S.ev, Act.eval, conc]
  | func f => simp [S.ev, Act.eval, conc, concFn, concL]

theorem OkTmps.le {θ θ' : Th} (h : θ.le θ') {e : Tr V} {sz : Nat} {tmps : Array Value} (ht : OkTmps θ e sz tmps) : OkTmps θ' e sz tmps :=
  ⟨ht.1, fun t hlt => conc_le h _ _ (ht.2.1 t hlt), ht.2.2⟩
theorem OkTmps.set {θ : Th} {e : Tr V} {sz : Nat} {tmps : Array Value} (ht : OkTmps θ e sz tmps) {d : Nat} {v : V} {x : Value} (hd : d < sz) (hv : conc θ v = some x) :
    OkTmps θ (e.set d v) sz (tmps.setIfInBounds d x) := by
  obtain ⟨h1, h2, h3⟩ := ht
  refine ⟨by simp [h1], fun t hlt => ?_, fun t hle => ?_⟩
  · simp only [evT, Tr.get_set]
    by_cases e1 : t = d
    · subst e1
      rw [if_pos rfl, Array.getD_eq_getD_getElem?, Array.getElem?_setIfInBounds_self_of_lt (by omega)]
      simpa using hv
    · rw [if_neg e1, Array.getD_eq_getD_getElem?, Array.getElem?_setIfInBounds_ne (fun h => e1 h.symm), ← Array.getD_eq_getD_getElem?]
      exact h2 t hlt
  · rw [Tr.get_set, if_neg (by omega)]; exact h3 t hle

theorem OkEs.le {θ θ' : Th} (h : θ.le θ') {es : List (V × V × Nat)} {fs : List MapEntry} (ho : OkEs θ es fs) : OkEs θ' es fs := by
  induction ho with
  | nil => exact .nil
  | cons hx _ ih => exact .cons ⟨conc_le h _ _ hx.1, conc_le h _ _ hx.2.1, hx.2.2⟩ ih
theorem OkEs.length {θ : Th} {es : List (V × V × Nat)} {fs : List MapEntry} (h : OkEs θ es fs) : fs.length = es.length := by
  induction h with
  | nil => rfl
  | cons _ _ ih => simp [ih]

/-- An object stands where its block is untouched. -/
theorem OkO.keep {θ θ' : Th} {L : Loc} {w w' : World} (h : θ.le θ') (hb : w'.heap[L.blk]? = w.heap[L.blk]?) : ∀ {o : O}, OkO θ L w o → OkO θ' L w' o
  | .cells n c esz, ⟨arr, el, lo, hi, h1, h2, h3, h4, h5⟩ => ⟨arr, el, lo, hi, hb.trans h1, h2, h3, h4, fun i v hi hv => let ⟨x, hx, hx'⟩ := h5 i v hi hv; ⟨x, conc_le h _ _ hx, hx'⟩⟩
  | .map es clock, ⟨h0, fs, h1, h2⟩ => ⟨h0, fs, hb.trans h1, h2.le h⟩
  | .mapIter m since seen stepped, ⟨h0, m', h1, h2⟩ => ⟨h0, m', hb.trans h1, by
      cases m with
      | none => exact h2
      | some m => obtain ⟨M, hM, e⟩ := h2; exact ⟨M, h _ _ hM, e⟩⟩
  | .strIter s pos, ⟨h0, h1⟩ => ⟨h0, hb.trans h1⟩
  | .loop .., ⟨fn, tmps, Ld, h1, h2⟩ => ⟨fn, tmps, Ld, hb.trans h1, h2.le h⟩
  | .dfr b, h1 => Eq.trans hb h1

theorem HRel.lt {θ : Th} {L : Loc} {w : World} {o : O} (h : OkO θ L w o) : L.blk < w.heap.size := by
  have key : ∀ x, w.heap[L.blk]? = some x → L.blk < w.heap.size := fun x hx => (Array.getElem?_eq_some_iff.1 hx).1
  cases o with
  | cells n c esz => obtain ⟨arr, el, lo, hi, h1, _⟩ := h; exact key _ h1
  | map es clock => obtain ⟨_, fs, h1, _⟩ := h; exact key _ h1
  | mapIter m since seen stepped => obtain ⟨_, m', h1, _⟩ := h; exact key _ h1
  | strIter s pos => exact key _ h.2
  | loop => obtain ⟨_, _, _, h1, _⟩ := h; exact key _ h1
  | dfr b => exact key _ h

/-- The next abstract block lies at `L`. -/
def Th.ins (θ : Th) (n : Nat) (L : Loc) : Th := fun b => if b = n then some L else θ b
theorem Th.le_ins {θ : Th} {n : Nat} {L : Loc} (h : θ n = none) : θ.le (θ.ins n L) := fun b M e => by
  unfold Th.ins
  rw [if_neg (fun hb => by subst hb; rw [h] at e; cases e)]; exact e
theorem Th.ins_self (θ : Th) (n : Nat) (L : Loc) : θ.ins n L n = some L := by simp [Th.ins]
theorem Th.ins_ne (θ : Th) {n b : Nat} (L : Loc) (h : b ≠ n) : θ.ins n L b = θ b := by simp [Th.ins, h]

section
variable {Φ : Fr} {w w' : World} {θ : Th} {h : H}

theorem Fr.ok_alloc (hf : Φ.ok w) (o : Obj) : Φ.ok (w.alloc o) :=
  ⟨fun k x e => by
    have h1 := hf.1 k x e
    have : k < w.heap.size := (Array.getElem?_eq_some_iff.1 h1).1
    rw [Below.heap_alloc _ _ _ this]; exact h1, hf.2.1, hf.2.2.1, hf.2.2.2⟩

/-- A turn of the world that touches no block. -/
theorem Inv.same (hi : Inv Φ θ h w) (hh : w'.heap = w.heap) (h1 : w'.os = w.os) (h2 : w'.tape = w.tape) (h3 : w'.output = w.output) : Inv Φ θ h w' :=
  ⟨fun b o e => let ⟨L, h1, h2⟩ := hi.rel b o e; ⟨L, h1, h2.keep (Th.le_refl _) (by rw [hh])⟩, ⟨fun k o e => by rw [hh]; exact hi.fr.1 k o e, h1.trans hi.fr.2.1, h2.trans hi.fr.2.2.1, h3.trans hi.fr.2.2.2⟩,
    fun b L e => by rw [hh]; exact hi.far b L e, hi.apart, hi.next⟩
theorem Inv.drew (hi : Inv Φ θ h w) : Inv Φ θ h w.drew := hi.same rfl rfl rfl rfl

/-- A block that lies in the world already, whose place nobody has, becomes the next one. -/
theorem Inv.take (hi : Inv Φ θ h w) {o : O} {L : Loc} (hlt : L.blk < w.heap.size) (hfr : Φ.blk L.blk = none) (hap : ∀ b o' L', h.t.get b = some o' → θ b = some L' → L'.blk ≠ L.blk)
    (ho : OkO (θ.ins h.n L) L w o) : Inv Φ (θ.ins h.n L) (h.add o) w := by
  have hn : θ h.n = none := hi.next h.n (Nat.le_refl _)
  have hle := Th.le_ins (L := L) hn
  refine ⟨fun b o' e => ?_, hi.fr, fun b M e => ?_, fun b b' o1 o2 L1 L2 e e' hL hL' hne => ?_, fun b hb => ?_⟩
  · simp only [H.add, Tr.get_set] at e
    by_cases hb : b = h.n
    · subst hb; rw [if_pos rfl] at e; cases e; exact ⟨_, Th.ins_self _ _ _, ho⟩
    · rw [if_neg hb] at e
      obtain ⟨M, h1, h2⟩ := hi.rel b o' e
      exact ⟨M, hle _ _ h1, h2.keep hle rfl⟩
  · by_cases hb : b = h.n
    · subst hb; rw [Th.ins_self] at e; cases e; exact ⟨hlt, hfr⟩
    · rw [Th.ins_ne _ _ hb] at e; exact hi.far b M e
  · simp only [H.add, Tr.get_set] at e e'
    by_cases hb : b = h.n
    · subst hb
      rw [Th.ins_self] at hL; cases hL
      rw [if_neg (fun hb => hne hb.symm)] at e'
      rw [Th.ins_ne _ _ (fun hb => hne hb.symm)] at hL'
      exact fun hh => hap b' o2 L2 e' hL' hh.symm
    · rw [if_neg hb] at e
      rw [Th.ins_ne _ _ hb] at hL
      by_cases hb' : b' = h.n
      · subst hb'
        rw [Th.ins_self] at hL'; cases hL'
        exact hap b o1 L1 e hL
      · rw [if_neg hb'] at e'
        rw [Th.ins_ne _ _ hb'] at hL'
        exact hi.apart b b' o1 o2 L1 L2 e e' hL hL' hne
  · simp only [H.add] at hb
    rw [Th.ins_ne _ _ (by omega)]; exact hi.next b (by omega)

/-- A new block of the world, of which the heap knows nothing yet. -/
theorem Inv.alloc (hi : Inv Φ θ h w) (obj : Obj) : Inv Φ θ h (w.alloc obj) :=
  ⟨fun b o e => let ⟨L, h1, h2⟩ := hi.rel b o e; ⟨L, h1, h2.keep (Th.le_refl _) (Below.heap_alloc _ _ _ (hi.far b L h1).1)⟩, Fr.ok_alloc hi.fr obj,
    fun b L e => ⟨by have := (hi.far b L e).1; simp; omega, (hi.far b L e).2⟩, hi.apart, hi.next⟩
theorem Fr.none_new (hf : Φ.ok w) : Φ.blk w.heap.size = none := by
  cases e : Φ.blk w.heap.size with
  | none => rfl
  | some o => have := (Array.getElem?_eq_some_iff.1 (hf.1 _ _ e)).1; omega
/-- A new block. -/
theorem Inv.add (hi : Inv Φ θ h w) {o : O} {obj : Obj} {off ext : Nat} (ho : OkO (θ.ins h.n ⟨w.heap.size, off, ext⟩) ⟨w.heap.size, off, ext⟩ (w.alloc obj) o) :
    Inv Φ (θ.ins h.n ⟨w.heap.size, off, ext⟩) (h.add o) (w.alloc obj) :=
  (hi.alloc obj).take (by simp) (Fr.none_new hi.fr) (fun b o' L' _ e => by have := (hi.far b L' e).1; show L'.blk ≠ w.heap.size; omega) ho

/-- One block is turned. -/
theorem Inv.turn (hi : Inv Φ θ h w) {b : Nat} {o o' : O} {L : Loc} (hb : h.t.get b = some o) (hL : θ b = some L) (h1 : w'.os = w.os) (h2 : w'.tape = w.tape) (h3 : w'.output = w.output) (hs : w'.heap.size = w.heap.size)
    (hk : ∀ k, k ≠ L.blk → w'.heap[k]? = w.heap[k]?) (ho : OkO θ L w' o') : Inv Φ θ (h.set b o') w' := by
  refine ⟨fun b' o1 e => ?_, ⟨fun k x e => ?_, h1.trans hi.fr.2.1, h2.trans hi.fr.2.2.1, h3.trans hi.fr.2.2.2⟩, fun b' L' e => ?_, fun b1 b2 o1 o2 L1 L2 e1 e2 hL1 hL2 hne => ?_, hi.next⟩
  · simp only [H.set, Tr.get_set] at e
    by_cases hbb : b' = b
    · subst hbb; rw [if_pos rfl] at e; cases e; exact ⟨L, hL, ho⟩
    · rw [if_neg hbb] at e
      obtain ⟨L', h1, h2⟩ := hi.rel b' o1 e
      exact ⟨L', h1, h2.keep (Th.le_refl _) (hk _ (hi.apart b' b o1 o L' L e hb h1 hL hbb))⟩
  · rw [hk k (fun hh => by subst hh; rw [(hi.far b L hL).2] at e; cases e)]
    exact hi.fr.1 k x e
  · rw [hs]; exact hi.far b' L' e
  · simp only [H.set, Tr.get_set] at e1 e2
    have g1 : ∃ o, h.t.get b1 = some o := by
      by_cases c : b1 = b
      · subst c; exact ⟨_, hb⟩
      · rw [if_neg c] at e1; exact ⟨_, e1⟩
    have g2 : ∃ o, h.t.get b2 = some o := by
      by_cases c : b2 = b
      · subst c; exact ⟨_, hb⟩
      · rw [if_neg c] at e2; exact ⟨_, e2⟩
    obtain ⟨p1, g1⟩ := g1
    obtain ⟨p2, g2⟩ := g2
    exact hi.apart b1 b2 p1 p2 L1 L2 g1 g2 hL1 hL2 hne

/-- Fewer blocks; a later number. -/
theorem Inv.sub (hi : Inv Φ θ h w) {h' : H} (hs : ∀ b o, h'.t.get b = some o → h.t.get b = some o) (hn : h.n ≤ h'.n) : Inv Φ θ h' w :=
  ⟨fun c o e => hi.rel c o (hs c o e), hi.fr, hi.far, fun b1 b2 o1 o2 L1 L2 e1 e2 => hi.apart b1 b2 o1 o2 L1 L2 (hs _ _ e1) (hs _ _ e2), fun b hb => hi.next b (by omega)⟩
theorem H.del_get {h : H} {b c : Nat} {o : O} (e : (h.del b).t.get c = some o) : c ≠ b ∧ h.t.get c = some o := by
  simp only [H.del, Tr.get_del] at e
  by_cases hc : c = b
  · rw [if_pos hc] at e; cases e
  · rw [if_neg hc] at e; exact ⟨hc, e⟩
/-- A block is let go. -/
theorem Inv.del (hi : Inv Φ θ h w) (b : Nat) : Inv Φ θ (h.del b) w := hi.sub (fun _ _ e => (H.del_get e).2) (Nat.le_refl _)
end
end Go.Proofs.YtnboghpebjciaaaGreatDoor.Ev

namespace Go.Proofs.YtnboghpebjciaaaGreatDoor.Ev
variable [Sym]
open Go.RowKit (Below)
variable {P : Program} {w : World} {θ : Th} {h : H}

/-! The program's tables, run. -/
theorem info_of {t : TypeId} {d : TypeDesc} (e : P.underlying t = some d) : ∃ i, P.info? t = some i := by
  unfold Program.underlying at e
  cases hi : P.info? t with
  | none => simp [hi] at e
  | some i => exact ⟨i, rfl⟩
theorem run_und {t : TypeId} {d : TypeDesc} (e : P.underlying t = some d) : (underlying t).run P w = .ok d w := by simp [underlying, e]
theorem run_info {t : TypeId} {i : TypeInfo} (e : P.info? t = some i) : (typeInfo t).run P w = .ok i w := by simp [typeInfo, e]
theorem run_size {t : TypeId} {d : TypeDesc} (e : P.underlying t = some d) : (sizeOf t).run P w = .ok (P.cellsOf t) w := by
  obtain ⟨i, hi⟩ := info_of e
  simp [sizeOf, run_info hi, Program.cellsOf, hi]
theorem szOf_spec {t : TypeId} {n : Nat} (e : szOf P t = some n) : n = P.cellsOf t ∧ (sizeOf t).run P w = .ok n w ∧ ∃ i, P.info? t = some i := by
  unfold szOf at e
  split at e
  · rename_i i hi
    cases e
    exact ⟨by simp [Program.cellsOf, hi], by simp [sizeOf, run_info hi], i, hi⟩
  · cases e
theorem run_isAgg {t : TypeId} {b : Bool} (e : isAggT P t = some b) : (isAgg t).run P w = .ok b w := by
  unfold isAggT at e
  split at e <;> simp at e
  all_goals (rename_i hu; subst e; simp [isAgg, run_und hu])
theorem und_of_isAgg {t : TypeId} {b : Bool} (e : isAggT P t = some b) : ∃ d, P.underlying t = some d := by
  unfold isAggT at e
  split at e <;> simp at e
  all_goals exact ⟨_, by assumption⟩
theorem zeroOf_spec {t : TypeId} {z : V} (e : zeroOf P t = some z) : ∃ i zv, P.info? t = some i ∧ i.zero = some zv ∧ z = ofConst zv ∧ z.cells.length = P.cellsOf t ∧ (zeroValue t).run P w = .ok zv w := by
  unfold zeroOf at e
  cases hi : P.info? t with
  | none => simp [hi] at e
  | some i =>
    cases hz : i.zero with
    | none => simp [hi, hz] at e
    | some zv =>
      simp only [hi, hz] at e
      cases hb : Nat.beq (ofConst zv).cells.length i.size with
      | false => simp [hb] at e
      | true =>
        simp only [hb, cond_true, Option.some.injEq] at e
        subst e
        exact ⟨i, zv, rfl, hz, rfl, by rw [Nat.eq_of_beq_eq_true hb]; simp [Program.cellsOf, hi], by simp [zeroValue, run_info hi, hz]⟩
theorem concL_opq (θ : Th) : ∀ l : List Value, concL θ (l.map fun x => .opq (.val x)) = some l
  | [] => concL_nil θ
  | x :: xs => concL_cons.2 ⟨x, xs, rfl, concL_opq θ xs, rfl⟩
theorem conc_cells {v : V} {x : Value} (e : conc θ v = some x) : concL θ v.cells = some x.cells.toList := by
  cases v with
  | agg l =>
    simp only [conc] at e
    cases hl : concL θ l with
    | none => simp [hl] at e
    | some xs => simp [hl] at e; subst e; simpa [V.cells, Value.cells] using hl
  | opq y =>
    simp only [conc, Option.some.injEq] at e; subst e
    cases y with
    | val y => exact concL_opq θ _
    | sym i =>
      refine concL_cons.2 ⟨Sym.ρ i, [], rfl, concL_nil θ, ?_⟩
      have := Sym.one i
      simp only [Sy.get]
      cases h : Sym.ρ i <;> simp [h, Value.oneCell', Value.cells] at this ⊢
  | _ =>
    refine concL_cons.2 ⟨x, [], e, concL_nil θ, ?_⟩
    simp only [conc] at e
    first
      | (cases e; rfl)
      | ((repeat' split at e) <;> first | (cases e; rfl) | simp at e)

/-! Loads. -/
theorem add_eq (b o i : Nat) : (⟨b, o, none⟩ : Addr).add i = ⟨b, o + i, none⟩ := by
  unfold Addr.add; split
  · rename_i e; subst e; rfl
  · rfl
theorem cell_of {blk i : Nat} {arr : Array Value} {el : TypeId} {fz : Nat × Nat} (e : w.heap[blk]? = some (.cells arr el fz)) : w.cell? ⟨blk, i, none⟩ = arr[i]? := by
  simp [World.cell?, e]
theorem run_loads {blk off n : Nat} {arr : Array Value} {el : TypeId} {fz : Nat × Nat} {xs : List Value} (e : w.heap[blk]? = some (.cells arr el fz)) (hl : xs.length = n)
    (hx : ∀ (j : Nat), j < n → arr[off + j]? = xs[j]?) : (loadCells ⟨blk, off, none⟩ n).run P w = .ok ⟨xs⟩ w := by
  have := run_loadCells_list (P := P) (w := w) ⟨blk, off, none⟩ xs (fun j v hj => by
    have hjl : j < xs.length := (List.getElem?_eq_some_iff.1 hj).1
    rw [add_eq, cell_of e, hx j (by omega), hj])
  rw [hl] at this; exact this
/-- A range of cells, as the world has it. -/
theorem range_conc {c : C} {off n m : Nat} {vs : List V} {arr : Array Value} {k : Nat} (hr : c.range off n = some vs) (hm : off + n ≤ m)
    (hc : ∀ i v, i < m → c.get i = some v → ∃ x, conc θ v = some x ∧ arr[k + i]? = some x) : ∃ xs, concL θ vs = some xs ∧ xs.length = n ∧ ∀ j, j < n → arr[k + off + j]? = xs[j]? := by
  obtain ⟨hl, hg⟩ := C.range_get n c off vs hr
  have key : ∀ i v, vs[i]? = some v → ∃ x, conc θ v = some x ∧ arr[k + off + i]? = some x := fun i v hv => by
    have hi : i < n := by rw [← hl]; exact (List.getElem?_eq_some_iff.1 hv).1
    obtain ⟨x, hx, hx'⟩ := hc (off + i) v (by omega) ((hg i hi).trans hv)
    exact ⟨x, hx, by rw [Nat.add_assoc]; exact hx'⟩
  clear hr hg
  induction vs generalizing n off with
  | nil => simp at hl; subst hl; exact ⟨[], concL_nil θ, rfl, fun j hj => by omega⟩
  | cons v vs ih =>
    simp at hl
    obtain ⟨x, hx, hx'⟩ := key 0 v (by simp)
    obtain ⟨xs, h1, h2, h3⟩ := ih (n := n - 1) (off := off + 1) (by omega) (by omega) (fun i u hu => by
      obtain ⟨y, hy, hy'⟩ := key (i + 1) u (by simpa using hu)
      exact ⟨y, hy, by rw [← hy']; congr 1; omega⟩)
    refine ⟨x :: xs, concL_cons.2 ⟨x, xs, hx, h1, rfl⟩, by simp; omega, fun j hj => ?_⟩
    cases j with
    | zero => simpa using hx'
    | succ j => rw [List.getElem?_cons_succ, ← h3 j (by omega)]; congr 1; omega

theorem loadC_sound {t : TypeId} {c : C} {off n blk k : Nat} {v : V} {arr : Array Value} {el : TypeId} {fz : Nat × Nat} (e : w.heap[blk]? = some (.cells arr el fz))
    (hc : ∀ i v, i < n → c.get i = some v → ∃ x, conc θ v = some x ∧ arr[k + i]? = some x) (hl : loadC P t c off n = some v) :
    ∃ x, (loadVar t ⟨blk, k + off, none⟩).run P w = .ok x w ∧ conc θ v = some x := by
  unfold loadC at hl
  cases ha : isAggT P t with
  | none => simp [ha] at hl
  | some b =>
    obtain ⟨d, hd⟩ := und_of_isAgg ha
    cases b with
    | true =>
      simp only [ha] at hl
      obtain ⟨hb, hl⟩ := bif_some hl
      have hle : off + P.cellsOf t ≤ n := Nat.le_of_ble_eq_true hb
      cases hr : c.range off (P.cellsOf t) with
      | none => simp [hr] at hl
      | some vs =>
        simp only [hr, Option.some.injEq] at hl
        subst hl
        obtain ⟨xs, h1, h2, h3⟩ := range_conc hr hle hc
        refine ⟨.agg ⟨xs⟩, ?_, by simp [conc, h1]⟩
        simp [loadVar, run_isAgg ha, run_size hd, run_loads e h2 h3]
    | false =>
      simp only [ha] at hl
      cases hb : Nat.blt off n with
      | false => simp [hb] at hl
      | true =>
        simp only [hb, cond_true] at hl
        obtain ⟨x, hx, hx'⟩ := hc off v (by simpa [Nat.blt_eq] using hb) hl
        refine ⟨x, ?_, hx⟩
        have : w.cell? ⟨blk, k + off, none⟩ = some x := by rw [cell_of e]; exact hx'
        simp [loadVar, run_isAgg ha, this]
theorem loadAt_sound {k : K} {t : TypeId} {v u : V} {y : Value} (hr : HRel θ h w) (hg : GRel k.gl fun i => w.heap[i]?) (hy : conc θ u = some y) (hl : loadAt k t h u = some v) :
    ∃ x, (Instr.loadAt t y).run k.p w = .ok x w ∧ conc θ v = some x := by
  unfold loadAt at hl
  split at hl
  · rename_i b off
    split at hl
    · rename_i n c z hget
      obtain ⟨L, hL, arr, el, lo, hi, h1, h2, h3, h4, h5⟩ := hr b _ hget
      simp [conc, hL] at hy
      subst hy
      obtain ⟨x, hx, hx'⟩ := loadC_sound (P := k.p) h1 h5 hl
      exact ⟨x, by simp [Instr.loadAt, Instr.sureAddr, hx], hx'⟩
    · simp at hl
  · rename_i g off
    split at hl
    · rename_i xs hxs
      obtain ⟨arr, el, fz, h1, h2⟩ := hg g xs hxs
      simp [conc] at hy
      subst hy
      obtain ⟨x, hx, hx'⟩ := loadC_sound (P := k.p) (k := 0) (θ := θ) h1 (c := .l xs) (n := xs.length) (fun i v _ hv => by
        obtain ⟨x, hx, hx'⟩ := h2 i v (by simpa [C.get, nth_eq] using hv)
        exact ⟨x, hx θ, by simpa using hx'⟩) hl
      exact ⟨x, by simpa [Instr.loadAt, Instr.sureAddr] using hx, hx'⟩
    · simp at hl
  · simp at hl

/-! Stores. -/
theorem run_stores : ∀ (vs : List Value) (w : World) (blk off i : Nat) (arr : Array Value) (el : TypeId) (lo hi : Nat), w.heap[blk]? = some (.cells arr el (lo, hi)) → (lo = hi ∨ arr.size ≤ lo) →
    off + i + vs.length ≤ arr.size → (∀ v ∈ vs, v.oneCell' = true) →
    ∃ w', (storeCells ⟨blk, off, none⟩ vs i).run P w = .ok () w' ∧ w'.heap.size = w.heap.size ∧ (∀ k, k ≠ blk → w'.heap[k]? = w.heap[k]?) ∧ w'.os = w.os ∧ w'.tape = w.tape ∧ w'.output = w.output ∧
      ∃ arr', w'.heap[blk]? = some (.cells arr' el (lo, hi)) ∧ arr'.size = arr.size ∧ ∀ (j : Nat), arr'[j]? = if off + i ≤ j ∧ j < off + i + vs.length then vs[j - (off + i)]? else arr[j]?
  | [], w, blk, off, i, arr, el, lo, hi, e, _, _, _ => ⟨w, rfl, rfl, fun _ _ => rfl, rfl, rfl, rfl, arr, e, rfl, fun j => by simp only [List.length_nil]; rw [if_neg (by omega)]⟩
  | v :: vs, w, blk, off, i, arr, el, lo, hi, e, hfz, hle, hone => by
    simp only [List.length_cons] at hle
    have hc : w.cell? ⟨blk, off + i, none⟩ = some arr[off + i] := by rw [cell_of e]; simp [show off + i < arr.size from by omega]
    have hf : w.frozen? ⟨blk, off + i, none⟩ = false := by
      simp only [World.frozen?, e]
      rcases hfz with h | h
      · simp; omega
      · simp; omega
    have hst : (store ((⟨blk, off, none⟩ : Addr).add i) v).run P w = .ok () (w.setCell ⟨blk, off + i, none⟩ v) := by
      rw [add_eq, run_store P w _ v .plain (hone v (by simp)), hc]
      simp [hf]
    have e' : (w.setCell ⟨blk, off + i, none⟩ v).heap[blk]? = some (.cells (arr.setIfInBounds (off + i) v) el (lo, hi)) := by
      simp [World.setCell, Array.getElem?_modify, e]
    obtain ⟨w', h1, h2, h3, h4, h5, h6, arr', h7, h8, h9⟩ := run_stores vs (w.setCell ⟨blk, off + i, none⟩ v) blk off (i + 1) _ el lo hi e' (by simpa using hfz) (by simp; omega) (fun u hu => hone u (by simp [hu]))
    refine ⟨w', ?_, by simpa using h2, fun k hk => ?_, h4, h5, h6, arr', h7, by simpa using h8, fun j => ?_⟩
    · simp only [storeCells, Sem.run_bind, hst, Result.andThen_ok]; exact h1
    · rw [h3 k hk]; exact Below.heap_setCell _ _ _ _ hk
    · rw [h9 j]
      simp only [List.length_cons]
      by_cases c1 : j = off + i
      · subst c1
        rw [if_neg (by omega), if_pos (by omega)]
        simp [show off + i < arr.size from by omega]
      · by_cases c2 : off + (i + 1) ≤ j ∧ j < off + (i + 1) + vs.length
        · rw [if_pos c2, if_pos (by omega)]
          obtain ⟨m, rfl⟩ : ∃ m, j = off + i + 1 + m := ⟨j - (off + i + 1), by omega⟩
          rw [show off + i + 1 + m - (off + (i + 1)) = m from by omega, show off + i + 1 + m - (off + i) = m + 1 from by omega]; simp
        · rw [if_neg c2, if_neg (by omega), Array.getElem?_setIfInBounds_ne (by omega)]
theorem scalar_one {v : V} {x : Value} (hs : v.scalar = true) (e : conc θ v = some x) : x.oneCell' = true := by
  cases v
  case opq y =>
    cases y with
    | val y => simp [V.scalar] at hs
    | sym i =>
      simp only [conc, Sy.get, Option.some.injEq] at e; subst e
      exact Sym.one i
  all_goals simp only [V.scalar, Bool.false_eq_true] at hs
  all_goals simp only [conc] at e
  all_goals first
    | (cases e; rfl)
    | ((repeat' split at e) <;> first | (cases e; rfl) | simp at e)
theorem scalars_one : ∀ {vs : List V} {xs : List Value}, vs.all V.scalar = true → concL θ vs = some xs → ∀ x ∈ xs, x.oneCell' = true
  | [], xs, _, e, x, hx => by simp [concL] at e; subst e; simp at hx
  | v :: vs, xs, hs, e, x, hx => by
    obtain ⟨y, ys, h1, h2, rfl⟩ := concL_cons.1 e
    simp only [List.all_cons, Bool.and_eq_true] at hs
    rcases List.mem_cons.1 hx with rfl | hx
    · exact scalar_one hs.1 h1
    · exact scalars_one hs.2 h2 x hx
theorem storeC_spec {b off : Nat} {vs : List V} {h' : H} (e : storeC h b off vs = some h') : ∃ n c z, h.t.get b = some (.cells n c z) ∧ off + vs.length ≤ n ∧ vs.all V.scalar = true ∧ h' = h.set b (.cells n (c.put off vs) z) := by
  unfold storeC at e
  split at e
  · rename_i n c z hg
    obtain ⟨hb, e⟩ := bif_some e
    simp only [Bool.and_eq_true] at hb
    simp only [Option.some.injEq] at e
    exact ⟨n, c, z, hg, Nat.le_of_ble_eq_true hb.1, hb.2, e.symm⟩
  · simp at e
theorem storeC_sound {Φ : Fr} {b off : Nat} {vs : List V} {xs : List Value} {h' : H} {L : Loc} (hi : Inv Φ θ h w) (e : storeC h b off vs = some h') (hv : concL θ vs = some xs) (hL : θ b = some L) :
    ∃ w', (storeCells ⟨L.blk, L.off + off, none⟩ xs).run P w = .ok () w' ∧ Inv Φ θ h' w' := by
  obtain ⟨n, c, z, hg, hle, hs, rfl⟩ := storeC_spec e
  obtain ⟨L', hL', arr, el, lo, hi', h1, h2, h3, h4, h5⟩ := hi.rel b _ hg
  rw [hL] at hL'; cases hL'
  have hlen := concL_length hv
  obtain ⟨w', g1, g2, g3, g4, g5, g6, arr', g7, g8, g9⟩ := run_stores (P := P) xs w L.blk (L.off + off) 0 arr el lo hi' h1 h2 (by omega) (scalars_one hs hv)
  refine ⟨w', g1, hi.turn hg hL g4 g5 g6 g2 g3 ⟨arr', el, lo, hi', g7, by rw [g8]; exact h2, by rw [g8]; exact h3, C.fits_put _ _ _ _ h4, fun i v hin hv' => ?_⟩⟩
  rw [C.get_put _ _ _ _ (C.fits_mono h4 hle)] at hv'
  rw [g9]
  by_cases c1 : off ≤ i ∧ i < off + vs.length
  · rw [if_pos c1] at hv'
    obtain ⟨x, hx, hx'⟩ := concL_get hv hv'
    exact ⟨x, hx, by rw [if_pos (by omega), ← hx']; congr 1; omega⟩
  · rw [if_neg c1] at hv'
    obtain ⟨x, hx, hx'⟩ := h5 i v hin hv'
    exact ⟨x, hx, by rw [if_neg (by omega), hx']⟩
end Go.Proofs.YtnboghpebjciaaaGreatDoor.Ev

namespace Go.Proofs.YtnboghpebjciaaaGreatDoor.Ev
variable [Sym]
variable {P : Program} {w : World} {θ : Th}

theorem part_sound {t : TypeId} {cs : List V} {xs : List Value} {off : Nat} {v : V} (h : partV P t cs off = some v) (hc : concL θ cs = some xs) :
    ∃ x, (part t ⟨xs⟩ off).run P w = .ok x w ∧ conc θ v = some x := by
  unfold partV at h
  have agg : ∀ d, P.underlying t = some d → (isAgg t).run P w = .ok true w → some (V.agg ((cs.drop off).take (P.cellsOf t))) = some v → ∃ x, (part t ⟨xs⟩ off).run P w = .ok x w ∧ conc θ v = some x := by
    intro d hd ha e
    cases e
    refine ⟨.agg ⟨(xs.drop off).take (P.cellsOf t)⟩, ?_, by simp [conc, concL_take _ (concL_drop _ hc)]⟩
    simp [part, ha, run_size hd]
  split at h
  · rename_i fs hu; exact agg _ hu (by simp [isAgg, run_und hu]) h
  · rename_i n e hu; exact agg _ hu (by simp [isAgg, run_und hu]) h
  · rename_i d hn1 hn2 hu
    obtain ⟨x, hx, hx'⟩ := concL_get hc (by rw [← nth_eq]; exact h)
    refine ⟨x, ?_, hx⟩
    have ha : (isAgg t).run P w = .ok false w := by
      simp only [isAgg, Sem.run_bind, run_und hu, Result.andThen_ok]
      cases d <;> first | rfl | exact absurd hu (hn1 _) | exact absurd hu (hn2 _ _)
    simp [part, ha, hx']
  · simp at h

theorem fieldsOf_eq {t : TypeId} {fs : Array Field} (h : P.underlying t = some (.struct fs)) : P.fieldsOf t = fs := by
  simp [Program.fieldsOf, h]

/-- The loop over an array's elements. -/
def eqElemsS (d : Nat) (elem n : Nat) (xs ys : Array Value) : List Nat → Sem Bool
  | [] => pure true
  | i :: is => do
    let a ← part elem xs (i * n)
    let b ← part elem ys (i * n)
    let r ← Op.equalIn d elem a b
    if (!r) = true then pure false else eqElemsS d elem n xs ys is

theorem run_equalIn_array (d : Nat) (t : TypeId) (len : Nat) (elem : TypeId) (xs ys : Array Value) (ht : P.underlying t = some (.array len elem)) (hs : (sizeOf elem).run P w = .ok (P.cellsOf elem) w) :
    (Op.equalIn (d + 1) t (.agg xs) (.agg ys)).run P w = (eqElemsS d elem (P.cellsOf elem) xs ys (List.range' 0 len)).run P w := by
  simp only [Op.equalIn, Sem.run_bind, run_und ht, Result.andThen_ok, hs]
  rw [Std.Legacy.Range.forIn_eq_forIn_range']
  simp only [Std.Legacy.Range.size, Nat.sub_zero, Nat.add_sub_cancel, Nat.div_one]
  generalize List.range' 0 len = is
  clear hs ht
  induction is generalizing w with
  | nil => simp [eqElemsS]
  | cons i is ih =>
    simp only [List.forIn_cons, eqElemsS, Sem.run_bind]
    generalize (part elem xs (i * P.cellsOf elem)).run P w = r1
    cases r1 with
    | ok a w1 =>
      simp only [Result.andThen_ok]
      generalize (part elem ys (i * P.cellsOf elem)).run P w1 = r2
      cases r2 with
      | ok b w2 =>
        simp only [Result.andThen_ok]
        generalize (Op.equalIn d elem a b).run P w2 = r3
        cases r3 with
        | ok r w3 =>
          cases r
          · simp
          · simp only [Result.andThen_ok, Bool.not_true, Bool.false_eq_true, if_false, Sem.run_pure]
            exact ih
        | halt x w3 => simp [Result.andThen]
      | halt x w2 => simp [Result.andThen]
    | halt x w1 => simp [Result.andThen]

/-- What is to be shown of a test of equality. -/
def EqOk (P : Program) (w : World) (θ : Th) (d : Nat) (eq : TypeId → V → V → Option Bool) : Prop :=
  ∀ t x y b a c, eq t x y = some b → conc θ x = some a → conc θ y = some c → (Op.equalIn d t a c).run P w = .ok b w

theorem eqFields_sound {d : Nat} {eq : TypeId → V → V → Option Bool} (ih : EqOk P w θ d eq) {xs ys : List V} {as cs : List Value} (hx : concL θ xs = some as) (hy : concL θ ys = some cs) :
    ∀ (fs : List Field) (b : Bool), eqFields P eq xs ys fs = some b → (Op.eqFields d ⟨as⟩ ⟨cs⟩ fs).run P w = .ok b w
  | [], b, h => by simp [eqFields] at h; subst h; simp [Op.eqFields]
  | f :: fs, b, h => by
    simp only [eqFields] at h
    split at h
    · rename_i x y hpx hpy
      obtain ⟨a, ha, ha'⟩ := part_sound (w := w) hpx hx
      obtain ⟨c, hc, hc'⟩ := part_sound (w := w) hpy hy
      split at h
      · rename_i he
        obtain ⟨hn, h⟩ := bif_none h
        have hn' : f.name ≠ "_" := by simpa using hn
        simp only [Op.eqFields, hn', ne_eq, not_false_eq_true, if_true, Sem.run_bind, ha, hc, Result.andThen_ok, ih _ _ _ _ _ _ he ha' hc']
        simpa using eqFields_sound ih hx hy fs b h
      · rename_i he
        obtain ⟨hn, h⟩ := bif_none h
        have hn' : f.name ≠ "_" := by simpa using hn
        cases h
        simp only [Op.eqFields, hn', ne_eq, not_false_eq_true, if_true, Sem.run_bind, ha, hc, Result.andThen_ok, ih _ _ _ _ _ _ he ha' hc']
        simp
      · simp at h
    · simp at h

theorem eqElems_sound {d : Nat} {eq : TypeId → V → V → Option Bool} (ih : EqOk P w θ d eq) {elem n : Nat} {xs ys : List V} {as cs : List Value} (hx : concL θ xs = some as) (hy : concL θ ys = some cs) :
    ∀ (k i : Nat) (b : Bool), eqElems P eq elem n xs ys k i = some b → (eqElemsS d elem n ⟨as⟩ ⟨cs⟩ (List.range' i k)).run P w = .ok b w
  | 0, i, b, h => by simp [eqElems] at h; subst h; simp [eqElemsS]
  | k + 1, i, b, h => by
    simp only [eqElems] at h
    split at h
    · rename_i x y hpx hpy
      obtain ⟨a, ha, ha'⟩ := part_sound (w := w) hpx hx
      obtain ⟨c, hc, hc'⟩ := part_sound (w := w) hpy hy
      have ha2 : (part elem ⟨as⟩ (i * n)).run P w = .ok a w := ha
      have hc2 : (part elem ⟨cs⟩ (i * n)).run P w = .ok c w := hc
      rw [List.range'_succ]
      split at h
      · rename_i he
        simp only [eqElemsS, Sem.run_bind, ha2, hc2, Result.andThen_ok, ih _ _ _ _ _ _ he ha' hc']
        simpa using eqElems_sound ih hx hy k (i + 1) b h
      · rename_i he
        cases h
        simp only [eqElemsS, Sem.run_bind, ha2, hc2, Result.andThen_ok, ih _ _ _ _ _ _ he ha' hc']
        simp
      · simp at h
    · simp at h


section
variable {d : Nat} {t : TypeId}
theorem eq_ptr1 {e : TypeId} (hu : P.underlying t = some (.pointer e)) (b : Option Addr) : (Op.equalIn (d + 1) t (.pointer none) (.pointer b)).run P w = .ok b.isNone w := by simp [Op.equalIn, run_und hu]
theorem eq_ptr2 {e : TypeId} (hu : P.underlying t = some (.pointer e)) (a : Addr) : (Op.equalIn (d + 1) t (.pointer (some a)) (.pointer none)).run P w = .ok false w := by simp [Op.equalIn, run_und hu]
theorem eq_sl1 {e : TypeId} (hu : P.underlying t = some (.slice e)) (b : Option Addr) (l c : Nat) : (Op.equalIn (d + 1) t (.slice none 0 0) (.slice b l c)).run P w = .ok b.isNone w := by simp [Op.equalIn, run_und hu]
theorem eq_sl2 {e : TypeId} (hu : P.underlying t = some (.slice e)) (a : Addr) (l c : Nat) : (Op.equalIn (d + 1) t (.slice (some a) l c) (.slice none 0 0)).run P w = .ok false w := by simp [Op.equalIn, run_und hu]
theorem eq_mp1 {k e : TypeId} (hu : P.underlying t = some (.map k e)) (b : Option Nat) : (Op.equalIn (d + 1) t (.map none) (.map b)).run P w = .ok b.isNone w := by simp [Op.equalIn, run_und hu]
theorem eq_mp2 {k e : TypeId} (hu : P.underlying t = some (.map k e)) (a : Nat) : (Op.equalIn (d + 1) t (.map (some a)) (.map none)).run P w = .ok false w := by simp [Op.equalIn, run_und hu]
theorem eq_fn0 {a b : Array TypeId} {c : Bool} (hu : P.underlying t = some (.func a b c)) : (Op.equalIn (d + 1) t .nilFunc .nilFunc).run P w = .ok true w := by simp [Op.equalIn, run_und hu]
theorem eq_fn1 {a b : Array TypeId} {c : Bool} (hu : P.underlying t = some (.func a b c)) (f : Fn) (x y : Array Value) : (Op.equalIn (d + 1) t .nilFunc (.func f x y)).run P w = .ok false w := by simp [Op.equalIn, run_und hu]
theorem eq_fn2 {a b : Array TypeId} {c : Bool} (hu : P.underlying t = some (.func a b c)) (f : Fn) (x y : Array Value) : (Op.equalIn (d + 1) t (.func f x y) .nilFunc).run P w = .ok false w := by simp [Op.equalIn, run_und hu]
theorem eq_if0 {m : Array (String × TypeId)} (hu : P.underlying t = some (.interface m)) : (Op.equalIn (d + 1) t .nilIface .nilIface).run P w = .ok true w := by simp [Op.equalIn, run_und hu]
theorem eq_if1 {m : Array (String × TypeId)} (hu : P.underlying t = some (.interface m)) (u : TypeId) (x : Value) : (Op.equalIn (d + 1) t .nilIface (.iface u x)).run P w = .ok false w := by simp [Op.equalIn, run_und hu]
theorem eq_if2 {m : Array (String × TypeId)} (hu : P.underlying t = some (.interface m)) (u : TypeId) (x : Value) : (Op.equalIn (d + 1) t (.iface u x) .nilIface).run P w = .ok false w := by simp [Op.equalIn, run_und hu]
end
theorem conc_ptr {b off : Nat} {x : Value} (h : conc θ (.ptr b off) = some x) : ∃ L, θ b = some L ∧ x = .pointer (some ⟨L.blk, L.off + off, none⟩) := by
  simp only [conc] at h; cases hb : θ b with
  | none => simp [hb] at h
  | some L => simp [hb] at h; exact ⟨L, rfl, h.symm⟩
theorem conc_sl {b off len cap : Nat} {op : Bool} {x : Value} (h : conc θ (.sl b off len cap op) = some x) : ∃ L, θ b = some L ∧ x = .slice (some ⟨L.blk, L.off + off, none⟩) len (cap + if op then L.ext else 0) := by
  simp only [conc] at h; cases hb : θ b with
  | none => simp [hb] at h
  | some L => simp only [hb, Option.some.injEq] at h; exact ⟨L, rfl, h.symm⟩
theorem conc_e0 {b off o1 : Nat} {x : Value} (h : conc θ (.e0 b off o1) = some x) : ∃ L, θ b = some L ∧ x = .slice (some ⟨L.blk, L.off + (if L.ext = 0 then off else o1), none⟩) 0 L.ext := by
  simp only [conc] at h; cases hb : θ b with
  | none => simp [hb] at h
  | some L => simp only [hb, Option.some.injEq] at h; exact ⟨L, rfl, h.symm⟩
theorem conc_mp {b : Nat} {x : Value} (h : conc θ (.mp b) = some x) : ∃ L, θ b = some L ∧ x = .map (some L.blk) := by
  simp only [conc] at h; cases hb : θ b with
  | none => simp [hb] at h
  | some L => simp [hb] at h; exact ⟨L, rfl, h.symm⟩
theorem conc_fn {f : Fn} {a c : List V} {x : Value} (h : conc θ (.fn f a c) = some x) : ∃ g as cs, concFn θ f = some g ∧ concL θ a = some as ∧ concL θ c = some cs ∧ x = .func g ⟨as⟩ ⟨cs⟩ := by
  simp only [conc] at h
  cases hf : concFn θ f <;> cases ha : concL θ a <;> cases hc : concL θ c <;> simp [hf, ha, hc] at h
  exact ⟨_, _, _, rfl, rfl, rfl, h.symm⟩
theorem conc_iface {t : TypeId} {v : V} {x : Value} (h : conc θ (.iface t v) = some x) : ∃ y, conc θ v = some y ∧ x = .iface t y := by
  simp only [conc] at h
  cases hv : conc θ v <;> simp [hv] at h
  exact ⟨_, rfl, h.symm⟩
theorem conc_agg {l : List V} {x : Value} (h : conc θ (.agg l) = some x) : ∃ xs, concL θ l = some xs ∧ x = .agg ⟨xs⟩ := by
  simp only [conc] at h
  cases hv : concL θ l <;> simp [hv] at h
  exact ⟨_, rfl, h.symm⟩
theorem conc_tup {l : List V} {x : Value} (h : conc θ (.tup l) = some x) : ∃ xs, concL θ l = some xs ∧ x = .tuple ⟨xs⟩ := by
  simp only [conc] at h
  cases hv : concL θ l <;> simp [hv] at h
  exact ⟨_, rfl, h.symm⟩
theorem conc_str {s : List UInt8} {x : Value} (h : conc θ (.str s) = some x) : x = .string ⟨⟨s⟩⟩ := by simpa [conc, eq_comm] using h
theorem conc_int {k : IntKind} {n : Int} {x : Value} (h : conc θ (.int k n) = some x) : x = .int k n := by simpa [conc, eq_comm] using h
theorem conc_bool {b : Bool} {x : Value} (h : conc θ (.bool b) = some x) : x = .bool b := by simpa [conc, eq_comm] using h
theorem conc_nilp {x : Value} (h : conc θ .nilp = some x) : x = .pointer none := by simpa [conc, eq_comm] using h
theorem conc_gp {g o : Nat} {x : Value} (h : conc θ (.gp g o) = some x) : x = .pointer (some ⟨g, o, none⟩) := by simpa [conc, eq_comm] using h
theorem conc_snil {x : Value} (h : conc θ .snil = some x) : x = .slice none 0 0 := by simpa [conc, eq_comm] using h
theorem conc_mnil {x : Value} (h : conc θ .mnil = some x) : x = .map none := by simpa [conc, eq_comm] using h
theorem conc_nilf {x : Value} (h : conc θ .nilf = some x) : x = .nilFunc := by simpa [conc, eq_comm] using h
theorem conc_nili {x : Value} (h : conc θ .nili = some x) : x = .nilIface := by simpa [conc, eq_comm] using h

theorem eqV_sound : ∀ d, EqOk P w θ d (eqV P d)
  | 0 => fun t x y b a c h _ _ => by simp [eqV] at h
  | d + 1 => by
    intro t x y b a c h ha hc
    have ih := eqV_sound d
    rw [eqV.eq_def] at h
    simp only at h
    split at h
    · split at h
      · rename_i hu
        simp only [conc, Option.some.injEq] at ha hc h
        subst ha hc h
        exact run_equalIn_bool' w d t _ _ hu
      · simp at h
    · split at h
      · rename_i hu
        obtain ⟨hk, h⟩ := bif_some h
        simp only [conc, Option.some.injEq] at ha hc h
        subst ha hc h
        rw [(eqK_eq _ _).1 hk, eqI_eq]
        exact run_equalIn_int w d t _ _ _ _ hu
      · simp at h
    · split at h
      · rename_i hu
        simp only [conc, Option.some.injEq] at ha hc h
        subst ha hc h
        rw [eqS_eq, run_equalIn_string w d t _ _ hu, ByteArray.toList_eq, ByteArray.toList_eq]
      · simp at h
    · rename_i xs ys
      simp only [conc] at ha hc
      cases hx : concL θ xs with
      | none => simp [hx] at ha
      | some as =>
        cases hy : concL θ ys with
        | none => simp [hy] at hc
        | some cs =>
          simp only [hx, hy, Option.some.injEq] at ha hc
          subst ha hc
          split at h
          · rename_i fs hu
            obtain ⟨hp, h⟩ := bif_none h
            rw [run_equalIn_struct w d t _ _ (by rw [fieldsOf_eq hu]; exact hu) hp, fieldsOf_eq hu]
            exact eqFields_sound ih hx hy _ _ h
          · rename_i len elem hu
            split at h
            · rename_i n hn
              obtain ⟨rfl, hs, _⟩ := szOf_spec (w := w) hn
              rw [run_equalIn_array d t _ elem _ _ hu hs]
              exact eqElems_sound ih hx hy _ _ _ h
            · simp at h
          · simp at h
    · split at h
      · rename_i hu
        split at h <;> simp only [Option.some.injEq, reduceCtorEq] at h <;> subst h
        · rw [conc_nilp ha, conc_nilp hc]; exact eq_ptr1 hu _
        · obtain ⟨L, _, rfl⟩ := conc_ptr hc; rw [conc_nilp ha]; exact eq_ptr1 hu _
        · obtain ⟨L, _, rfl⟩ := conc_ptr ha; rw [conc_nilp hc]; exact eq_ptr2 hu _
      · rename_i hu
        split at h <;> simp only [Option.some.injEq, reduceCtorEq] at h <;> subst h
        · rw [conc_nili ha, conc_nili hc]; exact eq_if0 hu
        · obtain ⟨y, _, rfl⟩ := conc_iface hc; rw [conc_nili ha]; exact eq_if1 hu _ _
        · obtain ⟨y, _, rfl⟩ := conc_iface ha; rw [conc_nili hc]; exact eq_if2 hu _ _
      · rename_i hu
        split at h <;> simp only [Option.some.injEq, reduceCtorEq] at h <;> subst h
        · rw [conc_snil ha, conc_snil hc]; exact eq_sl1 hu _ _ _
        · obtain ⟨L, _, rfl⟩ := conc_sl hc; rw [conc_snil ha]; exact eq_sl1 hu _ _ _
        · obtain ⟨L, _, rfl⟩ := conc_sl ha; rw [conc_snil hc]; exact eq_sl2 hu _ _ _
        · obtain ⟨L, _, rfl⟩ := conc_e0 hc; rw [conc_snil ha]; exact eq_sl1 hu _ _ _
        · obtain ⟨L, _, rfl⟩ := conc_e0 ha; rw [conc_snil hc]; exact eq_sl2 hu _ _ _
      · rename_i hu
        split at h <;> simp only [Option.some.injEq, reduceCtorEq] at h <;> subst h
        · rw [conc_mnil ha, conc_mnil hc]; exact eq_mp1 hu _
        · obtain ⟨L, _, rfl⟩ := conc_mp hc; rw [conc_mnil ha]; exact eq_mp1 hu _
        · obtain ⟨L, _, rfl⟩ := conc_mp ha; rw [conc_mnil hc]; exact eq_mp2 hu _
      · rename_i hu
        split at h <;> simp only [Option.some.injEq, reduceCtorEq] at h <;> subst h
        · rw [conc_nilf ha, conc_nilf hc]; exact eq_fn0 hu
        · obtain ⟨_, _, _, _, _, _, rfl⟩ := conc_fn hc; rw [conc_nilf ha]; exact eq_fn1 hu _ _ _
        · obtain ⟨_, _, _, _, _, _, rfl⟩ := conc_fn ha; rw [conc_nilf hc]; exact eq_fn2 hu _ _ _
      · simp at h
end Go.Proofs.YtnboghpebjciaaaGreatDoor.Ev

namespace Go.Proofs.YtnboghpebjciaaaGreatDoor.Ev
variable [Sym]
variable {P : Program} {w : World} {θ : Th}

/-! Keys. -/
theorem run_forIn_unit {α : Type} (g : α → PUnit → Sem (ForInStep PUnit)) : ∀ (l : List α) (w : World), (∀ x ∈ l, (g x PUnit.unit).run P w = .ok (.yield PUnit.unit) w) →
    (forIn l PUnit.unit g).run P w = .ok PUnit.unit w
  | [], w, _ => by simp
  | x :: xs, w, h => by
    simp only [List.forIn_cons, Sem.run_bind, h x (by simp), Result.andThen_ok]
    exact run_forIn_unit g xs w fun y hy => h y (by simp [hy])
theorem checkKey_plain {e : Bool} {n : Nat} {t : TypeId} {d : TypeDesc} {v : Value} (hu : P.underlying t = some d) (h1 : ∀ m, d ≠ .interface m) (h2 : ∀ m x, d ≠ .array m x) (h3 : ∀ m, d ≠ .struct m) :
    (Instr.checkKey e (n + 1) t v).run P w = .ok () w := by
  simp only [Instr.checkKey, Sem.run_bind, run_und hu, Result.andThen_ok]
  cases d <;> first | rfl | exact absurd rfl (h1 _) | exact absurd rfl (h2 _ _) | exact absurd rfl (h3 _)

theorem chkV_sound (e : Bool) : ∀ (d : Nat) (t : TypeId) (v : V) (x : Value), chkV P d t v = true → conc θ v = some x → (Instr.checkKey e d t x).run P w = .ok () w
  | 0, t, v, x, h, _ => by simp [chkV] at h
  | d + 1, t, v, x, h, hc => by
    rw [chkV.eq_def] at h
    simp only at h
    split at h
    · simp at h
    · rename_i len elem hu
      split at h
      · simp at h
      · simp at h
      · simp at h
      · rename_i cs de n hn1 hn2 hn3 hue hsz
        simp only [Bool.and_eq_true] at h
        obtain ⟨⟨h1, h2⟩, h3⟩ := h
        have h1 := Nat.eq_of_beq_eq_true h1
        have h2 := Nat.le_of_ble_eq_true h2
        have h3 := Nat.le_of_ble_eq_true h3
        subst h1
        obtain ⟨d, rfl⟩ : ∃ m, d = m + 1 := ⟨d - 1, by omega⟩
        obtain ⟨xs, hxs, rfl⟩ := conc_agg hc
        obtain ⟨_, hsz, _⟩ := szOf_spec (w := w) hsz
        have hlen := concL_length hxs
        rw [Instr.checkKey.eq_def]
        simp only [Sem.run_bind, run_und hu, Result.andThen_ok]
        rw [Std.Legacy.Range.forIn_eq_forIn_range']
        simp only [Std.Legacy.Range.size, Nat.sub_zero, Nat.add_sub_cancel, Nat.div_one]
        have key : ∀ i ∈ List.range' 0 len, (do let a ← sizeOf elem; let b ← part elem ⟨xs⟩ (i * a); Instr.checkKey e (d + 1) elem b : Sem Unit).run P w = .ok () w := by
          intro i hi
          have hi : i < len := by simpa using hi
          have hagg : (isAgg elem).run P w = .ok false w := by
            simp only [isAgg, Sem.run_bind, run_und hue, Result.andThen_ok]
            cases de <;> first | rfl | exact absurd hue (hn3 _ rfl) | exact absurd hue (hn2 _ _ rfl) | (exfalso; simp_all; done)
          have hx : xs[i]? = some xs[i] := by simp [show i < xs.length from by omega]
          have hp : (part elem ⟨xs⟩ (i * 1)).run P w = .ok xs[i] w := by simp [part, hagg, hx]
          simp only [Sem.run_bind, hsz, Result.andThen_ok, hp]
          refine checkKey_plain hue (fun m hm => ?_) (fun m x hm => ?_) (fun m hm => ?_)
          · subst hm; simp_all
          · subst hm; simp_all
          · subst hm; simp_all
        rw [run_forIn_unit _ _ w fun i hi => ?_]
        · rfl
        · have := key i hi
          simp only [Sem.run_bind] at this ⊢
          simp only [hsz, Result.andThen_ok] at this ⊢
          generalize (part elem ⟨xs⟩ (i * 1)).run P w = r at this ⊢
          cases r with
          | ok b w1 => simp only [Result.andThen_ok] at this ⊢; rw [this]; rfl
          | halt x w1 => simp [Result.andThen] at this
      · simp at h
    · rename_i fs hu
      split at h
      · rename_i cs
        obtain ⟨xs, hxs, rfl⟩ := conc_agg hc
        rw [Instr.checkKey.eq_def]
        simp only [Sem.run_bind, run_und hu, Result.andThen_ok]
        rw [← Array.forIn_toList]
        have key : ∀ f ∈ fs.toList, (if f.name ≠ "_" then do let b ← part f.type ⟨xs⟩ f.offset; Instr.checkKey e d f.type b else pure () : Sem Unit).run P w = .ok () w := by
          intro f hf
          have := List.all_eq_true.1 h f hf
          by_cases hn : f.name = "_"
          · simp [hn]
          · have hn' : (f.name == "_") = false := by simpa using hn
            simp only [hn', Bool.false_or] at this
            split at this
            · rename_i y hy
              obtain ⟨z, hz, hz'⟩ := part_sound (w := w) hy hxs
              simp only [ne_eq, hn, not_false_eq_true, if_true, Sem.run_bind, hz, Result.andThen_ok]
              exact chkV_sound e d _ _ _ this hz'
            · simp at this
        rw [run_forIn_unit _ _ w fun f hf => ?_]
        · rfl
        · have := key f hf
          by_cases hn : f.name = "_"
          · simp [hn]
          · simp only [ne_eq, hn, not_false_eq_true, if_true] at this ⊢
            simp only [Sem.run_bind] at this ⊢
            generalize (part f.type ⟨xs⟩ f.offset).run P w = r at this ⊢
            cases r with
            | ok b w1 => simp only [Result.andThen_ok] at this ⊢; rw [this]; rfl
            | halt x w1 => simp [Result.andThen] at this
      · simp at h
    · rename_i de hn1 hn2 hn3 hu
      exact checkKey_plain hu (fun m hm => hn1 m hm) (fun m x hm => hn2 m x hm) (fun m hm => hn3 m hm)
    · simp at h

/-- What a search has found, as the machine tells it. -/
def FndOk (θ : Th) : Fnd → Option (Nat × Value) → Prop
  | .no, r => r = none
  | .at_ j _ v _, r => ∃ y, conc θ v = some y ∧ r = some (j, y)
theorem findE_get {kt : TypeId} {k : V} : ∀ {es : List (V × V × Nat)} {i j : Nat} {key v : V} {born : Nat}, findE P kt k i es = some (.at_ j key v born) → i ≤ j ∧ es[j - i]? = some (key, v, born)
  | [], i, j, key, v, born, h => by simp [findE] at h
  | (x, u, b) :: es, i, j, key, v, born, h => by
    simp only [findE] at h
    split at h
    · simp only [Option.some.injEq, Fnd.at_.injEq] at h
      obtain ⟨rfl, rfl, rfl, rfl⟩ := h
      simp
    · obtain ⟨h1, h2⟩ := findE_get h
      refine ⟨Nat.le_of_succ_le h1, ?_⟩
      have : j - i = (j - Nat.succ i) + 1 := by have : i + 1 ≤ j := h1; omega
      rw [this]; simpa using h2
    · simp at h
theorem findAsking_sound {kt : TypeId} {k : V} {x : Value} (hk : conc θ k = some x) : ∀ {es : List (V × V × Nat)} {fs : List MapEntry} {i : Nat} {f : Fnd}, OkEs θ es fs → findE P kt k i es = some f →
    ∃ r, (Instr.findAsking kt x fs i).run P w = .ok r w ∧ FndOk θ f r
  | [], fs, i, f, ho, h => by
    cases ho
    simp only [findE, Option.some.injEq] at h
    subst h
    exact ⟨none, by simp [Instr.findAsking], rfl⟩
  | (y, u, b) :: es, fs, i, f, ho, h => by
    cases ho with
    | @cons _ e _ es' he ho =>
    simp only [findE] at h
    obtain ⟨h1, h2, h3⟩ := he
    have hd : Op.equal kt x e.key = Op.equalIn (Nat.succ eqDepth) kt x e.key := rfl
    split at h
    · rename_i hq
      cases h
      have := eqV_sound (P := P) (w := w) (θ := θ) _ _ _ _ _ _ _ hq hk h1
      exact ⟨some (i, e.val), by simp [Instr.findAsking, hd, this], _, h2, rfl⟩
    · rename_i hq
      have := eqV_sound (P := P) (w := w) (θ := θ) _ _ _ _ _ _ _ hq hk h1
      obtain ⟨r, hr, hr'⟩ := findAsking_sound hk ho h
      exact ⟨r, by simpa [Instr.findAsking, hd, this] using hr, hr'⟩
    · simp at h
theorem equalIn_now {kd : TypeDesc} {kt : TypeId} {x y : Value} {b : Bool} (hu : P.underlying kt = some kd) (h : Instr.sameNow kd x y = some b) (d : Nat) : (Op.equalIn (d + 1) kt x y).run P w = .ok b w := by
  unfold Instr.sameNow at h
  split at h
  · rename_i k0 k a k' b'
    split at h
    · rename_i hk
      subst hk
      simp only [Option.some.injEq] at h; subst h
      exact run_equalIn_int w d kt _ _ _ _ hu
    · simp at h
  · simp only [Option.some.injEq] at h; subst h
    simp [Op.equalIn, run_und hu]
  · simp only [Option.some.injEq] at h; subst h
    exact run_equalIn_bool' w d kt _ _ hu
  · simp at h
theorem findNow_eq {kd : TypeDesc} {kt : TypeId} {x : Value} (hu : P.underlying kt = some kd) : ∀ (fs : List MapEntry) (i : Nat) (r : Option (Nat × Value)), Instr.findNow kd x fs i = some r → (Instr.findAsking kt x fs i).run P w = .ok r w
  | [], i, r, h => by simp [Instr.findNow] at h; subst h; simp [Instr.findAsking]
  | e :: es, i, r, h => by
    simp only [Instr.findNow] at h
    have hd : Op.equal kt x e.key = Op.equalIn (9999 + 1) kt x e.key := rfl
    split at h
    · rename_i hs
      simp only [Option.some.injEq] at h; subst h
      simp [Instr.findAsking, hd, equalIn_now (w := w) hu hs]
    · rename_i hs
      simpa [Instr.findAsking, hd, equalIn_now (w := w) hu hs] using findNow_eq hu es (i + 1) r h
    · simp at h
theorem findKey_sound {kt : TypeId} {kd : TypeDesc} {k : V} {x : Value} {es : List (V × V × Nat)} {fs : List MapEntry} {f : Fnd} (hu : P.underlying kt = some kd) (hk : conc θ k = some x) (ho : OkEs θ es fs) (h : findE P kt k 0 es = some f) :
    ∃ r, (Instr.findKey kt x fs).run P w = .ok r w ∧ FndOk θ f r := by
  obtain ⟨r, hr, hr'⟩ := findAsking_sound (w := w) hk ho h
  refine ⟨r, ?_, hr'⟩
  simp only [Instr.findKey, Sem.run_bind, run_und hu, Result.andThen_ok]
  split
  · rename_i r' hn
    have := findNow_eq (w := w) hu fs 0 r' hn
    rw [this] at hr
    cases hr
    simp
  · exact hr

/-! What is written is the same. -/
theorem beqL_nil {l : List V} (h : V.beqL [] l = true) : l = [] := by cases l <;> simp [V.beqL] at h; rfl
mutual
theorem beq_eq : ∀ (a b : V), V.beq a b = true → a = b
  | .bool a, b, h => by cases b <;> simp [V.beq] at h; subst h; rfl
  | .int k a, b, h => by
    cases b <;> simp [V.beq] at h
    rename_i j c
    rw [(eqK_eq _ _).1 h.1]; have := h.2; rw [eqI_eq, beq_iff_eq] at this; rw [this]
  | .str a, b, h => by
    cases b <;> simp [V.beq] at h
    rw [eqS_eq, beq_iff_eq] at h; rw [h]
  | .nilp, b, h => by cases b <;> simp [V.beq] at h; rfl
  | .ptr a o, b, h => by cases b <;> simp [V.beq] at h; rw [h.1, h.2]
  | .gp a o, b, h => by cases b <;> simp [V.beq] at h; rw [h.1, h.2]
  | .snil, b, h => by cases b <;> simp [V.beq] at h; rfl
  | .e0 a o l, b, h => by cases b <;> simp [V.beq] at h; obtain ⟨⟨rfl, rfl⟩, rfl⟩ := h; rfl
  | .sl a o l c p, b, h => by cases b <;> simp [V.beq] at h; obtain ⟨⟨⟨⟨rfl, rfl⟩, rfl⟩, rfl⟩, rfl⟩ := h; rfl
  | .mnil, b, h => by cases b <;> simp [V.beq] at h; rfl
  | .mp a, b, h => by cases b <;> simp [V.beq] at h; rw [h]
  | .nilf, b, h => by cases b <;> simp [V.beq] at h; rfl
  | .iface t v, b, h => by
    cases b <;> simp [V.beq] at h
    rw [h.1, beq_eq _ _ h.2]
  | .nili, b, h => by cases b <;> simp [V.beq] at h; rfl
  | .agg l, b, h => by cases b <;> simp [V.beq] at h; rw [beqL_eq _ _ h]
  | .tup l, b, h => by cases b <;> simp [V.beq] at h; rw [beqL_eq _ _ h]
  | .fn f a c, b, h => by
    cases b with
    | fn g b d =>
      cases f <;> cases g <;> simp [V.beq] at h
      rw [h.1.1, beqL_eq _ _ h.1.2, beqL_eq _ _ h.2]
    | _ => cases f <;> simp [V.beq] at h
  | .opq (.val x), b, h => by cases b <;> simp [V.beq] at h
  | .opq (.sym i), b, h => by
    cases b with
    | opq y =>
      cases y with
      | sym j =>
        have h : Nat.beq i j = true := h
        rw [Nat.eq_of_beq_eq_true h]
      | val z =>
        have h : false = true := h
        cases h
    | _ => simp [V.beq] at h
theorem beqL_eq : ∀ (a b : List V), V.beqL a b = true → a = b
  | [], b, h => (beqL_nil h).symm
  | x :: a, [], h => by simp [V.beqL] at h
  | x :: a, y :: b, h => by
    simp only [V.beqL, Bool.and_eq_true] at h
    rw [beq_eq _ _ h.1, beqL_eq _ _ h.2]
end
theorem beqE_eq : ∀ (a b : List (V × V × Nat)), beqE a b = true → a = b
  | [], [], _ => rfl
  | [], _ :: _, h => by simp [beqE] at h
  | _ :: _, [], h => by simp [beqE] at h
  | (x, y, n) :: a, (z, u, m) :: b, h => by
    simp only [beqE, Bool.and_eq_true] at h
    obtain ⟨⟨⟨h1, h2⟩, h3⟩, h4⟩ := h
    rw [beq_eq _ _ h1, beq_eq _ _ h2, Nat.eq_of_beq_eq_true h3, beqE_eq _ _ h4]
end Go.Proofs.YtnboghpebjciaaaGreatDoor.Ev
