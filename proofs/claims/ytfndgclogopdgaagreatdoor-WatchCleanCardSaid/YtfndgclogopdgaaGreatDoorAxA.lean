/- The abstract executor: its definitions. -/
import Derived.Calls

/-! AX: an abstract executor of the model's code: definitions. -/
namespace Go.AX

/-- Abstract values. `ptr`, `slc` .. name blocks by numbers of their own. -/
inductive AV where
  | bool (b : Bool)
  | int (k : IntKind) (n : Int)
  | str (s : List UInt8)
  | ptr (id off : Nat)
  | nilp
  | slc (id off len cap : Nat)
  | slcU (id off len es : Nat)
  | slcE
  | slcO (len : Nat)
  | slcN
  | map (id : Nat)
  | mapN
  | chan (id : Nat)
  | fn (f : Fn) (first captured : List AV)
  | yield (id : Nat)
  | fnN
  | iface (t : TypeId) (v : AV)
  | ifaceN
  | agg (cs : List AV)
  | tup (vs : List AV)
  | glob (g : Nat)
  | top
  deriving Inhabited

/-- Binary tries over the natural numbers. -/
inductive Tr (α : Type) where
  | leaf
  | node (l : Tr α) (v : Option α) (r : Tr α)
  deriving Inhabited

/-- Two ways, by the recursor: cheap for the kernel. -/
noncomputable def bc {α : Type} (b : Bool) (t f : α) : α := @Bool.rec (fun _ => α) f t b
noncomputable def oc {α β : Type} (o : Option α) (n : β) (s : α → β) : β := @Option.rec α (fun _ => β) n s o

noncomputable def Tr.get {α : Type} (t : Tr α) : Nat → Option α :=
  @Tr.rec α (fun _ => Nat → Option α) (fun _ => none)
    (fun _ v _ ihl ihr k => bc (Nat.beq k 0) v (bc (Nat.beq (Nat.mod k 2) 1) (ihl (Nat.div k 2)) (ihr (Nat.sub (Nat.div k 2) 1)))) t

noncomputable def Tr.setL {α : Type} (n : Nat) : Nat → Option α → Tr α :=
  @Nat.rec (fun _ => Nat → Option α → Tr α) (fun _ _ => .leaf)
    (fun _ ih k a => bc (Nat.beq k 0) (.node .leaf a .leaf) (bc (Nat.beq (Nat.mod k 2) 1) (.node (ih (Nat.div k 2) a) none .leaf) (.node .leaf none (ih (Nat.sub (Nat.div k 2) 1) a)))) n

noncomputable def Tr.set {α : Type} (t : Tr α) : Nat → Option α → Tr α :=
  @Tr.rec α (fun _ => Nat → Option α → Tr α) (fun k a => Tr.setL (Nat.succ k) k a)
    (fun l v r ihl ihr k a => bc (Nat.beq k 0) (.node l a r) (bc (Nat.beq (Nat.mod k 2) 1) (.node (ihl (Nat.div k 2) a) v r) (.node l v (ihr (Nat.sub (Nat.div k 2) 1) a)))) t

/-- A loop over a function, abstract. -/
structure ALoop where
  state : LoopState
  pending : Option Code
  fn : FuncId
  tmps : Tr AV
  n : Nat
  params : Array Tmp
  assign : Code
  body : Code
  defers : Nat

structure ADef where
  f : FuncId
  args : List AV

inductive ADefer where
  | call (d : ADef)
  | collected (id : Nat)

structure AEntry where
  key : AV
  val : AV
  born : Nat

inductive AObj where
  | cells (vs : List AV) (isOpen : Bool)
  | map (es : List AEntry) (clock : Nat)
  | chan (cap : Nat) (buf : List AV)
  | loop (l : ALoop)
  | deferred

structure AH where
  mem : Tr AObj
  next : Nat
  R : Nat
  W : Nat

noncomputable def AH.rd (h : AH) (id : Nat) : AH :=
  @AH.rec (fun _ => AH) (fun mem next R W => bc (Nat.beq (Nat.lor R (Nat.shiftLeft 1 id)) 0) (AH.mk mem next (Nat.lor R (Nat.shiftLeft 1 id)) W) (AH.mk mem next (Nat.lor R (Nat.shiftLeft 1 id)) W)) h
noncomputable def AH.wr (h : AH) (id : Nat) (o : Option AObj) : AH :=
  @AH.rec (fun _ => AH) (fun mem next R W => bc (Nat.beq (Nat.lor (Nat.lor R (Nat.shiftLeft 1 id)) (Nat.lor W (Nat.shiftLeft 1 id))) 0)
    (AH.mk (mem.set id o) next (Nat.lor R (Nat.shiftLeft 1 id)) (Nat.lor W (Nat.shiftLeft 1 id)))
    (AH.mk (mem.set id o) next (Nat.lor R (Nat.shiftLeft 1 id)) (Nat.lor W (Nat.shiftLeft 1 id)))) h
noncomputable def AH.new (h : AH) (o : AObj) : AH :=
  @AH.rec (fun _ => AH) (fun mem next R W => AH.mk (mem.set next (some o)) (Nat.add next 1) R W) h

noncomputable def AV.isCell : AV → Bool
  | .agg _ | .tup _ | .top => false
  | _ => true

noncomputable def AV.cells : AV → List AV
  | .agg cs => cs
  | v => [v]

/-- A datum of the program's own text. -/
noncomputable def absL (f : Value → Option AV) : List Value → Option (List AV)
  | [] => some []
  | v :: vs => match f v with
    | none => none
    | some a => match absL f vs with
      | none => none
      | some as => some (a :: as)

noncomputable def absF : Nat → Value → Option AV
  | 0, _ => none
  | n + 1, v => match v with
    | .bool b => some (.bool b)
    | .int k i => some (.int k i)
    | .string s => some (.str s.data.toList)
    | .pointer none => some .nilp
    | .slice none 0 0 => some .slcN
    | .map none => some .mapN
    | .nilFunc => some .fnN
    | .nilIface => some .ifaceN
    | .agg cs => match absL (absF n) cs.toList with
      | some as => some (.agg as)
      | none => none
    | .tuple cs => match absL (absF n) cs.toList with
      | some as => some (.tup as)
      | none => none
    | .iface t v => match absF n v with
      | some a => some (.iface t a)
      | none => none
    | _ => none

noncomputable def abs (v : Value) : Option AV := absF 8 v

section
variable (P : Program)

noncomputable def und (t : TypeId) : Option TypeDesc := P.underlying t
noncomputable def sz (t : TypeId) : Option Nat := match P.info? t with
  | some i => some i.size
  | none => none
noncomputable def byt (t : TypeId) : Option Nat := match P.info? t with
  | some i => some i.bytes
  | none => none
noncomputable def zeroA (t : TypeId) : Option AV := match P.info? t with
  | some i => match i.zero with
    | some v => abs v
    | none => none
  | none => none
noncomputable def agg (t : TypeId) : Option Bool := match P.underlying t with
  | some (.struct _) | some (.array _ _) => some true
  | some _ => some false
  | none => none


/-- a < b, by the constructors. -/
noncomputable def ilt : Int → Int → Bool
  | .ofNat a, .ofNat b => Nat.blt a b
  | .ofNat _, .negSucc _ => false
  | .negSucc _, .ofNat _ => true
  | .negSucc a, .negSucc b => Nat.blt b a

noncomputable def ieq : Int → Int → Bool
  | .ofNat a, .ofNat b => Nat.beq a b
  | .negSucc a, .negSucc b => Nat.beq a b
  | _, _ => false

noncomputable def iadd : Int → Int → Int
  | .ofNat a, .ofNat b => .ofNat (Nat.add a b)
  | a, b => Int.add a b

noncomputable def isub : Int → Int → Int
  | .ofNat a, .ofNat b => match Nat.ble b a with
    | true => .ofNat (Nat.sub a b)
    | false => .negSucc (Nat.sub b (Nat.succ a))
  | a, b => Int.sub a b

noncomputable def imul : Int → Int → Int
  | .ofNat a, .ofNat b => .ofNat (Nat.mul a b)
  | a, b => Int.mul a b

/-- The integer kinds' wrap, quick where nothing wraps. -/
noncomputable def wrapQ (k : IntKind) (n : Int) : Int :=
  match k with
  | .i64 => match n with
    | .ofNat m => match Nat.blt m 9223372036854775808 with
      | true => n
      | false => k.wrap n
    | .negSucc m => match Nat.blt m 9223372036854775808 with
      | true => n
      | false => k.wrap n
  | .u64 => match n with
    | .ofNat m => .ofNat (Nat.mod m 18446744073709551616)
    | .negSucc _ => k.wrap n
  | .u32 => match n with
    | .ofNat m => .ofNat (Nat.mod m 4294967296)
    | .negSucc _ => k.wrap n
  | .u8 => match n with
    | .ofNat m => .ofNat (Nat.mod m 256)
    | .negSucc _ => k.wrap n
  | _ => k.wrap n

noncomputable def keq : IntKind → IntKind → Bool
  | .i8, .i8 | .i16, .i16 | .i32, .i32 | .i64, .i64 | .u8, .u8 | .u16, .u16 | .u32, .u32 | .u64, .u64 => true
  | _, _ => false

noncomputable def bytesEq : List UInt8 → List UInt8 → Bool
  | [], [] => true
  | a :: x, b :: y => match Nat.beq a.toNat b.toNat with
    | true => bytesEq x y
    | false => false
  | _, _ => false

noncomputable def bytesLt : List UInt8 → List UInt8 → Bool
  | _, [] => false
  | [], _ :: _ => true
  | a :: x, b :: y => match Nat.blt a.toNat b.toNat with
    | true => true
    | false => match Nat.beq a.toNat b.toNat with
      | true => bytesLt x y
      | false => false

noncomputable def shiftA (op : BinOp) (k : IntKind) (x y : Int) : Option AV :=
  match ilt y 0 with
  | true => none
  | false => match op with
    | .shl => some (.int k (wrapQ k (imul x (.ofNat (Nat.pow 2 (min y.toNat k.bits))))))
    | .shr => match x with
      | .ofNat m => some (.int k (.ofNat (Nat.div m (Nat.pow 2 (min y.toNat k.bits)))))
      | .negSucc _ => some (.int k (x.fdiv (2 ^ (min y.toNat k.bits))))
    | _ => none

noncomputable def bitsA (op : BinOp) (k : IntKind) (x y : Int) : Option AV :=
  match op with
  | .and => match k, x, y with
    | .u64, .ofNat a, .ofNat b => some (.int k (.ofNat (Nat.land (Nat.mod a 18446744073709551616) (Nat.mod b 18446744073709551616))))
    | .u32, .ofNat a, .ofNat b => some (.int k (.ofNat (Nat.land (Nat.mod a 4294967296) (Nat.mod b 4294967296))))
    | _, _, _ => some (.int k (k.wrap (BitVec.ofInt k.bits x &&& BitVec.ofInt k.bits y).toNat))
  | .or => some (.int k (k.wrap (BitVec.ofInt k.bits x ||| BitVec.ofInt k.bits y).toNat))
  | .xor => some (.int k (k.wrap (BitVec.ofInt k.bits x ^^^ BitVec.ofInt k.bits y).toNat))
  | .andNot => some (.int k (k.wrap (BitVec.ofInt k.bits x &&& ~~~ (BitVec.ofInt k.bits y)).toNat))
  | _ => none

noncomputable def intOp (op : BinOp) (k : IntKind) (x y : Int) : Option AV :=
  match op with
  | .add => some (.int k (wrapQ k (iadd x y)))
  | .sub => some (.int k (wrapQ k (isub x y)))
  | .mul => some (.int k (wrapQ k (imul x y)))
  | .quo => match ieq y 0 with
    | true => none
    | false => some (.int k (wrapQ k (x.tdiv y)))
  | .rem => match ieq y 0 with
    | true => none
    | false => some (.int k (x.tmod y))
  | .eql => some (.bool (ieq x y))
  | .neq => some (.bool (!ieq x y))
  | .lss => some (.bool (ilt x y))
  | .leq => some (.bool (!ilt y x))
  | .gtr => some (.bool (ilt y x))
  | .geq => some (.bool (!ilt x y))
  | _ => bitsA op k x y

noncomputable def strOp (op : BinOp) (x y : List UInt8) : Option AV :=
  match op with
  | .add => match Nat.blt (Nat.add x.length y.length) 9223372036854775808 with
    | true => some (.str (x ++ y))
    | false => none
  | .eql => some (.bool (bytesEq x y))
  | .neq => some (.bool (!bytesEq x y))
  | .lss => some (.bool (bytesLt x y))
  | .leq => some (.bool (bytesLt x y || bytesEq x y))
  | .gtr => some (.bool (!(bytesLt x y || bytesEq x y)))
  | .geq => some (.bool (!bytesLt x y))
  | _ => none

/-- The n-th of a list. -/
noncomputable def nth {α : Type} (l : List α) : Nat → Option α :=
  @List.rec α (fun _ => Nat → Option α) (fun _ => none) (fun x _ ih k => bc (Nat.beq k 0) (some x) (ih (Nat.sub k 1))) l

/-- '==' of two values of a type (none: not looked into). -/
noncomputable def partA (agg : Bool) (size : Nat) (cs : List AV) (off : Nat) : Option AV :=
  bc agg (bc (Nat.ble (Nat.add off size) cs.length) (some (.agg ((cs.drop off).take size))) none) (nth cs off)

mutual
noncomputable def eqA : Nat → TypeId → AV → AV → Option Bool
  | 0, _, _, _ => none
  | n + 1, t, x, y =>
    match P.underlying t, x, y with
    | some .bool, .bool a, .bool b => some (a == b)
    | some (.int _), .int k a, .int l b => match keq k l with
      | true => some (ieq a b)
      | false => none
    | some .string, .str a, .str b => some (bytesEq a b)
    | some (.pointer _), .nilp, .nilp => some true
    | some (.pointer _), .nilp, .ptr _ _ => some false
    | some (.pointer _), .ptr _ _, .nilp => some false
    | some (.slice _), .slcN, .slcN => some true
    | some (.slice _), .slcN, .slc _ _ _ _ => some false
    | some (.slice _), .slcN, .slcU _ _ _ _ => some false
    | some (.slice _), .slc _ _ _ _, .slcN => some false
    | some (.slice _), .slcU _ _ _ _, .slcN => some false
    | some (.map _ _), .mapN, .mapN => some true
    | some (.map _ _), .map _, .mapN => some false
    | some (.map _ _), .mapN, .map _ => some false
    | some (.func _ _ _), .fnN, .fnN => some true
    | some (.func _ _ _), .fn _ _ _, .fnN => some false
    | some (.func _ _ _), .fnN, .fn _ _ _ => some false
    | some (.interface _), .iface _ _, .ifaceN => some false
    | some (.interface _), .ifaceN, .iface _ _ => some false
    | some (.array len e), .agg xs, .agg ys => match sz P e, agg P e with
      | some s, some g => eqArr n e g s 0 len xs ys
      | _, _ => none
    | some (.struct fs), .agg xs, .agg ys => match P.stoodInHeld t with
      | true => none
      | false => eqFs n fs.toList xs ys
    | _, _, _ => none
noncomputable def eqArr : Nat → TypeId → Bool → Nat → Nat → Nat → List AV → List AV → Option Bool
  | 0, _, _, _, _, _, _, _ => none
  | _ + 1, _, _, _, _, 0, _, _ => some true
  | n + 1, e, g, s, i, len + 1, xs, ys =>
    match partA g s xs (Nat.mul i s), partA g s ys (Nat.mul i s) with
    | some a, some b => match eqA n e a b with
      | some true => eqArr n e g s (Nat.add i 1) len xs ys
      | r => r
    | _, _ => none
noncomputable def eqFs : Nat → List Field → List AV → List AV → Option Bool
  | 0, _, _, _ => none
  | _ + 1, [], _, _ => some true
  | n + 1, f :: fs, xs, ys =>
    match f.name == "_" with
    | true => none
    | false => match sz P f.type, agg P f.type with
      | some s, some g => match partA g s xs f.offset, partA g s ys f.offset with
        | some a, some b => match eqA n f.type a b with
          | some true => eqFs n fs xs ys
          | r => r
        | _, _ => none
      | _, _ => none
end

/-- May the guard of '==' on parts that are nil interfaces stay quiet? Asked of aggregates alone. -/
noncomputable def quietEq (t : TypeId) (x y : AV) : Bool :=
  match x, y with
  | .agg _, .agg _ => !(P.eqGuardType P.depth t)
  | .ifaceN, .ifaceN => false
  | .top, _ => false
  | _, .top => false
  | _, _ => true

noncomputable def binA (op : BinOp) (t : TypeId) (x y : AV) : Option AV :=
  match x, y with
  | .int k a, .int l b => match op with
    | .shl => shiftA op k a b
    | .shr => shiftA op k a b
    | _ => match keq k l with
      | true => intOp op k a b
      | false => none
  | .str a, .str b => strOp op a b
  | _, _ => match op with
    | .eql => match quietEq P t x y with
      | true => match eqA P 20 t x y with
        | some b => some (.bool b)
        | none => none
      | false => none
    | .neq => match quietEq P t x y with
      | true => match eqA P 20 t x y with
        | some b => some (.bool (!b))
        | none => none
      | false => none
    | _ => none

noncomputable def isConstO : Operand → Bool
  | .const _ => true
  | _ => false

noncomputable def binOpA (op : BinOp) (t : TypeId) (ox oy : Operand) (x y : AV) : Option AV :=
  match x, y with
  | .int _ _, _ => binA P op t x y
  | .ifaceN, .ifaceN => match isConstO ox || isConstO oy with
    | true => match P.underlying t with
      | some (.interface _) => match op with
        | .eql => some (.bool true)
        | .neq => some (.bool false)
        | _ => none
      | _ => none
    | false => none
  | _, _ => binA P op t x y

noncomputable def unA (op : UnOp) (x : AV) : Option AV :=
  match op, x with
  | .neg, .int k n => some (.int k (wrapQ k (isub (.ofNat 0) n)))
  | .not, .bool b => some (.bool (!b))
  | .xor, .int k n => bitsA .xor k (if k.signed then -1 else k.max) n
  | _, _ => none

noncomputable def convA (s d : TypeId) (x : AV) : Option AV :=
  match P.underlying s, P.underlying d, x with
  | some _, some (.int k), .int _ n => some (.int k (wrapQ k n))
  | some _, some .string, .str b => some (.str b)
  | _, _, _ => none

/-- A conversion that makes memory: a string to bytes. -/
noncomputable def convHA (s d : TypeId) (x : AV) (h : AH) : Option (AV × AH) :=
  match P.underlying s, P.underlying d, x with
  | some .string, some (.slice e), .str b => match P.underlying e, sz P e with
    | some (.int .u8), some 1 => some (.slcU h.next 0 b.length 1, h.new (.cells (b.map fun c => .int .u8 (.ofNat c.toNat)) true))
    | _, _ => none
  | _, _, _ => match convA P s d x with
    | some v => some (v, h)
    | none => none

noncomputable def fillA (place : Nat → Option (Nat × Nat)) (cells : List AV) : List (Nat × AV) → Option (List AV)
  | [] => some cells
  | (i, v) :: rest =>
    match place i with
    | none => none
    | some (off, size) =>
      match Nat.beq v.cells.length size && Nat.ble (Nat.add off size) cells.length with
      | true => fillA place (cells.take off ++ (v.cells ++ cells.drop (Nat.add off size))) rest
      | false => none

noncomputable def noTop : AV → Bool
  | .top => false
  | _ => true

noncomputable def fieldPlace? (fs : Array Field) (i : Nat) : Option (Nat × Nat) :=
  match nth fs.toList i with
  | some f => match sz P f.type with
    | some s => some (f.offset, s)
    | none => none
  | none => none

noncomputable def allSized (fs : List Field) : Bool := fs.all fun f => (sz P f.type).isSome

noncomputable def buildA (t : TypeId) (parts : List (Nat × AV)) : Option AV :=
  match parts.all (fun p => noTop p.2) with
  | false => none
  | true => match P.underlying t, zeroA P t with
    | some (.struct fs), some z => match allSized P fs.toList with
      | true => match fillA (fieldPlace? P fs) z.cells parts with
        | some cs => some (.agg cs)
        | none => none
      | false => none
    | some (.array _ e), some z => match sz P e with
      | some s => match fillA (fun i => some (Nat.mul i s, s)) z.cells parts with
        | some cs => some (.agg cs)
        | none => none
      | none => none
    | _, _ => none

noncomputable def repA (z : List AV) : Nat → List AV
  | 0 => []
  | n + 1 => z ++ repA z n

noncomputable def buildSliceA (t : TypeId) (len : Nat) (parts : List (Nat × AV)) (h : AH) : Option (AV × AH) :=
  match parts.all (fun p => noTop p.2) with
  | false => none
  | true => match P.underlying t with
    | some (.slice e) => match Nat.beq len 0, parts with
     | true, [] => match sz P e with
      | some _ => some (.slc h.next 0 0 0, h.new (.cells [] false))
      | none => none
     | true, _ => none
     | false, _ => match sz P e, zeroA P e with
      | some s, some z => match Nat.ble (Nat.mul len s) 16777216 && Nat.blt 0 (Nat.mul len s) && Nat.beq z.cells.length s with
        | true => match fillA (fun i => some (Nat.mul i s, s)) (repA z.cells len) parts with
          | some cs => some (.slc h.next 0 len len, h.new (.cells cs false))
          | none => none
        | false => none
      | _, _ => none
    | _ => none

noncomputable def loadA (t : TypeId) (a : AV) (h : AH) : Option (AV × AH) :=
  match a with
  | .ptr id off => match h.mem.get id with
    | some (.cells vs _) => match agg P t, sz P t with
      | some g, some s => match partA g s vs off with
        | some v => some (v, h.rd id)
        | none => none
      | _, _ => none
    | _ => none
  | _ => none

noncomputable def storeCellsA (vs : List AV) (off : Nat) (cs : List AV) : Option (List AV) :=
  match Nat.ble (Nat.add off cs.length) vs.length && cs.all AV.isCell with
  | true => some (vs.take off ++ (cs ++ vs.drop (Nat.add off cs.length)))
  | false => none

noncomputable def storeA (t : TypeId) (a x : AV) (h : AH) : Option AH :=
  match a with
  | .ptr id off => match h.mem.get id, sz P t with
    | some (.cells vs o), some s => match Nat.beq x.cells.length s with
      | true => match storeCellsA vs off x.cells with
        | some vs' => some (h.wr id (some (.cells vs' o)))
        | none => none
      | false => none
    | _, _ => none
  | _ => none

noncomputable def newVarA (v : AV) (h : AH) : Option (AV × AH) :=
  match v.cells.all AV.isCell with
  | true => some (.ptr h.next 0, h.new (.cells v.cells false))
  | false => none

noncomputable def fieldAddrA (t : TypeId) (x : AV) (f : Nat) : Option AV :=
  match x, P.underlying t with
  | .ptr id off, some (.struct fs) => match nth fs.toList f with
    | some fd => match sz P fd.type with
      | some s => match Nat.beq s 0 with
        | true => none
        | false => some (.ptr id (Nat.add off fd.offset))
      | none => none
    | none => none
  | _, _ => none

noncomputable def fieldA (t : TypeId) (x : AV) (f : Nat) : Option AV :=
  match x, P.underlying t with
  | .agg cs, some (.struct fs) => match nth fs.toList f with
    | some fd => match agg P fd.type, sz P fd.type with
      | some g, some s => partA g s cs fd.offset
      | _, _ => none
    | none => none
  | _, _ => none

/-- i as a place below len. -/
noncomputable def below? (i : AV) (len : Nat) : Option Nat :=
  match i with
  | .int _ (.ofNat n) => match Nat.blt n len with
    | true => some n
    | false => none
  | _ => none

noncomputable def atMost? (i : AV) (len : Nat) : Option Nat :=
  match i with
  | .int _ (.ofNat n) => match Nat.ble n len with
    | true => some n
    | false => none
  | _ => none

noncomputable def indexAddrA (t : TypeId) (x i : AV) : Option AV :=
  match P.underlying t, x with
  | some (.array len e), .ptr id off => match below? i len, sz P e with
    | some n, some s => some (.ptr id (Nat.add off (Nat.mul n s)))
    | _, _ => none
  | some (.slice e), .slc id off len _ => match below? i len, sz P e with
    | some n, some s => some (.ptr id (Nat.add off (Nat.mul n s)))
    | _, _ => none
  | some (.slice e), .slcU id off len _ => match below? i len, sz P e with
    | some n, some s => some (.ptr id (Nat.add off (Nat.mul n s)))
    | _, _ => none
  | _, _ => none

noncomputable def indexA (t : TypeId) (x i : AV) : Option AV :=
  match P.underlying t, x with
  | some (.array len e), .agg cs => match below? i len, sz P e, agg P e with
    | some n, some s, some g => partA g s cs (Nat.mul n s)
    | _, _, _ => none
  | some .string, .str s => match i with
    | .int _ (.ofNat n) => match nth s n with
      | some b => some (.int .u8 (.ofNat b.toNat))
      | none => none
    | _ => none
  | _, _ => none

noncomputable def optA (x : Option AV) (d : Nat) (most : Nat) : Option Nat :=
  match x with
  | none => some d
  | some v => atMost? v most

noncomputable def sliceA (t : TypeId) (x : AV) (lo hi : Option AV) : Option AV :=
  match P.underlying t, x with
  | some .string, .str s => match optA hi s.length s.length with
    | some h => match optA lo 0 h with
      | some l => some (.str ((s.take h).drop l))
      | none => none
    | none => none
  | some (.slice e), .slc id off len cap => match sz P e, optA hi len cap with
    | some s, some h => match optA lo 0 h with
      | some l => match Nat.beq cap l with
        | true => some (.slc id off (Nat.sub h l) 0)
        | false => some (.slc id (Nat.add off (Nat.mul l s)) (Nat.sub h l) (Nat.sub cap l))
      | none => none
    | _, _ => none
  | some (.slice e), .slcU id off len es => match sz P e, optA hi len len with
    | some s, some h => match optA lo 0 h, Nat.beq s es with
      | some l, true => match Nat.blt l len with
        | true => some (.slcU id (Nat.add off (Nat.mul l s)) (Nat.sub h l) es)
        | false => some .slcE
      | _, _ => none
    | _, _ => none
  | some (.slice el), .slcN => match sz P el, optA hi 0 0 with
    | some _, some h => match optA lo 0 h with
      | some _ => some .slcN
      | none => none
    | _, _ => none
  | some (.slice el), .slcE => match sz P el, optA hi 0 0 with
    | some _, some h => match optA lo 0 h with
      | some _ => some .slcE
      | none => none
    | _, _ => none
  | some (.array n e), .ptr id off => match sz P e, optA hi n n with
    | some s, some h => match optA lo 0 h with
      | some l => match Nat.beq n l with
        | true => some (.slc id off (Nat.sub h l) 0)
        | false => some (.slc id (Nat.add off (Nat.mul l s)) (Nat.sub h l) (Nat.sub n l))
      | none => none
    | _, _ => none
  | _, _ => none

noncomputable def lenA (t : TypeId) (x : AV) (h : AH) : Option (AV × AH) :=
  match P.underlying t, x with
  | some .string, .str s => some (.int .i64 (.ofNat s.length), h)
  | some (.array n _), _ => some (.int .i64 (.ofNat n), h)
  | some (.slice _), .slc _ _ n _ => some (.int .i64 (.ofNat n), h)
  | some (.slice _), .slcU _ _ n _ => some (.int .i64 (.ofNat n), h)
  | some (.slice _), .slcN => some (.int .i64 (.ofNat 0), h)
  | some (.slice _), .slcE => some (.int .i64 (.ofNat 0), h)
  | some (.slice _), .slcO n => some (.int .i64 (.ofNat n), h)
  | some (.map _ _), .mapN => some (.int .i64 (.ofNat 0), h)
  | some (.map _ _), .map id => match h.mem.get id with
    | some (.map es _) => some (.int .i64 (.ofNat es.length), h.rd id)
    | _ => none
  | _, _ => none

noncomputable def capA (t : TypeId) (x : AV) : Option AV :=
  match P.underlying t, x with
  | some (.slice _), .slc _ _ _ c => some (.int .i64 (.ofNat c))
  | some (.slice _), .slcN => some (.int .i64 (.ofNat 0))
  | _, _ => none

/-- The cells of the first n elements of a slice or of a string. -/
noncomputable def firstA (s n : Nat) (x : AV) (h : AH) : Option (List AV × AH) :=
  match x with
  | .slc id off _ _ => match h.mem.get id with
    | some (.cells vs _) => match Nat.ble (Nat.add off (Nat.mul n s)) vs.length with
      | true => some ((vs.drop off).take (Nat.mul n s), h.rd id)
      | false => none
    | _ => none
  | .slcU id off _ _ => match h.mem.get id with
    | some (.cells vs _) => match Nat.ble (Nat.add off (Nat.mul n s)) vs.length with
      | true => some ((vs.drop off).take (Nat.mul n s), h.rd id)
      | false => none
    | _ => none
  | .slcN => some ([], h)
  | .slcE => match Nat.beq n 0 with
    | true => some ([], h)
    | false => none
  | .str b => some ((b.take n).map fun c => .int .u8 (.ofNat c.toNat), h)
  | _ => none

noncomputable def lenOfA : AV → Option Nat
  | .slc _ _ n _ => some n
  | .slcU _ _ n _ => some n
  | .slcN => some 0
  | .slcE => some 0
  | .str s => some s.length
  | _ => none

/-- append where the slice grows: new memory of unknown room. -/
noncomputable def growA (e : TypeId) (s sLen n : Nat) (sl x : AV) (h : AH) : Option (AV × AH) :=
  match firstA s sLen sl h with
  | some (old, h1) => match firstA s n x h1, zeroA P e with
    | some (new, h2), some z => match Nat.beq z.cells.length s && z.cells.all AV.isCell with
      | true => some (.slcU h2.next 0 (Nat.add sLen n) s, h2.new (.cells (old ++ new) true))
      | false => none
    | _, _ => none
  | none => none

noncomputable def limitN : Nat := 1000000

/-- append where there is room for sure. -/
noncomputable def roomA (s n id off len cap : Nat) (x : AV) (h : AH) : Option (AV × AH) :=
  match firstA s n x h with
  | some (new, h1) => match h1.mem.get id with
    | some (.cells vs o) => match storeCellsA vs (Nat.add off (Nat.mul len s)) new with
      | some vs' => some (.slc id off (Nat.add len n) cap, h1.wr id (some (.cells vs' o)))
      | none => none
    | _ => none
  | none => none

/-- append where there may be room: the old number is no more. -/
noncomputable def maybeA (e : TypeId) (s n id len : Nat) (x : AV) (h : AH) : Option (AV × AH) :=
  match firstA s n x h, zeroA P e with
  | some (new, h1), some z => match h1.mem.get id with
    | some (.cells vs true) => match Nat.beq (Nat.mul len s) vs.length && new.all AV.isCell && Nat.beq z.cells.length s && z.cells.all AV.isCell with
      | true => some (.slcU h1.next 0 (Nat.add len n) s, ((h1.wr id none).new (.cells (vs ++ new) true)))
      | false => none
    | _ => none
  | _, _ => none

/-- append onto a window of unknown room where what is known of its block tells that there is room. -/
noncomputable def roomUA (s n id off len es : Nat) (x : AV) (h : AH) : Option (AV × AH) :=
  match firstA s n x h with
  | some (new, h1) => match h1.mem.get id with
    | some (.cells vs o) => match storeCellsA vs (Nat.add off (Nat.mul len s)) new with
      | some vs' => some (.slcU id off (Nat.add len n) es, h1.wr id (some (.cells vs' o)))
      | none => none
    | _ => none
  | none => none

/-- How many cells are known of a block. -/
noncomputable def knownA (id : Nat) (h : AH) : Nat :=
  match h.mem.get id with
  | some (.cells vs _) => vs.length
  | _ => 0

noncomputable def append2A (e : TypeId) (s n : Nat) (sl x : AV) (h : AH) : Option (AV × AH) :=
  match sl with
  | .slcN => match Nat.beq n 0 with
    | true => some (.slcN, h)
    | false => growA P e s 0 n sl x h
  | .slc id off len cap => match Nat.ble (Nat.add len n) cap with
    | true => roomA s n id off len cap x h
    | false => growA P e s len n sl x h
  | .slcU id off len es => match Nat.beq n 0 with
    | true => some (sl, h)
    | false => match Nat.beq es s && Nat.ble (Nat.add off (Nat.mul (Nat.add len n) s)) (knownA id h) with
      | true => roomUA s n id off len es x h
      | false => match Nat.beq es s && Nat.beq off 0 with
        | true => maybeA P e s n id len x h
        | false => none
  | _ => none

/-- The bytes of a string are cells of one. -/
noncomputable def strOk (s : Nat) (x : AV) : Bool :=
  match x with
  | .str _ => Nat.beq s 1
  | _ => true

noncomputable def appendA (t : TypeId) (xt : TypeId) (sl x : AV) (h : AH) : Option (AV × AH) :=
  match P.underlying t, P.underlying xt with
  | some (.slice e), some u => match u with
    | .int _ => none
    | _ => match sz P e, byt P e, lenOfA x, lenOfA sl with
      | some s, some b, some n, some sLen => match Nat.ble (Nat.mul (Nat.add sLen n) s) limitN && Nat.ble (Nat.mul (Nat.add sLen n) b) limitN && Nat.blt 0 s && Nat.blt 0 b && strOk s x with
        | true => append2A P e s n sl x h
        | false => none
      | _, _, _, _ => none
  | _, _ => none

noncomputable def copyA (t : TypeId) (d x : AV) (h : AH) : Option (AV × AH) :=
  match P.underlying t with
  | some (.slice e) => match sz P e, lenOfA d, lenOfA x with
    | some s, some dl, some xl =>
      match firstA s (min xl dl) x h with
      | some (cs, h1) => match d with
        | .slcN => some (.int .i64 (.ofNat (min xl dl)), h1)
        | .slc id off _ _ => match h1.mem.get id with
          | some (.cells vs o) => match storeCellsA vs off cs with
            | some vs' => some (.int .i64 (.ofNat (min xl dl)), h1.wr id (some (.cells vs' o)))
            | none => none
          | _ => none
        | .slcU id off _ _ => match h1.mem.get id with
          | some (.cells vs o) => match storeCellsA vs off cs with
            | some vs' => some (.int .i64 (.ofNat (min xl dl)), h1.wr id (some (.cells vs' o)))
            | none => none
          | _ => none
        | _ => none
      | none => none
    | _, _, _ => none
  | _ => none

noncomputable def min2 (x y : AV) : Option AV :=
  match x, y with
  | .int k a, .int _ b => some (.int k (match ilt b a with | true => b | false => a))
  | _, _ => none
noncomputable def max2 (x y : AV) : Option AV :=
  match x, y with
  | .int k a, .int _ b => some (.int k (match ilt a b with | true => b | false => a))
  | _, _ => none
noncomputable def foldA (f : AV → AV → Option AV) : AV → List AV → Option AV
  | x, [] => some x
  | x, y :: ys => match f x y with
    | some z => foldA f z ys
    | none => none

noncomputable def makeSliceA (t : TypeId) (l c : AV) (h : AH) : Option (AV × AH) :=
  match P.underlying t, l, c with
  | some (.slice e), .int _ (.ofNat l), .int _ (.ofNat c) => match sz P e, byt P e, zeroA P e with
    | some s, some b, some z => match Nat.ble l c && Nat.ble (Nat.mul c s) limitN && Nat.ble (Nat.mul c b) limitN && Nat.ble c limitN && Nat.beq z.cells.length s && z.cells.all AV.isCell with
      | true => some (.slc h.next 0 l c, h.new (.cells (repA z.cells c) false))
      | false => none
    | _, _, _ => none
  | _, _, _ => none

noncomputable def keyEq (x y : AV) : Option Bool :=
  match x, y with
  | .int k a, .int l b => match keq k l with
    | true => some (ieq a b)
    | false => none
  | .str a, .str b => some (bytesEq a b)
  | .bool a, .bool b => some (a == b)
  | _, _ => none

noncomputable def keyType (t : TypeId) (k : AV) : Bool :=
  match P.underlying t, k with
  | some (.int _), .int _ _ => true
  | some .string, .str _ => true
  | some .bool, .bool _ => true
  | _, _ => false

noncomputable def findA (k : AV) : List AEntry → Option (Option AV)
  | [] => some none
  | e :: es => match keyEq k e.key with
    | some true => some (some e.val)
    | some false => findA k es
    | none => none

noncomputable def replA (k v : AV) : List AEntry → List AEntry
  | [] => []
  | e :: es => match keyEq k e.key with
    | some true => { e with key := k, val := v } :: es
    | _ => e :: replA k v es

noncomputable def lookA (t : TypeId) (es : List AEntry) (k : AV) (ok : Bool) : Option AV :=
  match P.underlying t with
  | some (.map kt e) => match keyType P kt k, findA k es, zeroA P e with
    | true, some (some v), some _ => some (match ok with | true => .tup [v, .bool true] | false => v)
    | true, some none, some z => some (match ok with | true => .tup [z, .bool false] | false => z)
    | _, _, _ => none
  | _ => none

noncomputable def lookupA (t : TypeId) (m k : AV) (ok : Bool) (h : AH) : Option (AV × AH) :=
  match m with
  | .mapN => match lookA P t [] k ok with
    | some v => some (v, h)
    | none => none
  | .map id => match h.mem.get id with
    | some (.map es _) => match lookA P t es k ok with
      | some v => some (v, h.rd id)
      | none => none
    | _ => none
  | _ => none

noncomputable def updateA (t : TypeId) (m k v : AV) (h : AH) : Option AH :=
  match m with
  | .map id => match h.mem.get id, P.underlying t with
    | some (.map es c), some (.map kt _) => match keyType P kt k, findA k es, noTop v with
      | true, some (some _), true => some (h.wr id (some (.map (replA k v es) c)))
      | true, some none, true => some (h.wr id (some (.map (es ++ [{ key := k, val := v, born := c }]) (Nat.succ c))))
      | _, _, _ => none
    | _, _ => none
  | _ => none

noncomputable def extractA (t : AV) (i : Nat) : Option AV :=
  match t with
  | .tup vs => nth vs i
  | _ => none

noncomputable def nilCheckA (x : AV) : Option AV :=
  match x with
  | .ptr _ _ => some x
  | .fn (.func _) _ _ => some x
  | .iface _ _ => some x
  | _ => none

noncomputable def pureOk (x : Option AV) (h : AH) : Option (AV × AH) :=
  match x with
  | some v => some (v, h)
  | none => none

noncomputable def unitOk (x : Option AH) : Option (AV × AH) :=
  match x with
  | some h => some (.tup [], h)
  | none => none

end

/-- What a frame reads of an operand. -/
noncomputable def ev (tm : Tr AV) : Operand → AV
  | .tmp t => oc (tm.get t) .top fun v => v
  | .const v => oc (abs v) .top fun v => v
  | .global g => .glob g
  | .func f => .fn (.func f) [] []

noncomputable def evL (tm : Tr AV) : List Operand → List AV
  | [] => []
  | o :: os => ev tm o :: evL tm os

noncomputable def evP (tm : Tr AV) : List (Nat × Operand) → List (Nat × AV)
  | [] => []
  | (i, o) :: os => (i, ev tm o) :: evP tm os

noncomputable def evO (tm : Tr AV) : Option Operand → Option AV
  | none => none
  | some o => some (ev tm o)

section
variable (P : Program)

noncomputable def builtinA (b : Builtin) (ts : List TypeId) (args : List AV) (h : AH) : Option (AV × AH) :=
  match b, ts, args with
  | .len, t :: _, x :: _ => lenA P t x h
  | .cap, t :: _, x :: _ => pureOk (capA P t x) h
  | .append, t :: xt :: _, s :: x :: _ => appendA P t xt s x h
  | .copy, t :: _, d :: x :: _ => copyA P t d x h
  | .min, _, x :: xs => pureOk (foldA min2 x xs) h
  | .max, _, x :: xs => pureOk (foldA max2 x xs) h
  | .recover, _, _ => some (.ifaceN, h)
  | _, _, _ => none

/-- The operations that are no calls. -/
noncomputable def simpleA (tm : Tr AV) (o : Op) (h : AH) : Option (AV × AH) :=
  match o with
  | .move x => some (ev tm x, h)
  | .assign x => some (ev tm x, h)
  | .pick c a b => match ev tm c with
    | .bool true => some (ev tm a, h)
    | .bool false => some (ev tm b, h)
    | _ => none
  | .alloc t => match zeroA P t with
    | some z => newVarA z h
    | none => none
  | .box _ x => newVarA (ev tm x) h
  | .build t ps => pureOk (buildA P t (evP tm ps.toList)) h
  | .buildSlice t n ps => buildSliceA P t n (evP tm ps.toList) h
  | .load t a => loadA P t (ev tm a) h
  | .store t a x => unitOk (storeA P t (ev tm a) (ev tm x) h)
  | .nilCheck x => pureOk (nilCheckA (ev tm x)) h
  | .binOp op t x y _ => pureOk (binOpA P op t x y (ev tm x) (ev tm y)) h
  | .unOp op _ x => pureOk (unA op (ev tm x)) h
  | .convert s d x => convHA P s d (ev tm x) h
  | .makeInterface t x => match P.underlying t with
    | some (.interface _) => none
    | some _ => some (.iface t (ev tm x), h)
    | none => none
  | .makeFunc (.func f) fs cs => some (.fn (.func f) (evL tm fs.toList) (evL tm cs.toList), h)
  | .makeMap _ none => some (.map h.next, h.new (.map [] 0))
  | .makeMap t (some r) => match P.underlying t, ev tm r with
    | some (.map _ _), .int _ _ => some (.map h.next, h.new (.map [] 0))
    | _, _ => none
  | .makeSlice t l c => makeSliceA P t (ev tm l) (ev tm c) h
  | .slice t x lo hi none => pureOk (sliceA P t (ev tm x) (evO tm lo) (evO tm hi)) h
  | .fieldAddr t x f => pureOk (fieldAddrA P t (ev tm x) f) h
  | .field t x f => pureOk (fieldA P t (ev tm x) f) h
  | .indexAddr t x i => pureOk (indexAddrA P t (ev tm x) (ev tm i)) h
  | .index t x i => pureOk (indexA P t (ev tm x) (ev tm i)) h
  | .lookup t m k ok => lookupA P t (ev tm m) (ev tm k) ok h
  | .insert t m k v => unitOk (updateA P t (ev tm m) (ev tm k) (ev tm v) h)
  | .mapUpdate t m k v => unitOk (updateA P t (ev tm m) (ev tm k) (ev tm v) h)
  | .extract t i => pureOk (extractA (ev tm t) i) h
  | _ => none
end

/-- What of a frame stays: its function, how many temporaries, whose round it is. -/
structure FS where
  fn : FuncId
  n : Nat
  round : Option Nat

noncomputable def put (n : Nat) (tm : Tr AV) (d : Option Tmp) (v : AV) : Option (Tr AV) :=
  oc d (some tm) fun t => bc (Nat.blt t n) (some (tm.set t (some v))) none

noncomputable def argTr : Nat → List AV → Tr AV → Tr AV
  | _, [], t => t
  | i, v :: vs, t => argTr (Nat.succ i) vs (t.set i (some v))

/-- A whole tree without a value. -/
noncomputable def emptyT (n : Nat) : Tr AV := @Nat.rec (fun _ => Tr AV) .leaf (fun _ t => .node t none t) n

/-- What a call of a value comes to. -/
inductive Goal where
  | func (f : FuncId) (args : List AV)
  | round (id : Nat) (args : List AV)
  | no

noncomputable def goalOf (f : AV) (args : List AV) : Goal :=
  match f with
  | .fn (.func g) first captured => .func g (first ++ (args ++ captured))
  | .yield id => .round id args
  | _ => .no

noncomputable def wantedA (ops : Array Oper) (tm : Tr AV) (o : Oper) : Option Bool :=
  oc o.guard (some true) fun g => match g with
  | (j, want) => match nth ops.toList j with
    | some oj => match oj.dst with
      | some t => match tm.get t with
        | some (.bool b) => some (b == want)
        | some (.tup []) => some false
        | _ => none
      | none => none
    | none => none

/-- The bits of temporaries. -/
noncomputable def tbit (d : Option Tmp) : Nat := match d with | some t => Nat.shiftLeft 1 t | none => 0
noncomputable def obit (x : Operand) : Nat := match x with | .tmp t => Nat.shiftLeft 1 t | _ => 0
noncomputable def obits : List Operand → Nat
  | [] => 0
  | o :: os => Nat.lor (obit o) (obits os)
noncomputable def gbit (ops : Array Oper) (o : Oper) : Nat :=
  match o.guard with
  | some (j, _) => match nth ops.toList j with
    | some oj => tbit oj.dst
    | none => 0
  | none => 0

/-- What one operation of a region that draws has touched. -/
structure Foot where
  before : Nat
  tr : Nat
  tw : Nat
  mr : Nat
  mw : Nat

/-- No bit in common; the first is looked at first. -/
noncomputable def landZ (a b : Nat) : Bool := bc (Nat.beq a 0) true (Nat.beq (Nat.land a b) 0)

noncomputable def clash (a b : Foot) : Bool :=
  !(Nat.beq (Nat.land a.tw (Nat.lor b.tr b.tw)) 0 && Nat.beq (Nat.land b.tw a.tr) 0 && landZ a.mw (Nat.lor b.mr b.mw) && landZ b.mw a.mr)

/-- i is behind all that are in 'done' (the latest first, i - 1 ..): each is ahead of it by the edges, or does not meet it. -/
noncomputable def apartAll (f : Foot) : Nat → List Foot → Bool
  | _, [] => true
  | 0, _ => false
  | i + 1, g :: gs => match Nat.beq (Nat.land (Nat.shiftRight f.before i) 1) 1 with
    | true => apartAll f i gs
    | false => match clash g f with
      | true => false
      | false => apartAll f i gs

noncomputable def beforeOf (fs : List Foot) (count : Nat) (o : Oper) : Option Nat :=
  go fs count o.after.toList 0
where
  /-- fs: the latest first. -/
  nth : List Foot → Nat → Nat → Option Foot
    | [], _, _ => none
    | f :: fs, c, i => match Nat.beq (Nat.succ i) c with
      | true => some f
      | false => nth fs (Nat.sub c 1) i
  go (fs : List Foot) (count : Nat) : List Edge → Nat → Option Nat
    | [], acc => some acc
    | e :: es, acc => match Region.binds .any e with
      | false => go fs count es acc
      | true => match nth fs count e.on with
        | some f => go fs count es (Nat.lor (Nat.lor acc (Nat.shiftLeft 1 e.on)) f.before)
        | none => none

noncomputable def range1 (a b : Nat) : Nat := Nat.sub (Nat.shiftLeft 1 b) (Nat.shiftLeft 1 a)

noncomputable def setAll : List Tmp → List AV → Tr AV → Nat → Option (Tr AV)
  | [], [], t, _ => some t
  | p :: ps, v :: vs, t, n => match Nat.blt p n with
    | true => setAll ps vs (t.set p (some v)) n
    | false => none
  | _, _, _, _ => none

/-- A function's results. -/
noncomputable def xresult1 (P : Program) (r : ResultVar) (tm : Tr AV) (h : AH) : Option (AV × AH) :=
  match r with
  | .tmp t => match tm.get t with
    | some v => some (v, h)
    | none => none
  | .cell a t => match tm.get a with
    | some x => loadA P t x h
    | none => none

noncomputable def xresultsL (P : Program) : List ResultVar → Tr AV → AH → Option (List AV × AH)
  | [], _, h => some ([], h)
  | r :: rs, tm, h => match xresult1 P r tm h with
    | some (v, h1) => match xresultsL P rs tm h1 with
      | some (vs, h2) => some (v :: vs, h2)
      | none => none
    | none => none

noncomputable def xresults (P : Program) (rs : List ResultVar) (tm : Tr AV) (h : AH) : Option (AV × AH) :=
  match xresultsL P rs tm h with
  | some ([v], h') => some (v, h')
  | some (vs, h') => some (.tup vs, h')
  | none => none


/-- The functions that call one another, at one depth. -/
structure Fns where
  xf : FS → Tr AV → List Item → List ADefer → AH → Option (AV × AH)
  code : Code → List Item → FS → Tr AV → List ADefer → AH → Option (AV × AH)
  unwind : List ADefer → FS → Tr AV → AH → Option (AV × AH)
  call : FuncId → List AV → AH → Option (AV × AH)
  callD : FuncId → List AV → AH → Option (AV × AH)

section
variable (P : Program) (H : FuncId → List AV → AH → Option (AV × AH)) (t : Fns)

noncomputable def xround (l : Nat) (args : List AV) (h : AH) : Option (AV × AH) :=
  match h.mem.get l with
  | some (.loop r) => match Nat.beq args.length r.params.size with
    | true => match setAll r.params.toList args r.tmps r.n with
      | some tm => t.xf { fn := r.fn, n := r.n, round := some l } tm [.code r.assign, .beginRound, .code r.body] [] (h.rd l)
      | none => none
    | false => none
  | _ => none

noncomputable def xgoal (g : Goal) (h : AH) : Option (AV × AH) :=
  match g with
  | .func f args => t.call f args h
  | .round l args => xround t l args h
  | .no => none

noncomputable def xcallO (c : Call) (tm : Tr AV) (h : AH) : Option (AV × AH) :=
  match c.callee with
  | .builtin b => builtinA P b c.argTypes.toList (evL tm c.args.toList) h
  | .value f => xgoal t (goalOf (ev tm f) (evL tm c.args.toList)) h
  | .invoke _ _ => none

/-- One operation. -/
noncomputable def xop (o : Op) (tm : Tr AV) (h : AH) : Option (AV × AH) :=
  match o with
  | .call c => xcallO P t c tm h
  | .move x => some (ev tm x, h)
  | .assign x => some (ev tm x, h)
  | .load t a => loadA P t (ev tm a) h
  | .binOp op t x y _ => pureOk (binOpA P op t x y (ev tm x) (ev tm y)) h
  | op => simpleA P tm op h

noncomputable def isDefer : Op → Bool
  | .defer _ => true
  | _ => false

noncomputable def xdefer (fs : FS) (o : Op) (tm : Tr AV) (ds : List ADefer) : Option (List ADefer) :=
  match o with
  | .defer c => match fs.round, c.callee with
    | none, .value f => match goalOf (ev tm f) (evL tm c.args.toList) with
      | .func f args => some (.call { f := f, args := args } :: ds)
      | _ => none
    | _, _ => none
  | _ => none

noncomputable def xops (fs : FS) (ops : Array Oper) : List Oper → Tr AV → List ADefer → AH → Option (Tr AV × List ADefer × AH)
  | [], tm, ds, h => some (tm, ds, h)
  | o :: os, tm, ds, h => oc (wantedA ops tm o) none fun want =>
      bc want
        (bc (isDefer o.op)
          (oc (xdefer fs o.op tm ds) none fun ds' => oc (put fs.n tm o.dst (.tup [])) none fun tm' => xops fs ops os tm' ds' h)
          (oc (xop P t o.op tm h) none fun r => oc (put fs.n tm o.dst r.1) none fun tm' => xops fs ops os tm' ds r.2))
        (oc (put fs.n tm o.dst (.tup [])) none fun tm' => xops fs ops os tm' ds h)

/-- An operation that writes nothing and makes nothing, by its text. -/
noncomputable def quietOp (o : Op) : Bool :=
  match o with
  | .move _ | .assign _ | .pick _ _ _ | .load _ _ | .nilCheck _ | .binOp _ _ _ _ _ | .unOp _ _ _ | .makeInterface _ _ | .slice _ _ _ _ _ | .fieldAddr _ _ _ | .field _ _ _ | .indexAddr _ _ _ | .index _ _ _ | .lookup _ _ _ _ | .extract _ _ => true
  | .convert s _ _ => match P.underlying s with
    | some .string => false
    | some _ => true
    | none => false
  | .call c => match c.callee with
    | .builtin .len => true
    | .builtin .cap => true
    | .builtin .min => true
    | .builtin .max => true
    | _ => false
  | _ => false

noncomputable def footOf (ops : Array Oper) (o : Oper) (bf : Nat) (h h' : AH) : Foot :=
  { before := bf, tr := Nat.lor (obits o.op.operands.toList) (gbit ops o), tw := tbit o.dst, mr := h'.R, mw := bc (quietOp P o.op) 0 (Nat.lor h'.W (range1 h.next h'.next)) }

noncomputable def AH.clean (h : AH) : AH := @AH.rec (fun _ => AH) (fun mem next _ _ => AH.mk mem next 0 0) h
noncomputable def AH.join (h : AH) (R W : Nat) : AH := @AH.rec (fun _ => AH) (fun mem next _ _ => AH.mk mem next R W) h

/-- A region that draws its order: in the text's order; what each operation meets is noted and held against the others'. -/
noncomputable def xdraw (fs : FS) (ops : Array Oper) : List Oper → Nat → List Foot → Tr AV → AH → Nat → Nat → Option (Tr AV × AH)
  | [], _, _, tm, h, R, W => some (tm, h.join R W)
  | o :: os, i, feet, tm, h, R, W => oc (beforeOf feet i o) none fun bf =>
    bc (isDefer o.op) none
      (oc (oc (wantedA ops tm o) none fun want => bc want (xop P t o.op tm h) (some (.tup [], h))) none fun r =>
        bc (apartAll (footOf P ops o bf h r.2) i feet)
          (oc (put fs.n tm o.dst r.1) none fun tm' => xdraw fs ops os (Nat.add i 1) (footOf P ops o bf h r.2 :: feet) tm' r.2.clean (Nat.lor R r.2.R) (Nat.lor W r.2.W))
          none)

/-- exit, return: out of a frame. -/
noncomputable def xleave (jump : Option Code) (fs : FS) (tm : Tr AV) (ds : List ADefer) (h : AH) : Option (AV × AH) :=
  match fs.round with
  | some l => match h.mem.get l with
    | some (.loop r) => match jump with
      | none => some (.bool true, h.wr l (some (.loop { r with state := .ready, pending := none })))
      | some c => some (.bool false, h.wr l (some (.loop { r with state := .done, pending := some c })))
    | _ => none
  | none => match jump with
    | none => t.unwind ds fs tm h
    | some .ret => t.unwind ds fs tm h
    | some _ => none

noncomputable def xunwind (ds : List ADefer) (fs : FS) (tm : Tr AV) (h : AH) : Option (AV × AH) :=
  match ds with
  | [] => match fs with
    | ⟨f, _, _⟩ => match P.funcs[f]? with
      | some fn => xresults P fn.results.toList tm h
      | none => none
  | .collected id :: ds => match h.mem.get id with
    | some .deferred => t.unwind ds fs tm (h.wr id none)
    | _ => none
  | .call d :: ds => match t.callD d.f d.args h with
    | some (_, h') => t.unwind ds fs tm h'
    | none => none

noncomputable def xcall (f : FuncId) (args : List AV) (h : AH) : Option (AV × AH) :=
  match H f args h with
  | some r => some r
  | none => match P.funcs[f]? with
    | some fn => match fn.body with
      | some c => t.code c [] { fn := f, n := max args.length fn.ntmps, round := none } (argTr 0 args (emptyT (Nat.log2 (max args.length fn.ntmps) + 1))) [] h
      | none => none
    | none => none

noncomputable def xrange (f : AV) (ps : Array Tmp) (as b : Code) (k : List Item) (fs : FS) (tm : Tr AV) (ds : List ADefer) (h : AH) : Option (AV × AH) :=
  match fs.round with
  | some _ => none
  | none => match xgoal t (goalOf f [.yield (Nat.add h.next 1)]) ((h.new .deferred).new (.loop { state := .ready, pending := none, fn := fs.fn, tmps := tm, n := fs.n, params := ps, assign := as, body := b, defers := h.next })) with
    | some (_, h') => t.xf fs tm (.endRangeFunc (Nat.add h.next 1) :: k) (.collected h.next :: ds) h'
    | none => none

noncomputable def xcode (c : Code) (k : List Item) (fs : FS) (tm : Tr AV) (ds : List ADefer) (h : AH) : Option (AV × AH) :=
  match c with
  | .skip => t.xf fs tm k ds h
  | .label _ => t.xf fs tm k ds h
  | .seq a b => t.code a (.code b :: k) fs tm ds h
  | .cond c a b => match ev tm c with
    | .bool w => bc w (t.code a k fs tm ds h) (t.code b k fs tm ds h)
    | _ => none
  | .block id b => t.code b (.inBlock id :: k) fs tm ds h
  | .loop b => t.code b (.inLoop b :: k) fs tm ds h
  | .scope b => t.code b (.inScope b :: k) fs tm ds h
  | .exit id => match exitTo id k with
    | some k' => t.xf fs tm k' ds h
    | none => xleave t (some (.exit id)) fs tm ds h
  | .goto l => match gotoIn l k with
    | some k' => t.xf fs tm k' ds h
    | none => xleave t (some (.goto l)) fs tm ds h
  | .ret => xleave t (some .ret) fs tm ds h
  | .region _ ops draw => bc draw
    (oc (xdraw P t fs ops ops.toList 0 [] tm h.clean h.R h.W) none fun r => t.xf fs r.1 k ds r.2)
    (oc (xops P t fs ops ops.toList tm ds h) none fun r => t.xf fs r.1 k r.2.1 r.2.2)
  | .rangeFunc f ps as b => xrange t (ev tm f) ps as b k fs tm ds h
  | .refuse _ => none

noncomputable def xfr (fs : FS) (tm : Tr AV) (todo : List Item) (ds : List ADefer) (h : AH) : Option (AV × AH) :=
  match todo with
  | [] => xleave t none fs tm ds h
  | it :: k => match it with
    | .inBlock _ => t.xf fs tm k ds h
    | .inScope _ => t.xf fs tm k ds h
    | .inLoop b => t.code b (.inLoop b :: k) fs tm ds h
    | .code c => t.code c k fs tm ds h
    | .endRangeFunc l => match h.mem.get l with
      | some (.loop r) => match r.state with
        | .busy => none
        | _ => match r.pending with
          | some c => t.code c k fs tm ds (h.wr l (some (.loop { r with state := .exhausted })))
          | none => t.xf fs tm k ds (h.wr l (some (.loop { r with state := .exhausted })))
      | _ => none
    | .beginRound => match fs.round with
      | some l => match h.mem.get l with
        | some (.loop r) => match r.state with
          | .ready => t.xf fs tm k ds (h.wr l (some (.loop { r with state := .busy })))
          | _ => none
        | _ => none
      | none => none
    | _ => none

noncomputable def nextFns : Fns := { xf := xfr t, code := xcode P t, unwind := xunwind P t, call := xcall P H t, callD := xcall P (fun _ _ _ => none) t }

noncomputable def noFns : Fns := { xf := fun _ _ _ _ _ => none, code := fun _ _ _ _ _ _ => none, unwind := fun _ _ _ _ => none, call := fun _ _ _ => none, callD := fun _ _ _ => none }
end

noncomputable def tower (P : Program) (H : FuncId → List AV → AH → Option (AV × AH)) (n : Nat) : Fns :=
  @Nat.rec (fun _ => Fns) noFns (fun _ t => nextFns P H t) n

end Go.AX

/-! AX: what stands for four functions of the library. -/
namespace Go.AX
noncomputable def idxByte : List UInt8 → Nat → Nat → Int
  | [], _, _ => -1
  | b :: bs, c, i => match Nat.beq b.toNat c with | true => .ofNat i | false => idxByte bs c (i + 1)
noncomputable def isPre : List UInt8 → List UInt8 → Bool
  | [], _ => true
  | _ :: _, [] => false
  | a :: x, b :: y => match Nat.beq a.toNat b.toNat with | true => isPre x y | false => false
noncomputable def containsL : List UInt8 → List UInt8 → Bool
  | [], t => isPre t []
  | b :: bs, t => match isPre t (b :: bs) with | true => true | false => containsL bs t
noncomputable def maskA : List UInt8 → Nat
  | [] => 0
  | b :: bs => Nat.lor (Nat.shiftLeft 1 b.toNat) (maskA bs)
noncomputable def bitsFrom (m : Nat) (n : Nat) : Nat → List AV :=
  @Nat.rec (fun _ => Nat → List AV) (fun _ => []) (fun _ ih i => .bool (Nat.beq (Nat.land (Nat.shiftRight m i) 1) 1) :: ih (Nat.add i 1)) n
noncomputable def allAscii : List UInt8 → Bool
  | [] => true
  | b :: bs => bc (Nat.blt b.toNat 128) (allAscii bs) false
noncomputable def hook (ib ct ms : Nat) (f : FuncId) (args : List AV) (h : AH) : Option (AV × AH) :=
  bc (Nat.beq f ib) (match args with
    | [.str s, .int .u8 (.ofNat n)] => bc (Nat.blt n 256) (some (.int .i64 (idxByte s n 0), h)) none
    | _ => none)
  (bc (Nat.beq f ct) (match args with
      | [.str s, .str t] => bc (Nat.blt s.length 4294967281) (some (.bool (containsL s t), h)) none
      | _ => none)
  (bc (Nat.beq f ms) (match args with
      | [.str s] => bc (Bool.and (Nat.blt s.length 4294967281) (allAscii s)) (some (.tup [.agg (bitsFrom (maskA s) 256 0), .bool true], h)) none
      | _ => none)
      none))
noncomputable def isTrue (x : Option (AV × AH)) : Bool := match x with | some (.bool b, _) => b | _ => false
end Go.AX
