/- RV: the program run on values of which the places in memory are names: definitions, operations that read. -/
import Derived.Test.YtjfckaoppfnicaaGreatDoorBase
import Derived.Laws.StructEq
set_option linter.unusedVariables false
set_option linter.unusedSimpArgs false
/- RV: the program run on values of which the places in memory are names: the definitions. -/
set_option linter.unusedVariables false
namespace Go.Proofs.AL.Rx
open Go

/-! ### tables by numbers -/
inductive Tr (α : Type) where
  | leaf
  | node (l : Tr α) (v : Option α) (r : Tr α)
def Tr.get {α : Type} : Tr α → Nat → Option α
  | .leaf, _ => none
  | .node l v r, k => match k with
    | 0 => v
    | k + 1 => bif Nat.beq (k % 2) 0 then l.get (k / 2) else r.get (k / 2)
def Tr.set {α : Type} (v : Option α) : Nat → Nat → Tr α → Tr α
  | 0, _, _ => .leaf
  | n + 1, k, .leaf => match k with
    | 0 => .node .leaf v .leaf
    | k + 1 => bif Nat.beq (k % 2) 0 then .node (Tr.set v n (k / 2) .leaf) none .leaf else .node .leaf none (Tr.set v n (k / 2) .leaf)
  | n + 1, k, .node l u r => match k with
    | 0 => .node l v r
    | k + 1 => bif Nat.beq (k % 2) 0 then .node (Tr.set v n (k / 2) l) u r else .node l u (Tr.set v n (k / 2) r)

/-! ### values -/
inductive AV where
  | bool (b : Bool)
  | int (k : IntKind) (n : Int)
  | sym (k : IntKind) (n : Nat)
  | crc (l : List AV) (j : Nat)
  | str (s : List Int)
  | ys (l : List AV)
  | ptr (id off : Nat)
  | nilp
  | sl (id off len cap : Nat)
  /-- a slice of a row whose spare places are not told: 'more' elements of it are behind -/
  | rw (id off len more : Nat)
  | nils
  | em (id off0 off : Nat) (z : Bool)
  | map (id : Nat)
  | nilm
  | fn (f : Fn) (first cap : List AV)
  | nilf
  | ifc (t : TypeId) (v : AV)
  | nili
  | agg (l : List AV)
  | tup (l : List AV)
  | opq (k : Nat)
  deriving Inhabited
abbrev VEnv := Tr AV
inductive Ao where
  | cells (t : TypeId) (cs : List AV) (more : Option Nat)
  | map (es : List (AV × AV × Nat)) (clock : Nat)
  | look (es : List (AV × AV))
  | iter (m : Nat) (since : Nat) (seen : List Nat) (last : Nat)
  | inv (k j : Nat)
  | ro (cs : List AV)
structure St where
  mem : Tr Ao
  nx : Nat
def undefA : AV := .tup []
def St.put (s : St) (id : Nat) (o : Ao) : St := ⟨Tr.set (some o) 40 id s.mem, s.nx⟩
def St.del (s : St) (id : Nat) : St := ⟨Tr.set none 40 id s.mem, s.nx⟩
def St.new (s : St) (o : Ao) : St := ⟨Tr.set (some o) 40 s.nx s.mem, s.nx + 1⟩
mutual
def ofV : Value → Option AV
  | .bool b => some (.bool b)
  | .int k n => some (.int k n)
  | .string ⟨⟨l⟩⟩ => some (.str (l.map fun b => (b.toNat : Int)))
  | .pointer none => some .nilp
  | .slice none 0 0 => some .nils
  | .map none => some .nilm
  | .nilFunc => some .nilf
  | .nilIface => some .nili
  | .func f ⟨a⟩ ⟨b⟩ => match ofVs a, ofVs b with
    | some x, some y => some (.fn f x y)
    | _, _ => none
  | .agg ⟨l⟩ => (ofVs l).map .agg
  | .tuple ⟨l⟩ => (ofVs l).map .tup
  | _ => none
def ofVs : List Value → Option (List AV)
  | [] => some []
  | v :: r => match ofV v, ofVs r with
    | some a, some l => some (a :: l)
    | _, _ => none
end
def evA (E : VEnv) : Operand → Option AV
  | .tmp t => E.get t
  | .const v => ofV v
  | .func f => some (.fn (.func f) [] [])
  | .global _ => none
def evAs (E : VEnv) : List Operand → Option (List AV)
  | [] => some []
  | x :: r => match evA E x, evAs E r with
    | some v, some l => some (v :: l)
    | _, _ => none
def evAo (E : VEnv) : Option Operand → Option (Option AV)
  | none => some none
  | some x => (evA E x).map some
def evAps (E : VEnv) : List (Nat × Operand) → Option (List (Nat × AV))
  | [] => some []
  | (i, x) :: r => match evA E x, evAps E r with
    | some v, some l => some ((i, v) :: l)
    | _, _ => none
def AV.cells : AV → List AV
  | .agg l => l
  | v => [v]
def AV.flat : AV → Bool
  | .agg _ => false
  | .tup _ => false
  | _ => true
def okB (x : Int) : Bool := decide (0 ≤ x) && decide (x ≤ 255)
/-- are texts the same? -/
def eqLI : List Int → List Int → Option Bool
  | [], [] => some true
  | a :: l, b :: m => bif decide (a = b) then eqLI l m else (bif okB a && okB b then some false else none)
  | _, _ => some false
def sameI : List Int → List Int → Bool
  | [], [] => true
  | a :: l, b :: m => decide (a = b) && sameI l m
  | _, _ => false
mutual
def same : AV → AV → Bool
  | .bool a, .bool b => a == b
  | .int k a, .int j b => decide (k = j) && decide (a = b)
  | .sym k a, .sym j b => decide (k = j) && Nat.beq a b
  | .crc l j, .crc m i => sames l m && Nat.beq j i
  | .str a, .str b => sameI a b
  | .ys a, .ys b => sames a b
  | .ptr a b, .ptr c d => Nat.beq a c && Nat.beq b d
  | .nilp, .nilp => true
  | .sl a b c d, .sl e f g h => Nat.beq a e && Nat.beq b f && Nat.beq c g && Nat.beq d h
  | .rw a b c d, .rw e f g h => Nat.beq a e && Nat.beq b f && Nat.beq c g && Nat.beq d h
  | .nils, .nils => true
  | .em a b c z, .em e f g y => Nat.beq a e && Nat.beq b f && Nat.beq c g && (z == y)
  | .map a, .map b => Nat.beq a b
  | .nilm, .nilm => true
  | .fn f a b, .fn g c d => decide (f = g) && sames a c && sames b d
  | .nilf, .nilf => true
  | .ifc t a, .ifc u b => Nat.beq t u && same a b
  | .nili, .nili => true
  | .agg a, .agg b => sames a b
  | .tup a, .tup b => sames a b
  | .opq a, .opq b => Nat.beq a b
  | _, _ => false
def sames : List AV → List AV → Bool
  | [], [] => true
  | a :: l, b :: m => same a b && sames l m
  | _, _ => false
end

/-! ### operations that read -/
/-- '==' of two values of one cell, at a type; none: not told -/
def eqT (d : TypeDesc) (a b : AV) : Option Bool :=
  match d with
  | .bool => (match a, b with | .bool p, .bool q => some (p == q) | _, _ => none)
  | .int _ => (match a, b with
    | .int k p, .int j q => bif decide (k = j) then some (decide (p = q)) else none
    | .sym k p, .sym j q => bif decide (k = j) && Nat.beq p q then some true else none
    | _, _ => none)
  | .string => (match a, b with
    | .str p, .str q => eqLI p q
    | .ys p, .ys q => bif sames p q then some true else none
    | _, _ => none)
  | .pointer _ => (match a, b with
    | .nilp, .nilp => some true
    | .ptr _ _, .nilp => some false
    | .nilp, .ptr _ _ => some false
    | _, _ => none)
  | .slice _ => (match a, b with
    | .nils, .nils => some true
    | .sl .., .nils => some false
    | .rw .., .nils => some false
    | .em .., .nils => some false
    | _, _ => none)
  | .map _ _ => (match a, b with
    | .nilm, .nilm => some true
    | .map _, .nilm => some false
    | _, _ => none)
  | .func _ _ _ => (match a, b with
    | .nilf, .nilf => some true
    | .fn .., .nilf => some false
    | _, _ => none)
  | .interface _ => (match a, b with
    | .nili, .nili => some true
    | .ifc .., .nili => some false
    | .nili, .ifc .. => some false
    | _, _ => none)
  | _ => none
/-- a struct's fields, each of one cell -/
def eqFs (P : Program) (xs ys : List AV) : List Field → Option Bool
  | [] => some true
  | f :: r => match P.underlying f.type, xs[f.offset]?, ys[f.offset]? with
    | some d, some a, some b => bif isFlat d && !(f.name == "_") then (match eqT d a b with
      | some true => eqFs P xs ys r
      | x => x) else none
    | _, _, _ => none
def eqA (P : Program) (t : TypeId) (c : Bool) (a b : AV) : Option Bool :=
  match P.underlying t with
  | none => none
  | some (.struct fs) => (match a, b with
    | .agg xs, .agg ys => bif P.eqGuardType P.depth t || P.stoodInHeld t then none else eqFs P xs ys fs.toList
    | _, _ => none)
  | some (.pointer e) => (match a, b with
    | .ptr i j, .ptr k l => bif Nat.beq i k && Nat.beq j l && (P.info? e).any (fun i => !Nat.beq i.size 0) then some true else none
    | _, _ => eqT (.pointer e) a b)
  | some (.interface ms) => (match a, b with
    | .nili, .nili => bif c then some true else none
    | _, _ => eqT (.interface ms) a b)
  | some d => eqT d a b
def xshl (k : IntKind) (a b : Int) : Option AV := bif decide (0 ≤ b) then some (.int k (k.wrap (a * 2 ^ (min b.toNat k.bits)))) else none
def xshr (k : IntKind) (a b : Int) : Option AV := bif decide (0 ≤ b) then some (.int k (a.fdiv (2 ^ (min b.toNat k.bits)))) else none
def xbinI (op : BinOp) (k : IntKind) (a b : Int) : Option AV :=
  match op with
  | .add => some (.int k (k.wrap (a + b)))
  | .sub => some (.int k (k.wrap (a - b)))
  | .mul => some (.int k (k.wrap (a * b)))
  | .quo => bif decide (b = 0) then none else some (.int k (k.wrap (a.tdiv b)))
  | .rem => bif decide (b = 0) then none else some (.int k (a.tmod b))
  | .and => some (.int k (bitsOp .and k a b))
  | .or => some (.int k (bitsOp .or k a b))
  | .xor => some (.int k (bitsOp .xor k a b))
  | .lss => some (.bool (decide (a < b)))
  | .leq => some (.bool (decide (a ≤ b)))
  | .gtr => some (.bool (decide (b < a)))
  | .geq => some (.bool (decide (b ≤ a)))
  | .eql => some (.bool (decide (a = b)))
  | .neq => some (.bool (!decide (a = b)))
  | _ => none
def xbinK (op : BinOp) (k j : IntKind) (a b : Int) : Option AV :=
  match op with
  | .shl => xshl k a b
  | .shr => xshr k a b
  | op => bif decide (k = j) then xbinI op k a b else none
def xbinS (op : BinOp) (a b : List Int) : Option AV :=
  match op with
  | .add => bif Nat.ble (a.length + b.length) 1000000 then some (.str (a ++ b)) else none
  | .eql => (eqLI a b).map .bool
  | .neq => (eqLI a b).map fun x => .bool (!x)
  | _ => none
def xbinY (op : BinOp) (a b : List AV) : Option AV :=
  match op with
  | .eql => bif sames a b then some (.bool true) else none
  | .neq => bif sames a b then some (.bool false) else none
  | _ => none
def xbinE (P : Program) (op : BinOp) (t : TypeId) (c : Bool) (a b : AV) : Option AV :=
  match op with
  | .eql => (eqA P t c a b).map .bool
  | .neq => (eqA P t c a b).map fun x => .bool (!x)
  | _ => none
def xbin (P : Program) (op : BinOp) (t : TypeId) (c : Bool) (a b : AV) : Option AV :=
  match a with
  | .int k a => (match b with | .int j b => xbinK op k j a b | _ => none)
  | .str a => (match b with | .str b => xbinS op a b | _ => none)
  | .ys a => (match b with | .ys b => xbinY op a b | _ => none)
  | .sym .. => none
  | .crc .. => none
  | .opq _ => none
  | a => (match b with
    | .int .. => none
    | .str .. => none
    | .ys .. => none
    | .sym .. => none
    | .crc .. => none
    | .opq .. => none
    | b => xbinE P op t c a b)
def takeA (n : Nat) (l : List AV) : Option (List AV) := bif Nat.ble n l.length then some (l.take n) else none
def bnd (v : Option AV) (lim dflt : Nat) : Option Nat :=
  match v with
  | none => some dflt
  | some (.int _ i) => bif decide (0 ≤ i) && Nat.ble i.toNat lim then some i.toNat else none
  | _ => none
def sizeA (P : Program) (t : TypeId) : Option Nat := (P.info? t).map (·.size)
def zeroA (P : Program) (t : TypeId) : Option AV := ((P.info? t).bind (·.zero)).bind ofV
def rdO : Option Ao → Option (List AV)
  | some (.cells _ cs _) => some cs
  | some (.ro cs) => some cs
  | _ => none
def cellsAt (m : Tr Ao) (id off n : Nat) : Option (List AV) := (rdO (m.get id)).bind fun cs => takeA n (cs.drop off)
/-- the cells of a slice -/
def cellsOf (m : Tr Ao) (sz : Nat) : AV → Option (List AV)
  | .nils => some []
  | .em .. => some []
  | .sl id off len _ => cellsAt m id off (len * sz)
  | .rw id off len _ => cellsAt m id off (len * sz)
  | _ => none
def bytesA : List AV → Option (List Int)
  | [] => some []
  | .int .u8 n :: r => (bytesA r).map (n :: ·)
  | _ => none
def byteA : AV → Bool
  | .int .u8 _ => true
  | .sym .u8 _ => true
  | .crc _ _ => true
  | _ => false
/-- a text of bytes -/
def strA (l : List AV) : Option AV :=
  match bytesA l with
  | some s => some (.str s)
  | none => bif l.all byteA then some (.ys l) else none
def intsOfS (s : List Int) : List AV := s.map (.int .u8 ·)
def rPick : Option AV → Option AV → Option AV → Option AV
  | some (.bool true), some x, some _ => some x
  | some (.bool false), some _, some y => some y
  | _, _, _ => none
def rNil : Option AV → Option AV
  | some (.ptr i o) => some (.ptr i o)
  | some (.fn (.func f) a b) => some (.fn (.func f) a b)
  | _ => none
def rBin (P : Program) (op : BinOp) (t : TypeId) (c : Bool) : Option AV → Option AV → Option AV
  | some a, some b => xbin P op t c a b
  | _, _ => none
def rUn (op : UnOp) : Option AV → Option AV
  | some (.bool b) => (match op with | .not => some (.bool (!b)) | _ => none)
  | some (.int k n) => (match op with
    | .neg => some (.int k (k.wrap (-n)))
    | .xor => some (.int k (bitsOp .xor k (if k.signed then -1 else k.max) n))
    | _ => none)
  | _ => none
def rConv (P : Program) (m : Tr Ao) (s d : TypeId) (x : AV) : Option AV :=
  match x with
  | .int _ n => (match P.underlying d with | some (.int k) => (match P.underlying s with | some _ => some (.int k (k.wrap n)) | none => none) | _ => none)
  | .str l => (match P.underlying s, P.underlying d with | some .string, some .string => some (.str l) | _, _ => none)
  | x => (match P.underlying s, P.underlying d with
    | some (.slice e), some .string => (match P.underlying e, cellsOf m 1 x with
      | some (.int .u8), some l => strA l
      | _, _ => none)
    | _, _ => none)
def rS2p (P : Program) (t : TypeId) (x : Option AV) : Option AV :=
  match P.underlying t, x with
  | some (.array n _), some (.sl id off len _) => bif Nat.ble n len then some (.ptr id off) else none
  | some (.array n _), some (.rw id off len _) => bif Nat.ble n len then some (.ptr id off) else none
  | _, _ => none
def rFn (f : Fn) : Option (List AV) → Option (List AV) → Option AV
  | some x, some y => some (.fn f x y)
  | _, _ => none
def slS (s : List Int) (l h : Option AV) : Option AV :=
  match bnd h s.length s.length with
  | some h => (match bnd l h 0 with
    | some l => some (.str ((s.take h).drop l))
    | none => none)
  | none => none
def slL (sz id off len cap : Nat) (l h mx : Option AV) : Option AV :=
  match bnd mx cap cap with
  | some c => (match (match mx, h with | some _, none => none | _, _ => bnd h c len) with
    | some h => (match bnd l h 0 with
      | some l => some (.sl id (bif Nat.beq c l then off else off + l * sz) (h - l) (c - l))
      | none => none)
    | none => none)
  | none => none
def slR (sz id off len b : Nat) (l h : Option AV) : Option AV :=
  match bnd h len len with
  | some h => (match bnd l h 0 with
    | some l => bif Nat.beq l 0 || Nat.blt l len || Nat.blt 0 b then some (.rw id (off + l * sz) (h - l) (b + (len - h))) else some (.em id off (off + l * sz) false)
    | none => none)
  | none => none
def slM (sz id off len : Nat) (l h mx : Option AV) : Option AV :=
  match bnd mx len 0 with
  | some c => (match (match h with | none => none | _ => bnd h c 0) with
    | some h => (match bnd l h 0 with
      | some l => some (.sl id (bif Nat.beq c l then off else off + l * sz) (h - l) (c - l))
      | none => none)
    | none => none)
  | none => none
def zero3 (l h mx : Option AV) : Bool := (bnd mx 0 0).isSome && (bnd h 0 0).isSome && (bnd l 0 0).isSome && (mx.isNone || h.isSome)
def slE (id p q : Nat) (z : Bool) (l h mx : Option AV) : Option AV := bif zero3 l h mx then some (.em id p q (z || mx.isSome)) else none
def slN (l h mx : Option AV) : Option AV := bif zero3 l h mx then some .nils else none
def slA (sz id off n : Nat) (l h : Option AV) : Option AV :=
  match bnd h n n with
  | some h => (match bnd l h 0 with
    | some l => some (.sl id (bif Nat.beq n l then off else off + l * sz) (h - l) (n - l))
    | none => none)
  | none => none
def rSl (P : Program) (t : TypeId) (x : AV) (l h mx : Option AV) : Option AV :=
  match P.underlying t with
  | some .string => (match x, mx with
    | .str s, none => slS s l h
    | _, _ => none)
  | some (.slice e) => (match sizeA P e with
    | some sz => (match x with
      | .sl id off len cap => slL sz id off len cap l h mx
      | .rw id off len b => (match mx with
        | none => slR sz id off len b l h
        | some _ => slM sz id off len l h mx)
      | .em id p q z => slE id p q z l h mx
      | .nils => slN l h mx
      | _ => none)
    | none => none)
  | some (.array n e) => (match sizeA P e, x, mx with
    | some sz, .ptr id off, none => slA sz id off n l h
    | _, _, _ => none)
  | _ => none
def rSlice (P : Program) (t : TypeId) : Option AV → Option (Option AV) → Option (Option AV) → Option (Option AV) → Option AV
  | some x, some l, some h, some mx => rSl P t x l h mx
  | _, _, _, _ => none
/-- a field: its place, its size, whether it is one cell -/
def fldOf (P : Program) (t : TypeId) (f : Nat) : Option (Nat × Nat × Bool) :=
  match P.underlying t with
  | some (.struct fs) => (match fs[f]? with
    | some fd => (match sizeA P fd.type, P.underlying fd.type with
      | some n, some d => some (fd.offset, n, isFlat d)
      | _, _ => none)
    | none => none)
  | _ => none
def rFld (P : Program) (t : TypeId) (f : Nat) : Option AV → Option AV
  | some (.ptr id off) => (match fldOf P t f with
    | some (o, _ + 1, _) => some (.ptr id (off + o))
    | _ => none)
  | _ => none
def rField (P : Program) (t : TypeId) (f : Nat) : Option AV → Option AV
  | some (.agg l) => (match fldOf P t f with
    | some (o, _, true) => l[o]?
    | some (o, n, false) => (takeA n (l.drop o)).map .agg
    | none => none)
  | _ => none
def ixS (sz id off len : Nat) (i : Int) : Option AV := bif decide (0 ≤ i) && Nat.blt i.toNat len then some (.ptr id (off + i.toNat * sz)) else none
def rIdx (P : Program) (t : TypeId) : Option AV → Option AV → Option AV
  | some x, some (.int _ i) => (match P.underlying t with
    | some (.slice e) => (match sizeA P e, x with
      | some sz, .sl id off len _ => ixS sz id off len i
      | some sz, .rw id off len _ => ixS sz id off len i
      | _, _ => none)
    | some (.array n e) => (match sizeA P e, x with
      | some sz, .ptr id off => ixS sz id off n i
      | _, _ => none)
    | _ => none)
  | _, _ => none
def rIndex (P : Program) (t : TypeId) : Option AV → Option AV → Option AV
  | some (.str s), some (.int _ i) => (match P.underlying t with
    | some .string => (match s[i.toNat]? with | some x => bif decide (0 ≤ i) && okB x then some (.int .u8 x) else none | none => none)
    | _ => none)
  | some (.agg l), some (.int _ i) => (match P.underlying t with
    | some (.array n e) => (match sizeA P e, P.underlying e with
      | some sz, some d => bif decide (0 ≤ i) && Nat.blt i.toNat n then (bif isFlat d then (bif Nat.beq sz 1 then l[i.toNat]? else none) else (takeA sz (l.drop (i.toNat * sz))).map .agg) else none
      | _, _ => none)
    | _ => none)
  | _, _ => none
/-- keys: whole numbers of one kind, or texts -/
def keyEq (d : TypeDesc) : AV → AV → Option Bool
  | .int k a, .int j b => (match d with | .int _ => bif decide (k = j) then some (decide (a = b)) else none | _ => none)
  | .str a, .str b => (match d with | .string => eqLI a b | _ => none)
  | _, _ => none
def findK (d : TypeDesc) (k : AV) : List (AV × AV × Nat) → Option (Option AV)
  | [] => some none
  | (k', v, _) :: r => (match keyEq d k k' with
    | some true => some (some v)
    | some false => findK d k r
    | none => none)
def findL (k : AV) : List (AV × AV) → Option AV
  | [] => none
  | (k', v) :: r => bif same k' k then some v else findL k r
def keyD (d : TypeDesc) : AV → Bool
  | .int .. => (match d with | .int _ => true | _ => false)
  | .str _ => (match d with | .string => true | _ => false)
  | _ => false
def lookA (d : TypeDesc) (m : Tr Ao) (k : AV) : AV → Option (Option AV)
  | .map id => (match m.get id with
    | some (.map es _) => findK d k es
    | some (.look es) => (findL k es).map some
    | _ => none)
  | .nilm => some none
  | _ => none
def okA (ok : Bool) (v : AV) (b : Bool) : AV := bif ok then .tup [v, .bool b] else v
def rLook (P : Program) (m : Tr Ao) (t : TypeId) (ok : Bool) : Option AV → Option AV → Option AV
  | some v, some k => (match P.underlying t with
    | some (.map kt e) => (match P.underlying kt with
      | some d => bif keyD d k then (match lookA d m k v with
        | some (some v) => some (okA ok v true)
        | some none => (zeroA P e).map fun z => okA ok z false
        | none => none) else none
      | none => none)
    | _ => none)
  | _, _ => none
def rExt (i : Nat) : Option AV → Option AV
  | some (.tup l) => l[i]?
  | _ => none
def notIface : TypeDesc → Bool
  | .interface _ => false
  | _ => true
def rAss (P : Program) (d : TypeId) (ok : Bool) : Option AV → Option AV
  | some (.ifc t v) => (match P.underlying d with
    | some e => bif notIface e && Nat.beq t d then some (okA ok v true) else none
    | none => none)
  | some .nili => (match P.underlying d with
    | some e => bif notIface e && ok then (zeroA P d).map fun z => .tup [z, .bool false] else none
    | none => none)
  | _ => none
def rMki (P : Program) (t : TypeId) (x : Option AV) : Option AV :=
  match P.underlying t with
  | some d => bif notIface d then x.map (.ifc t) else none
  | none => none
def rLoad (P : Program) (m : Tr Ao) (t : TypeId) : Option AV → Option AV
  | some (.ptr id off) => (match P.underlying t, sizeA P t, rdO (m.get id) with
    | some d, some n, some cs => bif isFlat d then cs[off]? else (takeA n (cs.drop off)).map .agg
    | _, _, _ => none)
  | _ => none
def setAt (l : List AV) (o : Nat) (vs : List AV) : List AV := l.take o ++ vs ++ l.drop (o + vs.length)
/-- put parts -/
def buildA (pl : List (Nat × Nat)) : List (Nat × AV) → List AV → Option (List AV)
  | [], zs => some zs
  | (i, v) :: r, zs => (match pl[i]? with
    | some (o, n) => bif Nat.beq v.cells.length n && Nat.ble (o + n) zs.length && v.cells.all AV.flat then buildA pl r (setAt zs o v.cells) else none
    | none => none)
def rBuild (P : Program) (t : TypeId) : Option (List (Nat × AV)) → Option AV
  | some vs => (match bldOf P t with
    | some (zs, pl) => (match ofVs zs with
      | some zs => (buildA pl vs zs).map .agg
      | none => none)
    | none => none)
  | none => none
def lenA (m : Tr Ao) : AV → Option Nat
  | .str s => some s.length
  | .sl _ _ n _ => some n
  | .rw _ _ n _ => some n
  | .nils => some 0
  | .em .. => some 0
  | .nilm => some 0
  | .map id => (match m.get id with
    | some (.map es _) => some es.length
    | _ => none)
  | _ => none
def capA : AV → Option Nat
  | .sl _ _ _ n => some n
  | .nils => some 0
  | _ => none
/-- is the type one of which 'len' is told so? -/
def lenT (P : Program) (t : Option TypeId) (x : AV) : Bool :=
  match t.bind P.underlying with
  | some .string => (match x with | .str _ => true | _ => false)
  | some (.slice _) => (match x with | .sl .. => true | .rw .. => true | .nils => true | .em .. => true | _ => false)
  | some (.map _ _) => (match x with | .map _ => true | .nilm => true | _ => false)
  | _ => false
def rLen (P : Program) (m : Tr Ao) (ts : Array TypeId) : Option (List AV) → Option AV
  | some [x] => bif lenT P ts[0]? x then (lenA m x).map fun n => .int .i64 n else none
  | _ => none
def rCap (P : Program) (ts : Array TypeId) : Option (List AV) → Option AV
  | some [x] => bif lenT P ts[0]? x then (capA x).map fun n => .int .i64 n else none
  | _ => none
def rMin : Option (List AV) → Option AV
  | some [.int k a, .int j b] => bif decide (k = j) then some (.int k (if b < a then b else a)) else none
  | _ => none
def rMax : Option (List AV) → Option AV
  | some [.int k a, .int j b] => bif decide (k = j) then some (.int k (if a < b then b else a)) else none
  | _ => none
/-- of a slice of which nothing is known but that it is one: how long it is, the least of that and 9, so many of its elements -/
def rLenU (P : Program) (m : Tr Ao) (ts : Array TypeId) (l : Option (List AV)) : Option AV :=
  match l with
  | some [.opq 13] => (match ts[0]?.bind P.underlying with | some (.slice _) => some (.opq 16) | _ => none)
  | l => rLen P m ts l
def rMinU (l : Option (List AV)) : Option AV :=
  match l with
  | some [.opq 16, .int .i64 n] => bif decide (n = 9) then some (.opq 17) else none
  | l => rMin l
def rSliceU (P : Program) (t : TypeId) (x : Option AV) (l h mx : Option (Option AV)) : Option AV :=
  match x, l, h, mx with
  | some (.opq 13), some none, some (some (.opq 17)), some none => (match P.underlying t with
    | some (.slice e) => (sizeA P e).map fun _ => .opq 14
    | _ => none)
  | x, l, h, mx => rSlice P t x l h mx
def isConst : Operand → Bool
  | .const _ => true
  | _ => false

/-! ### what turns memory -/
def storeA (s : St) (id off : Nat) (vs : List AV) : Option St :=
  match s.mem.get id with
  | some (.cells t cs more) => bif Nat.ble (off + vs.length) cs.length && vs.all AV.flat then some (s.put id (.cells t (setAt cs off vs) more)) else none
  | _ => none
def small (n : Nat) : Bool := Nat.ble n 100000
def putK (d : TypeDesc) (k v : AV) (clock : Nat) : List (AV × AV × Nat) → Option (List (AV × AV × Nat) × Nat)
  | [] => some ([(k, v, clock)], clock + 1)
  | (k', v', b) :: r => (match keyEq d k k' with
    | some true => some ((k, v, b) :: r, clock)
    | some false => (putK d k v clock r).map fun x => ((k', v', b) :: x.1, x.2)
    | none => none)
def delK (d : TypeDesc) (k : AV) : List (AV × AV × Nat) → Option (List (AV × AV × Nat))
  | [] => some []
  | (k', v', b) :: r => (match keyEq d k k' with
    | some true => some r
    | some false => (delK d k r).map ((k', v', b) :: ·)
    | none => none)
def repA (zs : List AV) : Nat → List AV
  | 0 => []
  | n + 1 => zs ++ repA zs n
inductive R1 where
  | v (v : AV)
  | m (v : AV) (s : St)
  | d (v : AV)
  | l (l : List (AV × St))
  | bad
def rv : Option AV → R1
  | some v => .v v
  | none => .bad
def rm : Option (AV × St) → R1
  | some (v, s) => .m v s
  | none => .bad
def rl : Option (List (AV × St)) → R1
  | some l => .l l
  | none => .bad
abbrev Res := Option (List (AV × St))
abbrev Callee := FuncId → List AV → St → Res
def mAlloc (s : St) (t : TypeId) : Option AV → Option (AV × St)
  | some z => bif z.cells.all AV.flat then some (.ptr s.nx 0, s.new (.cells t z.cells none)) else none
  | none => none
def mStore (P : Program) (s : St) (t : TypeId) : Option AV → Option AV → Option (AV × St)
  | some (.ptr id off), some v => (match sizeA P t with
    | some n => bif Nat.beq v.cells.length n then (storeA s id off v.cells).map fun s => (undefA, s) else none
    | none => none)
  | _, _ => none
def mLit (P : Program) (s : St) (t : TypeId) (len : Nat) : Option (List (Nat × AV)) → Option (AV × St)
  | some vs => (match P.underlying t with
    | some (.slice e) => (match sizeA P e, zeroA P e with
      | some sz, some z => bif Nat.beq z.cells.length sz && Nat.ble (len * sz) 1000000 && z.cells.all AV.flat then
          (buildA ((List.range len).map fun i => (i * sz, sz)) vs (repA z.cells len)).map fun cs => (.sl s.nx 0 len len, s.new (.cells e cs none)) else none
      | _, _ => none)
    | _ => none)
  | none => none
def mMake (P : Program) (s : St) (t : TypeId) : Option AV → Option AV → Option (AV × St)
  | some (.int _ n), some (.int _ c) => (match P.underlying t with
    | some (.slice e) => (match P.info? e, zeroA P e with
      | some i, some z => bif decide (0 ≤ n) && decide (n ≤ c) && decide (c ≤ 100000) && Nat.ble i.bytes 10000 && Nat.beq z.cells.length i.size && z.cells.all AV.flat then some (.sl s.nx 0 n.toNat c.toNat, s.new (.cells e (repA z.cells c.toNat) none)) else none
      | _, _ => none)
    | _ => none)
  | _, _ => none
def isNo : Option Bool → Bool
  | some false => true
  | _ => false
def mPutM (P : Program) (s : St) (t : TypeId) : Option AV → Option AV → Option AV → Option (AV × St)
  | some (.map id), some k, some v => (match P.underlying t with
    | some (.map kt _) => (match P.underlying kt, s.mem.get id with
      | some d, some (.map es c) => bif keyD d k then (putK d k v c es).map fun x => (undefA, s.put id (.map x.1 x.2)) else none
      | some .string, some (.look es) => (match k with
        | .str _ => some (undefA, s.put id (.look ((k, v) :: es.filter fun e => isNo (keyEq .string k e.1))))
        | _ => none)
      | _, _ => none)
    | _ => none)
  | _, _, _ => none
/-- '[]byte(s)' -/
def mBytes (P : Program) (s : St) (a b : TypeId) : Option AV → Option (AV × St)
  | some (.str l) => (match P.underlying a, P.underlying b with
    | some .string, some (.slice e) => (match P.underlying e with
      | some (.int .u8) => bif small l.length && l.all okB then some (.rw s.nx 0 l.length 0, s.new (.ro (intsOfS l))) else none
      | _ => none)
    | _, _ => none)
  | _ => none
def isMapT : Option TypeDesc → Bool
  | some (.map _ _) => true
  | _ => false
def mRange (P : Program) (s : St) (t : TypeId) : Option AV → Option (AV × St)
  | some (.map id) => (match s.mem.get id with
    | some (.map _ c) => bif isMapT (P.underlying t) then some (.ptr s.nx 0, s.new (.iter id c [] c)) else none
    | _ => none)
  | _ => none
def entryA (b : Nat) : List (AV × AV × Nat) → Option AV
  | [] => none
  | (k, v, n) :: r => bif Nat.beq n b then some (.tup [k, v]) else entryA b r
def rEntry (m : Tr Ao) : Option AV → Option AV
  | some (.ptr id 0) => (match m.get id with
    | some (.iter mm _ seen last) => (match m.get mm, seen.getLast? with
      | some (.map es c), some b => bif Nat.beq c last then entryA b es else none
      | _, _ => none)
    | _ => none)
  | _ => none
/-- the cells that are appended, or copied -/
def srcA (m : Tr Ao) (sz : Nat) : AV → Option (List AV)
  | .str l => bif Nat.beq sz 1 && l.all okB then some (intsOfS l) else none
  | y => cellsOf m sz y
def appA (s : St) (e : TypeId) (sz : Nat) (x : AV) (c : List AV) : Option (AV × St) :=
  match x with
  | .nils => some (.rw s.nx 0 (c.length / sz) 0, s.new (.cells e c (some sz)))
  | .rw id 0 len 0 => (match s.mem.get id with
    | some (.cells t cs (some sz')) => bif Nat.beq cs.length (len * sz) && Nat.beq sz sz' && Nat.beq t e then some (.rw s.nx 0 (len + c.length / sz) 0, (s.del id).new (.cells t (cs ++ c) (some sz))) else none
    | _ => none)
  | .sl id off len cap => bif Nat.ble (len + c.length / sz) cap then (storeA s id (off + len * sz) c).map fun s => (.sl id off (len + c.length / sz) cap, s)
    else (cellsAt s.mem id off (len * sz)).map fun cs => (.rw s.nx 0 (len + c.length / sz) 0, s.new (.cells e (cs ++ c) (some sz)))
  | _ => none
def notInt : Option TypeDesc → Bool
  | some (.slice _) => true
  | some .string => true
  | _ => false
def appN (s : St) (x : AV) : Option (AV × St) :=
  match x with
  | .sl _ _ len cap => bif Nat.ble len cap then some (x, s) else none
  | .rw .. => some (x, s)
  | .nils => some (x, s)
  | _ => none
def mApp (P : Program) (s : St) (ts : Array TypeId) : Option (List AV) → Option (AV × St)
  | some [x, y] => (match (ts[0]?).bind P.underlying with
    | some (.slice e) => (match P.info? e, srcA s.mem ((sizeA P e).getD 0) y with
      | some i, some c => bif notInt ((ts[1]?).bind P.underlying) && Nat.blt 0 i.size && Nat.ble i.bytes 10000 && small c.length && c.all AV.flat && Nat.beq (c.length % i.size) 0 && (lenA s.mem x).any (fun l => small (l + c.length)) && (zeroA P e).any (fun z => Nat.beq z.cells.length i.size) then
          (match c with
          | [] => appN s x
          | c => appA s e i.size x c) else none
      | _, _ => none)
    | _ => none)
  | _ => none
def dstOf : AV → Option (Nat × Nat × Nat)
  | .sl id off len _ => some (id, off, len)
  | .rw id off len _ => some (id, off, len)
  | _ => none
def mCpy (s : St) (new : List AV) (x : AV) : Option (AV × St) :=
  match dstOf x with
  | some (id, off, len) => (match new.take len with
    | [] => some (.int .i64 0, s)
    | c :: l => (storeA s id off (c :: l)).map fun s => (.int .i64 ((c :: l).length : Nat), s))
  | none => (match x with | .nils => some (.int .i64 0, s) | _ => none)
def mCopy (P : Program) (s : St) (ts : Array TypeId) : Option (List AV) → Option (AV × St)
  | some [x, y] => (match (ts[0]?).bind P.underlying with
    | some (.slice e) => (match sizeA P e with
      | some 1 => (srcA s.mem 1 y).bind fun new => mCpy s new x
      | _ => none)
    | _ => none)
  | _ => none
def mClr (s : St) (z : AV) (x : AV) : Option (AV × St) :=
  match dstOf x with
  | some (id, off, len) => bif Nat.beq len 0 then some (undefA, s) else (storeA s id off (repA z.cells len)).map fun s => (undefA, s)
  | none => (match x with | .nils => some (undefA, s) | _ => none)
def mClrM (s : St) : AV → Option (AV × St)
  | .map id => (match s.mem.get id with
    | some (.map _ c) => some (undefA, s.put id (.map [] c))
    | _ => none)
  | _ => none
def mClear (P : Program) (s : St) (ts : Array TypeId) : Option (List AV) → Option (AV × St)
  | some [x] => (match (ts[0]?).bind P.underlying with
    | some (.slice e) => (match zeroA P e with
      | some z => mClr s z x
      | none => none)
    | some (.map _ _) => mClrM s x
    | _ => none)
  | _ => none
def mDel (P : Program) (s : St) (ts : Array TypeId) : Option (List AV) → Option (AV × St)
  | some [.map id, k] => (match (ts[0]?).bind P.underlying with
    | some (.map kt _) => (match P.underlying kt, s.mem.get id with
      | some d, some (.map es c) => bif keyD d k then (delK d k es).map fun es => (undefA, s.put id (.map es c)) else none
      | _, _ => none)
    | _ => none)
  | _ => none
def steps (s : St) (id m since : Nat) (seen : List Nat) (clock : Nat) : List (AV × AV × Nat) → List (AV × St)
  | [] => []
  | (k, v, b) :: r => (.tup [.bool true, k, v], s.put id (.iter m since (seen ++ [b]) clock)) :: steps s id m since seen clock r
def hasN (b : Nat) : List Nat → Bool
  | [] => false
  | x :: r => Nat.beq x b || hasN b r
def leftA (seen : List Nat) : List (AV × AV × Nat) → List (AV × AV × Nat)
  | [] => []
  | (k, v, b) :: r => bif hasN b seen then leftA seen r else (k, v, b) :: leftA seen r
def xnext (s : St) : Option AV → Res
  | some (.ptr id 0) => (match s.mem.get id with
    | some (.iter m since seen last) => (match s.mem.get m with
      | some (.map es clock) => bif es.all (fun e => Nat.blt e.2.2 since && Nat.blt e.2.2 last) then (match leftA seen es with
        | [] => some [(.tup [.bool false], s.del id)]
        | l => some (steps s id m since seen clock l)) else none
      | _ => none)
    | _ => none)
  | _ => none

/-! ### calls -/
/-- a method of a pointer, of its own or of a part -/
def methA (P : Program) (t : TypeId) (nm : String) : AV → Option (FuncId × AV)
  | .ptr id off => (match P.underlying t, (P.info? t).bind (fun i => i.methods.find? (·.name == nm)) with
    | some (.pointer _), some m => (match m.path.toList, m.func with
      | [], some (f, true) => some (f, .ptr id off)
      | [s], some (f, true) => (match s.deref, fldOf P s.struct s.index with
        | true, some (o, _ + 1, false) => some (f, .ptr id (off + o))
        | _, _ => none)
      | _, _ => none)
    | _, _ => none)
  | _ => none
structure Cx where
  P : Program
  /-- calls that are told otherwise -/
  X : FuncId → List AV → St → Option Res
  /-- functions of the model's own that leave memory alone -/
  e : FuncId → List AV → Option AV
  /-- deferred calls that do nothing where nothing panics -/
  noop : AV → Bool
def xcalled (c : Cx) (rec : Callee) (s : St) (f : AV) (vs : List AV) : Res :=
  match f with
  | .fn (.func f) a b => rec f (a ++ vs ++ b) s
  | .fn (.methodOf t nm) [] _ => (match vs with
    | v :: r => (match methA c.P t nm v with
      | some (f, v) => rec f (v :: r) s
      | none => none)
    | [] => none)
  | _ => none
def xfun (c : Cx) (rec : Callee) (s : St) (f : Operand) : Option AV → Option (List AV) → R1
  | some g, some vs => (match (match f with | .func f => c.e f vs | _ => none) with
    | some v => .v v
    | none => rl (xcalled c rec s g vs))
  | _, _ => .bad
def xcallop (c : Cx) (rec : Callee) (s : St) (E : VEnv) (q : Call) : R1 :=
  match q.callee with
  | .value f => xfun c rec s f (evA E f) (evAs E q.args.toList)
  | .invoke _ _ => .bad
  | .builtin b => (match b with
    | .len => rv (rLenU c.P s.mem q.argTypes (evAs E q.args.toList))
    | .cap => rv (rCap c.P q.argTypes (evAs E q.args.toList))
    | .min => rv (rMinU (evAs E q.args.toList))
    | .max => rv (rMax (evAs E q.args.toList))
    | .append => rm (mApp c.P s q.argTypes (evAs E q.args.toList))
    | .copy => rm (mCopy c.P s q.argTypes (evAs E q.args.toList))
    | .clear => rm (mClear c.P s q.argTypes (evAs E q.args.toList))
    | .delete => rm (mDel c.P s q.argTypes (evAs E q.args.toList))
    | _ => .bad)
def xdefer (E : VEnv) (q : Call) : R1 :=
  match q.callee with
  | .value f => (match q.args.toList, evA E f with
    | [], some (.fn g x y) => .d (.fn g x y)
    | _, _ => .bad)
  | _ => .bad
def isSliceT : Option TypeDesc → Bool
  | some (.slice _) => true
  | _ => false
def xconv (P : Program) (s : St) (a b : TypeId) (x : Option AV) : R1 := bif isSliceT (P.underlying b) then rm (mBytes P s a b x) else rv (x.bind (rConv P s.mem a b))
/-- '==' of two texts of which it is not known -/
def ysB (op : BinOp) : Option AV → Option AV → Bool
  | some (.ys _), some (.ys _) => (match op with | .eql => true | .neq => true | _ => false)
  | _, _ => false
def xbinop (P : Program) (s : St) (op : BinOp) (t : TypeId) (c : Bool) (a b : Option AV) : R1 :=
  match rBin P op t c a b with
  | some v => .v v
  | none => bif ysB op a b then .l [(.bool false, s), (.bool true, s)] else .bad
def xop (c : Cx) (rec : Callee) (s : St) (E : VEnv) (op : Op) : R1 :=
  match op with
  | .move x => rv (evA E x)
  | .assign x => rv (evA E x)
  | .pick b x y => rv (rPick (evA E b) (evA E x) (evA E y))
  | .nilCheck x => rv (rNil (evA E x))
  | .binOp op t x y _ => xbinop c.P s op t (isConst x || isConst y) (evA E x) (evA E y)
  | .unOp op _ x => rv (rUn op (evA E x))
  | .convert a b x => xconv c.P s a b (evA E x)
  | .sliceToArrayPointer t x => rv (rS2p c.P t (evA E x))
  | .makeInterface t x => rv (rMki c.P t (evA E x))
  | .makeFunc f a b => rv (rFn f (evAs E a.toList) (evAs E b.toList))
  | .slice t x lo hi mx => rv (rSliceU c.P t (evA E x) (evAo E lo) (evAo E hi) (evAo E mx))
  | .fieldAddr t x f => rv (rFld c.P t f (evA E x))
  | .field t x f => rv (rField c.P t f (evA E x))
  | .indexAddr t x i => rv (rIdx c.P t (evA E x) (evA E i))
  | .index t x i => rv (rIndex c.P t (evA E x) (evA E i))
  | .lookup t x k ok => rv (rLook c.P s.mem t ok (evA E x) (evA E k))
  | .extract x i => rv (rExt i (evA E x))
  | .typeAssert x _ d ok => rv (rAss c.P d ok (evA E x))
  | .load t a => rv (rLoad c.P s.mem t (evA E a))
  | .build t ps => rv (rBuild c.P t (evAps E ps.toList))
  | .entry x => rv (rEntry s.mem (evA E x))
  | .alloc t => rm (mAlloc s t (zeroA c.P t))
  | .box t x => rm (mAlloc s t (evA E x))
  | .store t a x => rm (mStore c.P s t (evA E a) (evA E x))
  | .buildSlice t len ps => rm (mLit c.P s t len (evAps E ps.toList))
  | .makeSlice t l q => rm (mMake c.P s t (evA E l) (evA E q))
  | .makeMap _ none => rm (some (.map s.nx, s.new (.map [] 0)))
  | .mapUpdate t m k v => rm (mPutM c.P s t (evA E m) (evA E k) (evA E v))
  | .insert t m k v => rm (mPutM c.P s t (evA E m) (evA E k) (evA E v))
  | .range t x => rm (mRange c.P s t (evA E x))
  | .next x false => rl (xnext s (evA E x))
  | .call q => xcallop c rec s E q
  | .defer q => xdefer E q
  | _ => .bad

/-! ### code -/
inductive Ex where
  | normal
  | exit (id : Nat)
  | ret
  deriving Inhabited
structure Out where
  e : Ex
  E : VEnv
  D : List AV
  s : St
inductive Rs where
  | bad (why : String)
  | out (l : List Out)
def Rs.cat (a : Rs) (b : Rs) : Rs :=
  match a with
  | .out l => (match b with
    | .out m => .out (l ++ m)
    | b => b)
  | a => a
def bindO (k : Out → Rs) : List Out → Rs
  | [] => .out []
  | o :: r => (match r with
    | [] => k o
    | r => (k o).cat (bindO k r))
def bindV (k : AV → St → Rs) : List (AV × St) → Rs
  | [] => .out []
  | (v, s) :: r => (match r with
    | [] => k v s
    | r => (k v s).cat (bindV k r))
def bindI (k : Nat → Rs) : List Nat → Rs
  | [] => .out []
  | i :: r => (match r with
    | [] => k i
    | r => (k i).cat (bindI k r))
def dstA (E : VEnv) (d : Option Nat) (v : AV) : VEnv :=
  match d with
  | none => E
  | some d => Tr.set (some v) 40 d E
def wantA (ops : Array Oper) (E : VEnv) : Option (Nat × Bool) → Option Bool
  | none => some true
  | some (j, b) => (match (ops[j]?).bind (·.dst) with
    | some d => (match E.get d with
      | some (.bool c) => some (c == b)
      | some (.tup []) => some false
      | _ => none)
    | none => none)
def xdo (o : Oper) (E : VEnv) (D : List AV) (s : St) (k : VEnv → List AV → St → Rs) : R1 → Rs
  | .v v => k (dstA E o.dst v) D s
  | .m v s => k (dstA E o.dst v) D s
  | .d v => k (dstA E o.dst undefA) (v :: D) s
  | .l l => bindV (fun v s => k (dstA E o.dst v) D s) l
  | .bad => .bad o.pos
/-- an operation, and what comes behind it -/
def xoper (c : Cx) (rec : Callee) (ops : Array Oper) (o : Oper) (E : VEnv) (D : List AV) (s : St) (k : VEnv → List AV → St → Rs) : Rs :=
  match wantA ops E o.guard with
  | some true => xdo o E D s k (xop c rec s E o.op)
  | some false => k (dstA E o.dst undefA) D s
  | none => .bad o.pos
def xops (c : Cx) (rec : Callee) (ops : Array Oper) : List Oper → VEnv → List AV → St → Rs
  | [], E, D, s => .out [⟨.normal, E, D, s⟩]
  | o :: r, E, D, s => xoper c rec ops o E D s (fun E D s => xops c rec ops r E D s)
/-- what leaves memory alone -/
def quietOp (c : Cx) : Op → Bool
  | .move _ | .assign _ | .pick .. | .nilCheck _ | .binOp .. | .unOp .. | .makeInterface .. | .makeFunc .. | .slice .. | .fieldAddr .. | .field .. | .indexAddr .. | .index .. | .extract .. | .typeAssert .. | .load .. | .build .. | .sliceToArrayPointer .. => true
  | .convert _ d _ => !isSliceT (c.P.underlying d)
  | .call q => (match q.callee with
    | .builtin b => (match b with | .len | .cap | .min | .max => true | _ => false)
    | .value (.func f) => ((c.P.funcs[f]?).map (·.body.isNone)).getD false
    | _ => false)
  | _ => false
/-- what makes one thing -/
def makes : Op → Bool
  | .convert .. => true
  | .alloc _ => true
  | .box .. => true
  | .buildSlice .. => true
  | .makeSlice .. => true
  | .makeMap .. => true
  | .range .. => true
  | .call q => (match q.callee with | .builtin .append => true | _ => false)
  | _ => false
def idOf (E : VEnv) (x : Operand) : List Nat :=
  match evA E x with
  | some (.ptr i _) => [i]
  | some (.sl i _ _ _) => [i]
  | some (.rw i _ _ _) => [i]
  | some (.map i) => [i]
  | _ => []
/-- the places that an operation reads -/
def fpOf (E : VEnv) : Op → List Nat
  | .load _ a => idOf E a
  | .convert _ _ x => idOf E x
  | .call q => (match q.args.toList with
    | [x] => idOf E x
    | _ => [])
  | _ => []
def samePairs : List (AV × AV × Nat) → List (AV × AV × Nat) → Bool
  | [], [] => true
  | (a, b, c) :: l, (d, e, f) :: m => same a d && same b e && Nat.beq c f && samePairs l m
  | _, _ => false
def sameLook : List (AV × AV) → List (AV × AV) → Bool
  | [], [] => true
  | (a, b) :: l, (d, e) :: m => same a d && same b e && sameLook l m
  | _, _ => false
def sameNats : List Nat → List Nat → Bool
  | [], [] => true
  | a :: l, b :: m => Nat.beq a b && sameNats l m
  | _, _ => false
def sameMore : Option Nat → Option Nat → Bool
  | none, none => true
  | some a, some b => Nat.beq a b
  | _, _ => false
def sameO : Ao → Ao → Bool
  | .cells t cs a, .cells u ds b => Nat.beq t u && sameMore a b && sames cs ds
  | .map es c, .map fs d => Nat.beq c d && samePairs es fs
  | .look es, .look fs => sameLook es fs
  | .iter a b c d, .iter e f g h => Nat.beq a e && Nat.beq b f && sameNats c g && Nat.beq d h
  | .inv a i, .inv b j => Nat.beq a b && Nat.beq i j
  | .ro a, .ro b => sames a b
  | _, _ => false
/-- what comes surely ahead of each operation, as bits -/
def maskE (ms : List Nat) : List Edge → Nat → Nat
  | [], n => n
  | e :: r, n => bif Region.binds .any e then maskE ms r (n ||| 2 ^ e.on ||| ms.getD e.on 0) else maskE ms r n
def masksGo : List Oper → List Nat → List Nat
  | [], ms => ms
  | o :: r, ms => masksGo r (ms ++ [maskE ms o.after.toList 0])
def masks (ops : Array Oper) : List Nat := masksGo ops.toList []
def aheadB (ms : List Nat) (j i : Nat) : Bool := (ms.getD j 0).testBit i
def dropL (ms : List Nat) (j : Nat) (L : List (Nat × List Nat)) : List (Nat × List Nat) := L.filter fun x => !aheadB ms j x.1
def keeps1 (s s' : St) (id : Nat) : Bool :=
  match s.mem.get id with
  | none => true
  | some o => (match s'.mem.get id with
    | some p => sameO o p
    | none => false)
def keeps (L : List (Nat × List Nat)) (s s' : St) : Bool := L.all fun x => x.2.all (keeps1 s s')
/-- all that may come up ahead of the i-th do not touch what it reads or writes in the frame -/
def isFree (ops : Array Oper) (listed : Array Bool) (i : Nat) : Bool := Region.free .any ops listed i
/-- a region that draws its order -/
def xany (c : Cx) (rec : Callee) (ops : Array Oper) (ms : List Nat) (base : Nat) : Nat → Array Bool → List (Nat × List Nat) → VEnv → List AV → St → Rs
  | 0, listed, _, E, D, s => (match Region.ready .any ops listed with
    | [] => .out [⟨.normal, E, D, s⟩]
    | _ => .bad "not all")
  | n + 1, listed, L, E, D, s =>
    (match Region.ready .any ops listed with
    | [] => .out [⟨.normal, E, D, s⟩]
    | rs => (match rs.find? (fun i => match ops[i]? with | some o => quietOp c o.op && isFree ops listed i | none => false) with
      | some i => (match ops[i]? with
        | some o => (match wantA ops E o.guard with
          | some true => (match xop c rec s E o.op with
            | .v v => xany c rec ops ms base n (listed.setIfInBounds i true) ((i, fpOf E o.op) :: L) (dstA E o.dst v) D s
            | _ => .bad o.pos)
          | some false => xany c rec ops ms base n (listed.setIfInBounds i true) ((i, []) :: L) (dstA E o.dst undefA) D s
          | none => .bad o.pos)
        | none => .bad "no op")
      | none => bindI (fun i => (match ops[i]? with
        | none => .bad "no op"
        | some o => bif makes o.op
            then xoper c rec ops o E D ⟨s.mem, base + i⟩ (fun E D s' => bif keeps (dropL ms i L) s s' then xany c rec ops ms base n (listed.setIfInBounds i true) (dropL ms i L) E D ⟨s'.mem, s.nx⟩ else .bad ("keeps " ++ o.pos))
            else xoper c rec ops o E D s (fun E D s' => bif keeps (dropL ms i L) s s' then xany c rec ops ms base n (listed.setIfInBounds i true) (dropL ms i L) E D s' else .bad ("keeps " ++ o.pos)))) rs))
/-- what both tell -/
def meetT {α : Type} (f : α → α → Bool) : Tr α → Tr α → Tr α
  | .node a b c, .node d e g => .node (meetT f a d) (match b, e with | some x, some y => bif f x y then some x else none | _, _ => none) (meetT f c g)
  | _, _ => .leaf
def meetO (o p : Out) : Out := ⟨o.e, meetT same o.E p.E, o.D, ⟨meetT sameO o.s.mem p.s.mem, o.s.nx⟩⟩
def meetV (o p : AV × St) : AV × St := (o.1, ⟨meetT sameO o.2.mem p.2.mem, o.2.nx⟩)
def meets2 (o p : Out) : Bool := (match o.e, p.e with | .normal, .normal => sames o.D p.D && Nat.beq o.s.nx p.s.nx | _, _ => false)
/-- outcomes that tell the same are one -/
def insO (o : Out) : List Out → List Out
  | [] => [o]
  | p :: r => bif meets2 o p then meetO p o :: r else p :: insO o r
def dedO : List Out → List Out
  | [] => []
  | o :: r => (match r with
    | [] => [o]
    | r => insO o (dedO r))
def insV (o : AV × St) : List (AV × St) → List (AV × St)
  | [] => [o]
  | p :: r => bif same o.1 p.1 && Nat.beq o.2.nx p.2.nx then meetV p o :: r else p :: insV o r
def dedV : List (AV × St) → List (AV × St)
  | [] => []
  | o :: r => (match r with
    | [] => [o]
    | r => insV o (dedV r))
def seqO (k : Out → Rs) (o : Out) : Rs :=
  match o.e with
  | .normal => k o
  | _ => .out [o]
def outO (k : Out → Out) : Rs → Rs
  | .out l => .out (l.map k)
  | r => r
def bindR (k : Out → Rs) : Rs → Rs
  | .out l => bindO (seqO k) l
  | r => r
def leaveA (id : Nat) (o : Out) : Out :=
  match o.e with
  | .exit j => bif Nat.beq j id then ⟨.normal, o.E, o.D, o.s⟩ else o
  | _ => o
def dedR : Rs → Rs
  | .out l => .out (dedO l)
  | b => b
def anyMakes (ops : Array Oper) : Bool := ops.any (fun o => makes o.op)
def xreg (c : Cx) (rec : Callee) (ops : Array Oper) (draw : Bool) (E : VEnv) (D : List AV) (s : St) : Rs :=
  bif draw then dedR (xany c rec ops (masks ops) s.nx ops.size (Array.replicate ops.size false) [] E D ⟨s.mem, bif anyMakes ops then s.nx + ops.size else s.nx⟩)
  else xops c rec ops ops.toList E D s
def xcond (k : Bool → Rs) : Option AV → Rs
  | some (.bool b) => k b
  | _ => .bad "cond"
def xcode (c : Cx) (rec : Callee) : Nat → Code → VEnv → List AV → St → Rs
  | 0, _, _, _, _ => .bad "fuel"
  | n + 1, q, E, D, s => (match q with
    | .skip => .out [⟨.normal, E, D, s⟩]
    | .label _ => .out [⟨.normal, E, D, s⟩]
    | .region _ ops draw => xreg c rec ops draw E D s
    | .seq a b => bindR (fun o => xcode c rec n b o.E o.D o.s) (xcode c rec n a E D s)
    | .cond x a b => xcond (fun t => bif t then xcode c rec n a E D s else xcode c rec n b E D s) (evA E x)
    | .block id b => outO (leaveA id) (xcode c rec n b E D s)
    | .loop b => bindR (fun o => xcode c rec n (.loop b) o.E o.D o.s) (xcode c rec n b E D s)
    | .scope b => xcode c rec n b E D s
    | .exit id => .out [⟨.exit id, E, D, s⟩]
    | .ret => .out [⟨.ret, E, D, s⟩]
    | _ => .bad "code")
def env0A : Nat → List AV → VEnv → VEnv
  | _, [], E => E
  | i, v :: r, E => env0A (i + 1) r (Tr.set (some v) 40 i E)
def res1 (P : Program) (E : VEnv) (s : St) : ResultVar → Option AV
  | .tmp t => E.get t
  | .cell a t => rLoad P s.mem t (E.get a)
def resA (P : Program) (E : VEnv) (s : St) : List ResultVar → Option (List AV)
  | [] => some []
  | r :: rs => (match res1 P E s r, resA P E s rs with
    | some v, some l => some (v :: l)
    | _, _ => none)
def packA : List AV → AV
  | [v] => v
  | l => .tup l
/-- what a function gives -/
def endA (c : Cx) (rs : List ResultVar) (o : Out) : Option (AV × St) :=
  match o.e with
  | .exit _ => none
  | _ => bif o.D.all c.noop then (resA c.P o.E o.s rs).map fun l => (packA l, o.s) else none
def ends (c : Cx) (rs : List ResultVar) : List Out → Res
  | [] => some []
  | o :: r => (match endA c rs o, ends c rs r with
    | some x, some l => some (x :: l)
    | _, _ => none)
def endR (c : Cx) (rs : List ResultVar) : Rs → Res
  | .out l => (ends c rs l).map dedV
  | .bad _ => none
/-- all places that are written to are there -/
def opsOk (N : Nat) (ops : Array Oper) : Bool := ops.toList.all fun o => match o.dst with
  | none => true
  | some d => Nat.blt d N
def codeOk (N : Nat) : Code → Bool
  | .region _ ops _ => opsOk N ops && Region.noSelect ops
  | .seq a b => codeOk N a && codeOk N b
  | .cond _ a b => codeOk N a && codeOk N b
  | .block _ b => codeOk N b
  | .loop b => codeOk N b
  | .scope b => codeOk N b
  | _ => true
def xbody (c : Cx) (rec : Callee) (vs : List AV) (s : St) (fn : Func) : Option Code → Res
  | some b => bif codeOk fn.ntmps b && Nat.ble vs.length fn.ntmps then endR c fn.results.toList (xcode c rec 100000 b (env0A 0 vs .leaf) [] s) else none
  | none => none
def xenter (c : Cx) (rec : Callee) (vs : List AV) (s : St) : Option Func → Res
  | some fn => bif fn.name == "runtime.NumGoroutine" then none else xbody c rec vs s fn fn.body
  | none => none
def xcall (c : Cx) : Nat → Callee
  | 0, _, _, _ => none
  | n + 1, f, vs, s => (match c.X f vs s with
    | some r => r
    | none => xenter c (xcall c n) vs s (c.P.funcs[f]?))
end Go.Proofs.AL.Rx
/- RV, soundness, first part: what the names mean; operations that read. -/
set_option linter.unusedVariables false
set_option linter.unusedSimpArgs false
namespace Go.Proofs.AL.Rx
open Go Go.RowKit

/-- what is fixed: the signs, values of which nothing is known, the check of bytes, things of which a law alone is known -/
structure Fx where
  sym : Nat → Int
  opq : Nat → Value
  crc : List Int → Nat → Int
  inv : Nat → World → Nat → Nat → Prop
  one : ∀ k, (opq k).oneCell' = true
  arg : Nat → World → Prop
  argKp : ∀ B w w', arg B w → Below B w w' → arg B w'
  cut : ∃ (A : Option Addr) (n c : Nat), opq 13 = .slice A n c ∧ n ≤ c ∧ opq 16 = .int .i64 n ∧ opq 17 = .int .i64 ((min n 9 : Nat) : Int) ∧ opq 14 = .slice A (min n 9) c
def opq0 (k : Nat) : Value := match k with
  | 13 => .slice none 0 0
  | 14 => .slice none 0 0
  | 16 => .int .i64 0
  | 17 => .int .i64 0
  | _ => .bool true
theorem opq0_one (k : Nat) : (opq0 k).oneCell' = true := by unfold opq0; split <;> rfl
def Fx0 : Fx := ⟨fun _ => 0, opq0, fun _ _ => 0, fun _ _ _ _ => True, opq0_one, fun _ _ => True, fun _ _ _ h _ => h, ⟨none, 0, 0, rfl, Nat.le_refl _, rfl, rfl, rfl⟩⟩
/-- where the names lie -/
structure Val where
  blk : Nat → Nat
  cap : Nat → Nat
def numV : Value → Int
  | .int _ n => n
  | _ => 0
mutual
def conc (F : Fx) (ρ : Val) : AV → Value
  | .bool b => .bool b
  | .int k n => .int k n
  | .sym k n => .int k (F.sym n)
  | .crc l j => .int .u8 (F.crc ((concs F ρ l).map numV) j)
  | .str s => .string (strOfNums s)
  | .ys l => .string (strOfNums ((concs F ρ l).map numV))
  | .ptr id off => .pointer (some ⟨ρ.blk id, off, none⟩)
  | .nilp => .pointer none
  | .sl id off len cap => .slice (some ⟨ρ.blk id, off, none⟩) len cap
  | .rw id off len b => .slice (some ⟨ρ.blk id, off, none⟩) len (len + b + ρ.cap id)
  | .nils => .slice none 0 0
  | .em id p q z => .slice (some ⟨ρ.blk id, if ρ.cap id = 0 then p else q, none⟩) 0 (if z then 0 else ρ.cap id)
  | .map id => .map (some (ρ.blk id))
  | .nilm => .map none
  | .fn f x y => .func f (concs F ρ x).toArray (concs F ρ y).toArray
  | .nilf => .nilFunc
  | .ifc t v => .iface t (conc F ρ v)
  | .nili => .nilIface
  | .agg l => .agg (concs F ρ l).toArray
  | .tup l => .tuple (concs F ρ l).toArray
  | .opq k => F.opq k
def concs (F : Fx) (ρ : Val) : List AV → List Value
  | [] => []
  | v :: r => conc F ρ v :: concs F ρ r
end
section
variable {F : Fx} {ρ : Val} {P : Program} {w W : World} {a : Act} {E : VEnv} {o : Oper} {x y z : Operand} {t t2 ty : TypeId} {r : AV}
theorem concs_map (l : List AV) : concs F ρ l = l.map (conc F ρ) := by
  induction l with
  | nil => rfl
  | cons v r ih => simp [concs, ih]
@[simp] theorem concs_len (l : List AV) : (concs F ρ l).length = l.length := by simp [concs_map]
theorem concs_append (l m : List AV) : concs F ρ (l ++ m) = concs F ρ l ++ concs F ρ m := by simp [concs_map]
theorem concs_take (l : List AV) (n : Nat) : concs F ρ (l.take n) = (concs F ρ l).take n := by simp [concs_map, List.map_take]
theorem concs_drop (l : List AV) (n : Nat) : concs F ρ (l.drop n) = (concs F ρ l).drop n := by simp [concs_map, List.map_drop]
theorem concs_get (l : List AV) (i : Nat) : (concs F ρ l)[i]? = (l[i]?).map (conc F ρ) := by simp [concs_map]
theorem conc_cells (v : AV) : (conc F ρ v).cells = (concs F ρ v.cells).toArray ∨ ∃ k, v = .opq k := by
  cases v <;> simp [conc, Value.cells, AV.cells, concs]
theorem flat_cells {v : AV} (h : v.flat = true) : v.cells = [v] := by cases v <;> first | rfl | cases h
theorem conc_cellsL (v : AV) : cellsL (conc F ρ v) = concs F ρ v.cells := by
  unfold cellsL
  cases v <;> simp [conc, Value.cells, AV.cells, concs]
  have := F.one ‹Nat›
  cases h : F.opq ‹Nat› <;> simp_all [Value.oneCell', Value.cells]
theorem conc_one {v : AV} (h : v.flat = true) : (conc F ρ v).oneCell' = true := by
  cases v <;> first | rfl | (cases h; done) | exact F.one _
theorem concs_one {l : List AV} (h : l.all AV.flat = true) : ∀ u ∈ concs F ρ l, u.oneCell' = true := by
  intro u hu
  simp only [concs_map, List.mem_map] at hu
  obtain ⟨v, hv, rfl⟩ := hu
  exact conc_one (List.all_eq_true.1 h v hv)
mutual
theorem ofV_conc : ∀ (v : Value) (x : AV), ofV v = some x → conc F ρ x = v
  | .bool b, x, h => by simp [ofV] at h; subst h; rfl
  | .int k n, x, h => by simp [ofV] at h; subst h; rfl
  | .string ⟨⟨l⟩⟩, x, h => by
    simp [ofV] at h; subst h
    simp [conc, strOfNums, List.map_map, Function.comp_def]
  | .pointer none, x, h => by simp [ofV] at h; subst h; rfl
  | .pointer (some _), x, h => by simp [ofV] at h
  | .slice none 0 0, x, h => by simp [ofV] at h; subst h; rfl
  | .slice none (n + 1) _, x, h => by simp [ofV] at h
  | .slice none 0 (n + 1), x, h => by simp [ofV] at h
  | .slice (some _) _ _, x, h => by simp [ofV] at h
  | .map none, x, h => by simp [ofV] at h; subst h; rfl
  | .map (some _), x, h => by simp [ofV] at h
  | .nilFunc, x, h => by simp [ofV] at h; subst h; rfl
  | .nilIface, x, h => by simp [ofV] at h; subst h; rfl
  | .func f ⟨a⟩ ⟨b⟩, x, h => by
    simp only [ofV] at h
    cases ha : ofVs a with
    | none => rw [ha] at h; cases h
    | some p => cases hb : ofVs b with
      | none => rw [ha, hb] at h; cases h
      | some q =>
        rw [ha, hb] at h; injection h with h; subst h
        simp [conc, ofVs_conc a p ha, ofVs_conc b q hb]
  | .agg ⟨l⟩, x, h => by
    simp only [ofV] at h
    obtain ⟨p, hp, rfl⟩ := Option.map_eq_some_iff.1 h
    simp [conc, ofVs_conc l p hp]
  | .tuple ⟨l⟩, x, h => by
    simp only [ofV] at h
    obtain ⟨p, hp, rfl⟩ := Option.map_eq_some_iff.1 h
    simp [conc, ofVs_conc l p hp]
  | .float .., x, h => by simp [ofV] at h
  | .complex .., x, h => by simp [ofV] at h
  | .chan .., x, h => by simp [ofV] at h
  | .iface .., x, h => by simp [ofV] at h
theorem ofVs_conc : ∀ (l : List Value) (xs : List AV), ofVs l = some xs → concs F ρ xs = l
  | [], xs, h => by simp [ofVs] at h; subst h; rfl
  | v :: r, xs, h => by
    simp only [ofVs] at h
    cases ha : ofV v with
    | none => rw [ha] at h; cases h
    | some p => cases hb : ofVs r with
      | none => rw [ha, hb] at h; cases h
      | some q =>
        rw [ha, hb] at h; injection h with h; subst h
        simp [concs, ofV_conc v p ha, ofVs_conc r q hb]
end
/-- the temporaries -/
def Sy (F : Fx) (ρ : Val) (a : Act) (E : VEnv) : Prop := ∀ t v, E.get t = some v → a.tmps.getD t undef = conc F ρ v
theorem Sy.ev (hy : Sy F ρ a E) {v : AV} (h : evA E x = some v) : a.eval x = conc F ρ v := by
  cases x with
  | tmp t => exact hy t v h
  | const u => exact (ofV_conc u v h).symm
  | func f => simp [evA] at h; subst h; rfl
  | global g => cases h
theorem Sy.evs (hy : Sy F ρ a E) : ∀ {l : List Operand} {vs : List AV}, evAs E l = some vs → l.map a.eval = concs F ρ vs
  | [], vs, h => by simp [evAs] at h; subst h; rfl
  | x :: r, vs, h => by
    simp only [evAs] at h
    cases hx : evA E x with
    | none => rw [hx] at h; cases h
    | some v => cases hr : evAs E r with
      | none => rw [hx, hr] at h; cases h
      | some l =>
        rw [hx, hr] at h; injection h with h; subst h
        simp [concs, hy.ev hx, Sy.evs hy hr]
theorem Sy.evsA (hy : Sy F ρ a E) {l : Array Operand} {vs : List AV} (h : evAs E l.toList = some vs) : l.map a.eval = (concs F ρ vs).toArray := by
  apply Array.ext'
  rw [Array.toList_map, hy.evs h]
def concP (F : Fx) (ρ : Val) (l : List (Nat × AV)) : List (Nat × Value) := l.map fun p => (p.1, conc F ρ p.2)
theorem Sy.evps (hy : Sy F ρ a E) : ∀ {l : List (Nat × Operand)} {vs : List (Nat × AV)}, evAps E l = some vs → l.map (fun p => (p.1, a.eval p.2)) = concP F ρ vs
  | [], vs, h => by simp [evAps] at h; subst h; rfl
  | (i, x) :: r, vs, h => by
    simp only [evAps] at h
    cases hx : evA E x with
    | none => rw [hx] at h; cases h
    | some v => cases hr : evAps E r with
      | none => rw [hx, hr] at h; cases h
      | some l =>
        rw [hx, hr] at h; injection h with h; subst h
        rw [List.map_cons, Sy.evps hy hr]
        simp [concP, hy.ev hx]
theorem Sy.evo (hy : Sy F ρ a E) {x : Option Operand} {v : Option AV} (h : evAo E x = some v) : x.map a.eval = v.map (conc F ρ) := by
  cases x with
  | none => simp [evAo] at h; subst h; rfl
  | some x =>
    simp only [evAo] at h
    obtain ⟨u, hu, rfl⟩ := Option.map_eq_some_iff.1 h
    simp [hy.ev hu]
/-- what an operation is shown to do -/
def Does (P : Program) (a : Act) (o : Oper) (w : World) (v : Value) : Prop := (execOp a.eval o).run P w = .ok (.value v) w
theorem d_move (hy : Sy F ρ a E) (ho : o.op = .move x) (h : evA E x = some r) : Does P a o w (conc F ρ r) := by simp [Does, execOp, ho, hy.ev h]
theorem d_assign (hy : Sy F ρ a E) (ho : o.op = .assign x) (h : evA E x = some r) : Does P a o w (conc F ρ r) := by simp [Does, execOp, ho, hy.ev h]
theorem d_pick (hy : Sy F ρ a E) (ho : o.op = .pick z x y) (h : rPick (evA E z) (evA E x) (evA E y) = some r) : Does P a o w (conc F ρ r) := by
  unfold rPick at h
  split at h
  · rename_i u v h1 h2 h3
    injection h with h; subst h
    simp [Does, execOp, ho, hy.ev h1, hy.ev h2, conc, asBool]
  · rename_i u v h1 h2 h3
    injection h with h; subst h
    simp [Does, execOp, ho, hy.ev h1, hy.ev h3, conc, asBool]
  · cases h
theorem d_nil (hy : Sy F ρ a E) (ho : o.op = .nilCheck x) (h : rNil (evA E x) = some r) : Does P a o w (conc F ρ r) := by
  unfold rNil at h
  split at h
  · rename_i h1
    injection h with h; subst h
    simp [Does, execOp, ho, hy.ev h1, conc]
  · rename_i h1
    injection h with h; subst h
    simp [Does, execOp, ho, hy.ev h1, conc]
  · cases h
theorem d_mkif (hy : Sy F ρ a E) (ho : o.op = .makeInterface t x) (h : rMki P t (evA E x) = some r) : Does P a o w (conc F ρ r) := by
  unfold rMki at h
  cases hd : P.underlying t with
  | none => simp [hd] at h
  | some d =>
    simp only [hd] at h
    cases hn : notIface d with
    | false => simp [hn] at h
    | true =>
      simp only [hn, cond_true] at h
      obtain ⟨u, hu, rfl⟩ := Option.map_eq_some_iff.1 h
      cases d <;> first | (cases hn; done) | simp [Does, execOp, ho, hy.ev hu, conc, Instr.makeInterface, run_underlying hd]
theorem d_mkfn {f : Fn} {p q : Array Operand} (hy : Sy F ρ a E) (ho : o.op = .makeFunc f p q) (h : rFn f (evAs E p.toList) (evAs E q.toList) = some r) : Does P a o w (conc F ρ r) := by
  unfold rFn at h
  split at h
  · rename_i u v h1 h2
    injection h with h; subst h
    simp [Does, execOp, ho, hy.evsA h1, hy.evsA h2, conc, Instr.makeFunc]
  · cases h
theorem d_ext {i : Nat} (hy : Sy F ρ a E) (ho : o.op = .extract x i) (h : rExt i (evA E x) = some r) : Does P a o w (conc F ρ r) := by
  unfold rExt at h
  split at h
  · rename_i l h1
    have : (concs F ρ l).toArray[i]? = some (conc F ρ r) := by simp [concs_map, h]
    simp [Does, execOp, ho, hy.ev h1, conc, Instr.extract, concs_map, h]
  · cases h
theorem d_un {op : UnOp} (hy : Sy F ρ a E) (ho : o.op = .unOp op t x) (h : rUn op (evA E x) = some r) : Does P a o w (conc F ρ r) := by
  unfold rUn at h
  split at h
  · rename_i b h1
    cases op <;> simp at h <;> subst h
    simp [Does, execOp, ho, hy.ev h1, conc, Op.unary]
  · rename_i k n h1
    cases op <;> simp at h <;> subst h
    · simp [Does, execOp, ho, hy.ev h1, conc, Op.unary, Op.intArith]
    · simp [Does, execOp, ho, hy.ev h1, conc, Op.unary, Op.intBits, bitsOp]
  · cases h
/-! texts -/
theorem strOfNums_inj : ∀ {p q : List Int}, eqLI p q = some true → p = q
  | [], [], _ => rfl
  | [], _ :: _, h => by simp [eqLI] at h
  | _ :: _, [], h => by simp [eqLI] at h
  | a :: l, b :: m, h => by
    simp only [eqLI] at h
    by_cases e : a = b
    · simp only [e, decide_true, cond_true] at h
      rw [e, strOfNums_inj h]
    · simp only [e, decide_false, cond_false] at h
      cases hb : okB a && okB b <;> simp [hb] at h
theorem okB_iff {x : Int} : okB x = true ↔ 0 ≤ x ∧ x ≤ 255 := by simp [okB]
theorem strOfNums_ne : ∀ {p q : List Int}, eqLI p q = some false → p.map (fun n : Int => UInt8.ofNat n.toNat) ≠ q.map (fun n : Int => UInt8.ofNat n.toNat)
  | [], [], h => by simp [eqLI] at h
  | [], _ :: _, h => by simp
  | _ :: _, [], h => by simp
  | a :: l, b :: m, h => by
    simp only [eqLI] at h
    by_cases e : a = b
    · simp only [e, decide_true, cond_true] at h
      have := strOfNums_ne h
      simp only [List.map_cons]
      intro h2; injection h2 with _ h2
      exact this h2
    · simp only [e, decide_false, cond_false] at h
      cases hb : okB a && okB b with
      | false => simp [hb] at h
      | true =>
        simp only [Bool.and_eq_true, okB_iff] at hb
        simp only [List.map_cons]
        intro h2; injection h2 with h2 _
        have h3 := congrArg UInt8.toNat h2
        simp at h3
        omega
theorem str_eqLI {p q : List Int} {b : Bool} (h : eqLI p q = some b) : ((strOfNums p).toList == (strOfNums q).toList) = b ∧ (strOfNums p == strOfNums q) = b := by
  have e : (strOfNums p == strOfNums q) = ((strOfNums p).data == (strOfNums q).data) := rfl
  rw [e]
  cases b with
  | true => obtain rfl := strOfNums_inj h; simp
  | false =>
    have h1 := strOfNums_ne h
    constructor
    · rw [ByteArray.toList_eq, ByteArray.toList_eq]
      simpa [strOfNums] using h1
    · simpa [strOfNums] using h1
/-! '==' -/
theorem run_eqG_flat {op : BinOp} {u v : Value} (h1 : ¬ (u = .nilIface ∧ v = .nilIface)) (h2 : u.oneCell' = true) : (eqGuard op t x y u v).run P w = .ok () w := by
  unfold eqGuard
  cases op <;> simp <;> cases u <;> simp_all [Value.oneCell'] <;> cases v <;> simp_all
theorem d_bin1 {op : BinOp} {u v : Value} (ho : o.op = .binOp op t x y t2) (hx : a.eval x = u) (hy : a.eval y = v) (hg : (eqGuard op t x y u v).run P w = .ok () w) {q : Value} (h : (binOp op t u v).run P w = .ok q w) : Does P a o w q := by
  simp [Does, execOp, ho, hx, hy, hg, h]
theorem run_eqG_one {op : BinOp} {u v : Value} (h1 : u ≠ .nilIface) (h2 : u.oneCell' = true) : (eqGuard op t x y u v).run P w = .ok () w := run_eqG_flat (fun h => h1 h.1) h2
theorem xbinI_run {op : BinOp} {k : IntKind} {p q : Int} (h : xbinI op k p q = some r) (t : TypeId) : (binOp op t (.int k p) (.int k q)).run P w = .ok (conc F ρ r) w := by
  cases op <;> simp only [xbinI] at h <;> first
    | (cases h; done)
    | (injection h with h; subst h; simp [binOp, Op.intArith, Op.intBits, Op.intCmp, conc, bitsOp]; done)
    | (injection h with h; subst h; simp [binOp, Op.intCmp, conc, bne]; rfl)
    | skip
  · by_cases e : q = 0
    · simp [e] at h
    · simp only [e, decide_false, cond_false] at h
      injection h with h; subst h
      simp [binOp, Op.intDiv, e, conc]
  · by_cases e : q = 0
    · simp [e] at h
    · simp only [e, decide_false, cond_false] at h
      injection h with h; subst h
      simp [binOp, Op.intDiv, e, conc]
theorem xbinK_run {op : BinOp} {k j : IntKind} {p q : Int} (h : xbinK op k j p q = some r) (t : TypeId) : (binOp op t (.int k p) (.int j q)).run P w = .ok (conc F ρ r) w := by
  by_cases hs : op = .shl ∨ op = .shr
  · rcases hs with rfl | rfl
    · simp only [xbinK, xshl] at h
      by_cases e : 0 ≤ q
      · simp only [e, decide_true, cond_true] at h
        injection h with h; subst h
        simp [binOp, Op.shift, Int.not_lt.2 e, conc]
      · simp [e] at h
    · simp only [xbinK, xshr] at h
      by_cases e : 0 ≤ q
      · simp only [e, decide_true, cond_true] at h
        injection h with h; subst h
        simp [binOp, Op.shift, Int.not_lt.2 e, conc]
      · simp [e] at h
  · have h' : (bif decide (k = j) then xbinI op k p q else none) = some r := by
      cases op <;> first | exact h | (exact absurd (by simp) hs)
    by_cases e : k = j
    · simp only [e, decide_true, cond_true] at h'
      subst e
      exact xbinI_run h' t
    · simp [e] at h'
theorem xbinS_run {op : BinOp} {p q : List Int} (h : xbinS op p q = some r) (t : TypeId) : (binOp op t (.string (strOfNums p)) (.string (strOfNums q))).run P w = .ok (conc F ρ r) w := by
  cases op <;> simp only [xbinS] at h <;> first | (cases h; done) | skip
  · cases hl : Nat.ble (p.length + q.length) 1000000 with
    | false => simp [hl] at h
    | true =>
      simp only [hl, cond_true] at h
      injection h with h; subst h
      have h2 := Nat.le_of_ble_eq_true hl
      have h3 : ¬ (((strOfNums p).size + (strOfNums q).size : Nat) : Int) > IntKind.i64.max := by
        rw [strOfNums_size, strOfNums_size]; simp [IntKind.max, IntKind.bits, IntKind.signed]; omega
      simp only [binOp, Op.stringOp, if_neg h3, conc, strOfNums_append]
      rfl
  · obtain ⟨b, hb, rfl⟩ := Option.map_eq_some_iff.1 h
    have := (str_eqLI hb).1
    simp only [binOp, Op.stringOp, conc, this]
    rfl
  · obtain ⟨b, hb, rfl⟩ := Option.map_eq_some_iff.1 h
    have := (str_eqLI hb).1
    simp only [binOp, Op.stringOp, conc, this]
    rfl
/-! the same -/
theorem sameI_eq : ∀ {p q : List Int}, sameI p q = true → p = q
  | [], [], _ => rfl
  | [], _ :: _, h => by simp [sameI] at h
  | _ :: _, [], h => by simp [sameI] at h
  | a :: l, b :: m, h => by
    simp only [sameI, Bool.and_eq_true, decide_eq_true_eq] at h
    rw [h.1, sameI_eq h.2]
mutual
theorem same_eq : ∀ (p q : AV), same p q = true → p = q
  | .bool a, q, h => by cases q <;> simp_all [same]
  | .int k a, q, h => by cases q <;> simp_all [same]
  | .sym k a, q, h => by cases q <;> simp_all [same]
  | .crc l j, q, h => by
    cases q <;> simp only [same] at h <;> first | (cases h; done) | skip
    simp only [Bool.and_eq_true] at h
    rw [sames_eq l _ h.1, Nat.eq_of_beq_eq_true h.2]
  | .str a, q, h => by
    cases q <;> simp only [same] at h <;> first | (cases h; done) | skip
    rw [sameI_eq h]
  | .ys l, q, h => by
    cases q <;> simp only [same] at h <;> first | (cases h; done) | skip
    rw [sames_eq l _ h]
  | .ptr a b, q, h => by cases q <;> simp_all [same]
  | .nilp, q, h => by cases q <;> simp_all [same]
  | .sl a b c d, q, h => by cases q <;> simp_all [same]
  | .rw a b c d, q, h => by cases q <;> simp_all [same]
  | .nils, q, h => by cases q <;> simp_all [same]
  | .em a b c z, q, h => by cases q <;> simp_all [same]
  | .map a, q, h => by cases q <;> simp_all [same]
  | .nilm, q, h => by cases q <;> simp_all [same]
  | .fn f a b, q, h => by
    cases q <;> simp only [same] at h <;> first | (cases h; done) | skip
    simp only [Bool.and_eq_true, decide_eq_true_eq] at h
    rw [h.1.1, sames_eq a _ h.1.2, sames_eq b _ h.2]
  | .nilf, q, h => by cases q <;> simp_all [same]
  | .ifc t a, q, h => by
    cases q <;> simp only [same] at h <;> first | (cases h; done) | skip
    simp only [Bool.and_eq_true] at h
    rw [Nat.eq_of_beq_eq_true h.1, same_eq a _ h.2]
  | .nili, q, h => by cases q <;> simp_all [same]
  | .agg l, q, h => by
    cases q <;> simp only [same] at h <;> first | (cases h; done) | skip
    rw [sames_eq l _ h]
  | .tup l, q, h => by
    cases q <;> simp only [same] at h <;> first | (cases h; done) | skip
    rw [sames_eq l _ h]
  | .opq a, q, h => by cases q <;> simp_all [same]
theorem sames_eq : ∀ (p q : List AV), sames p q = true → p = q
  | [], [], _ => rfl
  | [], _ :: _, h => by simp [sames] at h
  | _ :: _, [], h => by simp [sames] at h
  | a :: l, b :: m, h => by
    simp only [sames, Bool.and_eq_true] at h
    rw [same_eq a b h.1, sames_eq l m h.2]
end
theorem xbinY_run {op : BinOp} {p q : List AV} (h : xbinY op p q = some r) (t : TypeId) : (binOp op t (conc F ρ (.ys p)) (conc F ρ (.ys q))).run P w = .ok (conc F ρ r) w := by
  cases op <;> simp only [xbinY] at h <;> first | (cases h; done) | skip
  · cases hs : sames p q with
    | false => simp [hs] at h
    | true =>
      obtain rfl := sames_eq p q hs
      simp only [hs, cond_true] at h
      injection h with h; subst h
      simp [conc, binOp, Op.stringOp]
  · cases hs : sames p q with
    | false => simp [hs] at h
    | true =>
      obtain rfl := sames_eq p q hs
      simp only [hs, cond_true] at h
      injection h with h; subst h
      simp [conc, binOp, Op.stringOp]
theorem eqT_run {d : TypeDesc} {p q : AV} {b : Bool} (hd : P.underlying t = some d) (h : eqT d p q = some b) (n : Nat) : (Op.equalIn (n + 1) t (conc F ρ p) (conc F ρ q)).run P w = .ok b w := by
  unfold eqT at h
  split at h
  · split at h
    · injection h with h; subst h; simp [Op.equalIn, run_underlying hd, conc]
    · cases h
  · split at h
    · rename_i k i j m
      by_cases e : k = j
      · simp only [e, decide_true, cond_true] at h
        injection h with h; subst h; subst e
        simp [Op.equalIn, run_underlying hd, conc]; rfl
      · simp [e] at h
    · rename_i k i j m
      cases hb : decide (k = j) && Nat.beq i m with
      | false => simp [hb] at h
      | true =>
        simp only [hb, cond_true] at h
        injection h with h; subst h
        simp only [Bool.and_eq_true, decide_eq_true_eq] at hb
        obtain ⟨rfl, h2⟩ := hb
        obtain rfl := Nat.eq_of_beq_eq_true h2
        simp [Op.equalIn, run_underlying hd, conc]
    · cases h
  · split at h
    · simp [Op.equalIn, run_underlying hd, conc, (str_eqLI h).2]
    · rename_i l m
      cases hs : sames l m with
      | false => simp [hs] at h
      | true =>
        obtain rfl := sames_eq l m hs
        simp only [hs, cond_true] at h
        injection h with h; subst h
        simp [Op.equalIn, run_underlying hd, conc]
        exact (beq_toListBytes _ _).trans (by simp)
    · cases h
  all_goals (try (split at h <;> first | (cases h; done) | (injection h with h; subst h; simp [Op.equalIn, run_underlying hd, conc]; done)))
  cases h
theorem eqFs_run {xs ys : List AV} : ∀ {fs : List Field} {b : Bool}, eqFs P xs ys fs = some b → ∀ n, (Op.eqFields (n + 1) (concs F ρ xs).toArray (concs F ρ ys).toArray fs).run P w = .ok b w
  | [], b, h, n => by simp [eqFs] at h; subst h; simp [Op.eqFields]
  | f :: r, b, h, n => by
    simp only [eqFs] at h
    cases hd : P.underlying f.type with
    | none => simp [hd] at h
    | some d => cases hx : xs[f.offset]? with
      | none => simp [hd, hx] at h
      | some u => cases hy : ys[f.offset]? with
        | none => simp [hd, hx, hy] at h
        | some v =>
          simp only [hd, hx, hy] at h
          cases hf : isFlat d && !(f.name == "_") with
          | false => simp [hf] at h
          | true =>
            simp only [hf, cond_true] at h
            simp only [Bool.and_eq_true, Bool.not_eq_true', beq_eq_false_iff_ne] at hf
            have p1 : (part f.type (concs F ρ xs).toArray f.offset).run P w = .ok (conc F ρ u) w := by
              simp [part, run_isAgg hd, hf.1, concs_get, hx]
            have p2 : (part f.type (concs F ρ ys).toArray f.offset).run P w = .ok (conc F ρ v) w := by
              simp [part, run_isAgg hd, hf.1, concs_get, hy]
            simp only [Op.eqFields, if_pos hf.2, Sem.run_bind, p1, p2, Result.andThen_ok]
            cases ht : eqT d u v with
            | none => simp [ht] at h
            | some q =>
              have h3 := eqT_run (F := F) (ρ := ρ) (w := w) hd ht n
              simp only [h3, Result.andThen_ok]
              cases q with
              | true =>
                simp only [ht] at h
                simp
                exact eqFs_run h n
              | false =>
                simp only [ht] at h
                injection h with h; subst h
                simp
/-- neither whole numbers nor texts -/
def notNS : Value → Bool
  | .int .. => false
  | .float .. => false
  | .complex .. => false
  | .string _ => false
  | _ => true
theorem run_eqlG {u v : Value} (h : notNS u = true) {b : Bool} (he : (Op.equalIn 10000 t u v).run P w = .ok b w) : (binOp .eql t u v).run P w = .ok (.bool b) w := by
  cases u <;> first | (cases h; done) | (cases v <;> simp [binOp, Op.equal, Op.maxDepth, he])
theorem run_neqG {u v : Value} (h : notNS u = true) {b : Bool} (he : (Op.equalIn 10000 t u v).run P w = .ok b w) : (binOp .neq t u v).run P w = .ok (.bool (!b)) w := by
  cases u <;> first | (cases h; done) | (cases v <;> simp [binOp, Op.equal, Op.maxDepth, he])
end
end Go.Proofs.AL.Rx
/- RV, soundness, second part: '==', slices, fields, elements, parts put together. -/
set_option linter.unusedVariables false
set_option linter.unusedSimpArgs false
namespace Go.Proofs.AL.Rx
open Go Go.RowKit
section
variable {F : Fx} {ρ : Val} {P : Program} {w W : World} {a : Act} {E : VEnv} {o : Oper} {x y z : Operand} {t t2 ty : TypeId} {r : AV}
theorem run_size {n : Nat} (h : sizeA P t = some n) : (sizeOf t).run P w = .ok n w := by
  obtain ⟨i, hi, he⟩ := Option.map_eq_some_iff.1 h
  simp [sizeOf, typeInfo, hi, he]
theorem eqGuard_nil {op : BinOp} (h : (isConst x || isConst y) = true) : (eqGuard op t x y .nilIface .nilIface).run P w = .ok () w := by
  unfold eqGuard
  cases op <;> simp <;> cases x <;> cases y <;> simp_all [isConst]
theorem eqPtr_run {e : TypeId} {i : TypeInfo} (hd : P.underlying t = some (.pointer e)) (hi : P.info? e = some i) (h4 : i.size ≠ 0) (n : Nat) (ad : Addr) : (Op.equalIn (n + 1) t (.pointer (some ad)) (.pointer (some ad))).run P w = .ok true w := by
  simp [Op.equalIn, run_underlying hd, sizeOf, typeInfo, hi, h4, sameAddr]
theorem eqNil_run {ms : Array (String × TypeId)} (hd : P.underlying t = some (.interface ms)) (n : Nat) : (Op.equalIn (n + 1) t .nilIface .nilIface).run P w = .ok true w := by
  simp [Op.equalIn, run_underlying hd]
theorem eqA_run {c b : Bool} {p q : AV} (h : eqA P t c p q = some b) (op : BinOp) (hc : c = true → (isConst x || isConst y) = true) :
    (Op.equalIn 10000 t (conc F ρ p) (conc F ρ q)).run P w = .ok b w ∧ (eqGuard op t x y (conc F ρ p) (conc F ρ q)).run P w = .ok () w := by
  unfold eqA at h
  split at h
  · cases h
  · rename_i fs hd
    split at h
    · rename_i xs ys
      cases hg : P.eqGuardType P.depth t || P.stoodInHeld t with
      | true => simp [hg] at h
      | false =>
        simp only [hg, cond_false] at h
        simp only [Bool.or_eq_false_iff] at hg
        have hf : P.fieldsOf t = fs := by simp [Program.fieldsOf, hd]
        refine ⟨?_, ?_⟩
        · simp only [conc]
          rw [run_equalIn_struct w 9999 t _ _ (by rw [hf]; exact hd) hg.2, hf]
          exact eqFs_run h 9998
        · simp only [conc]
          exact run_eqGuard_agg w op t x y _ _ hg.1
    · cases h
  · rename_i e hd
    split at h
    · rename_i i j k l
      cases hb : Nat.beq i k && Nat.beq j l && (P.info? e).any (fun i => !Nat.beq i.size 0) with
      | false => simp [hb] at h
      | true =>
        simp only [hb, cond_true] at h
        injection h with h; subst h
        simp only [Bool.and_eq_true] at hb
        obtain ⟨⟨h1, h2⟩, h3⟩ := hb
        obtain rfl := Nat.eq_of_beq_eq_true h1
        obtain rfl := Nat.eq_of_beq_eq_true h2
        cases hi : P.info? e with
        | none => simp [hi] at h3
        | some inf =>
          simp only [hi, Option.any_some, Bool.not_eq_true'] at h3
          have h4 : inf.size ≠ 0 := by intro e; rw [e] at h3; simp at h3
          refine ⟨?_, run_eqG_one (by simp [conc]) rfl⟩
          exact eqPtr_run hd hi h4 9999 _
    · have h2 := eqT_run (F := F) (ρ := ρ) (w := w) hd h 9999
      refine ⟨h2, ?_⟩
      refine run_eqG_one ?_ ?_ <;> (unfold eqT at h; simp only at h; split at h <;> simp_all [conc, Value.oneCell'])
  · rename_i ms hd
    split at h
    · cases c with
      | false => simp at h
      | true =>
        simp at h; subst h
        refine ⟨eqNil_run hd 9999, ?_⟩
        simp only [conc]
        exact eqGuard_nil (hc rfl)
    · have h2 := eqT_run (F := F) (ρ := ρ) (w := w) hd h 9999
      refine ⟨h2, ?_⟩
      refine run_eqG_flat ?_ ?_ <;> (unfold eqT at h; simp only at h; split at h <;> simp_all [conc, Value.oneCell'])
  · rename_i d _ _ _ hd
    have h2 := eqT_run (F := F) (ρ := ρ) (w := w) hd h 9999
    refine ⟨h2, ?_⟩
    refine run_eqG_flat ?_ ?_ <;> (unfold eqT at h; split at h <;> (try split at h) <;> simp_all [conc, Value.oneCell'])
theorem xbinE_run {op : BinOp} {c : Bool} {p q : AV} (hp : notNS (conc F ρ p) = true) (h : xbinE P op t c p q = some r) (hc : c = true → (isConst x || isConst y) = true) :
    (eqGuard op t x y (conc F ρ p) (conc F ρ q)).run P w = .ok () w ∧ (binOp op t (conc F ρ p) (conc F ρ q)).run P w = .ok (conc F ρ r) w := by
  cases op <;> simp only [xbinE] at h <;> first | (cases h; done) | skip
  · obtain ⟨b, hb, rfl⟩ := Option.map_eq_some_iff.1 h
    have := eqA_run (F := F) (ρ := ρ) (w := w) (x := x) (y := y) hb .eql hc
    exact ⟨this.2, run_eqlG hp this.1⟩
  · obtain ⟨b, hb, rfl⟩ := Option.map_eq_some_iff.1 h
    have := eqA_run (F := F) (ρ := ρ) (w := w) (x := x) (y := y) hb .neq hc
    exact ⟨this.2, run_neqG hp this.1⟩
theorem d_bin {op : BinOp} (hs : Sy F ρ a E) (ho : o.op = .binOp op t x y t2) (h : rBin P op t (isConst x || isConst y) (evA E x) (evA E y) = some r) : Does P a o w (conc F ρ r) := by
  cases hx : evA E x with
  | none => simp [rBin, hx] at h
  | some p => cases hy : evA E y with
    | none => simp [rBin, hx, hy] at h
    | some q =>
      simp only [rBin, hx, hy] at h
      have ex := hs.ev hx
      have ey := hs.ev hy
      unfold xbin at h
      split at h
      · split at h
        · exact d_bin1 ho ex ey (run_eqG_one (by simp [conc]) rfl) (by simp only [conc]; exact xbinK_run h t)
        · cases h
      · split at h
        · exact d_bin1 ho ex ey (run_eqG_one (by simp [conc]) rfl) (by simp only [conc]; exact xbinS_run h t)
        · cases h
      · split at h
        · exact d_bin1 ho ex ey (run_eqG_one (by simp [conc]) rfl) (xbinY_run h t)
        · cases h
      · cases h
      · cases h
      · cases h
      · rename_i n1 n2 n3 n4 n5 n6
        have hp : notNS (conc F ρ p) = true := by
          cases p <;> first | rfl | (exfalso; simp_all; done)
        split at h
        all_goals (try (cases h; done))
        have := xbinE_run (F := F) (ρ := ρ) (w := w) (x := x) (y := y) hp h (fun h => h)
        exact d_bin1 ho ex ey this.1 this.2
theorem d_conv0 {m : Tr Ao} {k : IntKind} {n : Int} (hs : Sy F ρ a E) (ho : o.op = .convert t t2 x) (hx : evA E x = some (.int k n)) (h : rConv P m t t2 (.int k n) = some r) : Does P a o w (conc F ρ r) := by
  simp only [rConv] at h
  split at h
  · rename_i k' hd
    split at h
    · rename_i d hsrc
      injection h with h; subst h
      simp [Does, execOp, ho, hs.ev hx, conc, convert, run_underlying hd, run_underlying hsrc, Conv.intToInt]
    · cases h
  · cases h
theorem d_conv1 {m : Tr Ao} {l : List Int} (hs : Sy F ρ a E) (ho : o.op = .convert t t2 x) (hx : evA E x = some (.str l)) (h : rConv P m t t2 (.str l) = some r) : Does P a o w (conc F ρ r) := by
  simp only [rConv] at h
  split at h
  · rename_i h1 h2
    injection h with h; subst h
    simp [Does, execOp, ho, hs.ev hx, conc, convert, run_underlying h1, run_underlying h2]
  · cases h
theorem d_s2p (hs : Sy F ρ a E) (ho : o.op = .sliceToArrayPointer t x) (h : rS2p P t (evA E x) = some r) : Does P a o w (conc F ρ r) := by
  unfold rS2p at h
  split at h
  · rename_i n e id off len cap h1 h2
    cases hb : Nat.ble n len with
    | false => simp [hb] at h
    | true =>
      simp only [hb, cond_true] at h
      injection h with h; subst h
      have := Nat.le_of_ble_eq_true hb
      simp [Does, execOp, ho, hs.ev h2, conc, Instr.arrayAt, run_underlying h1, Nat.not_lt.2 this]
  · rename_i n e id off len b h1 h2
    cases hb : Nat.ble n len with
    | false => simp [hb] at h
    | true =>
      simp only [hb, cond_true] at h
      injection h with h; subst h
      have := Nat.le_of_ble_eq_true hb
      simp [Does, execOp, ho, hs.ev h2, conc, Instr.arrayAt, run_underlying h1, Nat.not_lt.2 this]
  · cases h
theorem fldOf_spec {f o' n : Nat} {b : Bool} (h : fldOf P t f = some (o', n, b)) : ∃ fs fd d, P.underlying t = some (.struct fs) ∧ fs[f]? = some fd ∧ fd.offset = o' ∧ sizeA P fd.type = some n ∧ P.underlying fd.type = some d ∧ isFlat d = b := by
  unfold fldOf at h
  split at h
  · rename_i fs h1
    split at h
    · rename_i fd h2
      split at h
      · rename_i n' d h3 h4
        injection h with h
        simp only [Prod.mk.injEq] at h
        obtain ⟨rfl, rfl, rfl⟩ := h
        exact ⟨fs, fd, d, h1, h2, rfl, h3, h4, rfl⟩
      · cases h
    · cases h
  · cases h
theorem d_fld {f : Nat} (hs : Sy F ρ a E) (ho : o.op = .fieldAddr t x f) (h : rFld P t f (evA E x) = some r) : Does P a o w (conc F ρ r) := by
  unfold rFld at h
  split at h
  · rename_i id off h1
    split at h
    · rename_i o' n b h2
      injection h with h; subst h
      obtain ⟨fs, fd, d, h3, h4, h5, h6, h7, h8⟩ := fldOf_spec h2
      have h9 : (sizeOf fd.type).run P w = .ok (n + 1) w := run_size h6
      simp [Does, execOp, ho, hs.ev h1, conc, Instr.fieldAt, run_underlying h3, h4, Instr.sureAddr, fieldPlace, h9, add_lit, h5]
    · cases h
  · cases h
theorem takeA_some {n : Nat} {l m : List AV} (h : takeA n l = some m) : n ≤ l.length ∧ m = l.take n := by
  unfold takeA at h
  cases hb : Nat.ble n l.length with
  | false => simp [hb] at h
  | true =>
    simp only [hb, cond_true] at h
    injection h with h
    exact ⟨Nat.le_of_ble_eq_true hb, h.symm⟩
theorem concs_extract (l : List AV) (i n : Nat) : (concs F ρ l).toArray.extract i (i + n) = (concs F ρ ((l.drop i).take n)).toArray := by
  apply Array.ext'
  rw [Array.toList_extract, List.extract_eq_take_drop, concs_take, concs_drop, Nat.add_sub_cancel_left]
theorem part_agg {n o' : Nat} {d : TypeDesc} {l : List AV} (h7 : P.underlying t = some d) (h8 : isFlat d = false) (h6 : sizeA P t = some n) : (part t (concs F ρ l).toArray o').run P w = .ok (conc F ρ (.agg ((l.drop o').take n))) w := by
  have h := concs_extract (F := F) (ρ := ρ) l o' n
  simp only [part, Sem.run_bind, run_isAgg h7, h8, Result.andThen_ok, Bool.not_false, if_true, run_size h6, h, conc, Sem.run_pure]
theorem d_field {f : Nat} (hs : Sy F ρ a E) (ho : o.op = .field t x f) (h : rField P t f (evA E x) = some r) : Does P a o w (conc F ρ r) := by
  unfold rField at h
  split at h
  · rename_i l h1
    split at h
    · rename_i o' n h2
      obtain ⟨fs, fd, d, h3, h4, h5, h6, h7, h8⟩ := fldOf_spec h2
      have h9 : (part fd.type (concs F ρ l).toArray o').run P w = .ok (conc F ρ r) w := by simp [part, run_isAgg h7, h8, concs_get, h]
      simp [Does, execOp, ho, hs.ev h1, conc, Instr.field, run_underlying h3, h4, asAgg, h5, h9]
    · rename_i o' n h2
      obtain ⟨fs, fd, d, h3, h4, h5, h6, h7, h8⟩ := fldOf_spec h2
      obtain ⟨m, hm, rfl⟩ := Option.map_eq_some_iff.1 h
      obtain ⟨h10, rfl⟩ := takeA_some hm
      have h9 : (part fd.type (concs F ρ l).toArray o').run P w = .ok (conc F ρ (.agg ((l.drop o').take n))) w := part_agg h7 h8 h6
      simp [Does, execOp, ho, hs.ev h1, conc, Instr.field, run_underlying h3, h4, asAgg, h5, h9]
    · cases h
  · cases h
theorem ixS_some {sz id off len : Nat} {i : Int} (h : ixS sz id off len i = some r) : 0 ≤ i ∧ i < len ∧ r = .ptr id (off + i.toNat * sz) := by
  unfold ixS at h
  cases hb : decide (0 ≤ i) && Nat.blt i.toNat len with
  | false => simp [hb] at h
  | true =>
    simp only [hb, cond_true] at h
    injection h with h
    simp only [Bool.and_eq_true, decide_eq_true_eq, Nat.blt_eq] at hb
    exact ⟨hb.1, by omega, h.symm⟩
theorem d_idx (hs : Sy F ρ a E) (ho : o.op = .indexAddr t x y) (h : rIdx P t (evA E x) (evA E y) = some r) : Does P a o w (conc F ρ r) := by
  unfold rIdx at h
  split at h
  · rename_i u k i hx hy
    split at h
    · rename_i e ht
      split at h
      · rename_i sz id off len cap h2
        obtain ⟨h3, h4, rfl⟩ := ixS_some h
        simp [Does, execOp, ho, hs.ev hx, hs.ev hy, conc, Instr.indexAt, run_underlying ht, asIntOf, h3, h4, run_size h2, add_lit]
      · rename_i sz id off len b h2
        obtain ⟨h3, h4, rfl⟩ := ixS_some h
        simp [Does, execOp, ho, hs.ev hx, hs.ev hy, conc, Instr.indexAt, run_underlying ht, asIntOf, h3, h4, run_size h2, add_lit]
      · cases h
    · rename_i n e ht
      split at h
      · rename_i sz id off h2
        obtain ⟨h3, h4, rfl⟩ := ixS_some h
        simp [Does, execOp, ho, hs.ev hx, hs.ev hy, conc, Instr.indexAt, run_underlying ht, asIntOf, Instr.sureAddr, h3, h4, run_size h2, add_lit]
      · cases h
    · cases h
  · cases h
theorem d_index (hs : Sy F ρ a E) (ho : o.op = .index t x y) (h : rIndex P t (evA E x) (evA E y) = some r) : Does P a o w (conc F ρ r) := by
  unfold rIndex at h
  split at h
  · rename_i s k i hx hy
    split at h
    · rename_i ht
      split at h
      · rename_i b hb
        cases hc : decide (0 ≤ i) && okB b with
        | false => simp [hc] at h
        | true =>
          simp only [hc, cond_true] at h
          injection h with h; subst h
          simp only [Bool.and_eq_true, decide_eq_true_eq, okB_iff] at hc
          have h1 : (strOfNums s)[i.toNat]? = some (UInt8.ofNat b.toNat) := by
            have hlt : i.toNat < s.length := (List.getElem?_eq_some_iff.1 hb).1
            rw [ByteArray.getElem?_lt' _ _ (by rw [strOfNums_size]; exact hlt)]
            have hg := (List.getElem?_eq_some_iff.1 hb).2
            simp [strOfNums, ByteArray.getElem_eq_getElem_data, hg]
          simp [Does, execOp, ho, hs.ev hx, hs.ev hy, conc, Instr.index, run_underlying ht, asIntOf, hc.1, h1]
          omega
      · cases h
    · cases h
  · rename_i l k i hx hy
    split at h
    · rename_i n e ht
      split at h
      · rename_i sz d h2 h3
        cases hc : decide (0 ≤ i) && Nat.blt i.toNat n with
        | false => simp [hc] at h
        | true =>
          simp only [hc, cond_true] at h
          simp only [Bool.and_eq_true, decide_eq_true_eq, Nat.blt_eq] at hc
          have hn : i < n := by omega
          cases hf : isFlat d with
          | true =>
            simp only [hf, cond_true] at h
            cases h1 : Nat.beq sz 1 with
            | false => simp [h1] at h
            | true =>
              obtain rfl := Nat.eq_of_beq_eq_true h1
              simp only [h1, cond_true] at h
              have h9 : (part e (concs F ρ l).toArray i.toNat).run P w = .ok (conc F ρ r) w := by simp [part, run_isAgg h3, hf, concs_get, h]
              simp [Does, execOp, ho, hs.ev hx, hs.ev hy, conc, Instr.index, run_underlying ht, asIntOf, hc.1, hn, run_size h2, h9]
          | false =>
            simp only [hf, cond_false] at h
            obtain ⟨m, hm, rfl⟩ := Option.map_eq_some_iff.1 h
            obtain ⟨_, rfl⟩ := takeA_some hm
            have h9 : (part e (concs F ρ l).toArray (i.toNat * sz)).run P w = .ok (conc F ρ (.agg ((l.drop (i.toNat * sz)).take sz))) w := part_agg h3 hf h2
            simp [Does, execOp, ho, hs.ev hx, hs.ev hy, conc, Instr.index, run_underlying ht, asIntOf, hc.1, hn, run_size h2, h9]
      · cases h
    · cases h
  · cases h
end
end Go.Proofs.AL.Rx
/- RV, soundness, third part: slices, parts put together; what memory holds; operations that read memory. -/
set_option linter.unusedVariables false
set_option linter.unusedSimpArgs false
namespace Go.Proofs.AL.Rx
open Go Go.RowKit
section
variable {F : Fx} {ρ : Val} {P : Program} {w W : World} {a : Act} {E : VEnv} {o : Oper} {x y z : Operand} {t t2 ty : TypeId} {r : AV}
theorem bnd_some {v : AV} {lim d n : Nat} (h : bnd (some v) lim d = some n) : n ≤ lim ∧ ∀ code, (Instr.sliceBound (conc F ρ v) lim code).run P w = .ok n w := by
  cases v <;> simp only [bnd] at h <;> first | (cases h; done) | skip
  rename_i k i
  cases hb : decide (0 ≤ i) && Nat.ble i.toNat lim with
  | false => simp [hb] at h
  | true =>
    simp only [hb, cond_true] at h
    injection h with h; subst h
    simp only [Bool.and_eq_true, decide_eq_true_eq] at hb
    have h2 := Nat.le_of_ble_eq_true hb.2
    exact ⟨h2, fun code => run_sliceB k i lim code hb.1 (by omega) w⟩
theorem bnd_more {v : AV} {lim lim' d n : Nat} (h : bnd (some v) lim d = some n) (hl : lim ≤ lim') : bnd (some v) lim' d = some n := by
  cases v <;> simp only [bnd] at h ⊢ <;> first | (cases h; done) | skip
  rename_i k i
  cases hb : decide (0 ≤ i) && Nat.ble i.toNat lim with
  | false => simp [hb] at h
  | true =>
    simp only [hb, cond_true] at h
    simp only [Bool.and_eq_true, decide_eq_true_eq] at hb
    have h2 := Nat.le_of_ble_eq_true hb.2
    have h3 : Nat.ble i.toNat lim' = true := Nat.ble_eq_true_of_le (by omega)
    simp [hb.1, h3, h]
/-- the bounds of x[l:h] -/
theorem bounds2 {b : Bool} {len cap lh ll : Nat} {l h : Option AV} (h1 : bnd h cap len = some lh) (h2 : bnd l lh 0 = some ll) :
    (Instr.sliceBounds b len cap (l.map (conc F ρ)) (h.map (conc F ρ)) none).run P w = .ok (ll, lh, cap) w := by
  cases h with
  | none =>
    simp only [bnd] at h1; injection h1 with h1; subst h1
    cases l with
    | none => simp only [bnd] at h2; injection h2 with h2; subst h2; simp [Instr.sliceBounds]
    | some l => simp [Instr.sliceBounds, (bnd_some h2).2]
  | some h =>
    cases l with
    | none => simp only [bnd] at h2; injection h2 with h2; subst h2; simp [Instr.sliceBounds, (bnd_some h1).2]
    | some l => simp [Instr.sliceBounds, (bnd_some h1).2, (bnd_some h2).2]
/-- the bounds of x[l:h:m] -/
theorem bounds3 {b : Bool} {len cap lm lh ll : Nat} {l : Option AV} {h m : AV} {d d' : Nat} (h0 : bnd (some m) cap d = some lm) (h1 : bnd (some h) lm d' = some lh) (h2 : bnd l lh 0 = some ll) :
    (Instr.sliceBounds b len cap (l.map (conc F ρ)) (some (conc F ρ h)) (some (conc F ρ m))).run P w = .ok (ll, lh, lm) w := by
  cases l with
  | none => simp only [bnd] at h2; injection h2 with h2; subst h2; simp [Instr.sliceBounds, (bnd_some h0).2, (bnd_some h1).2]
  | some l => simp [Instr.sliceBounds, (bnd_some h0).2, (bnd_some h1).2, (bnd_some h2).2]
theorem str_cut (s : List Int) (l h : Nat) : (strOfNums s).extract l h = strOfNums ((s.take h).drop l) := by
  apply ByteArray.ext
  apply Array.ext'
  rw [ByteArray.data_extract, Array.toList_extract]
  simp only [strOfNums, List.extract_eq_take_drop, List.map_drop, List.map_take]
  rw [List.drop_take]
theorem slS_run {s : List Int} {l h : Option AV} (hd : P.underlying t = some .string) (hr : slS s l h = some r) :
    (Instr.slice t (.string (strOfNums s)) (l.map (conc F ρ)) (h.map (conc F ρ)) none).run P w = .ok (conc F ρ r) w := by
  unfold slS at hr
  split at hr
  · rename_i lh h1
    split at hr
    · rename_i ll h2
      injection hr with hr; subst hr
      have h3 := bounds2 (F := F) (ρ := ρ) (P := P) (w := w) (b := false) h1 h2
      rw [← strOfNums_size] at h3
      simp only [Instr.slice, Sem.run_bind, run_underlying hd, Result.andThen_ok]
      simp [h3, str_cut, conc]
    · cases hr
  · cases hr
theorem slL_run {e : TypeId} {sz id off len cap : Nat} {l h mx : Option AV} (hd : P.underlying t = some (.slice e)) (hz : sizeA P e = some sz) (hr : slL sz id off len cap l h mx = some r) :
    (Instr.slice t (.slice (some ⟨ρ.blk id, off, none⟩) len cap) (l.map (conc F ρ)) (h.map (conc F ρ)) (mx.map (conc F ρ))).run P w = .ok (conc F ρ r) w := by
  unfold slL at hr
  split at hr
  · rename_i c h0
    split at hr
    · rename_i lh h1
      split at hr
      · rename_i ll h2
        injection hr with hr; subst hr
        have key : (Instr.sliceBounds true len cap (l.map (conc F ρ)) (h.map (conc F ρ)) (mx.map (conc F ρ))).run P w = .ok (ll, lh, c) w := by
          cases mx with
          | none =>
            simp only [bnd] at h0; injection h0 with h0; subst h0
            exact bounds2 h1 h2
          | some m =>
            cases h with
            | none => cases h1
            | some h => exact bounds3 h0 h1 h2
        simp only [Instr.slice, Sem.run_bind, run_underlying hd, Result.andThen_ok, key, run_size hz, Sem.run_pure, conc]
        by_cases e : c = ll
        · subst e; simp
        · have : Nat.beq c ll = false := by cases hb : Nat.beq c ll with
            | false => rfl
            | true => exact absurd (Nat.eq_of_beq_eq_true hb) e
          simp [this, e, add_lit]
      · cases hr
    · cases hr
  · cases hr
theorem slR_run {e : TypeId} {sz id off len b : Nat} {l h : Option AV} (hd : P.underlying t = some (.slice e)) (hz : sizeA P e = some sz) (hr : slR sz id off len b l h = some r) :
    (Instr.slice t (conc F ρ (.rw id off len b)) (l.map (conc F ρ)) (h.map (conc F ρ)) none).run P w = .ok (conc F ρ r) w := by
  unfold slR at hr
  split at hr
  · rename_i lh h1
    split at hr
    · rename_i ll h2
      have hlh : lh ≤ len := by
        cases h with
        | none => simp only [bnd] at h1; injection h1 with h1; omega
        | some h => exact (bnd_some (F := F) (ρ := ρ) (P := P) (w := w) h1).1
      have hll : ll ≤ lh := by
        cases l with
        | none => simp only [bnd] at h2; injection h2 with h2; omega
        | some l => exact (bnd_some (F := F) (ρ := ρ) (P := P) (w := w) h2).1
      have h1' : bnd h (len + b + ρ.cap id) len = some lh := by
        cases h with
        | none => exact h1
        | some h => exact bnd_more h1 (by omega)
      have key := bounds2 (F := F) (ρ := ρ) (P := P) (w := w) (b := true) h1' h2
      simp only [conc, Instr.slice, Sem.run_bind, run_underlying hd, Result.andThen_ok, key, run_size hz, Sem.run_pure]
      cases hc : (Nat.beq ll 0 || Nat.blt ll len || Nat.blt 0 b) with
      | true =>
        simp only [hc, cond_true] at hr
        injection hr with hr; subst hr
        have ha : (if len + b + ρ.cap id = ll then some (⟨ρ.blk id, off, none⟩ : Addr) else Option.map (fun x : Addr => x.add (ll * sz)) (some (⟨ρ.blk id, off, none⟩ : Addr))) = some ⟨ρ.blk id, off + ll * sz, none⟩ := by
          split
          · rename_i he
            have : ll = 0 := by
              simp only [Bool.or_eq_true, Nat.blt_eq] at hc
              rcases hc with (hc | hc) | hc
              · exact Nat.eq_of_beq_eq_true hc
              · omega
              · omega
            subst this; simp
          · simp [add_lit]
        rw [ha]
        simp only [conc]
        congr 2
        omega
      | false =>
        simp only [hc, cond_false] at hr
        injection hr with hr; subst hr
        simp only [Bool.or_eq_false_iff] at hc
        obtain ⟨⟨hc1, hc2⟩, hc3⟩ := hc
        have hb : b = 0 := by
          rcases Nat.eq_zero_or_pos b with h6 | h6
          · exact h6
          · have h7 : Nat.blt 0 b = true := by rw [Nat.blt_eq]; exact h6
            rw [h7] at hc3; cases hc3
        have hl : ll = len := by
          rcases Nat.lt_or_ge ll len with h6 | h6
          · have h7 : Nat.blt ll len = true := by rw [Nat.blt_eq]; exact h6
            rw [h7] at hc2; cases hc2
          · omega
        have h5 : lh = len := by omega
        subst hb hl h5
        simp only [conc, Nat.add_zero, Nat.sub_self, Bool.false_eq_true, if_false, Option.map_some, add_lit]
        by_cases e : ρ.cap id = 0
        · simp [e]
        · simp [e]
    · cases hr
  · cases hr
theorem slM_run {e : TypeId} {sz id off len b : Nat} {l h : Option AV} {mx : AV} (hd : P.underlying t = some (.slice e)) (hz : sizeA P e = some sz) (hr : slM sz id off len l h (some mx) = some r) :
    (Instr.slice t (conc F ρ (.rw id off len b)) (l.map (conc F ρ)) (h.map (conc F ρ)) (some (conc F ρ mx))).run P w = .ok (conc F ρ r) w := by
  unfold slM at hr
  split at hr
  · rename_i c h0
    split at hr
    · rename_i lh h1
      split at hr
      · rename_i ll h2
        injection hr with hr; subst hr
        cases h with
        | none => cases h1
        | some h =>
          have key := bounds3 (F := F) (ρ := ρ) (P := P) (w := w) (b := true) (len := len) (bnd_more h0 (by omega : len ≤ len + b + ρ.cap id)) h1 h2
          simp only [conc, Option.map_some, Instr.slice, Sem.run_bind, run_underlying hd, Result.andThen_ok, key, run_size hz, Sem.run_pure]
          by_cases e : c = ll
          · subst e; simp
          · have : Nat.beq c ll = false := by cases hb : Nat.beq c ll with
              | false => rfl
              | true => exact absurd (Nat.eq_of_beq_eq_true hb) e
            simp [this, e, add_lit]
      · cases hr
    · cases hr
  · cases hr
theorem bnd0 {v : Option AV} {n : Nat} (h : bnd v 0 0 = some n) : n = 0 := by
  cases v with
  | none => simp only [bnd] at h; injection h with h; omega
  | some v => have := (bnd_some (F := Fx0) (ρ := ⟨fun _ => 0, fun _ => 0⟩) (P := default) (w := default) h).1; omega
theorem bnd0_more {v : Option AV} {n c : Nat} (h : bnd v 0 0 = some n) : bnd v c 0 = some n := by
  cases v with
  | none => exact h
  | some v => exact bnd_more h (Nat.zero_le _)
theorem zero3_run {b : Bool} {c : Nat} {l h mx : Option AV} (hr : zero3 l h mx = true) :
    (Instr.sliceBounds b 0 c (l.map (conc F ρ)) (h.map (conc F ρ)) (mx.map (conc F ρ))).run P w = .ok (0, 0, if mx.isSome then 0 else c) w := by
  unfold zero3 at hr
  simp only [Bool.and_eq_true, Option.isSome_iff_exists] at hr
  obtain ⟨⟨⟨⟨n0, h0⟩, n1, h1⟩, n2, h2⟩, h3⟩ := hr
  obtain rfl := bnd0 h0
  obtain rfl := bnd0 h1
  obtain rfl := bnd0 h2
  cases mx with
  | none => simp only [Option.map_none]; exact bounds2 (bnd0_more h1) h2
  | some m =>
    cases h with
    | none => simp at h3
    | some h => simp only [Option.map_some]; exact bounds3 (bnd0_more h0) h1 h2
theorem slE_run {e : TypeId} {sz id p q : Nat} {z : Bool} {l h mx : Option AV} (hd : P.underlying t = some (.slice e)) (hz : sizeA P e = some sz) (hr : slE id p q z l h mx = some r) :
    (Instr.slice t (conc F ρ (.em id p q z)) (l.map (conc F ρ)) (h.map (conc F ρ)) (mx.map (conc F ρ))).run P w = .ok (conc F ρ r) w := by
  unfold slE at hr
  cases h3 : zero3 l h mx with
  | false => simp [h3] at hr
  | true =>
    simp only [h3, cond_true] at hr
    injection hr with hr; subst hr
    have key := zero3_run (F := F) (ρ := ρ) (P := P) (w := w) (b := true) (c := if z = true then 0 else ρ.cap id) h3
    simp only [conc, Instr.slice, Sem.run_bind, run_underlying hd, Result.andThen_ok, key, run_size hz, Sem.run_pure]
    cases mx <;> cases z <;> simp [add_zero']
theorem slN_run {e : TypeId} {sz : Nat} {l h mx : Option AV} (hd : P.underlying t = some (.slice e)) (hz : sizeA P e = some sz) (hr : slN l h mx = some r) :
    (Instr.slice t (.slice none 0 0) (l.map (conc F ρ)) (h.map (conc F ρ)) (mx.map (conc F ρ))).run P w = .ok (conc F ρ r) w := by
  unfold slN at hr
  cases h3 : zero3 l h mx with
  | false => simp [h3] at hr
  | true =>
    simp only [h3, cond_true] at hr
    injection hr with hr; subst hr
    have key := zero3_run (F := F) (ρ := ρ) (P := P) (w := w) (b := true) (c := 0) h3
    simp only [conc, Instr.slice, Sem.run_bind, run_underlying hd, Result.andThen_ok, key, run_size hz, Sem.run_pure]
    cases mx <;> simp
theorem slA_run {e : TypeId} {sz id off n : Nat} {l h : Option AV} (hd : P.underlying t = some (.array n e)) (hz : sizeA P e = some sz) (hr : slA sz id off n l h = some r) :
    (Instr.sliceAt t (.pointer (some ⟨ρ.blk id, off, none⟩)) (l.map (conc F ρ)) (h.map (conc F ρ)) none).run P w = .ok (conc F ρ r) w := by
  unfold slA at hr
  split at hr
  · rename_i lh h1
    split at hr
    · rename_i ll h2
      injection hr with hr; subst hr
      have key := bounds2 (F := F) (ρ := ρ) (P := P) (w := w) (b := false) h1 h2
      simp only [Instr.sliceAt, Sem.run_bind, run_underlying hd, Result.andThen_ok, Instr.sureAddr, Sem.run_pure, key, run_size hz, conc]
      by_cases e : n = ll
      · subst e; simp
      · have : Nat.beq n ll = false := by cases hb : Nat.beq n ll with
          | false => rfl
          | true => exact absurd (Nat.eq_of_beq_eq_true hb) e
        simp [this, e, add_lit]
    · cases hr
  · cases hr
theorem rSl_run {u : AV} {l h mx : Option AV} (hr : rSl P t u l h mx = some r) :
    (Instr.sliceAt t (conc F ρ u) (l.map (conc F ρ)) (h.map (conc F ρ)) (mx.map (conc F ρ))).run P w = .ok (conc F ρ r) w := by
  unfold rSl at hr
  split at hr
  · rename_i hd
    have hsa : ∀ v lo hi m, (Instr.sliceAt t v lo hi m).run P w = (Instr.slice t v lo hi m).run P w := fun v lo hi m => by simp [Instr.sliceAt, run_underlying hd]
    split at hr
    · rw [hsa]; simp only [conc, Option.map_none]; exact slS_run hd hr
    · cases hr
  · rename_i e hd
    rw [run_sliceAt_S hd]
    split at hr
    · rename_i sz hz
      split at hr
      · simp only [conc]; exact slL_run hd hz hr
      · split at hr
        · simp only [Option.map_none]; exact slR_run hd hz hr
        · simp only [Option.map_some]; exact slM_run hd hz hr
      · exact slE_run hd hz hr
      · simp only [conc]; exact slN_run hd hz hr
      · cases hr
    · cases hr
  · rename_i n e hd
    split at hr
    · rename_i sz id off hz
      simp only [conc, Option.map_none]; exact slA_run hd hz hr
    · cases hr
  · cases hr
theorem d_slice {lo hi mx : Option Operand} (hs : Sy F ρ a E) (ho : o.op = .slice t x lo hi mx) (h : rSlice P t (evA E x) (evAo E lo) (evAo E hi) (evAo E mx) = some r) : Does P a o w (conc F ρ r) := by
  unfold rSlice at h
  split at h
  · rename_i u l hh m h1 h2 h3 h4
    have := rSl_run (F := F) (ρ := ρ) (w := w) h
    simp only [Does, execOp, ho, hs.ev h1, hs.evo h2, hs.evo h3, hs.evo h4, Sem.run_bind, this, Result.andThen_ok, Sem.run_pure]
  · cases h
end
end Go.Proofs.AL.Rx
/- RV, soundness, fourth part: parts put together; what memory holds; operations that read memory. -/
set_option linter.unusedVariables false
set_option linter.unusedSimpArgs false
namespace Go.Proofs.AL.Rx
open Go Go.RowKit
section
variable {F : Fx} {ρ : Val} {P : Program} {w W : World} {a : Act} {E : VEnv} {o : Oper} {x y z : Operand} {t t2 ty : TypeId} {r : AV}
theorem d_min {c : Call} (hs : Sy F ρ a E) (ho : o.op = .call c) (hc : c.callee = .builtin .min) (h : rMin (evAs E c.args.toList) = some r) : Does P a o w (conc F ρ r) := by
  unfold rMin at h
  split at h
  · rename_i k p j q h1
    by_cases e : k = j
    · simp only [e, decide_true, cond_true] at h
      injection h with h; subst h; subst e
      have h2 := hs.evsA h1
      simp [Does, execOp, ho, resolve, hc, h2, concs, conc, invoke, builtin, Builtin.min_, Builtin.min2]
    · simp [e] at h
  · cases h
theorem d_max {c : Call} (hs : Sy F ρ a E) (ho : o.op = .call c) (hc : c.callee = .builtin .max) (h : rMax (evAs E c.args.toList) = some r) : Does P a o w (conc F ρ r) := by
  unfold rMax at h
  split at h
  · rename_i k p j q h1
    by_cases e : k = j
    · simp only [e, decide_true, cond_true] at h
      injection h with h; subst h; subst e
      have h2 := hs.evsA h1
      simp [Does, execOp, ho, resolve, hc, h2, concs, conc, invoke, builtin, Builtin.max_, Builtin.max2]
    · simp [e] at h
  · cases h
theorem zeroA_run {v : AV} (h : zeroA P t = some v) : (zeroValue t).run P w = .ok (conc F ρ v) w := by
  obtain ⟨z, hz, hv⟩ := Option.bind_eq_some_iff.1 h
  obtain ⟨i, hi, hz⟩ := Option.bind_eq_some_iff.1 hz
  simp [zeroValue, typeInfo, hi, hz, ofV_conc z v hv]
theorem okA_conc (ok b : Bool) (v : AV) : conc F ρ (okA ok v b) = if ok then .tuple #[conc F ρ v, .bool b] else conc F ρ v := by
  cases ok <;> simp [okA, conc, concs]
theorem d_ass {ok : Bool} {d xt : TypeId} (hs : Sy F ρ a E) (ho : o.op = .typeAssert x xt d ok) (h : rAss P d ok (evA E x) = some r) : Does P a o w (conc F ρ r) := by
  unfold rAss at h
  split at h
  · rename_i t v h1
    split at h
    · rename_i e he
      cases hb : notIface e && Nat.beq t d with
      | false => simp [hb] at h
      | true =>
        simp only [hb, cond_true] at h
        injection h with h; subst h
        simp only [Bool.and_eq_true] at hb
        obtain rfl := Nat.eq_of_beq_eq_true hb.2
        rw [okA_conc]
        cases e <;> first | (cases hb.1; done) | simp [Does, execOp, ho, hs.ev h1, conc, Instr.typeAssert, run_underlying he]
    · cases h
  · rename_i h1
    split at h
    · rename_i e he
      cases hb : notIface e && ok with
      | false => simp [hb] at h
      | true =>
        simp only [hb, cond_true] at h
        simp only [Bool.and_eq_true] at hb
        obtain ⟨z, hz, rfl⟩ := Option.map_eq_some_iff.1 h
        have hz' := zeroA_run (F := F) (ρ := ρ) (w := w) hz
        cases e <;> first | (cases hb.1; done) | simp [Does, execOp, ho, hs.ev h1, conc, concs, Instr.typeAssert, run_underlying he, hb.2, hz']
    · cases h
  · cases h
theorem cellsL_conc (v : AV) : cellsL (conc F ρ v) = concs F ρ v.cells := conc_cellsL v
theorem setAt_conc (l : List AV) (n : Nat) (vs : List AV) : concs F ρ (setAt l n vs) = (concs F ρ l).take n ++ concs F ρ vs ++ (concs F ρ l).drop (n + vs.length) := by
  simp [setAt, concs_append, concs_take, concs_drop]
theorem buildA_put (pl : List (Nat × Nat)) : ∀ (vs : List (Nat × AV)) (zs cs : List AV), buildA pl vs zs = some cs → putL pl (concP F ρ vs) (concs F ρ zs) = some (concs F ρ cs)
  | [], zs, cs, h => by simp [buildA] at h; subst h; rfl
  | (i, v) :: r, zs, cs, h => by
    simp only [buildA] at h
    cases hp : pl[i]? with
    | none => simp [hp] at h
    | some p =>
      obtain ⟨off, n⟩ := p
      simp only [hp] at h
      cases hb : Nat.beq v.cells.length n && Nat.ble (off + n) zs.length && v.cells.all AV.flat with
      | false => simp [hb] at h
      | true =>
        simp only [hb, cond_true] at h
        simp only [Bool.and_eq_true] at hb
        have h1 := Nat.eq_of_beq_eq_true hb.1.1
        have h2 := Nat.le_of_ble_eq_true hb.1.2
        have := buildA_put pl r (setAt zs off v.cells) cs h
        rw [setAt_conc, h1] at this
        show putL pl ((i, conc F ρ v) :: concP F ρ r) (concs F ρ zs) = _
        simp only [putL, hp]
        rw [if_pos ⟨by rw [cellsL_conc, concs_len, h1], by rw [concs_len]; exact h2⟩, cellsL_conc]
        exact this
theorem d_build {ps : Array (Nat × Operand)} (hs : Sy F ρ a E) (ho : o.op = .build t ps) (h : rBuild P t (evAps E ps.toList) = some r) : Does P a o w (conc F ρ r) := by
  unfold rBuild at h
  split at h
  · rename_i vs h1
    split at h
    · rename_i zs pl h2
      split at h
      · rename_i zs' h3
        obtain ⟨cs, hc, rfl⟩ := Option.map_eq_some_iff.1 h
        have h4 := buildA_put (F := F) (ρ := ρ) pl vs zs' cs hc
        rw [ofVs_conc zs zs' h3] at h4
        have h5 : ps.map (fun p : Nat × Operand => (p.1, a.eval p.2)) = (concP F ρ vs).toArray := by
          apply Array.ext'
          rw [Array.toList_map, hs.evps h1]
        have h6 := run_bld (P := P) (t := t) (zs := zs) (pl := pl) h2 h4 w
        rw [← h5] at h6
        simp only [Does, execOp, ho, Sem.run_bind, h6, Result.andThen_ok, Sem.run_pure, conc]
      · cases h
    · cases h
  · cases h

/-! ### what memory holds -/
def entC (F : Fx) (ρ : Val) (e : AV × AV × Nat) : MapEntry := ⟨conc F ρ e.1, conc F ρ e.2.1, e.2.2⟩
/-- all keys are texts -/
def SKeys (l : List MapEntry) : Prop := ∀ x ∈ l, ∃ s, x.key = .string s
def objOk (F : Fx) (ρ : Val) (w : World) (id : Nat) : Ao → Prop
  | .cells t cs none => w.heap[ρ.blk id]? = some (.cells (concs F ρ cs).toArray t (0, 0))
  | .cells t cs (some sz) => ∃ rest : List Value, ∃ n, w.heap[ρ.blk id]? = some (.cells (concs F ρ cs ++ rest).toArray t (0, 0)) ∧ cs.length = n * sz ∧ rest.length = ρ.cap id * sz ∧ n + ρ.cap id ≤ maxLen
  | .map es clock => w.heap[ρ.blk id]? = some (.map (es.map (entC F ρ)).toArray clock)
  | .look es => ∃ ents clock, w.heap[ρ.blk id]? = some (.map ents clock) ∧ (∀ k v, (k, v) ∈ es → ∃ s i, k = .str s ∧ Instr.findNow .string (conc F ρ k) ents.toList 0 = some (some (i, conc F ρ v))) ∧ SKeys ents.toList
  | .iter m since seen last => w.heap[ρ.blk id]? = some (.mapIter (some (ρ.blk m)) since seen.toArray last)
  | .inv k j => F.inv k w (ρ.blk id) (ρ.blk j)
  | .ro cs => ∃ rest : List Value, ∃ t mk, w.heap[ρ.blk id]? = some (.cells (concs F ρ cs ++ rest).toArray t mk)
/-- the places of which the operation reads hold what is told -/
def Holds (F : Fx) (ρ : Val) (w : World) (m : Tr Ao) (ids : List Nat) : Prop := ∀ id ∈ ids, ∀ o, m.get id = some o → objOk F ρ w id o
theorem Holds.rd {m : Tr Ao} {ids : List Nat} (h : Holds F ρ w m ids) {id : Nat} (hi : id ∈ ids) {cs : List AV} (hr : rdO (m.get id) = some cs) : ∃ arr t mk, w.heap[ρ.blk id]? = some (.cells arr t mk) ∧ ∀ (i : Nat) (v : AV), cs[i]? = some v → arr[i]? = some (conc F ρ v) := by
  cases hg : m.get id with
  | none => rw [hg] at hr; cases hr
  | some o =>
    rw [hg] at hr
    have := h id hi o hg
    cases o <;> simp only [rdO] at hr <;> first | (cases hr; done) | skip
    · rename_i t cs' more
      injection hr with hr; subst hr
      cases more with
      | none => exact ⟨_, _, _, this, fun i v hv => by simp [concs_get, hv]⟩
      | some sz =>
        obtain ⟨rest, n, h1, _⟩ := this
        refine ⟨_, _, _, h1, fun i v hv => ?_⟩
        have hl := (List.getElem?_eq_some_iff.1 hv).1
        simp only [List.getElem?_toArray]
        rw [List.getElem?_append_left (by rw [concs_len]; exact hl), concs_get, hv]; rfl
    · injection hr with hr; subst hr
      obtain ⟨rest, t, mk, h1⟩ := this
      refine ⟨_, _, _, h1, fun i v hv => ?_⟩
      have hl := (List.getElem?_eq_some_iff.1 hv).1
      simp only [List.getElem?_toArray]
      rw [List.getElem?_append_left (by rw [concs_len]; exact hl), concs_get, hv]; rfl
theorem Holds.cell {m : Tr Ao} {ids : List Nat} (h : Holds F ρ w m ids) {id : Nat} (hi : id ∈ ids) {cs : List AV} (hr : rdO (m.get id) = some cs) {i : Nat} {v : AV} (hv : cs[i]? = some v) : w.cell? ⟨ρ.blk id, i, none⟩ = some (conc F ρ v) := by
  obtain ⟨arr, t, mk, h1, h2⟩ := h.rd hi hr
  simp [World.cell?, h1, h2 i v hv]
theorem Holds.cells {m : Tr Ao} {ids : List Nat} (h : Holds F ρ w m ids) {id off n : Nat} (hi : id ∈ ids) {l : List AV} (hr : cellsAt m id off n = some l) : l.length = n ∧ ∀ j u, (concs F ρ l)[j]? = some u → w.cell? ((⟨ρ.blk id, off, none⟩ : Addr).add j) = some u := by
  unfold cellsAt at hr
  obtain ⟨cs, hc, ht⟩ := Option.bind_eq_some_iff.1 hr
  obtain ⟨h1, rfl⟩ := takeA_some ht
  refine ⟨by rw [List.length_take]; omega, fun j u hu => ?_⟩
  rw [concs_get] at hu
  obtain ⟨v, hv, rfl⟩ := Option.map_eq_some_iff.1 hu
  rw [List.getElem?_take] at hv
  split at hv
  · rw [List.getElem?_drop] at hv
    rw [add_lit]
    exact h.cell hi hc hv
  · cases hv
theorem Holds.sub {m : Tr Ao} {ids ids' : List Nat} (h : Holds F ρ w m ids) (hs : ∀ i ∈ ids', i ∈ ids) : Holds F ρ w m ids' := fun i hi => h i (hs i hi)
theorem idOf_ptr {i off : Nat} (h : evA E x = some (.ptr i off)) : i ∈ idOf E x := by simp [idOf, h]
theorem idOf_sl {i off n c : Nat} (h : evA E x = some (.sl i off n c)) : i ∈ idOf E x := by simp [idOf, h]
theorem idOf_rw {i off n c : Nat} (h : evA E x = some (.rw i off n c)) : i ∈ idOf E x := by simp [idOf, h]
theorem idOf_map {i : Nat} (h : evA E x = some (.map i)) : i ∈ idOf E x := by simp [idOf, h]
theorem d_load {m : Tr Ao} (hs : Sy F ρ a E) (ho : o.op = .load t x) (hm : Holds F ρ w m (idOf E x)) (h : rLoad P m t (evA E x) = some r) : Does P a o w (conc F ρ r) := by
  unfold rLoad at h
  split at h
  · rename_i id off h1
    split at h
    · rename_i d n cs h2 h3 h4
      cases hf : isFlat d with
      | true =>
        simp only [hf, cond_true] at h
        have := hm.cell (idOf_ptr h1) h4 h
        simp [Does, execOp, ho, hs.ev h1, conc, Instr.loadAt, Instr.sureAddr, loadVar, run_isAgg h2, hf, this]
      | false =>
        simp only [hf, cond_false] at h
        obtain ⟨l, hl, rfl⟩ := Option.map_eq_some_iff.1 h
        have h5 : cellsAt m id off n = some l := by simp [cellsAt, h4, hl]
        obtain ⟨h6, h7⟩ := hm.cells (idOf_ptr h1) h5
        have h8 := run_loadCells_list (P := P) w ⟨ρ.blk id, off, none⟩ (concs F ρ l) h7
        rw [concs_len, h6] at h8
        simp [Does, execOp, ho, hs.ev h1, conc, Instr.loadAt, Instr.sureAddr, loadVar, run_isAgg h2, hf, run_size h3, h8]
    · cases h
  · cases h
/-- the cells of a slice, read -/
theorem Holds.slice {m : Tr Ao} {ids : List Nat} (h : Holds F ρ w m ids) {sz : Nat} {v : AV} (hv : ∀ i, (∃ p q s, v = .sl i p q s) ∨ (∃ p q s, v = .rw i p q s) → i ∈ ids) {l : List AV} (hr : cellsOf m sz v = some l) :
    ∃ A n c, conc F ρ v = .slice A n c ∧ l.length = n * sz ∧ (A = none → l = [] ∧ n = 0 ∧ c = 0) ∧ ∀ ad, A = some ad → ∀ j u, (concs F ρ l)[j]? = some u → w.cell? (ad.add j) = some u := by
  unfold cellsOf at hr
  split at hr
  · injection hr with hr; subst hr
    exact ⟨none, 0, 0, rfl, by simp, fun _ => ⟨rfl, rfl, rfl⟩, fun ad e => by cases e⟩
  · injection hr with hr; subst hr
    exact ⟨_, 0, _, rfl, by simp, (fun e => by cases e), fun ad _ j u hu => by simp [concs] at hu⟩
  · rename_i id off len cap
    obtain ⟨h1, h2⟩ := h.cells (hv id (.inl ⟨_, _, _, rfl⟩)) hr
    exact ⟨_, _, _, rfl, h1, (fun e => by cases e), fun ad e => by injection e with e; subst e; exact h2⟩
  · rename_i id off len b
    obtain ⟨h1, h2⟩ := h.cells (hv id (.inr ⟨_, _, _, rfl⟩)) hr
    exact ⟨_, _, _, rfl, h1, (fun e => by cases e), fun ad e => by injection e with e; subst e; exact h2⟩
  · cases hr
end
end Go.Proofs.AL.Rx
/- RV, soundness, fifth part: texts of bytes, lengths, maps. -/
set_option linter.unusedVariables false
set_option linter.unusedSimpArgs false
namespace Go.Proofs.AL.Rx
open Go Go.RowKit
section
variable {F : Fx} {ρ : Val} {P : Program} {w W : World} {a : Act} {E : VEnv} {o : Oper} {x y z : Operand} {t t2 ty : TypeId} {r : AV}
theorem bytesA_conc (F : Fx) (ρ : Val) : ∀ (l : List AV) (s : List Int), bytesA l = some s → concs F ρ l = ints .u8 s := by
  intro l
  induction l with
  | nil => intro s h; simp [bytesA] at h; subst h; rfl
  | cons v l ih =>
    intro s h
    unfold bytesA at h
    split at h
    · rename_i e; cases e
    · rename_i n r' e
      injection e with e1 e2
      subst e1 e2
      obtain ⟨p, hp, rfl⟩ := Option.map_eq_some_iff.1 h
      simp [concs, conc, ih p hp, ints]
    · cases h
theorem byteA_conc (F : Fx) (ρ : Val) : ∀ (l : List AV), l.all byteA = true → concs F ρ l = ints .u8 ((concs F ρ l).map numV)
  | [], h => rfl
  | v :: l, h => by
    simp only [List.all_cons, Bool.and_eq_true] at h
    have ih := byteA_conc F ρ l h.2
    have h1 := h.1
    have h0 : conc F ρ v = .int .u8 (numV (conc F ρ v)) := by
      cases v <;> first | (simp [byteA] at h1; done) | skip
      · rename_i k n; cases k <;> first | (simp [byteA] at h1; done) | rfl
      · rename_i k n; cases k <;> first | (simp [byteA] at h1; done) | rfl
      · rfl
    simp only [concs, List.map_cons, ints]
    rw [← h0]
    congr 1
theorem strA_conc {l : List AV} (h : strA l = some r) : ∃ s, concs F ρ l = ints .u8 s ∧ conc F ρ r = .string (strOfNums s) := by
  unfold strA at h
  split at h
  · rename_i s hs
    injection h with h; subst h
    exact ⟨s, bytesA_conc F ρ l s hs, rfl⟩
  · cases hb : l.all byteA with
    | false => simp [hb] at h
    | true =>
      simp only [hb, cond_true] at h
      injection h with h; subst h
      exact ⟨_, byteA_conc F ρ l hb, rfl⟩
theorem rd_of {A : Option Addr} {n : Nat} {xs : List Value} (hl : xs.length = n * 1) (hA : A = none → n = 0) (hc : ∀ ad, A = some ad → ∀ j u, xs[j]? = some u → w.cell? (ad.add j) = some u) : Rd w w.heap.size 1 A n xs := by
  refine ⟨hl, fun hn => ?_⟩
  cases A with
  | none => have := hA rfl; omega
  | some ad =>
    refine ⟨ad, rfl, ?_, hc ad rfl⟩
    have h0 : xs[0]? = some xs[0] := List.getElem?_eq_getElem (by omega)
    have := World.block_lt_of_cell? w _ (hc ad rfl 0 _ h0)
    rwa [add_block] at this
theorem cellsOf_ids {m : Tr Ao} {v : AV} (hv : evA E x = some v) : ∀ i, (∃ p q s, v = .sl i p q s) ∨ (∃ p q s, v = .rw i p q s) → i ∈ idOf E x := by
  rintro i (⟨p, q, s, rfl⟩ | ⟨p, q, s, rfl⟩)
  · exact idOf_sl hv
  · exact idOf_rw hv
theorem d_conv2 {m : Tr Ao} {v : AV} (hs : Sy F ρ a E) (ho : o.op = .convert t t2 x) (hx : evA E x = some v) (hm : Holds F ρ w m (idOf E x)) (h : (match P.underlying t, P.underlying t2 with
    | some (.slice e), some .string => (match P.underlying e, cellsOf m 1 v with
      | some (.int .u8), some l => strA l
      | _, _ => none)
    | _, _ => none) = some r) : Does P a o w (conc F ρ r) := by
  split at h
  · rename_i e h1 h2
    split at h
    · rename_i l h3 h4
      obtain ⟨s, h5, h6⟩ := strA_conc (F := F) (ρ := ρ) h
      obtain ⟨A, n, c, h7, h8, h9, h10⟩ := hm.slice (cellsOf_ids (m := m) hx) h4
      have hrd : Rd w w.heap.size 1 A n (ints .u8 s) := by
        rw [← h5]
        exact rd_of (by rw [concs_len]; exact h8) (fun e => (h9 e).2.1) h10
      have := run_str h1 h3 h2 hrd (c := c)
      simp [Does, execOp, ho, hs.ev hx, h7, this, h6]
    · cases h
  · cases h
theorem d_conv {m : Tr Ao} (hs : Sy F ρ a E) (ho : o.op = .convert t t2 x) (hm : Holds F ρ w m (idOf E x)) (h : (evA E x).bind (rConv P m t t2) = some r) : Does P a o w (conc F ρ r) := by
  obtain ⟨v, hv, h⟩ := Option.bind_eq_some_iff.1 h
  by_cases h0 : ∃ k n, v = .int k n
  · obtain ⟨k, n, rfl⟩ := h0
    exact d_conv0 hs ho hv h
  · by_cases h1 : ∃ l, v = .str l
    · obtain ⟨l, rfl⟩ := h1
      exact d_conv1 hs ho hv h
    · refine d_conv2 hs ho hv hm ?_
      cases v <;> first | exact h | (exfalso; exact h0 ⟨_, _, rfl⟩) | (exfalso; exact h1 ⟨_, rfl⟩)
theorem run_getO {g : Nat} {es : Array MapEntry} {c : Nat} (h : w.heap[g]? = some (.map es c)) : (getObj g).run P w = .ok (.map es c) w := by simp [getObj, Sem.run, h]
theorem d_len {m : Tr Ao} {c : Call} (hs : Sy F ρ a E) (ho : o.op = .call c) (hc : c.callee = .builtin .len) (hm : ∀ x, c.args.toList = [x] → Holds F ρ w m (idOf E x)) (h : rLen P m c.argTypes (evAs E c.args.toList) = some r) : Does P a o w (conc F ρ r) := by
  unfold rLen at h
  split at h
  · rename_i v h1
    have h2 := hs.evsA h1
    obtain ⟨x, hx⟩ : ∃ x, c.args.toList = [x] := by
      cases hl : c.args.toList with
      | nil => rw [hl] at h1; simp [evAs] at h1
      | cons x l => cases l with
        | nil => exact ⟨x, rfl⟩
        | cons y l =>
          rw [hl] at h1
          simp only [evAs] at h1
          cases e1 : evA E x <;> cases e2 : evA E y <;> cases e3 : evAs E l <;> simp [e1, e2, e3] at h1
    have hv : evA E x = some v := by
      rw [hx] at h1
      simp only [evAs] at h1
      cases e1 : evA E x <;> simp [e1] at h1
      rw [h1]
    have hm' := hm x hx
    cases hb : lenT P c.argTypes[0]? v with
    | false => simp [hb] at h
    | true =>
      simp only [hb, cond_true] at h
      obtain ⟨n, hn, rfl⟩ := Option.map_eq_some_iff.1 h
      unfold lenT at hb
      cases ht0 : c.argTypes[0]? with
      | none => simp [ht0] at hb
      | some t0 =>
        simp only [ht0, Option.bind_some] at hb
        split at hb
        · rename_i hd
          split at hb
          · simp only [lenA] at hn; injection hn with hn; subst hn
            simp [Does, execOp, ho, resolve, hc, h2, concs, conc, invoke, builtin, Builtin.len_, ht0, run_underlying hd, goInt, strOfNums_size]
          · cases hb
        · rename_i e hd
          split at hb <;> first | (cases hb; done) | (simp only [lenA] at hn; injection hn with hn; subst hn; simp [Does, execOp, ho, resolve, hc, h2, concs, conc, invoke, builtin, Builtin.len_, ht0, run_underlying hd, goInt])
        · rename_i kt e hd
          split at hb
          · rename_i id
            simp only [lenA] at hn
            split at hn
            · rename_i es cl hg
              injection hn with hn; subst hn
              have := hm' id (idOf_map hv) _ hg
              simp [Does, execOp, ho, resolve, hc, h2, concs, conc, invoke, builtin, Builtin.len_, ht0, run_underlying hd, goInt, run_getO this]
            · cases hn
          · simp only [lenA] at hn; injection hn with hn; subst hn
            simp [Does, execOp, ho, resolve, hc, h2, concs, conc, invoke, builtin, Builtin.len_, ht0, run_underlying hd, goInt]
          · cases hb
        · cases hb
  · cases h
theorem d_cap {c : Call} (hs : Sy F ρ a E) (ho : o.op = .call c) (hc : c.callee = .builtin .cap) (h : rCap P c.argTypes (evAs E c.args.toList) = some r) : Does P a o w (conc F ρ r) := by
  unfold rCap at h
  split at h
  · rename_i v h1
    have h2 := hs.evsA h1
    cases hb : lenT P c.argTypes[0]? v with
    | false => simp [hb] at h
    | true =>
      simp only [hb, cond_true] at h
      obtain ⟨n, hn, rfl⟩ := Option.map_eq_some_iff.1 h
      unfold lenT at hb
      cases ht0 : c.argTypes[0]? with
      | none => simp [ht0] at hb
      | some t0 =>
        simp only [ht0, Option.bind_some] at hb
        split at hb
        · split at hb
          · cases hn
          · cases hb
        · rename_i e hd
          split at hb <;> first | (cases hb; done) | (cases hn; done) | (simp only [capA] at hn; injection hn with hn; subst hn; simp [Does, execOp, ho, resolve, hc, h2, concs, conc, invoke, builtin, Builtin.cap_, ht0, run_underlying hd, goInt])
        · split at hb <;> first | (cases hb; done) | (cases hn; done)
        · cases hb
  · cases h
/-! maps -/
theorem keyEq_now {d : TypeDesc} {k k' : AV} {b : Bool} (h : keyEq d k k' = some b) : Instr.sameNow d (conc F ρ k) (conc F ρ k') = some b := by
  unfold keyEq at h
  split at h
  · rename_i k p j q
    split at h
    · by_cases e : k = j
      · simp only [e, decide_true, cond_true] at h
        injection h with h; subst h; subst e
        simp [conc, Instr.sameNow]; rfl
      · simp [e] at h
    · cases h
  · split at h
    · simp [conc, Instr.sameNow, (str_eqLI h).2]
    · cases h
  · cases h
def findI (d : TypeDesc) (k : AV) : List (AV × AV × Nat) → Nat → Option (Option (Nat × AV))
  | [], _ => some none
  | (k', v, _) :: r, i => (match keyEq d k k' with
    | some true => some (some (i, v))
    | some false => findI d k r (i + 1)
    | none => none)
theorem findI_now {d : TypeDesc} {k : AV} : ∀ {es : List (AV × AV × Nat)} {i : Nat} {q : Option (Nat × AV)}, findI d k es i = some q → Instr.findNow d (conc F ρ k) (es.map (entC F ρ)) i = some (q.map fun p => (p.1, conc F ρ p.2))
  | [], i, q, h => by simp [findI] at h; subst h; rfl
  | (k', v, b) :: r, i, q, h => by
    simp only [findI] at h
    cases hk : keyEq d k k' with
    | none => simp [hk] at h
    | some t =>
      simp only [hk] at h
      simp only [List.map_cons, Instr.findNow, entC, keyEq_now hk]
      cases t with
      | true => simp only at h; injection h with h; subst h; rfl
      | false => exact findI_now h
theorem findK_I {d : TypeDesc} {k : AV} : ∀ {es : List (AV × AV × Nat)} {q : Option AV} (i : Nat), findK d k es = some q → ∃ p, findI d k es i = some p ∧ p.map (·.2) = q
  | [], q, i, h => by simp [findK] at h; subst h; exact ⟨none, rfl, rfl⟩
  | (k', v, b) :: r, q, i, h => by
    simp only [findK] at h
    cases hk : keyEq d k k' with
    | none => simp [hk] at h
    | some t =>
      simp only [hk] at h
      cases t with
      | true => simp only at h; injection h with h; subst h; exact ⟨some (i, v), by simp [findI, hk], rfl⟩
      | false =>
        obtain ⟨p, h1, h2⟩ := findK_I (i + 1) h
        exact ⟨p, by simp [findI, hk, h1], h2⟩
theorem run_key {d : TypeDesc} {kt : TypeId} {k : AV} (hd : P.underlying kt = some d) (hk : keyD d k = true) (e : Bool) : (Instr.checkKey e 10000 kt (conc F ρ k)).run P w = .ok () w := by
  have : ∀ n, (Instr.checkKey e (n + 1) kt (conc F ρ k)).run P w = .ok () w := fun n => by
    unfold keyD at hk
    unfold Instr.checkKey
    simp only [Sem.run_bind, run_underlying hd, Result.andThen_ok]
    split at hk
    · split at hk
      · simp only [conc]; rfl
      · cases hk
    · split at hk
      · simp only [conc]; rfl
      · cases hk
    · cases hk
  exact this 9999
theorem run_findK {d : TypeDesc} {kt : TypeId} {k : AV} {es : List MapEntry} {q : Option (Nat × Value)} (hd : P.underlying kt = some d) (h : Instr.findNow d (conc F ρ k) es 0 = some q) : (Instr.findKey kt (conc F ρ k) es).run P w = .ok q w := by
  simp only [Instr.findKey, Sem.run_bind, run_underlying hd, Result.andThen_ok, h, Sem.run_pure]
theorem findL_mem {k v : AV} : ∀ {es : List (AV × AV)}, findL k es = some v → (k, v) ∈ es
  | [], h => by simp [findL] at h
  | (k', v') :: r, h => by
    simp only [findL] at h
    cases hs : same k' k with
    | true =>
      simp only [hs, cond_true] at h
      injection h with h; subst h
      rw [same_eq _ _ hs]
      exact List.mem_cons_self
    | false =>
      simp only [hs, cond_false] at h
      exact List.mem_cons_of_mem _ (findL_mem h)
theorem d_look {ok : Bool} {m : Tr Ao} (hs : Sy F ρ a E) (ho : o.op = .lookup t x y ok) (hm : Holds F ρ w m (idOf E x)) (h : rLook P m t ok (evA E x) (evA E y) = some r) : Does P a o w (conc F ρ r) := by
  unfold rLook at h
  split at h
  · rename_i v k hx hy
    split at h
    · rename_i kt e ht
      split at h
      · rename_i d hd
        cases hk : keyD d k with
        | false => simp [hk] at h
        | true =>
          simp only [hk, cond_true] at h
          have key : ∀ (es : List MapEntry) (cl : Nat) (g : Nat) (q : Option (Nat × Value)) (z : Value), conc F ρ v = .map (some g) → w.heap[g]? = some (.map es.toArray cl) → Instr.findNow d (conc F ρ k) es 0 = some q → (q = none → (zeroValue e).run P w = .ok z w) →
              Does P a o w (if ok then .tuple #[(q.map (·.2)).getD z, .bool q.isSome] else (q.map (·.2)).getD z) := by
            intro es cl g q z h1 h2 h3 h4
            have h5 := run_findK (w := w) hd h3
            cases q with
            | none => simp [Does, execOp, ho, hs.ev hx, hs.ev hy, h1, Instr.lookup, run_underlying ht, run_getO h2, run_key hd hk, h5, h4 rfl]
            | some p => simp [Does, execOp, ho, hs.ev hx, hs.ev hy, h1, Instr.lookup, run_underlying ht, run_getO h2, run_key hd hk, h5]
          have key0 : ∀ (z : Value), conc F ρ v = .map none → (zeroValue e).run P w = .ok z w → Does P a o w (if ok then .tuple #[z, .bool false] else z) := by
            intro z h1 h4
            have h5 : (Instr.findKey kt (conc F ρ k) []).run P w = .ok none w := run_findK hd rfl
            simp [Does, execOp, ho, hs.ev hx, hs.ev hy, h1, Instr.lookup, run_underlying ht, run_key hd hk, h5, h4]
          split at h
          · rename_i u hl
            injection h with h; subst h
            rw [okA_conc]
            unfold lookA at hl
            split at hl
            · rename_i id
              split at hl
              · rename_i es cl hg
                obtain ⟨p, h1, h2⟩ := findK_I 0 hl
                have h3 := findI_now (F := F) (ρ := ρ) h1
                have := hm id (idOf_map hx) _ hg
                obtain ⟨p', hp, rfl⟩ := Option.map_eq_some_iff.1 h2
                subst hp
                have := key _ cl (ρ.blk id) _ (.bool true) rfl this h3 (fun e => by cases e)
                simpa using this
              · rename_i es hg
                obtain ⟨u', hu, e1⟩ := Option.map_eq_some_iff.1 hl
                injection e1 with e1; subst e1
                obtain ⟨ents, cl, h1, h2, _⟩ := hm id (idOf_map hx) _ hg
                obtain ⟨s, i, rfl, h3⟩ := h2 k u' (findL_mem hu)
                have hds : d = .string := by
                  unfold keyD at hk
                  simp only at hk
                  split at hk
                  · rfl
                  · cases hk
                subst hds
                have := key ents.toList cl (ρ.blk id) _ (.bool true) rfl (by simpa using h1) h3 (fun e => by cases e)
                simpa using this
              · cases hl
            · cases hl
            · cases hl
          · rename_i hl
            obtain ⟨z, hz, rfl⟩ := Option.map_eq_some_iff.1 h
            rw [okA_conc]
            have hz' := zeroA_run (F := F) (ρ := ρ) (w := w) hz
            unfold lookA at hl
            split at hl
            · rename_i id
              split at hl
              · rename_i es cl hg
                obtain ⟨p, h1, h2⟩ := findK_I 0 hl
                have h3 := findI_now (F := F) (ρ := ρ) h1
                have := hm id (idOf_map hx) _ hg
                have hp : p = none := by cases p with
                  | none => rfl
                  | some _ => cases h2
                subst hp
                have := key _ cl (ρ.blk id) _ _ rfl this h3 (fun _ => hz')
                simpa using this
              · obtain ⟨u', hu, e1⟩ := Option.map_eq_some_iff.1 hl
                cases e1
              · cases hl
            · exact key0 _ rfl hz'
            · cases hl
          · cases h
      · cases h
    · cases h
  · cases h
end
/-! what is told of a slice of which nothing is known -/
section
variable {F : Fx} {ρ : Val} {P : Program} {w W : World} {a : Act} {E : VEnv} {o : Oper} {x y z : Operand} {t t2 ty : TypeId} {r : AV}
theorem d_lenU {m : Tr Ao} {c : Call} (hs : Sy F ρ a E) (ho : o.op = .call c) (hc : c.callee = .builtin .len) (hm : ∀ x, c.args.toList = [x] → Holds F ρ w m (idOf E x)) (h : rLenU P m c.argTypes (evAs E c.args.toList) = some r) : Does P a o w (conc F ρ r) := by
  unfold rLenU at h
  split at h
  · rename_i h1
    have h2 := hs.evsA h1
    obtain ⟨A, n, q, e1, e2, e3, _, _⟩ := F.cut
    cases ht0 : c.argTypes[0]? with
    | none => rw [ht0] at h; cases h
    | some t0 =>
      rw [ht0] at h
      simp only [Option.bind_some] at h
      split at h
      · rename_i e hd
        injection h with h; subst h
        simp [Does, execOp, ho, resolve, hc, h2, concs, conc, invoke, builtin, Builtin.len_, ht0, run_underlying hd, goInt, e1, e3]
      · cases h
  · exact d_len hs ho hc hm h
theorem d_minU {c : Call} (hs : Sy F ρ a E) (ho : o.op = .call c) (hc : c.callee = .builtin .min) (h : rMinU (evAs E c.args.toList) = some r) : Does P a o w (conc F ρ r) := by
  unfold rMinU at h
  split at h
  · rename_i m h1
    by_cases e : m = 9
    · simp only [e, decide_true, cond_true] at h
      injection h with h; subst h; subst e
      have h2 := hs.evsA h1
      obtain ⟨A, n, q, _, _, e3, e4, _⟩ := F.cut
      have e5 : (if (9 : Int) < (n : Int) then (9 : Int) else (n : Int)) = ((min n 9 : Nat) : Int) := by
        split <;> omega
      simp [Does, execOp, ho, resolve, hc, h2, concs, conc, invoke, builtin, Builtin.min_, Builtin.min2, e3, e4]
      omega
    · simp [e] at h
  · exact d_min hs ho hc h
theorem d_sliceU {lo hi mx : Option Operand} (hs : Sy F ρ a E) (ho : o.op = .slice t x lo hi mx) (h : rSliceU P t (evA E x) (evAo E lo) (evAo E hi) (evAo E mx) = some r) : Does P a o w (conc F ρ r) := by
  unfold rSliceU at h
  split at h
  · rename_i h1 h2 h3 h4
    split at h
    · rename_i e hd
      obtain ⟨sz, hz, rfl⟩ := Option.map_eq_some_iff.1 h
      obtain ⟨A, n, q, e1, e2, e3, e4, e5⟩ := F.cut
      have hh : bnd (some (.int .i64 ((min n 9 : Nat) : Int))) q n = some (min n 9) := by
        have h6 : (decide (0 ≤ ((min n 9 : Nat) : Int)) && Nat.ble (min n 9) q) = true := by
          simp only [Bool.and_eq_true, decide_eq_true_eq]
          exact ⟨by omega, Nat.ble_eq_true_of_le (by omega)⟩
        simp only [bnd, Int.toNat_natCast, h6, cond_true]
      have key := bounds2 (F := F) (ρ := ρ) (P := P) (w := w) (b := true) (l := none) (len := n) hh (by rfl)
      simp only [Option.map_none, Option.map_some, conc] at key
      have hsl : (Instr.sliceAt t (.slice A n q) none (some (.int .i64 ((min n 9 : Nat) : Int))) none).run P w = .ok (.slice A (min n 9) q) w := by
        rw [run_sliceAt_S hd]
        simp only [Instr.slice, Sem.run_bind, run_underlying hd, Result.andThen_ok, key, run_size hz, Sem.run_pure]
        cases A with
        | none => simp
        | some ad => cases ad; simp [Addr.add]
      simp only [Does, execOp, ho, hs.ev h1, hs.evo h2, hs.evo h3, hs.evo h4, Sem.run_bind, conc, e1, e4, e5, Option.map_none, Option.map_some, hsl, Result.andThen_ok, Sem.run_pure]
    · cases h
  · exact d_slice hs ho h
end
end Go.Proofs.AL.Rx
