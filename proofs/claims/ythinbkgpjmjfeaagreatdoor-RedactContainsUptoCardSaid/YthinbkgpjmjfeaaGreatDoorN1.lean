/- A part of the proof (part 1 of 13). -/
import Derived.Orders
import Derived.Laws.Sem
import Derived.Laws.World
import Derived.Laws.Cells
import Derived.Laws.CopyRow
import Derived.Laws.Tables
import Derived.ChangeKeysEq
import Derived.Deep.AppendSrc
import Derived.Laws.MakeOwn
import Derived.Great.BuildSlice
import Derived.Deep.Upon
namespace Go.Proofs.YthinbkgpjmjfeaaGreatDoor.Sh
inductive SV where
  | bool (b : Bool)
  | int (k : IntKind) (n : Int)
  | str (s : ByteArray)
  | nilp
  | nilf
  | nilm
  | agg (cs : List SV)
  | tup (vs : List SV)
  | fn (f : Fn) (first captured : List SV)
  | ptr (o off : Nat)
  | iptr (cs : List SV)
  | sl (o off z len : Nat) (full : Bool)
  | imm (z : Nat) (es : List SV) (full : Bool)
  | map (o : Nat)
  | junk
  | slc (o off z len cap : Nat)
  | yl (o : Nat)
  | nils
  deriving Inhabited
inductive SObj where
  | cells (cs : List SV) (ty : Option TypeId := none)
  | map (es : List (SV × SV))
  | loop (r : Loop)
  | sit (s : ByteArray) (pos : Nat)
  | iter (left : List (SV × SV)) (last : Option (SV × SV))
  | list (z : Nat) (es : List SV)
  deriving Inhabited
def SObj.lst : SObj → Bool
  | .list _ _ => true
  | _ => false
def SV.cells : SV → List SV
  | .agg cs => cs
  | v => [v]
def SV.storable : SV → Bool
  | .junk | .tup _ => false
  | _ => true
def SV.ids : SV → List Nat
  | .ptr o _ | .sl o _ _ _ _ | .map o | .slc o _ _ _ _ => [o]
  | _ => []
def ofScalar : Value → SV
  | .bool b => .bool b
  | .int k n => .int k n
  | .string s => .str s
  | .pointer none => .nilp
  | .slice none 0 0 => .imm 0 [] true
  | .map none => .nilm
  | .nilFunc => .nilf
  | _ => .junk
def ofValue : Value → SV
  | .agg cs => if cs.toList.all (·.oneCell') then .agg (cs.toList.map ofScalar) else .junk
  | v => ofScalar v
abbrev SA := List (Nat × SV)
def look : SA → Nat → SV
  | [], _ => .junk
  | (k, x) :: r, t => if k = t then x else look r t
def putT (sa : SA) : Option Tmp → SV → SA
  | some d, v => (d, v) :: sa
  | none, _ => sa
def evS (sa : SA) : Operand → SV
  | .tmp t => look sa t
  | .const v => ofValue v
  | .global _ => .junk
  | .func f => .fn (.func f) [] []
abbrev Hp := Nat → Option SObj
def hset (h : Hp) (o : Nat) (x : Option SObj) : Hp := fun k => if k = o then x else h k
section types
variable (P : Program) (t : TypeId)
def tsz : Nat := P.cellsOf t
def tbytes : Nat := P.bytesOf t
def tagg : Option Bool := match P.underlying t with | some (.struct _) | some (.array _ _) => some true | some _ => some false | none => none
def tzero : SV := match P.info? t with | some { zero := some v, .. } => ofValue v | _ => .junk
def tslice : Option TypeId := match P.underlying t with | some (.slice e) => some e | _ => none
def tarray : Option (Nat × TypeId) := match P.underlying t with | some (.array n e) => some (n, e) | _ => none
def tmap : Option (TypeId × TypeId) := match P.underlying t with | some (.map k e) => some (k, e) | _ => none
def tstring : Bool := match P.underlying t with | some .string => true | _ => false
def tbool : Bool := match P.underlying t with | some .bool => true | _ => false
def tptr : Bool := match P.underlying t with | some (.pointer _) => true | _ => false
def tint : Option IntKind := match P.underlying t with | some (.int k) => some k | _ => none
def tplaces : Option (List (Nat × Nat)) :=
  match P.info? t, P.underlying t with
  | some _, some (.struct fs) => fs.toList.mapM fun f => (P.info? f.type).map fun i => (f.offset, i.size)
  | some _, some (.array n e) => (P.info? e).map fun i => (List.range n).map fun j => (j * i.size, i.size)
  | _, _ => none
def tfield (i : Nat) : Option (Nat × TypeId) := match P.underlying t with | some (.struct fs) => (fs[i]?).map fun f => (f.offset, f.type) | _ => none
end types
def asm (ag : Option Bool) (cs : List SV) : Option SV :=
  match ag with
  | some true => some (.agg cs)
  | some false => match cs with | [v] => some v | _ => none
  | none => none
def takeN (cs : List SV) (off n : Nat) : Option (List SV) := if off + n ≤ cs.length then some ((cs.drop off).take n) else none
def spliceN (cs : List SV) (off : Nat) (xs : List SV) : Option (List SV) :=
  if off + xs.length ≤ cs.length then some (cs.take off ++ xs ++ cs.drop (off + xs.length)) else none
structure Out where
  val : SV
  upd : Option (Nat × Option SObj) := none
  new : Option SObj := none
def Out.app (h : Hp) (k : Nat) (o : Out) : Hp :=
  let h1 := match o.upd with | some (j, x) => hset h j x | none => h
  match o.new with | some x => hset h1 k (some x) | none => h1
def yes (v : SV) : Option Out := some { val := v }
def fillS (place : Nat → Option (Nat × Nat)) (cells : List SV) : List (Nat × SV) → Option (List SV)
  | [] => some cells
  | (i, v) :: rest =>
    match place i with
    | none => none
    | some (off, size) =>
      if v.storable && v.cells.length == size then
        match spliceN cells off v.cells with
        | some cs => fillS place cs rest
        | none => none
      else none
def intBin (op : BinOp) (k : IntKind) (a b : Int) : Option SV :=
  match op with
  | .add => some (.int k (k.wrap (a + b)))
  | .sub => some (.int k (k.wrap (a - b)))
  | .mul => some (.int k (k.wrap (a * b)))
  | .quo => if b = 0 then none else some (.int k (k.wrap (a.tdiv b)))
  | .rem => if b = 0 then none else some (.int k (a.tmod b))
  | .and => some (.int k (k.wrap (BitVec.ofInt k.bits a &&& BitVec.ofInt k.bits b).toNat))
  | .or => some (.int k (k.wrap (BitVec.ofInt k.bits a ||| BitVec.ofInt k.bits b).toNat))
  | .xor => some (.int k (k.wrap (BitVec.ofInt k.bits a ^^^ BitVec.ofInt k.bits b).toNat))
  | .eql => some (.bool (a == b))
  | .neq => some (.bool (a != b))
  | .lss => some (.bool (a < b))
  | .leq => some (.bool (a ≤ b))
  | .gtr => some (.bool (a > b))
  | .geq => some (.bool (a ≥ b))
  | _ => none
def strBin (op : BinOp) (a b : ByteArray) : Option SV :=
  match op with
  | .add => if a.size + b.size ≤ 9223372036854775807 then some (.str (a ++ b)) else none
  | .eql => some (.bool (a.toList == b.toList))
  | .neq => some (.bool !(a.toList == b.toList))
  | .lss => some (.bool (Op.bytesLess a.toList b.toList))
  | .leq => some (.bool (Op.bytesLess a.toList b.toList || a.toList == b.toList))
  | .gtr => some (.bool !(Op.bytesLess a.toList b.toList || a.toList == b.toList))
  | .geq => some (.bool !(Op.bytesLess a.toList b.toList))
  | _ => none
def isNil : SV → Option Bool
  | .nilp | .nilf | .nilm | .nils => some true
  | .ptr .. | .iptr _ | .fn .. | .map _ | .sl .. => some false
  | .imm _ (_ :: _) _ => some false
  | _ => none
def binS (isB isP : Bool) (op : BinOp) (x y : SV) : Option SV :=
  match op, x, y with
  | .shl, .int k a, .int _ b => if 0 ≤ b then some (.int k (k.wrap (a * 2 ^ (min b.toNat k.bits)))) else none
  | .shr, .int k a, .int _ b => if 0 ≤ b then some (.int k (a.fdiv (2 ^ (min b.toNat k.bits)))) else none
  | op, .int k a, .int k' b => if k = k' then intBin op k a b else none
  | op, .str a, .str b => strBin op a b
  | .eql, .bool a, .bool b => if isB then some (.bool (a == b)) else none
  | .neq, .bool a, .bool b => if isB then some (.bool !(a == b)) else none
  | .eql, x, .nilp => if isP then match x with | .nilp => some (.bool true) | .ptr .. | .iptr _ => some (.bool false) | _ => none else none
  | .neq, x, .nilp => if isP then match x with | .nilp => some (.bool false) | .ptr .. | .iptr _ => some (.bool true) | _ => none else none
  | _, _, _ => none
def keyEq : SV → SV → Option Bool
  | .int k a, .int k' b => if k = k' then some (a == b) else none
  | .str a, .str b => some (a == b)
  | .bool a, .bool b => some (a == b)
  | _, _ => none
def keyOk (P : Program) (t : TypeId) : SV → Bool
  | .int _ _ => (tint P t).isSome
  | .str _ => tstring P t
  | .bool _ => tbool P t
  | _ => false
def findS (k : SV) : List (SV × SV) → Nat → Option (Option (Nat × SV))
  | [], _ => some none
  | e :: es, i =>
    match keyEq k e.1 with
    | some true => some (some (i, e.2))
    | some false => findS k es (i + 1)
    | none => none
def mapOf (h : Hp) : SV → Option (List (SV × SV))
  | .nilm => some []
  | .map o => match h o with | some (.map es) => some es | _ => none
  | _ => none
def setAt (es : List (SV × SV)) (i : Nat) (k v : SV) : List (SV × SV) := es.modify i fun _ => (k, v)
def flat (h : Hp) : SV → Option (List SV)
  | .imm _ es _ => some (es.flatMap SV.cells)
  | .sl o off z len _ =>
    match h o with
    | some (.cells cs _) => takeN cs off (len * z)
    | _ => none
  | _ => none
def lenS : SV → Option Nat
  | .imm _ es _ => some es.length
  | .sl _ _ _ len _ => some len
  | .str s => some s.size
  | .nils => some 0
  | _ => none
def zOk (z : Nat) : SV → Bool
  | .imm z' es _ => es.isEmpty || z' == z
  | .sl _ _ z' _ _ => z' == z
  | .nils => true
  | _ => false
def rowT (t : TypeId) : Option TypeId := if t = 378 ∨ t = 5 ∨ t = 121 then some t else none
def tyOf : Option SObj → Option TypeId
  | some (.cells _ ty) => ty
  | _ => none
def tyApp (h : Hp) (e : TypeId) (o off : Nat) : Option TypeId := match rowT e with | none => none | some t => if off = 0 ∧ tyOf (h o) = some t then some t else none
def nilsC : SV → SV
  | .imm 0 [] true => .nils
  | v => v
def newC (e : TypeId) (cs : List SV) : List SV := match rowT e with | none => cs | some _ => if e ≠ 5 ∧ cs.length = 2 then cs.map nilsC else cs
def roomy (n bytes : Nat) : Bool := n ≤ 1073741824 && bytes ≤ 65536
def appendS (P : Program) (h : Hp) (n : Nat) (t : TypeId) (s x : SV) : Option Out :=
  match tslice P t with
  | none => none
  | some e =>
    let z := tsz P e
    match lenS x, flat h x with
    | some m, some ys =>
      if !(zOk z s && zOk z x && z != 0 && (tzero P e).storable && (tzero P e).cells.length == z) then none else
      if m = 0 then yes s else
      match s with
      | .imm _ es true =>
        if roomy (es.length + m) (tbytes P e) then some { val := .sl n 0 z (es.length + m) false, new := some (.cells (es.flatMap SV.cells ++ ys) (rowT e)) } else none
      | .nils => if roomy m (tbytes P e) then some { val := .sl n 0 z m false, new := some (.cells ys (rowT e)) } else none
      | .sl o off z' len full =>
        match flat h (.sl o off z' len full) with
        | some xs =>
          if roomy (len + m) (tbytes P e) then
            some { val := .sl n 0 z (len + m) false, upd := if full then none else some (o, none), new := some (.cells (xs ++ ys) (tyApp h e o off)) } else none
        | none => none
      | _ => none
    | _, _ => none
def bytesC (s : ByteArray) : List SV := s.data.toList.map fun b => .int .u8 b.toNat
def appC (P : Program) (h : Hp) (n : Nat) (e : TypeId) (s : SV) (m : Nat) (ys : List SV) : Option Out :=
  if m = 0 then yes s else
  match s with
  | .imm _ es true =>
    if roomy (es.length + m) (tbytes P e) then some { val := .sl n 0 (tsz P e) (es.length + m) false, new := some (.cells (es.flatMap SV.cells ++ ys) (rowT e)) } else none
  | .nils => if roomy m (tbytes P e) then some { val := .sl n 0 (tsz P e) m false, new := some (.cells ys (rowT e)) } else none
  | .sl o off z' len full =>
    match flat h (.sl o off z' len full) with
    | some xs =>
      if roomy (len + m) (tbytes P e) then
        some { val := .sl n 0 (tsz P e) (len + m) false, upd := if full then none else some (o, none), new := some (.cells (xs ++ ys) (tyApp h e o off)) } else none
    | none => none
  | _ => none
def appendStr (P : Program) (h : Hp) (n : Nat) (t : TypeId) (s x : SV) : Option Out :=
  match tslice P t, x with
  | some e, .str b => if !(zOk (tsz P e) s && tsz P e == 1 && (tzero P e).storable && (tzero P e).cells.length == tsz P e) then none else appC P h n e s b.size (bytesC b)
  | _, _ => none
def appendMake (P : Program) (n : Nat) (t t2 : TypeId) (s x : SV) : Option Out :=
  match tslice P t, P.underlying t2, s, x with
  | some e, some (.int _), .imm _ [] true, .int .i64 m =>
    if (0 < m ∧ m ≤ 1073741824) ∧ tsz P e ≠ 0 ∧ tbytes P e ≤ 65536 ∧ (tzero P e).storable = true ∧ (tzero P e).cells.length = tsz P e then
      some { val := .sl n 0 (tsz P e) m.toNat false, new := some (.cells (List.replicate m.toNat (tzero P e).cells).flatten) }
    else none
  | _, _, _, _ => none
def copyS (P : Program) (h : Hp) (t : TypeId) (d x : SV) : Option Out :=
  match tslice P t, lenS d, lenS x, flat h x with
  | some e, some dl, some m, some ys =>
    let z := tsz P e
    if !(zOk z d && zOk z x && z != 0) then none else
    let c := Nat.min m dl
    if c = 0 then yes (.int .i64 0) else
    match d with
    | .sl o off _ _ _ =>
      match h o with
      | some (.cells cs ty) =>
        match spliceN cs off (ys.take (c * z)) with
        | some cs' => some { val := .int .i64 c, upd := some (o, some (.cells cs' ty)) }
        | none => none
      | _ => none
    | _ => none
  | _, _, _, _ => none
def clearS (P : Program) (h : Hp) (t : TypeId) (d : SV) : Option Out :=
  match tslice P t, lenS d with
  | some e, some dl =>
    if !(zOk (tsz P e) d && tsz P e != 0 && (tzero P e).storable && (tzero P e).cells.length == tsz P e) then none else
    if dl = 0 then yes (.tup []) else
    match d with
    | .sl o off _ _ _ =>
      match h o with
      | some (.cells cs ty) =>
        match spliceN cs off (List.replicate dl (tzero P e).cells).flatten with
        | some cs' => some { val := .tup [], upd := some (o, some (.cells cs' ty)) }
        | none => none
      | _ => none
    | _ => none
  | _, _ => none
def minS : List SV → Option SV
  | [.int k a, .int k' b] => if k = k' then some (.int k (if b < a then b else a)) else none
  | _ => none
def maxS : List SV → Option SV
  | [.int k a, .int k' b] => if k = k' then some (.int k (if b > a then b else a)) else none
  | _ => none
def builtinS (P : Program) (h : Hp) (n : Nat) (b : Builtin) (ts : List TypeId) (args : List SV) : Option Out :=
  match b, ts, args with
  | .len, [t], [x] =>
    match x with
    | .str s => if tstring P t then yes (.int .i64 s.size) else none
    | .imm _ es _ => if (tslice P t).isSome then yes (.int .i64 es.length) else none
    | .sl _ _ _ len _ => if (tslice P t).isSome then yes (.int .i64 len) else none
    | .map o => match h o with | some (.map es) => if (tmap P t).isSome then yes (.int .i64 es.length) else none | _ => none
    | .nils => if (tslice P t).isSome then yes (.int .i64 0) else none
    | _ => none
  | .cap, [t], [x] =>
    match x with
    | .imm _ es true => if (tslice P t).isSome then yes (.int .i64 es.length) else none
    | .sl _ _ _ len true => if (tslice P t).isSome then yes (.int .i64 len) else none
    | _ => none
  | .append, [t, t2], [s, x] => if (tslice P t2).isSome then appendS P h n t s x else if tstring P t2 then appendStr P h n t s x else appendMake P n t t2 s x
  | .copy, [t, _], [d, x] => copyS P h t d x
  | .clear, [t], [d] => clearS P h t d
  | .min, _, l => (minS l).bind yes
  | .max, _, l => (maxS l).bind yes
  | .delete, [t, _], [.map o, k] =>
    match tmap P t, h o with
    | some (kt, _), some (.map es) =>
      if !keyOk P kt k then none else
      match findS k es 0 with
      | some (some (i, _)) => some { val := .tup [], upd := some (o, some (.map (es.eraseIdx i))) }
      | some none => some { val := .tup [], upd := some (o, some (.map es)) }
      | none => none
    | _, _ => none
  | _, _, _ => none
def loadS (P : Program) (h : Hp) (t : TypeId) : SV → Option SV
  | .ptr o off =>
    match h o with
    | some (.cells cs _) => (takeN cs off (tsz P t)).bind (asm (tagg P t))
    | _ => none
  | .iptr cs => (takeN cs 0 (tsz P t)).bind (asm (tagg P t))
  | _ => none
def storeS (P : Program) (h : Hp) (t : TypeId) (a v : SV) : Option Out :=
  match a with
  | .ptr o off =>
    match h o with
    | some (.cells cs ty) =>
      if v.storable && v.cells.length == tsz P t && tsz P t != 0 then
        match spliceN cs off v.cells with
        | some cs' => some { val := .tup [], upd := some (o, some (.cells cs' ty)) }
        | none => none
      else none
    | _ => none
  | _ => none
def fieldPtr (P : Program) (t : TypeId) (x : SV) (i : Nat) : Option SV :=
  match tfield P t i with
  | some (off, ft) =>
    if tsz P ft = 0 then none else
    match x with
    | .ptr o a => some (.ptr o (a + off))
    | .iptr cs => some (.iptr (cs.drop off))
    | _ => none
  | none => none
def indexPtr (P : Program) (t : TypeId) (x : SV) (i : Int) : Option SV :=
  match tslice P t with
  | some e =>
    let z := tsz P e
    if z = 0 then none else
    match x with
    | .sl o off z' len _ => if z' = z ∧ 0 ≤ i ∧ i < len then some (.ptr o (off + i.toNat * z)) else none
    | .imm z' es _ => if z' = z ∧ 0 ≤ i then (es[i.toNat]?).map fun v => .iptr v.cells else none
    | _ => none
  | none =>
    match tarray P t with
    | some (len, e) =>
      let z := tsz P e
      if 0 ≤ i ∧ i < len ∧ z ≠ 0 then
        match x with
        | .ptr o off => some (.ptr o (off + i.toNat * z))
        | .iptr cs => some (.iptr (cs.drop (i.toNat * z)))
        | _ => none
      else none
    | none => none
def bnd : Option SV → Option Int → Option Int
  | none, d => d
  | some (.int _ n), _ => some n
  | _, _ => none
def sliceS (P : Program) (t : TypeId) (x : SV) (lo hi mx : Option SV) : Option SV :=
  match x with
  | .str s =>
    if !tstring P t || mx.isSome then none else
    match bnd lo (some 0), bnd hi (some s.size) with
    | some l, some h => if 0 ≤ l ∧ l ≤ h ∧ h ≤ s.size then some (.str (s.extract l.toNat h.toNat)) else none
    | _, _ => none
  | .imm z es full =>
    if !((tslice P t).any fun e => tsz P e != 0 && (es.isEmpty || tsz P e == z)) then none else
    match bnd lo (some 0), bnd hi (some es.length) with
    | some l, some h =>
      if 0 ≤ l ∧ l ≤ h ∧ h ≤ es.length then
        match mx with
        | none => some (.imm z ((es.take h.toNat).drop l.toNat) (full && h == es.length))
        | some (.int _ m) => if hi.isSome && h ≤ m && m ≤ es.length then some (.imm z ((es.take h.toNat).drop l.toNat) (m == h)) else none
        | _ => none
      else none
    | _, _ => none
  | .sl o off z len full =>
    if !((tslice P t).any fun e => tsz P e != 0 && tsz P e == z) then none else
    match bnd lo (some 0), bnd hi (some len) with
    | some l, some h =>
      if 0 ≤ l ∧ l ≤ h ∧ h ≤ len then
        match mx with
        | none => if l = h ∧ l ≠ 0 then some (.imm z [] (full && h == len)) else some (.sl o (off + l.toNat * z) z (h - l).toNat (full && h == len))
        | some (.int _ m) =>
          if hi.isSome && h ≤ m && m ≤ len then
            if l = h ∧ l ≠ 0 then some (.imm z [] (m == h)) else some (.sl o (off + l.toNat * z) z (h - l).toNat (m == h))
          else none
        | _ => none
      else none
    | _, _ => none
  | _ => none
def sop (P : Program) (ev : Operand → SV) (h : Hp) (k : Nat) (op : Op) : Option Out :=
  match op with
  | .move x | .assign x => yes (ev x)
  | .pick c a b => match ev c with | .bool t => yes (if t then ev a else ev b) | _ => none
  | .alloc e => if (tzero P e).storable && (tzero P e).cells.length == tsz P e then some { val := .ptr k 0, new := some (.cells (newC e (tzero P e).cells) (rowT e)) } else none
  | .box e x => if (ev x).storable then some { val := .ptr k 0, new := some (.cells (ev x).cells (rowT e)) } else none
  | .build t ps =>
    match tzero P t, tplaces P t with
    | .agg z, some pl => (fillS (pl[·]?) z (ps.toList.map fun p => (p.1, ev p.2))).bind fun cs => yes (.agg cs)
    | _, _ => none
  | .buildSlice t len ps =>
    match tslice P t with
    | some e =>
      if (len * tsz P e ≠ 0 ∧ len * tsz P e ≤ 1048576) ∧ (tzero P e).storable = true ∧ (tzero P e).cells.length = tsz P e then
        (fillS (fun i => some (i * tsz P e, tsz P e)) (List.replicate len (tzero P e).cells).flatten (ps.toList.map fun p => (p.1, ev p.2))).bind fun cs =>
          some { val := .sl k 0 (tsz P e) len true, new := some (.cells cs) }
      else none
    | none => none
  | .load t a => (loadS P h t (ev a)).bind yes
  | .store t a x => storeS P h t (ev a) (ev x)
  | .nilCheck x => match ev x with | .ptr o a => yes (.ptr o a) | .iptr cs => yes (.iptr cs) | _ => none
  | .binOp op t x y _ => (binS (tbool P t) (tptr P t) op (ev x) (ev y)).bind yes
  | .unOp op _ x =>
    match op, ev x with
    | .not, .bool b => yes (.bool !b)
    | .neg, .int i n => yes (.int i (i.wrap (0 - n)))
    | _, _ => none
  | .convert src dst x => match tint P src, tint P dst, ev x with | some _, some i, .int _ n => yes (.int i (i.wrap n)) | _, _, _ => none
  | .makeFunc f a b => yes (.fn f (a.toList.map ev) (b.toList.map ev))
  | .makeMap t r => if r.isNone && (tmap P t).isSome then some { val := .map k, new := some (.map []) } else none
  | .makeSlice t l c =>
    match tslice P t, ev l, ev c with
    | some e, .int .i64 n, .int .i64 m =>
      if 0 ≤ n ∧ n = m ∧ roomy n.toNat (tbytes P e) = true ∧ (tzero P e).storable = true ∧ (tzero P e).cells.length = tsz P e ∧ tsz P e ≠ 0 then
        some { val := .sl k 0 (tsz P e) n.toNat true, new := some (.cells (List.replicate n.toNat (tzero P e).cells).flatten) }
      else none
    | _, _, _ => none
  | .slice t x lo hi mx => (sliceS P t (ev x) (lo.map ev) (hi.map ev) (mx.map ev)).bind yes
  | .fieldAddr t x i => (fieldPtr P t (ev x) i).bind yes
  | .field t x i =>
    match tfield P t i, ev x with
    | some (off, ft), .agg cs => ((takeN cs off (tsz P ft)).bind (asm (tagg P ft))).bind yes
    | _, _ => none
  | .indexAddr t x i => match ev i with | .int _ n => (indexPtr P t (ev x) n).bind yes | _ => none
  | .index t x i =>
    match ev x, ev i with
    | .str s, .int _ n => if tstring P t = true ∧ 0 ≤ n then (s[n.toNat]?).bind fun b => yes (.int .u8 b.toNat) else none
    | .agg cs, .int _ n =>
      match tarray P t with
      | some (len, e) => if 0 ≤ n ∧ n < len then ((takeN cs (n.toNat * tsz P e) (tsz P e)).bind (asm (tagg P e))).bind yes else none
      | none => none
    | _, _ => none
  | .lookup t m x ok =>
    match tmap P t with
    | some (kt, e) =>
      if !keyOk P kt (ev x) || !(tzero P e).storable then none else
      match mapOf h (ev m) with
      | some es =>
        match findS (ev x) es 0 with
        | some r =>
          let (v, b) := match r with | some (_, v) => (v, true) | none => (tzero P e, false)
          yes (if ok then .tup [v, .bool b] else v)
        | none => none
      | none => none
    | none => none
  | .mapUpdate t m y x =>
    match tmap P t, ev m with
    | some (kt, _), .map o =>
      if !keyOk P kt (ev y) then none else
      match h o with
      | some (.map es) =>
        if (ev x).storable then
          match findS (ev y) es 0 with
          | some (some (i, _)) => some { val := .tup [], upd := some (o, some (.map (setAt es i (ev y) (ev x)))) }
          | some none => some { val := .tup [], upd := some (o, some (.map (es ++ [(ev y, ev x)]))) }
          | none => none
        else none
      | _ => none
    | _, _ => none
  | .insert t m y x =>
    match tmap P t, ev m with
    | some (kt, _), .map o =>
      if !keyOk P kt (ev y) then none else
      match h o with
      | some (.map es) =>
        if (ev x).storable then
          match findS (ev y) es 0 with
          | some (some (i, _)) => some { val := .tup [], upd := some (o, some (.map (setAt es i (ev y) (ev x)))) }
          | some none => some { val := .tup [], upd := some (o, some (.map (es ++ [(ev y, ev x)]))) }
          | none => none
        else none
      | _ => none
    | _, _ => none
  | .extract x i => match ev x with | .tup vs => (vs[i]?).bind yes | _ => none
  | .call { callee := .builtin b, args, argTypes } => builtinS P h k b argTypes.toList (args.toList.map ev)
  | _ => none
def footS (ev : Operand → SV) : Op → List Nat
  | .load _ a => (ev a).ids
  | .store _ a _ => (ev a).ids
  | .lookup _ m _ _ => (ev m).ids
  | .mapUpdate _ m _ _ => (ev m).ids
  | .insert _ m _ _ => (ev m).ids
  | .call { callee := .builtin b, args, .. } => args.toList.flatMap fun x => match b, ev x with | .len, .sl .. => [] | _, v => v.ids
  | _ => []
def All2 {α β : Type} (R : α → β → Prop) : List α → List β → Prop
  | [], [] => True
  | a :: aS, b :: bs => R a b ∧ All2 R aS bs
  | _, _ => False
section all2
variable {α β : Type} {R : α → β → Prop}
theorem All2.length : ∀ {aS : List α} {bs : List β}, All2 R aS bs → aS.length = bs.length
  | [], [], _ => rfl
  | _ :: _, _ :: _, h => by simp [All2.length h.2]
  | [], _ :: _, h => h.elim
  | _ :: _, [], h => h.elim
theorem All2.get : ∀ {aS : List α} {bs : List β} {i : Nat} {a : α}, All2 R aS bs → aS[i]? = some a → ∃ b, bs[i]? = some b ∧ R a b
  | a :: _, b :: _, 0, _, h, e => by simp at e; subst e; exact ⟨b, rfl, h.1⟩
  | _ :: _, _ :: _, i + 1, _, h, e => by simp at e; simpa using All2.get h.2 e
  | [], _, _, _, _, e => by simp at e
  | _ :: _, [], _, _, h, _ => h.elim
theorem All2.append : ∀ {aS as' : List α} {bs bs' : List β}, All2 R aS bs → All2 R as' bs' → All2 R (aS ++ as') (bs ++ bs')
  | [], _, [], _, _, h' => h'
  | _ :: _, _, _ :: _, _, h, h' => ⟨h.1, All2.append h.2 h'⟩
  | [], _, _ :: _, _, h, _ => h.elim
  | _ :: _, _, [], _, h, _ => h.elim
theorem All2.take : ∀ {aS : List α} {bs : List β} (n : Nat), All2 R aS bs → All2 R (aS.take n) (bs.take n)
  | _, _, 0, _ => by simp [All2]
  | [], [], _ + 1, _ => by simp [All2]
  | _ :: _, _ :: _, n + 1, h => ⟨h.1, All2.take n h.2⟩
  | [], _ :: _, _ + 1, h => h.elim
  | _ :: _, [], _ + 1, h => h.elim
theorem All2.drop : ∀ {aS : List α} {bs : List β} (n : Nat), All2 R aS bs → All2 R (aS.drop n) (bs.drop n)
  | _, _, 0, h => by simpa using h
  | [], [], _ + 1, _ => by simp [All2]
  | _ :: _, _ :: _, n + 1, h => All2.drop n h.2
  | [], _ :: _, _ + 1, h => h.elim
  | _ :: _, [], _ + 1, h => h.elim
theorem All2.mono {R' : α → β → Prop} (h : ∀ a b, R a b → R' a b) : ∀ {aS : List α} {bs : List β}, All2 R aS bs → All2 R' aS bs
  | [], [], _ => trivial
  | _ :: _, _ :: _, g => ⟨h _ _ g.1, All2.mono h g.2⟩
  | [], _ :: _, g => g.elim
  | _ :: _, [], g => g.elim
theorem All2.nil_left {bs : List β} (h : All2 R [] bs) : bs = [] := by cases bs; rfl; exact h.elim
theorem All2.single {a : α} {bs : List β} (h : All2 R [a] bs) : ∃ b, bs = [b] ∧ R a b := by
  match bs, h with
  | [b], h => exact ⟨b, rfl, h.1⟩
  | [], h => exact h.elim
  | _ :: _ :: _, h => exact h.2.elim
theorem All2.modify (f : α → α) (g : β → β) (hfg : ∀ a b, R a b → R (f a) (g b)) :
    ∀ (i : Nat) {aS : List α} {bs : List β}, All2 R aS bs → All2 R (aS.modify i f) (bs.modify i g)
  | 0, a :: aS, b :: bs, h => by simpa [All2] using ⟨hfg _ _ h.1, h.2⟩
  | i + 1, a :: aS, b :: bs, h => by simpa [All2] using ⟨h.1, All2.modify (aS := aS) (bs := bs) f g hfg i h.2⟩
  | i, [], [], _ => by cases i <;> simp [All2]
  | _, [], _ :: _, h => h.elim
  | _, _ :: _, [], h => h.elim
theorem All2.eraseIdx : ∀ (i : Nat) {aS : List α} {bs : List β}, All2 R aS bs → All2 R (aS.eraseIdx i) (bs.eraseIdx i)
  | 0, _ :: _, _ :: _, h => by simpa using h.2
  | i + 1, _ :: _, _ :: _, h => by simpa [All2] using ⟨h.1, All2.eraseIdx i h.2⟩
  | i, [], [], _ => by cases i <;> simp [All2]
  | _, [], _ :: _, h => h.elim
  | _, _ :: _, [], h => h.elim
theorem All2.replicate {a : α} {b : β} (h : R a b) : ∀ n, All2 R (List.replicate n a) (List.replicate n b)
  | 0 => trivial
  | n + 1 => by simpa [List.replicate_succ, All2] using ⟨h, All2.replicate h n⟩
theorem All2.flatten {γ δ : Type} {T : γ → δ → Prop} : ∀ {aS : List (List γ)} {bs : List (List δ)}, All2 (All2 T) aS bs → All2 T aS.flatten bs.flatten
  | [], [], _ => trivial
  | _ :: _, _ :: _, h => by simpa using All2.append h.1 (All2.flatten h.2)
  | [], _ :: _, h => h.elim
  | _ :: _, [], h => h.elim
theorem All2.map {γ δ : Type} {T : γ → δ → Prop} {f : α → γ} {g : β → δ} (hfg : ∀ a b, R a b → T (f a) (g b)) : ∀ {aS : List α} {bs : List β}, All2 R aS bs → All2 T (aS.map f) (bs.map g)
  | [], [], _ => trivial
  | _ :: _, _ :: _, h => ⟨hfg _ _ h.1, All2.map hfg h.2⟩
  | [], _ :: _, h => h.elim
  | _ :: _, [], h => h.elim
theorem All2.of_get {aS : List α} {bs : List β} (hl : aS.length = bs.length) (h : ∀ (i : Nat) (a : α) (b : β), aS[i]? = some a → bs[i]? = some b → R a b) : All2 R aS bs := by
  induction aS generalizing bs with
  | nil => cases bs; trivial; simp at hl
  | cons a aS ih =>
    cases bs with
    | nil => simp at hl
    | cons b bs => exact ⟨h 0 a b rfl rfl, ih (by simpa using hl) fun i a b ha hb => h (i + 1) a b (by simpa using ha) (by simpa using hb)⟩
end all2
def rm (w : World) (b : Nat) : Nat := match w.heap[b]? with | some (.cells c _ _) => c.size | _ => 0
structure Cx where
  ρ : Nat → Option (Nat × Nat)
  own : Nat → Prop
  w : World
  bk : Nat → Option Nat
structure Still (c : Cx) (a : Addr) (vs : List Value) : Prop where
  spot : vs ≠ [] → a.spot = none
  free : vs ≠ [] → ¬ c.own a.block
  cell : ∀ i x, vs[i]? = some x → c.w.cell? ⟨a.block, a.off + i, none⟩ = some x
  one : ∀ x ∈ vs, x.oneCell' = true
mutual
def V (c : Cx) : SV → Value → Prop
  | .bool b, v => v = .bool b
  | .int k n, v => v = .int k n
  | .str s, v => v = .string s
  | .nilp, v => v = .pointer none
  | .nilf, v => v = .nilFunc
  | .nilm, v => v = .map none
  | .agg cs, v => ∃ vs, v = .agg vs.toArray ∧ VL c cs vs ∧ ∀ x ∈ vs, x.oneCell' = true
  | .tup cs, v => ∃ vs, v = .tuple vs.toArray ∧ VL c cs vs
  | .fn f a b, v => ∃ xs ys, v = .func f xs.toArray ys.toArray ∧ VL c a xs ∧ VL c b ys
  | .ptr o off, v => ∃ b st, c.ρ o = some (b, st) ∧ v = .pointer (some ⟨b, st + off, none⟩)
  | .iptr cs, v => ∃ a vs, v = .pointer (some a) ∧ Still c a vs ∧ VL c cs vs ∧ a.spot = none
  | .sl o off z len full, v => ∃ b st cap, c.ρ o = some (b, st) ∧ v = .slice (some ⟨b, st + off, none⟩) len cap ∧ len ≤ cap ∧ (full = true → cap = len) ∧ st + off + cap * z ≤ rm c.w b
  | .imm z es full, v => (es = [] ∧ v = .slice none 0 0) ∨ ∃ a cap vs, v = .slice (some a) es.length cap ∧ es.length ≤ cap ∧ (full = true → cap = es.length) ∧ Still c a vs ∧ VE c z es vs
  | .map o, v => ∃ b, c.ρ o = some (b, 0) ∧ v = .map (some b)
  | .junk, _ => True
  | .slc o off z len cap, v => ∃ b st, c.ρ o = some (b, st) ∧ v = .slice (some ⟨b, st + off, none⟩) len cap ∧ len ≤ cap ∧ st + off + cap * z ≤ rm c.w b
  | .yl o, v => ∃ b, c.ρ o = some (b, 0) ∧ v = .func (.yield b) #[] #[]
  | .nils, v => v = .slice none 0 0
def VL (c : Cx) : List SV → List Value → Prop
  | [], vs => vs = []
  | s :: ss, vs => ∃ v r, vs = v :: r ∧ V c s v ∧ VL c ss r
def VE (c : Cx) (z : Nat) : List SV → List Value → Prop
  | [], vs => vs = []
  | e :: es, vs => ∃ u r, vs = u.cells.toList ++ r ∧ u.cells.size = z ∧ e.storable = true ∧ V c e u ∧ VE c z es r
end
theorem VE_len {c : Cx} {z : Nat} : ∀ {es : List SV} {vs : List Value}, VE c z es vs → vs.length = es.length * z
  | [], vs, h => by rw [VE] at h; simp [h]
  | e :: es, vs, h => by
    rw [VE] at h
    obtain ⟨u, r, rfl, hz, _, _, hr⟩ := h
    have := VE_len hr
    simp [this, hz, Nat.add_mul, Nat.add_comm]
theorem VL_iff {c : Cx} : ∀ {ss : List SV} {vs : List Value}, VL c ss vs ↔ All2 (V c) ss vs
  | [], vs => by cases vs <;> simp [VL, All2]
  | s :: ss, [] => by simp [VL, All2]
  | s :: ss, v :: vs => by
    rw [VL]
    constructor
    · rintro ⟨_, _, e, h1, h2⟩; simp at e; obtain ⟨rfl, rfl⟩ := e; exact ⟨h1, VL_iff.1 h2⟩
    · intro h; exact ⟨v, vs, rfl, h.1, VL_iff.2 h.2⟩
theorem VE_iff {c : Cx} {z : Nat} : ∀ {es : List SV} {vs : List Value}, VE c z es vs ↔
    ∃ us, All2 (V c) es us ∧ (∀ u ∈ us, u.cells.size = z) ∧ (∀ e ∈ es, e.storable = true) ∧ vs = us.flatMap (·.cells.toList)
  | [], vs => by
    rw [VE]
    constructor
    · rintro rfl; exact ⟨[], trivial, by simp, by simp, rfl⟩
    · rintro ⟨us, h, _, _, rfl⟩; rw [h.nil_left]; rfl
  | e :: es, vs => by
    rw [VE]
    constructor
    · rintro ⟨u, r, rfl, hz, hs, hv, hr⟩
      obtain ⟨us, h1, h2, h3, rfl⟩ := VE_iff.1 hr
      exact ⟨u :: us, ⟨hv, h1⟩, by simpa using ⟨hz, h2⟩, by simpa using ⟨hs, h3⟩, by simp⟩
    · rintro ⟨us, h, hz, hs, rfl⟩
      match us, h with
      | u :: us, h => exact ⟨u, _, by simp, hz u (by simp), hs e (by simp), h.1, VE_iff.2 ⟨us, h.2, fun x hx => hz x (by simp [hx]), fun x hx => hs x (by simp [hx]), rfl⟩⟩
      | [], h => exact h.elim
def Td (w w' : World) : Prop := w'.tape = w.tape ∧ w.drawn ≤ w'.drawn
theorem Td.trans {a b c : World} (h : Td a b) (g : Td b c) : Td a c := ⟨g.1.trans h.1, Nat.le_trans h.2 g.2⟩
structure Ext (c c' : Cx) : Prop where
  ρ : ∀ o p, c.ρ o = some p → c'.ρ o = some p
  size : c.w.heap.size ≤ c'.w.heap.size
  keep : ∀ b, b < c.w.heap.size → ¬ c.own b → ¬ c'.own b ∧ c'.w.heap[b]? = c.w.heap[b]?
  room : ∀ b, rm c.w b ≤ rm c'.w b
  os : c'.w.os = c.w.os
  out : c'.w.output = c.w.output
  td : Td c.w c'.w
theorem Ext.refl (c : Cx) : Ext c c := ⟨fun _ _ h => h, Nat.le_refl _, fun _ _ h => ⟨h, rfl⟩, fun _ => Nat.le_refl _, rfl, rfl, ⟨rfl, Nat.le_refl _⟩⟩
theorem Ext.trans {a b c : Cx} (h : Ext a b) (g : Ext b c) : Ext a c :=
  ⟨fun o p e => g.ρ o p (h.ρ o p e), Nat.le_trans h.size g.size,
   fun x hx ho => let ⟨h1, h2⟩ := h.keep x hx ho; let ⟨g1, g2⟩ := g.keep x (Nat.lt_of_lt_of_le hx h.size) h1; ⟨g1, g2.trans h2⟩,
   fun x => Nat.le_trans (h.room x) (g.room x), g.os.trans h.os, g.out.trans h.out, h.td.trans g.td⟩
structure Ext0 (c c' : Cx) : Prop where
  ρ : ∀ o p, c.ρ o = some p → c'.ρ o = some p
  keep : ∀ b, ¬ c.own b → (∃ ob, c.w.heap[b]? = some ob ∧ ∀ l, ob ≠ .deferred l) → ¬ c'.own b ∧ c'.w.heap[b]? = c.w.heap[b]?
  room : ∀ b, rm c.w b ≤ rm c'.w b
theorem Ext.to0 {c c' : Cx} (x : Ext c c') : Ext0 c c' := ⟨x.ρ, fun b ho ⟨_, hb, _⟩ => x.keep b (Array.getElem?_eq_some_iff.1 hb).1 ho, x.room⟩
theorem cells_of_cell? {w : World} {b i : Nat} {v : Value} (h : w.cell? ⟨b, i, none⟩ = some v) : ∃ ob, w.heap[b]? = some ob ∧ ∀ l, ob ≠ .deferred l := by
  unfold World.cell? at h
  cases hb : w.heap[b]? with
  | none => simp [hb] at h
  | some o => cases o <;> simp [hb] at h ⊢
theorem Still.mono0 {c c' : Cx} (x : Ext0 c c') {a : Addr} {vs : List Value} (h : Still c a vs) : Still c' a vs := by
  refine ⟨h.spot, fun hv => ?_, fun i u hi => ?_, h.one⟩
  · match vs, hv with
    | u :: us, hv =>
      have h0 := h.cell 0 u (by simp)
      exact (x.keep _ (h.free hv) (cells_of_cell? h0)).1
  · have h0 := h.cell i u hi
    have hv : vs ≠ [] := by rintro rfl; simp at hi
    have := (x.keep _ (h.free hv) (cells_of_cell? h0)).2
    unfold World.cell? at *
    rw [this]; exact h0
mutual
theorem V.mono0 {c c' : Cx} (x : Ext0 c c') : ∀ {s : SV} {v : Value}, V c s v → V c' s v
  | .bool _, _, h => h
  | .int _ _, _, h => h
  | .str _, _, h => h
  | .nilp, _, h => h
  | .nilf, _, h => h
  | .nilm, _, h => h
  | .nils, _, h => h
  | .junk, _, _ => trivial
  | .agg cs, v, h => by rw [V] at *; obtain ⟨vs, e, hl, ho⟩ := h; exact ⟨vs, e, VL.mono0 x hl, ho⟩
  | .tup cs, v, h => by rw [V] at *; obtain ⟨vs, e, hl⟩ := h; exact ⟨vs, e, VL.mono0 x hl⟩
  | .fn f a b, v, h => by rw [V] at *; obtain ⟨xs, ys, e, h1, h2⟩ := h; exact ⟨xs, ys, e, VL.mono0 x h1, VL.mono0 x h2⟩
  | .ptr o off, v, h => by rw [V] at *; obtain ⟨b, st, h1, h2⟩ := h; exact ⟨b, st, x.ρ _ _ h1, h2⟩
  | .iptr cs, v, h => by rw [V] at *; obtain ⟨a, vs, e, h1, h2, h3⟩ := h; exact ⟨a, vs, e, h1.mono0 x, VL.mono0 x h2, h3⟩
  | .sl o off z len full, v, h => by
    rw [V] at *; obtain ⟨b, st, cap, h1, h2, h3, h4, h5⟩ := h
    exact ⟨b, st, cap, x.ρ _ _ h1, h2, h3, h4, Nat.le_trans h5 (x.room b)⟩
  | .slc o off z len cap, v, h => by
    rw [V] at *; obtain ⟨b, st, h1, h2, h3, h5⟩ := h
    exact ⟨b, st, x.ρ _ _ h1, h2, h3, Nat.le_trans h5 (x.room b)⟩
  | .imm z es full, v, h => by
    rw [V] at *
    rcases h with h | ⟨a, cap, vs, e, h1, h2, h3, h4⟩
    · exact .inl h
    · exact .inr ⟨a, cap, vs, e, h1, h2, h3.mono0 x, VE.mono0 x h4⟩
  | .map o, v, h => by rw [V] at *; obtain ⟨b, h1, h2⟩ := h; exact ⟨b, x.ρ _ _ h1, h2⟩
  | .yl o, v, h => by rw [V] at *; obtain ⟨b, h1, h2⟩ := h; exact ⟨b, x.ρ _ _ h1, h2⟩
theorem VL.mono0 {c c' : Cx} (x : Ext0 c c') : ∀ {s : List SV} {v : List Value}, VL c s v → VL c' s v
  | [], _, h => by rw [VL] at *; exact h
  | s :: ss, v, h => by rw [VL] at *; obtain ⟨u, r, e, h1, h2⟩ := h; exact ⟨u, r, e, V.mono0 x h1, VL.mono0 x h2⟩
theorem VE.mono0 {c c' : Cx} (x : Ext0 c c') {z : Nat} : ∀ {s : List SV} {v : List Value}, VE c z s v → VE c' z s v
  | [], _, h => by rw [VE] at *; exact h
  | s :: ss, v, h => by rw [VE] at *; obtain ⟨u, r, e, hz, hs, h1, h2⟩ := h; exact ⟨u, r, e, hz, hs, V.mono0 x h1, VE.mono0 x h2⟩
end
theorem Still.mono {c c' : Cx} (x : Ext c c') {a : Addr} {vs : List Value} (h : Still c a vs) : Still c' a vs := h.mono0 x.to0
theorem V.mono {c c' : Cx} (x : Ext c c') {s : SV} {v : Value} (h : V c s v) : V c' s v := V.mono0 x.to0 h
theorem VL.mono {c c' : Cx} (x : Ext c c') {s : List SV} {v : List Value} (h : VL c s v) : VL c' s v := VL.mono0 x.to0 h
theorem V2.mono0 {c c' : Cx} (x : Ext0 c c') {s : List SV} {v : List Value} (h : All2 (V c) s v) : All2 (V c') s v := All2.mono (fun _ _ => V.mono0 x) h
theorem V2.mono {c c' : Cx} (x : Ext c c') {s : List SV} {v : List Value} (h : All2 (V c) s v) : All2 (V c') s v := All2.mono (fun _ _ => V.mono x) h
def Born (ents : List MapEntry) (clock : Nat) : Prop := (∀ x ∈ ents, x.born < clock) ∧ (ents.map (·.born)).Nodup
def Ty (ty : Option TypeId) (st : Nat) (e : TypeId) : Prop := ∀ t, ty = some t → st = 0 ∧ e = t
theorem Ty.none {st : Nat} {e : TypeId} : Ty Option.none st e := fun _ h => by cases h
theorem Ty.row {e : TypeId} : Ty (rowT e) 0 e := fun t h => ⟨rfl, by unfold rowT at h; split at h <;> cases h; rfl⟩
theorem tyApp_none {h : Hp} {e : TypeId} {o off : Nat} (H : rowT e = none) : tyApp h e o off = none := by unfold tyApp; rw [H]
theorem Ty.app {h : Hp} {e t : TypeId} {o off : Nat} (H : tyApp h e o off = some t) : off = 0 ∧ tyOf (h o) = some t ∧ e = t := by
  unfold tyApp at H
  split at H
  · cases H
  · rename_i t' ht
    split at H <;> cases H
    rename_i h1
    exact ⟨h1.1, h1.2, (Ty.row _ ht).2⟩
def ObjRel (c : Cx) (o : Nat) : SObj → Prop
  | .cells cs ty => ∃ b st arr e vs, c.ρ o = some (b, st) ∧ c.w.heap[b]? = some (.cells arr e (0, 0)) ∧ (∀ i x, vs[i]? = some x → arr[st + i]? = some x) ∧
      All2 (V c) cs vs ∧ (∀ x ∈ vs, x.oneCell' = true) ∧ Ty ty st e
  | .map es => ∃ b ents clock, c.ρ o = some (b, 0) ∧ c.w.heap[b]? = some (.map ents clock) ∧ All2 (fun (p : SV × SV) (e : MapEntry) => V c p.1 e.key ∧ V c p.2 e.val) es ents.toList ∧ Born ents.toList clock
  | .loop r => ∃ b, c.ρ o = some (b, 0) ∧ c.w.heap[b]? = some (.loop r)
  | .sit s pos => ∃ b, c.ρ o = some (b, 0) ∧ c.w.heap[b]? = some (.stringIter s pos)
  | .iter left last => ∃ b bm ents clock seen, c.ρ o = some (b, 0) ∧ c.w.heap[b]? = some (.mapIter (some bm) clock seen clock) ∧ c.w.heap[bm]? = some (.map ents clock) ∧ ¬ c.own bm ∧ Born ents.toList clock ∧
      All2 (fun (p : SV × SV) (e : MapEntry) => V c p.1 e.key ∧ V c p.2 e.val) left (ents.toList.filter fun e => !seen.contains e.born) ∧
      ∀ p, last = some p → ∃ e ∈ ents.toList, seen.back? = some e.born ∧ V c p.1 e.key ∧ V c p.2 e.val
  | .list z es => ∃ b st0 arr e v, c.ρ o = some (b, st0) ∧ c.w.heap[b]? = some (.cells arr e (0, 0)) ∧ arr[st0]? = some v ∧ v.oneCell' = true ∧
      ((es = [] ∧ c.bk o = none ∧ V c (.imm 0 [] true) v) ∨
       ∃ B st arr2 e2 vs cap, es ≠ [] ∧ B ≠ b ∧ c.bk o = some B ∧ c.w.heap[B]? = some (.cells arr2 e2 (0, 0)) ∧ v = .slice (some ⟨B, st, none⟩) es.length cap ∧ es.length ≤ cap ∧ st + cap * z ≤ arr2.size ∧
        (∀ i x, vs[i]? = some x → arr2[st + i]? = some x) ∧ All2 (V c) (es.flatMap SV.cells) vs ∧ ∀ x ∈ vs, x.oneCell' = true)
def hold (c : Cx) (o : Nat) (x : SObj) (b : Nat) : Prop := (∃ st, c.ρ o = some (b, st)) ∨ (x.lst = true ∧ c.bk o = some b)
structure Rel (h : Hp) (c : Cx) : Prop where
  obj : ∀ o x, h o = some x → ObjRel c o x
  inj2 : ∀ o o' x x' b, h o = some x → h o' = some x' → hold c o x b → hold c o' x' b → o = o'
  own2 : ∀ b, c.own b ↔ ∃ o x, h o = some x ∧ hold c o x b
theorem Rel.inj {h : Hp} {c : Cx} (R : Rel h c) : ∀ o o' x x' b st st', h o = some x → h o' = some x' → c.ρ o = some (b, st) → c.ρ o' = some (b, st') → o = o' :=
  fun o o' x x' b st st' e1 e2 e3 e4 => R.inj2 o o' x x' b e1 e2 (.inl ⟨st, e3⟩) (.inl ⟨st', e4⟩)
theorem Rel.ownI {h : Hp} {c : Cx} (R : Rel h c) {b : Nat} (H : ∃ o x st, h o = some x ∧ c.ρ o = some (b, st)) : c.own b :=
  let ⟨o, x, st, e1, e2⟩ := H; (R.own2 b).2 ⟨o, x, e1, .inl ⟨st, e2⟩⟩
theorem ObjRel.block {c : Cx} {o : Nat} {x : SObj} (h : ObjRel c o x) : ∃ b st, c.ρ o = some (b, st) ∧ b < c.w.heap.size := by
  cases x with
  | cells cs ty => obtain ⟨b, st, arr, e, vs, h1, h2, _⟩ := h; exact ⟨b, st, h1, (Array.getElem?_eq_some_iff.1 h2).1⟩
  | map es => obtain ⟨b, ents, clock, h1, h2, _⟩ := h; exact ⟨b, 0, h1, (Array.getElem?_eq_some_iff.1 h2).1⟩
  | loop r => obtain ⟨b, h1, h2⟩ := h; exact ⟨b, 0, h1, (Array.getElem?_eq_some_iff.1 h2).1⟩
  | sit s pos => obtain ⟨b, h1, h2⟩ := h; exact ⟨b, 0, h1, (Array.getElem?_eq_some_iff.1 h2).1⟩
  | iter left last => obtain ⟨b, bm, ents, clock, seen, h1, h2, _⟩ := h; exact ⟨b, 0, h1, (Array.getElem?_eq_some_iff.1 h2).1⟩
  | list z es => obtain ⟨b, st0, arr, e, v, h1, h2, _⟩ := h; exact ⟨b, st0, h1, (Array.getElem?_eq_some_iff.1 h2).1⟩
theorem ObjRel.hold_lt {c : Cx} {o : Nat} {x : SObj} (h : ObjRel c o x) {b : Nat} (hb : hold c o x b) : b < c.w.heap.size := by
  rcases hb with ⟨st, hb⟩ | ⟨hl, hb⟩
  · obtain ⟨b', st', h1, h2⟩ := h.block
    rw [hb] at h1; cases h1; exact h2
  · cases x with
    | list z es =>
      obtain ⟨b', st0, arr, e, v, h1, h2, h3, h4, ⟨_, h5, _⟩ | ⟨B, st, arr2, e2, vs, cap, _, _, h5, h6, _⟩⟩ := h
      · rw [hb] at h5; cases h5
      · rw [hb] at h5; cases h5; exact (Array.getElem?_eq_some_iff.1 h6).1
    | cells cs ty => cases hl
    | map es => cases hl
    | loop r => cases hl
    | sit s pos => cases hl
    | iter left last => cases hl
theorem ObjRel.mono0 {c c' : Cx} (x : Ext0 c c') {o : Nat} {y : SObj} (h : ObjRel c o y) (hold' : ∀ b, hold c o y b → c'.w.heap[b]? = c.w.heap[b]?) (hk : c'.bk o = c.bk o := by rfl) : ObjRel c' o y := by
  have hb : ∀ b st, c.ρ o = some (b, st) → c'.w.heap[b]? = c.w.heap[b]? := fun b st e => hold' b (.inl ⟨st, e⟩)
  cases y with
  | list z es =>
    obtain ⟨b, st0, arr, e, v, h1, h2, h3, h4, h5⟩ := h
    refine ⟨b, st0, arr, e, v, x.ρ _ _ h1, (hb b st0 h1).trans h2, h3, h4, ?_⟩
    rcases h5 with ⟨g1, g2, g3⟩ | ⟨B, st, arr2, e2, vs, cap, g1, gb, g2, g3, g4, g5, g6, g7, g8, g9⟩
    · exact .inl ⟨g1, hk.trans g2, V.mono0 x g3⟩
    · exact .inr ⟨B, st, arr2, e2, vs, cap, g1, gb, hk.trans g2, (hold' B (.inr ⟨rfl, g2⟩)).trans g3, g4, g5, g6, g7, V2.mono0 x g8, g9⟩
  | cells cs ty =>
    obtain ⟨b, st, arr, e, vs, h1, h2, h3, h4, h5⟩ := h
    exact ⟨b, st, arr, e, vs, x.ρ _ _ h1, (hb b st h1).trans h2, h3, V2.mono0 x h4, h5⟩
  | map es =>
    obtain ⟨b, ents, clock, h1, h2, h3, h4⟩ := h
    exact ⟨b, ents, clock, x.ρ _ _ h1, (hb b 0 h1).trans h2, All2.mono (fun _ _ g => ⟨V.mono0 x g.1, V.mono0 x g.2⟩) h3, h4⟩
  | iter left last =>
    obtain ⟨b, bm, ents, clock, seen, h1, h2, h3, h4, h5, h6, h7⟩ := h
    obtain ⟨k1, k2⟩ := x.keep bm h4 ⟨_, h3, by simp⟩
    exact ⟨b, bm, ents, clock, seen, x.ρ _ _ h1, (hb b 0 h1).trans h2, k2.trans h3, k1, h5, All2.mono (fun _ _ g => ⟨V.mono0 x g.1, V.mono0 x g.2⟩) h6, fun p e => let ⟨q, g1, g2, g3, g4⟩ := h7 p e; ⟨q, g1, g2, V.mono0 x g3, V.mono0 x g4⟩⟩
  | loop r =>
    obtain ⟨b, h1, h2⟩ := h
    exact ⟨b, x.ρ _ _ h1, (hb b 0 h1).trans h2⟩
  | sit s pos =>
    obtain ⟨b, h1, h2⟩ := h
    exact ⟨b, x.ρ _ _ h1, (hb b 0 h1).trans h2⟩
theorem ObjRel.mono {c c' : Cx} (x : Ext c c') {o : Nat} {y : SObj} (h : ObjRel c o y) (hb : ∀ b, hold c o y b → c'.w.heap[b]? = c.w.heap[b]?) (hk : c'.bk o = c.bk o := by rfl) : ObjRel c' o y := h.mono0 x.to0 hb hk
theorem V.cells {c : Cx} {s : SV} {v : Value} (h : V c s v) (hs : s.storable = true) : All2 (V c) s.cells v.cells.toList ∧ ∀ x ∈ v.cells.toList, x.oneCell' = true := by
  cases s <;> simp only [SV.storable] at hs <;> try cases hs
  case agg cs =>
    rw [V] at h; obtain ⟨vs, rfl, hl, ho⟩ := h
    simpa [SV.cells, Value.cells] using ⟨VL_iff.1 hl, ho⟩
  case imm z es full =>
    have h' := h
    rw [V] at h
    rcases h with ⟨_, rfl⟩ | ⟨a, cap, vs, rfl, _⟩ <;> simp [SV.cells, Value.cells, All2, Value.oneCell', h']
  all_goals
    have h' := h
    rw [V] at h
    try (repeat' (obtain ⟨_, h⟩ := h))
    try subst h
    try (obtain ⟨rfl, _⟩ := h)
    simp_all [SV.cells, Value.cells, All2, Value.oneCell']
theorem heap_alloc (w : World) (b : Obj) : (w.alloc b).heap = w.heap.push b := rfl
theorem V_ofScalar (c : Cx) (v : Value) : V c (ofScalar v) v := by
  unfold ofScalar
  split <;> simp [V]
theorem V_ofValue (c : Cx) (v : Value) : V c (ofValue v) v := by
  unfold ofValue
  split
  · rename_i cs
    split
    · rename_i hall
      rw [List.all_eq_true] at hall
      rw [V]
      refine ⟨cs.toList, by simp, VL_iff.2 ?_, hall⟩
      have := All2.map (R := Eq) (T := V c) (f := ofScalar) (g := id) (fun a b e => by subst e; exact V_ofScalar c a)
        (aS := cs.toList) (bs := cs.toList) (All2.of_get rfl fun i a b h1 h2 => by rw [h1] at h2; simpa using h2)
      simpa using this
    · simp [V]
  · exact V_ofScalar c _
theorem V_nilsC (c : Cx) (v : Value) : V c (nilsC (ofScalar v)) v := by
  have h := V_ofScalar c v
  unfold nilsC
  split
  · rename_i e
    unfold ofScalar at e
    split at e <;> cases e
    rw [V]
  · exact h
theorem V_nils (c : Cx) (z : Value) (h : All2 (V c) (ofValue z).cells z.cells.toList) : All2 (V c) ((ofValue z).cells.map nilsC) z.cells.toList := by
  cases z with
  | agg cs =>
    simp only [ofValue] at h ⊢
    split at h
    · rename_i hall
      rw [if_pos hall]
      simp only [SV.cells, List.map_map, Value.cells]
      have := All2.map (R := Eq) (T := V c) (f := nilsC ∘ ofScalar) (g := id) (fun a b e => by subst e; exact V_nilsC c a)
        (aS := cs.toList) (bs := cs.toList) (All2.of_get rfl fun i a b h1 h2 => by rw [h1] at h2; simpa using h2)
      simpa using this
    · rename_i hall
      rw [if_neg hall]
      exact h
  | _ =>
    have e : ∀ v : Value, (ofScalar v).cells = [ofScalar v] := fun v => by unfold ofScalar; split <;> rfl
    simp only [ofValue, e, List.map_cons, List.map_nil, Value.cells] at h ⊢
    exact ⟨V_nilsC c _, h.2⟩
def Good (P : Program) (ev : Operand → Value) (o : Oper) (h : Hp) (k : Nat) (c : Cx) (out : Out) : Prop :=
  ∃ u c', ((execOp ev o).run P c.w = .ok (.value u) c'.w ∨ (u = undef ∧ (execOp ev o).run P c.w = .ok .skip c'.w)) ∧
    V c' out.val u ∧ Rel (out.app h k) c' ∧ Ext c c' ∧ (∀ j, out.new.isNone = true ∨ j ≠ k → c'.ρ j = c.ρ j)
section
variable {P : Program} {ev : Operand → Value} {o : Oper} {h : Hp} {k : Nat} {c : Cx}
theorem good_same {v : SV} (R : Rel h c) (u : Value) (hr : (execOp ev o).run P c.w = .ok (.value u) c.w) (hv : V c v u) : Good P ev o h k c { val := v } :=
  ⟨u, c, .inl hr, hv, R, Ext.refl c, fun _ _ => rfl⟩
theorem vbool {b : Bool} {v : Value} (h : V c (.bool b) v) : v = .bool b := by simpa [V] using h
theorem vint {i : IntKind} {n : Int} {v : Value} (h : V c (.int i n) v) : v = .int i n := by simpa [V] using h
theorem vstr {s : ByteArray} {v : Value} (h : V c (.str s) v) : v = .string s := by simpa [V] using h
def Cx.alloc (c : Cx) (k : Nat) (b : Obj) : Cx :=
  { ρ := fun j => if j = k then some (c.w.heap.size, 0) else c.ρ j, own := fun x => c.own x ∨ x = c.w.heap.size, w := c.w.alloc b, bk := c.bk }
theorem Cx.alloc_ext (c : Cx) (k : Nat) (b : Obj) (hk : c.ρ k = none) : Ext c (c.alloc k b) := by
  refine ⟨fun j p e => ?_, by simp [Cx.alloc], fun x hx ho => ⟨?_, ?_⟩, fun x => ?_, rfl, rfl, ⟨rfl, Nat.le_refl _⟩⟩
  · simp only [Cx.alloc]
    split
    · subst_vars; rw [hk] at e; cases e
    · exact e
  · simp only [Cx.alloc]; rintro (h | h)
    · exact ho h
    · omega
  · simp [Cx.alloc, heap_alloc, Array.getElem?_push, Nat.ne_of_lt hx]
  · unfold rm
    rcases Nat.lt_or_ge x c.w.heap.size with hx | hx
    · simp [Cx.alloc, heap_alloc, Array.getElem?_push, Nat.ne_of_lt hx]
    · simp [Array.getElem?_eq_none hx]
theorem Rel.none_of {h : Hp} {c : Cx} (R : Rel h c) {k : Nat} (hk : c.ρ k = none) : h k = none := by
  cases e : h k with
  | none => rfl
  | some x => obtain ⟨b, st, h1, _⟩ := (R.obj k x e).block; rw [hk] at h1; cases h1
theorem Rel.alloc {h : Hp} {c : Cx} (R : Rel h c) {k : Nat} (hk : c.ρ k = none) {x : SObj} {b : Obj} (hx : ObjRel (c.alloc k b) k x) (hx2 : x.lst = false := by rfl) :
    Rel (hset h k (some x)) (c.alloc k b) := by
  have hn := R.none_of hk
  have E := c.alloc_ext k b hk
  have old : ∀ j y b', h j = some y → hold c j y b' → b' < c.w.heap.size := fun j y b' e e' => (R.obj j y e).hold_lt e'
  have hne : ∀ j y b', j ≠ k → hold (c.alloc k b) j y b' → hold c j y b' := fun j y b' hj H => by
    simp only [hold, Cx.alloc, hj, if_false] at H; exact H
  have hat : ∀ b', hold (c.alloc k b) k x b' → b' = c.w.heap.size := fun b' H => by
    rcases H with ⟨st, H⟩ | ⟨H, _⟩
    · simp only [Cx.alloc, if_true] at H; cases H; rfl
    · rw [hx2] at H; cases H
  have get : ∀ j y, hset h k (some x) j = some y → (j = k ∧ y = x) ∨ (j ≠ k ∧ h j = some y) := fun j y e => by
    simp only [hset] at e
    split at e
    · cases e; exact .inl ⟨by assumption, rfl⟩
    · exact .inr ⟨by assumption, e⟩
  refine ⟨fun j y e => ?_, fun i j y y' b' e1 e2 e3 e4 => ?_, fun b' => ?_⟩
  · rcases get j y e with ⟨rfl, rfl⟩ | ⟨hj, e⟩
    · exact hx
    · refine (R.obj j y e).mono E fun b' e' => ?_
      have := old j y b' e e'
      simp [Cx.alloc, heap_alloc, Array.getElem?_push, Nat.ne_of_lt this]
  · rcases get i y e1 with ⟨rfl, rfl⟩ | ⟨hi, f1⟩
    · rcases get j y' e2 with ⟨rfl, rfl⟩ | ⟨hj, f2⟩
      · rfl
      · have h1 := hat _ e3
        have h2 := old j y' b' f2 (hne j y' b' hj e4)
        omega
    · rcases get j y' e2 with ⟨rfl, rfl⟩ | ⟨hj, f2⟩
      · have h1 := hat _ e4
        have h2 := old i y b' f1 (hne i y b' hi e3)
        omega
      · exact R.inj2 i j y y' b' f1 f2 (hne i y b' hi e3) (hne j y' b' hj e4)
  · constructor
    · rintro (h' | h')
      · obtain ⟨j, y, e1, e2⟩ := (R.own2 b').1 h'
        have hj : j ≠ k := by rintro rfl; rw [hn] at e1; cases e1
        exact ⟨j, y, by simp [hset, hj, e1], by simpa [hold, Cx.alloc, hj] using e2⟩
      · exact ⟨k, x, by simp [hset], .inl ⟨0, by simp [Cx.alloc, h']⟩⟩
    · rintro ⟨j, y, e1, e2⟩
      rcases get j y e1 with ⟨rfl, rfl⟩ | ⟨hj, e1⟩
      · exact .inr (hat _ e2)
      · exact .inl ((R.own2 b').2 ⟨j, y, e1, hne j y b' hj e2⟩)
theorem good_new {cs : List SV} {ty : Option TypeId} {vs : Array Value} {e : TypeId} {v : SV} {u : Value} (R : Rel h c) (hk : c.ρ k = none)
    (hr : (execOp ev o).run P c.w = .ok (.value u) (c.w.alloc (.cells vs e)))
    (hc : All2 (V c) cs vs.toList) (h1 : ∀ x ∈ vs.toList, x.oneCell' = true)
    (hv : ∀ c' : Cx, c'.ρ k = some (c.w.heap.size, 0) → rm c'.w c.w.heap.size = vs.size → V c' v u)
    (hty : Ty ty 0 e := by exact Ty.none) : Good P ev o h k c { val := v, new := some (.cells cs ty) } := by
  have E := c.alloc_ext k (.cells vs e) hk
  refine ⟨u, c.alloc k (.cells vs e), .inl hr, hv _ (by simp [Cx.alloc]) (by simp [rm, Cx.alloc, heap_alloc]), R.alloc hk ?_, E, fun j hj => ?_⟩
  · refine ⟨c.w.heap.size, 0, vs, e, vs.toList, by simp [Cx.alloc], by simp [Cx.alloc, heap_alloc], fun i x hx => by simpa using hx, V2.mono E hc, h1, hty⟩
  · simp at hj; simp [Cx.alloc, hj]
theorem run_zeroValue' {t : TypeId} {w : World} {i : TypeInfo} {z : Value} (hi : P.info? t = some i) (hz : i.zero = some z) : (zeroValue t).run P w = .ok z w := by
  simp [zeroValue, typeInfo, hi, hz]
theorem run_underlying' {t : TypeId} {w : World} {d : TypeDesc} (hu : P.underlying t = some d) : (underlying t).run P w = .ok d w := by
  simp [underlying, hu]
theorem info_of_underlying {t : TypeId} {d : TypeDesc} (hu : P.underlying t = some d) : ∃ i, P.info? t = some i := by
  cases hi : P.info? t with
  | none => simp [Program.underlying, hi] at hu
  | some i => exact ⟨i, rfl⟩
theorem tzero_storable {t : TypeId} (hs : (tzero P t).storable = true) : ∃ i z, P.info? t = some i ∧ i.zero = some z ∧ tzero P t = ofValue z := by
  cases hi : P.info? t with
  | none => simp [tzero, hi, SV.storable] at hs
  | some i =>
    cases hz : i.zero with
    | none =>
      exfalso
      unfold tzero at hs
      rw [hi] at hs
      obtain ⟨a1, a2, a3, a4, a5, a6, a7, a8, a9, a10⟩ := i
      simp at hz; subst hz
      simp [SV.storable] at hs
    | some z =>
      refine ⟨i, z, rfl, hz, ?_⟩
      unfold tzero
      rw [hi]
      obtain ⟨a1, a2, a3, a4, a5, a6, a7, a8, a9, a10⟩ := i
      simp at hz; subst hz
      rfl
theorem sop_alloc {e : TypeId} {out : Out} {evs : Operand → SV} (ho : o.op = .alloc e) (hs : sop P evs h k o.op = some out) (R : Rel h c) (hk : c.ρ k = none) : Good P ev o h k c out := by
  rw [ho] at hs
  simp only [sop] at hs
  split at hs <;> try cases hs
  rename_i hcond
  simp at hcond
  obtain ⟨i, z, hi, hz, hzz⟩ := tzero_storable hcond.1
  have hcs := V.cells (c := c) (V_ofValue c z) (by rw [← hzz]; exact hcond.1)
  rw [← hzz] at hcs
  have hcs1 : All2 (V c) (newC e (tzero P e).cells) z.cells.toList := by
    unfold newC
    split
    · exact hcs.1
    · split
      · rw [hzz]
        rw [hzz] at hcs
        exact V_nils c z hcs.1
      · exact hcs.1
  refine good_new (vs := z.cells) (e := e) (u := .pointer (some ⟨c.w.heap.size, 0, none⟩)) R hk ?_ hcs1 hcs.2 (fun c' h1 _ => by rw [V]; exact ⟨_, 0, h1, rfl⟩) Ty.row
  simp [execOp, ho, Instr.alloc, run_zeroValue' hi hz, newVar, newRow]
theorem sop_box {e : TypeId} {x : Operand} {out : Out} {evs : Operand → SV} (ho : o.op = .box e x) (hs : sop P evs h k o.op = some out) (R : Rel h c) (hk : c.ρ k = none)
    (H : ∀ x ∈ o.op.operands, V c (evs x) (ev x)) : Good P ev o h k c out := by
  rw [ho] at hs H
  simp only [sop] at hs
  split at hs <;> try cases hs
  rename_i hcond
  have hcs := V.cells (H x (by simp [Op.operands])) hcond
  refine good_new (vs := (ev x).cells) (e := e) (u := .pointer (some ⟨c.w.heap.size, 0, none⟩)) R hk ?_ hcs.1 hcs.2 (fun c' h1 _ => by rw [V]; exact ⟨_, 0, h1, rfl⟩) Ty.row
  simp [execOp, ho, Instr.box, newVar, newRow]
theorem sop_move {x : Operand} {out : Out} {evs : Operand → SV} (ho : o.op = .move x ∨ o.op = .assign x) (hs : sop P evs h k o.op = some out) (R : Rel h c)
    (H : ∀ x ∈ o.op.operands, V c (evs x) (ev x)) : Good P ev o h k c out := by
  rcases ho with ho | ho <;>
  · rw [ho] at hs H
    simp only [sop, yes, Option.some.injEq] at hs
    subst hs
    exact good_same R (ev x) (by simp [execOp, ho]) (H x (by simp [Op.operands]))
theorem sop_pick {x a b : Operand} {out : Out} {evs : Operand → SV} (ho : o.op = .pick x a b) (hs : sop P evs h k o.op = some out) (R : Rel h c)
    (H : ∀ x ∈ o.op.operands, V c (evs x) (ev x)) : Good P ev o h k c out := by
  rw [ho] at hs H
  simp only [sop] at hs
  split at hs <;> try cases hs
  rename_i t ht
  have hx := H x (by simp [Op.operands])
  rw [ht] at hx
  have hx' := vbool hx
  cases t
  · exact good_same R (ev b) (by simp [execOp, ho, hx', asBool]) (by simpa using H b (by simp [Op.operands]))
  · exact good_same R (ev a) (by simp [execOp, ho, hx', asBool]) (by simpa using H a (by simp [Op.operands]))
theorem fold_splice (off : Nat) : ∀ (xs : List Value) (k : Nat) (cs : Array Value), off + k + xs.length ≤ cs.size →
    ((xs.zipIdx k).foldl (fun cs (p : Value × Nat) => cs.setIfInBounds (off + p.2) p.1) cs).toList = cs.toList.take (off + k) ++ xs ++ cs.toList.drop (off + k + xs.length)
  | [], k, cs, _ => by simp
  | x :: xs, k, cs, hl => by
    simp only [List.length_cons] at hl
    rw [List.zipIdx_cons, List.foldl_cons, fold_splice off xs (k + 1) _ (by simp; omega)]
    have := list_seg_step cs.toList (off + k) x xs (by simp; omega)
    simp only [List.length_cons, Array.toList_setIfInBounds] at *
    rw [show off + (k + 1) = off + k + 1 by omega]
    exact this
theorem fill_step (off : Nat) (v : Value) (cs : Array Value) (hl : off + v.cells.size ≤ cs.size) :
    (v.cells.zipIdx.foldl (fun cs (c, j) => cs.setIfInBounds (off + j) c) cs).toList = cs.toList.take off ++ v.cells.toList ++ cs.toList.drop (off + v.cells.size) := by
  have := fold_splice off v.cells.toList 0 cs (by simpa using hl)
  rw [← Array.foldl_toList]
  simpa using this
theorem spliceN_some {cs xs r : List SV} {off : Nat} (h : spliceN cs off xs = some r) : off + xs.length ≤ cs.length ∧ r = cs.take off ++ xs ++ cs.drop (off + xs.length) := by
  unfold spliceN at h
  split at h
  · rename_i hl; cases h; exact ⟨hl, rfl⟩
  · cases h
theorem splice_rel {cs xs : List SV} {vs us : List Value} (off : Nat) (h : All2 (V c) cs vs) (g : All2 (V c) xs us) :
    All2 (V c) (cs.take off ++ xs ++ cs.drop (off + xs.length)) (vs.take off ++ us ++ vs.drop (off + us.length)) := by
  rw [g.length]
  exact All2.append (All2.append (h.take off) g) (h.drop _)
theorem splice_one {vs us : List Value} (off n : Nat) (h : ∀ x ∈ vs, x.oneCell' = true) (g : ∀ x ∈ us, x.oneCell' = true) : ∀ x ∈ vs.take off ++ us ++ vs.drop n, x.oneCell' = true := by
  intro x hx
  simp only [List.mem_append] at hx
  rcases hx with (hx | hx) | hx
  · exact h x (List.mem_of_mem_take hx)
  · exact g x hx
  · exact h x (List.mem_of_mem_drop hx)
theorem fill_rel {place place' : Nat → Option (Nat × Nat)} (hp : ∀ i p, place i = some p → place' i = some p) :
    ∀ (ps : List (Nat × SV)) (qs : List (Nat × Value)) (zs : List SV) (cells : Array Value) (cs : List SV), All2 (fun p q => p.1 = q.1 ∧ V c p.2 q.2) ps qs → All2 (V c) zs cells.toList →
      (∀ x ∈ cells.toList, x.oneCell' = true) → fillS place zs ps = some cs → ∃ r, Instr.fill place' cells qs = some r ∧ All2 (V c) cs r.toList ∧ ∀ x ∈ r.toList, x.oneCell' = true
  | [], qs, zs, cells, cs, hq, hz, h1, hf => by
    rw [hq.nil_left]
    simp only [fillS, Option.some.injEq] at hf
    subst hf
    exact ⟨cells, rfl, hz, h1⟩
  | (i, s) :: ps, [], _, _, _, hq, _, _, _ => hq.elim
  | (i, s) :: ps, (j, v) :: qs, zs, cells, cs, hq, hz, h1, hf => by
    obtain ⟨⟨rfl, hv⟩, hq⟩ := hq
    simp only [fillS] at hf
    cases hpl : place i with
    | none => simp [hpl] at hf
    | some p =>
      obtain ⟨off, size⟩ := p
      simp only [hpl] at hf
      split at hf
      · rename_i hs
        simp only [Bool.and_eq_true, beq_iff_eq] at hs
        cases hsp : spliceN zs off s.cells with
        | none => simp [hsp] at hf
        | some zs' =>
          simp only [hsp] at hf
          obtain ⟨hle, rfl⟩ := spliceN_some hsp
          obtain ⟨hc1, hc2⟩ := hv.cells hs.1
          have hlen := hc1.length
          have hzl := hz.length
          have hsz : v.cells.size = size := by simp only [Array.length_toList] at hlen; omega
          have hst := fill_step off v cells (by simp only [Array.length_toList] at hlen hzl; omega)
          obtain ⟨r, hr1, hr2, hr3⟩ := fill_rel hp ps qs _ (v.cells.zipIdx.foldl (fun cs (c, j) => cs.setIfInBounds (off + j) c) cells) cs hq
            (by rw [hst]; have := splice_rel off hz hc1; simpa using this) (by rw [hst]; exact splice_one off _ h1 hc2) hf
          refine ⟨r, ?_, hr2, hr3⟩
          simp only [Instr.fill, hp i _ hpl]
          have hn : off + v.cells.size ≤ cells.size := by simp only [Array.length_toList] at hlen hzl; omega
          rw [if_neg (by simp [hsz]; omega)]
          exact hr1
      · cases hf
theorem fill_size {place : Nat → Option (Nat × Nat)} : ∀ {qs : List (Nat × Value)} {cells r : Array Value}, Instr.fill place cells qs = some r → r.size = cells.size
  | [], cells, r, h => by simp only [Instr.fill, Option.some.injEq] at h; rw [h]
  | (i, v) :: qs, cells, r, h => by
    simp only [Instr.fill] at h
    split at h
    · cases h
    · split at h
      · cases h
      · rename_i off size heq hc
        rw [fill_size h]
        have hl : off + v.cells.size ≤ cells.size := by simp at hc; omega
        have := congrArg List.length (fill_step off v cells hl)
        simp only [Array.length_toList, List.length_append, List.length_take, List.length_drop] at this
        rw [this]; omega
theorem parts_rel {evs : Operand → SV} (ps : Array (Nat × Operand)) (H : ∀ p ∈ ps.toList, V c (evs p.2) (ev p.2)) :
    All2 (fun (p : Nat × SV) (q : Nat × Value) => p.1 = q.1 ∧ V c p.2 q.2) (ps.toList.map fun p => (p.1, evs p.2)) (ps.map fun (i, x) => (i, ev x)).toList := by
  simp only [Array.toList_map]
  refine All2.of_get (by simp) fun i a b h1 h2 => ?_
  simp only [List.getElem?_map, Option.map_eq_some_iff] at h1 h2
  obtain ⟨p, hp, rfl⟩ := h1
  obtain ⟨q, hq, rfl⟩ := h2
  rw [hp] at hq; cases hq
  exact ⟨rfl, H p (List.mem_of_getElem? hp)⟩
theorem ops_build {t : TypeId} {ps : Array (Nat × Operand)} {p : Nat × Operand} (h : p ∈ ps.toList) : p.2 ∈ (Op.build t ps).operands := by
  simp [Op.operands]; exact ⟨p.1, by simpa using h⟩
theorem ops_buildSlice {t : TypeId} {l : Nat} {ps : Array (Nat × Operand)} {p : Nat × Operand} (h : p ∈ ps.toList) : p.2 ∈ (Op.buildSlice t l ps).operands := by
  simp [Op.operands]; exact ⟨p.1, by simpa using h⟩
theorem sop_build {t : TypeId} {ps : Array (Nat × Operand)} {out : Out} {evs : Operand → SV} (ho : o.op = .build t ps) (hs : sop P evs h k o.op = some out) (R : Rel h c)
    (H : ∀ x ∈ o.op.operands, V c (evs x) (ev x)) : Good P ev o h k c out := by
  rw [ho] at hs H
  simp only [sop] at hs
  cases hz : tzero P t <;> simp only [hz] at hs <;> try cases hs
  rename_i zs
  cases hpl : tplaces P t with
  | none => simp [hpl] at hs
  | some pl =>
    simp only [hpl] at hs
    cases hf : fillS (pl[·]?) zs (ps.toList.map fun p => (p.1, evs p.2)) with
    | none => simp [hf] at hs
    | some cs =>
      simp only [hf, yes, Option.bind_some, Option.some.injEq] at hs
      subst hs
      obtain ⟨i, z, hi, hzz, hze⟩ := tzero_storable (P := P) (t := t) (by rw [hz]; rfl)
      have hvz := V_ofValue c z
      rw [← hze, hz] at hvz
      have hcs := hvz.cells rfl
      unfold tplaces at hpl
      rw [hi] at hpl
      obtain ⟨place', hp', hb⟩ : ∃ place' : Nat → Option (Nat × Nat), (∀ i p, pl[i]? = some p → place' i = some p) ∧
          ∀ q : List (Nat × Value), P.built t q = Instr.fill place' z.cells q := by
        cases hu : P.underlying t with
        | none => simp [hu] at hpl
        | some d =>
          cases d <;> simp only [hu] at hpl <;> try cases hpl
          case array n e =>
            cases hie : P.info? e with
            | none => simp [hie] at hpl
            | some ie =>
              simp only [hie, Option.map_some, Option.some.injEq] at hpl
              subst hpl
              refine ⟨fun i => some (i * ie.size, ie.size), fun i p hp => ?_, fun q => by simp [Program.built, hi, hu, hzz, hie]⟩
              simp only [List.getElem?_map, Option.map_eq_some_iff] at hp
              obtain ⟨a, ha, rfl⟩ := hp
              obtain ⟨hi', rfl⟩ := List.getElem?_eq_some_iff.1 ha
              simp
          case struct fs =>
            exact ⟨(pl.toArray[·]?), fun i p hp => by simpa using hp, fun q => by simp [Program.built, hi, hu, hzz, hpl]⟩
      obtain ⟨r, hr1, hr2, hr3⟩ := fill_rel (c := c) hp' _ _ zs z.cells cs (parts_rel ps fun p hp => H p.2 (ops_build hp)) (by simpa [SV.cells] using hcs.1) hcs.2 hf
      refine good_same R (.agg r) ?_ (by rw [V]; exact ⟨r.toList, by simp, VL_iff.2 hr2, hr3⟩)
      have hrun := run_build (P := P) c.w t (ps.map fun (i, x) => (i, ev x)) r (by rw [hb]; exact hr1)
      simp [execOp, ho, hrun]
end
section
variable {P : Program} {ev : Operand → Value} {o : Oper} {h : Hp} {k : Nat} {c : Cx}
theorem takeN_some {cs r : List SV} {off n : Nat} (e : takeN cs off n = some r) : off + n ≤ cs.length ∧ r = (cs.drop off).take n := by
  unfold takeN at e
  split at e
  · rename_i hl; cases e; exact ⟨hl, rfl⟩
  · cases e
theorem addr_add (b off n : Nat) : (⟨b, off, none⟩ : Addr).add n = ⟨b, off + n, none⟩ := by
  unfold Addr.add; split <;> simp_all
theorem addr_add' {a : Addr} (hs : a.spot = none) (n : Nat) : a.add n = ⟨a.block, a.off + n, none⟩ := by
  obtain ⟨b, off, s⟩ := a; simp at hs; subst hs; exact addr_add b off n
theorem run_isAgg' {t : TypeId} {b : Bool} (ht : tagg P t = some b) (w : World) : (isAgg t).run P w = .ok b w := by
  unfold tagg at ht
  cases hu : P.underlying t with
  | none => simp [hu] at ht
  | some d => cases d <;> simp [hu] at ht <;> simp [isAgg, run_underlying' hu, ht]
theorem tsz_info {t : TypeId} {b : Bool} (ht : tagg P t = some b) : ∃ i, P.info? t = some i ∧ tsz P t = i.size := by
  unfold tagg at ht
  cases hu : P.underlying t with
  | none => simp [hu] at ht
  | some d => obtain ⟨i, hi⟩ := info_of_underlying hu; exact ⟨i, hi, by simp [tsz, Program.cellsOf, hi]⟩
theorem asm_rel {ag : Option Bool} {cs : List SV} {us : List Value} {v : SV} (e : asm ag cs = some v) (hc : All2 (V c) cs us) (h1 : ∀ x ∈ us, x.oneCell' = true) :
    (ag = some true ∧ V c v (.agg us.toArray)) ∨ (ag = some false ∧ ∃ u, us = [u] ∧ V c v u) := by
  cases ag with
  | none => simp [asm] at e
  | some b =>
    cases b with
    | true =>
      simp only [asm, Option.some.injEq] at e
      subst e
      exact .inl ⟨rfl, by rw [V]; exact ⟨us, rfl, VL_iff.2 hc, h1⟩⟩
    | false =>
      simp only [asm] at e
      match cs, e, hc with
      | [x], e, hc =>
        simp at e; subst e
        obtain ⟨u, rfl, hv⟩ := hc.single
        exact .inr ⟨rfl, u, rfl, hv⟩
      | [], e, _ => simp at e
      | _ :: _ :: _, e, _ => simp at e
theorem run_loadVar' {t : TypeId} {w : World} {a : Addr} {us : List Value} {ag : Bool} (ha : a.spot = none) (ht : tagg P t = some ag) (hl : us.length = tsz P t)
    (hcell : ∀ i x, us[i]? = some x → w.cell? ⟨a.block, a.off + i, none⟩ = some x) :
    (ag = true → (loadVar t a).run P w = .ok (.agg us.toArray) w) ∧ (ag = false → ∀ u, us = [u] → (loadVar t a).run P w = .ok u w) := by
  obtain ⟨i, hi, hsz⟩ := tsz_info ht
  refine ⟨fun e => ?_, fun e u hu => ?_⟩
  · subst e
    have hr := run_loadCells_list (P := P) w a us (fun j v hv => by rw [addr_add' ha]; exact hcell j v hv)
    rw [hl, hsz] at hr
    simp [loadVar, run_isAgg' ht, sizeOf, typeInfo, hi, hr]
  · subst e; subst hu
    have h0 := hcell 0 u rfl
    have ha' : (⟨a.block, a.off + 0, none⟩ : Addr) = a := by obtain ⟨b, off, s⟩ := a; simp at ha; subst ha; rfl
    rw [ha'] at h0
    simp [loadVar, run_isAgg' ht, h0]
theorem ObjRel.cell {o : Nat} {cs : List SV} {ty : Option TypeId} (H : ObjRel c o (.cells cs ty)) : ∃ b st vs, c.ρ o = some (b, st) ∧ All2 (V c) cs vs ∧ (∀ x ∈ vs, x.oneCell' = true) ∧
    ∀ i x, vs[i]? = some x → c.w.cell? ⟨b, st + i, none⟩ = some x := by
  obtain ⟨b, st, arr, e, vs, h1, h2, h3, h4, h5, _⟩ := H
  exact ⟨b, st, vs, h1, h4, h5, fun i x hx => by simp [World.cell?, h2, h3 i x hx]⟩
theorem loadS_rel {t : TypeId} {s v : SV} {u : Value} (R : Rel h c) (hs : loadS P h t s = some v) (hv : V c s u) :
    ∃ a r, u = .pointer (some a) ∧ (loadVar t a).run P c.w = .ok r c.w ∧ V c v r := by
  unfold loadS at hs
  split at hs
  · rename_i o off
    split at hs
    · rename_i cs ty ho
      rw [V] at hv
      obtain ⟨b, st, hρ, rfl⟩ := hv
      obtain ⟨b', st', vs, hρ', hc, h1, hcell⟩ := (R.obj _ _ ho).cell
      rw [hρ] at hρ'; cases hρ'
      cases ht : takeN cs off (tsz P t) with
      | none => simp [ht] at hs
      | some r =>
        simp only [ht, Option.bind_some] at hs
        obtain ⟨hle, rfl⟩ := takeN_some ht
        have hc' := (hc.drop off).take (tsz P t)
        have h1' : ∀ x ∈ (vs.drop off).take (tsz P t), x.oneCell' = true := fun x hx => h1 x (List.mem_of_mem_drop (List.mem_of_mem_take hx))
        have hlen : ((vs.drop off).take (tsz P t)).length = tsz P t := by have := hc.length; simp; omega
        have hcell' : ∀ i x, ((vs.drop off).take (tsz P t))[i]? = some x → c.w.cell? ⟨b, st + off + i, none⟩ = some x := fun i x hx => by
          rw [List.getElem?_take] at hx
          split at hx
          · rw [List.getElem?_drop] at hx; rw [Nat.add_assoc]; exact hcell _ _ hx
          · cases hx
        rcases asm_rel hs hc' h1' with ⟨hag, hv⟩ | ⟨hag, x, hx, hv⟩
        · exact ⟨_, _, rfl, (run_loadVar' (a := ⟨b, st + off, none⟩) rfl hag hlen hcell').1 rfl, hv⟩
        · exact ⟨_, _, rfl, (run_loadVar' (a := ⟨b, st + off, none⟩) rfl hag hlen hcell').2 rfl x hx, hv⟩
    · cases hs
  · rename_i cs
    rw [V] at hv
    obtain ⟨a, vs, rfl, hst, hc, hsp⟩ := hv
    rw [VL_iff] at hc
    cases ht : takeN cs 0 (tsz P t) with
    | none => simp [ht] at hs
    | some r =>
      simp only [ht, Option.bind_some] at hs
      obtain ⟨hle, rfl⟩ := takeN_some ht
      simp only [List.drop_zero] at hs
      have hc' := hc.take (tsz P t)
      have h1' : ∀ x ∈ vs.take (tsz P t), x.oneCell' = true := fun x hx => hst.one x (List.mem_of_mem_take hx)
      have hlen : (vs.take (tsz P t)).length = tsz P t := by have := hc.length; simp; omega
      have hcell' : ∀ i x, (vs.take (tsz P t))[i]? = some x → c.w.cell? ⟨a.block, a.off + i, none⟩ = some x := fun i x hx => by
        rw [List.getElem?_take] at hx
        split at hx
        · exact hst.cell _ _ hx
        · cases hx
      rcases asm_rel hs hc' h1' with ⟨hag, hv⟩ | ⟨hag, x, hx, hv⟩
      · exact ⟨_, _, rfl, (run_loadVar' hsp hag hlen hcell').1 rfl, hv⟩
      · exact ⟨_, _, rfl, (run_loadVar' hsp hag hlen hcell').2 rfl x hx, hv⟩
  · cases hs
theorem sop_load {t : TypeId} {x : Operand} {out : Out} {evs : Operand → SV} (ho : o.op = .load t x) (hs : sop P evs h k o.op = some out) (R : Rel h c)
    (H : ∀ x ∈ o.op.operands, V c (evs x) (ev x)) : Good P ev o h k c out := by
  rw [ho] at hs H
  simp only [sop] at hs
  cases hl : loadS P h t (evs x) with
  | none => simp [hl] at hs
  | some v =>
    simp only [hl, yes, Option.bind_some, Option.some.injEq] at hs
    subst hs
    obtain ⟨a, r, hu, hr, hv⟩ := loadS_rel R hl (H x (by simp [Op.operands]))
    exact good_same R r (by simp [execOp, ho, hu, Instr.loadAt, Instr.sureAddr, hr]) hv
theorem setRow_other (w : World) (g : Nat) (cs : Array Value) {b : Nat} (hb : b ≠ g) : (w.setRow g cs).heap[b]? = w.heap[b]? := by
  simp [World.setRow, Array.getElem?_modify, Ne.symm hb]
theorem setRow_size (w : World) (g : Nat) (cs : Array Value) : (w.setRow g cs).heap.size = w.heap.size := by simp [World.setRow]
theorem Rel.write {w' : World} {o b st : Nat} {x y : SObj} (R : Rel h c) (ho : h o = some x) (hρ : c.ρ o = some (b, st))
    (hsize : w'.heap.size = c.w.heap.size) (hother : ∀ b', b' ≠ b → w'.heap[b']? = c.w.heap[b']?) (hroom : rm c.w b ≤ rm w' b) (hos : w'.os = c.w.os) (hout : w'.output = c.w.output)
    (hy : Ext c { c with w := w' } → ObjRel { c with w := w' } o y) (hx2 : x.lst = false := by rfl) (hy2 : y.lst = false := by rfl) (htd : Td c.w w' := by exact ⟨rfl, Nat.le_refl _⟩) : Rel (hset h o (some y)) { c with w := w' } ∧ Ext c { c with w := w' } := by
  have E : Ext c { c with w := w' } := by
    refine ⟨fun _ _ e => e, by simp [hsize], fun b' hb' hn => ⟨hn, ?_⟩, fun b' => ?_, hos, hout, htd⟩
    · refine hother b' ?_
      rintro rfl
      exact hn (R.ownI ⟨o, x, st, ho, hρ⟩)
    · by_cases e : b' = b
      · subst e; exact hroom
      · simp [rm, hother b' e]
  have hz : ∀ z : SObj, z.lst = false → ∀ b', hold c o z b' → b' = b := fun z hz b' H => by
    rcases H with ⟨st', H⟩ | ⟨H, _⟩
    · rw [hρ] at H; cases H; rfl
    · rw [hz] at H; cases H
  have live : ∀ j z, hset h o (some y) j = some z → ∃ z0, h j = some z0 ∧ ∀ b', hold { c with w := w' } j z b' → hold c j z0 b' := fun j z e => by
    simp only [hset] at e
    split at e
    · subst_vars; cases e; exact ⟨x, ho, fun b' H => by rw [hz y hy2 b' H]; exact .inl ⟨st, hρ⟩⟩
    · exact ⟨z, e, fun b' H => H⟩
  refine ⟨⟨fun j z e => ?_, fun i j z z' b1 e1 e2 e3 e4 => ?_, fun b' => ?_⟩, E⟩
  · simp only [hset] at e
    split at e
    · subst_vars; cases e; exact hy E
    · rename_i hj
      refine (R.obj j z e).mono E fun b2 e' => hother b2 ?_
      rintro rfl
      exact hj (R.inj2 j o z x b2 e ho e' (.inl ⟨st, hρ⟩))
  · obtain ⟨z0, g1, k1⟩ := live i z e1
    obtain ⟨z1, g2, k2⟩ := live j z' e2
    exact R.inj2 i j z0 z1 b1 g1 g2 (k1 _ e3) (k2 _ e4)
  · rw [R.own2 b']
    constructor
    · rintro ⟨j, z, e1, e2⟩
      by_cases hj : j = o
      · subst hj
        rw [ho] at e1; cases e1
        exact ⟨j, y, by simp [hset], by rw [hz x hx2 b' e2]; exact .inl ⟨st, hρ⟩⟩
      · exact ⟨j, z, by simp [hset, hj, e1], e2⟩
    · rintro ⟨j, z, e1, e2⟩
      obtain ⟨z0, g1, k1⟩ := live j z e1
      exact ⟨j, z0, g1, k1 _ e2⟩
theorem splice_get {A vs us : List Value} {st off : Nat} (hA : ∀ (i : Nat) (x : Value), vs[i]? = some x → A[st + i]? = some x) (hle : off + us.length ≤ vs.length) (hne : us.length ≠ 0) :
    st + off + us.length ≤ A.length ∧ ∀ (i : Nat) (x : Value), (vs.take off ++ us ++ vs.drop (off + us.length))[i]? = some x → (A.take (st + off) ++ us ++ A.drop (st + off + us.length))[st + i]? = some x := by
  have hlast := hA (vs.length - 1) vs[vs.length - 1] (by simp)
  have hlen := (List.getElem?_eq_some_iff.1 hlast).1
  refine ⟨by omega, fun i x hx => ?_⟩
  have e1 : (A.take (st + off)).length = st + off := by simp; omega
  have e2 : (vs.take off).length = off := by simp; omega
  simp only [List.append_assoc] at hx ⊢
  by_cases h1 : i < off
  · rw [List.getElem?_append_left (by omega)] at hx ⊢
    rw [List.getElem?_take, if_pos (by omega)] at hx ⊢
    exact hA i x hx
  · rw [List.getElem?_append_right (by omega)] at hx ⊢
    rw [e1, e2] at *
    by_cases h2 : i - off < us.length
    · rw [List.getElem?_append_left (by omega)] at hx ⊢
      rw [show st + i - (st + off) = i - off by omega]; exact hx
    · rw [List.getElem?_append_right (by omega)] at hx ⊢
      rw [List.getElem?_drop] at hx ⊢
      have := hA _ _ hx
      rw [← this]; congr 1; omega
theorem obj_write {o off : Nat} {cs xs : List SV} {ty : Option TypeId} {us : List Value} {b st : Nat} (R : Rel h c) (ho : h o = some (.cells cs ty)) (hρ : c.ρ o = some (b, st))
    (hle : off + xs.length ≤ cs.length) (hne : xs.length ≠ 0) (hx : All2 (V c) xs us) (h1 : ∀ x ∈ us, x.oneCell' = true) :
    ∃ w', (storeCells ⟨b, st + off, none⟩ us).run P c.w = .ok () w' ∧ Rel (hset h o (some (.cells (cs.take off ++ xs ++ cs.drop (off + xs.length)) ty))) { c with w := w' } ∧ Ext c { c with w := w' } := by
  obtain ⟨b', st', arr, e, vs, g1, g2, g3, g4, g5, g6⟩ := R.obj _ _ ho
  rw [hρ] at g1; cases g1
  have hl := hx.length
  have hl2 := g4.length
  obtain ⟨s1, s2⟩ := splice_get (A := arr.toList) (st := st) (off := off) (us := us) (fun i x hx => by simpa using g3 i x hx) (by omega) (by omega)
  have hrun := run_storeCells_at (P := P) b (st + off) e us 0 arr c.w g2 (by simpa using s1) h1
  simp only [Nat.add_zero] at hrun
  refine ⟨_, hrun, ?_⟩
  have hnew := setRow_heap c.w b arr (arr.toList.take (st + off) ++ us ++ arr.toList.drop (st + off + us.length)).toArray e (0, 0) g2
  refine R.write ho hρ (setRow_size _ _ _) (fun b' hb' => setRow_other _ _ _ hb') ?_ rfl rfl (fun E => ?_)
  · simp only [rm, g2, hnew]; simp at s1 ⊢; omega
  · refine ⟨b, st, _, e, vs.take off ++ us ++ vs.drop (off + us.length), hρ, hnew, fun i x hx => by simpa using s2 i x hx, ?_, splice_one _ _ g5 h1, g6⟩
    exact V2.mono E (splice_rel off g4 hx)
theorem sop_store {t : TypeId} {x y : Operand} {out : Out} {evs : Operand → SV} (ho : o.op = .store t x y) (hs : sop P evs h k o.op = some out) (R : Rel h c)
    (H : ∀ x ∈ o.op.operands, V c (evs x) (ev x)) : Good P ev o h k c out := by
  rw [ho] at hs H
  simp only [sop, storeS] at hs
  have hx := H x (by simp [Op.operands])
  have hy := H y (by simp [Op.operands])
  split at hs <;> try cases hs
  rename_i j off hj
  split at hs <;> try cases hs
  rename_i cs ty hobj
  split at hs <;> try cases hs
  rename_i hcond
  simp only [Bool.and_eq_true, beq_iff_eq, bne_iff_ne, ne_eq] at hcond
  cases hsp : spliceN cs off (evs y).cells with
  | none => simp [hsp] at hs
  | some cs' =>
    simp only [hsp, Option.some.injEq] at hs
    subst hs
    obtain ⟨hle, rfl⟩ := spliceN_some hsp
    rw [hj, V] at hx
    obtain ⟨b, st, hρ, hxx⟩ := hx
    obtain ⟨hc1, hc2⟩ := hy.cells hcond.1.1
    obtain ⟨w', hrun, R', E⟩ := obj_write (P := P) R hobj hρ hle (by omega) hc1 hc2
    obtain ⟨i, hi⟩ : ∃ i, P.info? t = some i := by
      cases hi : P.info? t with
      | none => have := hcond.2; simp [tsz, Program.cellsOf, hi] at this
      | some i => exact ⟨i, rfl⟩
    have hsz : (ev y).cells.size = i.size := by
      have := hc1.length; have h2 := hcond.1.2; simp [tsz, Program.cellsOf, hi] at h2; simp at this; omega
    refine ⟨undef, { c with w := w' }, .inr ⟨rfl, ?_⟩, by simp [V, undef, VL], R', E, fun _ _ => rfl⟩
    simp [execOp, ho, hxx, Instr.storeAt, Instr.sureAddr, storeVar, sizeOf, typeInfo, hi, hsz, hrun]
theorem sop_nilCheck {x : Operand} {out : Out} {evs : Operand → SV} (ho : o.op = .nilCheck x) (hs : sop P evs h k o.op = some out) (R : Rel h c)
    (H : ∀ x ∈ o.op.operands, V c (evs x) (ev x)) : Good P ev o h k c out := by
  rw [ho] at hs H
  simp only [sop] at hs
  have hx := H x (by simp [Op.operands])
  split at hs <;> try cases hs
  · rename_i j off hj
    rw [hj] at hx
    have hx' := hx
    rw [V] at hx
    obtain ⟨b, st, hρ, hxx⟩ := hx
    exact good_same R (ev x) (by simp [execOp, ho, hxx]) hx'
  · rename_i cs hj
    rw [hj] at hx
    have hx' := hx
    rw [V] at hx
    obtain ⟨a, vs, hxx, _⟩ := hx
    exact good_same R (ev x) (by simp [execOp, ho, hxx]) hx'
theorem sop_fieldAddr {t : TypeId} {x : Operand} {i : Nat} {out : Out} {evs : Operand → SV} (ho : o.op = .fieldAddr t x i) (hs : sop P evs h k o.op = some out) (R : Rel h c)
    (H : ∀ x ∈ o.op.operands, V c (evs x) (ev x)) : Good P ev o h k c out := by
  rw [ho] at hs H
  simp only [sop, fieldPtr] at hs
  have hx := H x (by simp [Op.operands])
  cases hf : tfield P t i with
  | none => simp [hf] at hs
  | some q =>
    obtain ⟨off, ft⟩ := q
    simp only [hf] at hs
    by_cases hz : tsz P ft = 0
    · simp [hz] at hs
    · simp only [hz, if_false] at hs
      obtain ⟨fs, f, hu, hfi, rfl, rfl⟩ : ∃ fs f, P.underlying t = some (.struct fs) ∧ fs[i]? = some f ∧ f.offset = off ∧ f.type = ft := by
        unfold tfield at hf
        cases hu : P.underlying t with
        | none => simp [hu] at hf
        | some d =>
          cases d <;> simp only [hu] at hf <;> try cases hf
          rename_i fs
          simp only [Option.map_eq_some_iff] at hf
          obtain ⟨f, hfi, he⟩ := hf
          cases he
          exact ⟨fs, f, rfl, hfi, rfl, rfl⟩
      obtain ⟨ii, hi, hsz⟩ : ∃ ii, P.info? f.type = some ii ∧ tsz P f.type = ii.size := by
        cases hi : P.info? f.type with
        | none => simp [tsz, Program.cellsOf, hi] at hz
        | some ii => exact ⟨ii, rfl, by simp [tsz, Program.cellsOf, hi]⟩
      have hfp : ∀ a : Addr, (fieldPlace a f).run P c.w = .ok (a.add f.offset) c.w := fun a => by
        simp [fieldPlace, sizeOf, typeInfo, hi, show ¬ ii.size = 0 by omega]
      have hrun : ∀ a : Addr, ev x = .pointer (some a) → (execOp ev o).run P c.w = .ok (.value (.pointer (some (a.add f.offset)))) c.w := fun a ha => by
        simp [execOp, ho, Instr.fieldAt, run_underlying' hu, hfi, ha, Instr.sureAddr, hfp]
      split at hs <;> try (simp at hs; done)
      · rename_i j a hj
        simp only [yes, Option.bind_some, Option.some.injEq] at hs
        subst hs
        rw [hj, V] at hx
        obtain ⟨b, st, hρ, hxx⟩ := hx
        refine good_same R _ (hrun _ hxx) ?_
        rw [addr_add, V]
        exact ⟨b, st, hρ, by rw [Nat.add_assoc]⟩
      · rename_i cs hj
        simp only [yes, Option.bind_some, Option.some.injEq] at hs
        subst hs
        rw [hj, V] at hx
        obtain ⟨a, vs, hxx, hst, hc, hsp⟩ := hx
        refine good_same R _ (hrun _ hxx) ?_
        rw [addr_add' hsp, V]
        refine ⟨_, vs.drop f.offset, rfl, ⟨fun _ => rfl, fun hv => hst.free (by rintro rfl; simp at hv), fun j x hj => ?_, fun x hx => hst.one x (List.mem_of_mem_drop hx)⟩, VL_iff.2 ((VL_iff.1 hc).drop _), rfl⟩
        rw [List.getElem?_drop] at hj
        simp only [Nat.add_assoc]
        exact hst.cell _ _ hj
theorem imm_elem {z : Nat} {es : List SV} {vs : List Value} {i : Nat} {e : SV} (hE : VE c z es vs) (hi : es[i]? = some e) :
    ∃ u, V c e u ∧ e.storable = true ∧ u.cells.size = z ∧ (vs.drop (i * z)).take z = u.cells.toList ∧ i * z + z ≤ vs.length := by
  induction es generalizing i vs with
  | nil => simp at hi
  | cons e' es ih =>
    rw [VE] at hE
    obtain ⟨u, r, rfl, hz, hs, hv, hr⟩ := hE
    cases i with
    | zero =>
      simp at hi; subst hi
      exact ⟨u, hv, hs, hz, by simp [← hz], by simp [← hz]⟩
    | succ i =>
      simp at hi
      obtain ⟨u', h1, h1', h2, h3, h4⟩ := ih hr hi
      refine ⟨u', h1, h1', h2, ?_, ?_⟩
      · rw [← h3, Nat.succ_mul, Nat.add_comm, ← List.drop_drop, List.drop_left' (by simp [hz])]
      · simp [Nat.succ_mul]; omega
theorem Still.sub {a : Addr} {vs : List Value} (hst : Still c a vs) (d n : Nat) : Still c ⟨a.block, a.off + d, none⟩ ((vs.drop d).take n) := by
  refine ⟨fun _ => rfl, fun hv => hst.free (by rintro rfl; simp at hv), fun j x hj => ?_, fun x hx => hst.one x (List.mem_of_mem_drop (List.mem_of_mem_take hx))⟩
  rw [List.getElem?_take] at hj
  split at hj
  · rw [List.getElem?_drop] at hj
    simp only [Nat.add_assoc]
    exact hst.cell _ _ hj
  · cases hj
theorem tslice_some {t e : TypeId} (hsl : tslice P t = some e) : P.underlying t = some (.slice e) := by
  unfold tslice at hsl
  split at hsl
  · rename_i e' he; cases hsl; exact he
  · cases hsl
theorem tarray_some {t : TypeId} {n : Nat} {e : TypeId} (hsl : tarray P t = some (n, e)) : P.underlying t = some (.array n e) := by
  unfold tarray at hsl
  split at hsl
  · rename_i e' he hu; cases hsl; exact hu
  · cases hsl
theorem tmap_some {t kt e : TypeId} (hsl : tmap P t = some (kt, e)) : P.underlying t = some (.map kt e) := by
  unfold tmap at hsl
  split at hsl
  · rename_i e' he hu; cases hsl; exact hu
  · cases hsl
theorem tstring_some {t : TypeId} (hsl : tstring P t = true) : P.underlying t = some .string := by
  unfold tstring at hsl
  split at hsl
  · rename_i hu; exact hu
  · cases hsl
theorem tsz_pos {e : TypeId} (hz : tsz P e ≠ 0) : ∃ ii, P.info? e = some ii ∧ tsz P e = ii.size := by
  cases hi : P.info? e with
  | none => simp [tsz, Program.cellsOf, hi] at hz
  | some ii => exact ⟨ii, rfl, by simp [tsz, Program.cellsOf, hi]⟩
theorem sop_indexAddr {t : TypeId} {x y : Operand} {out : Out} {evs : Operand → SV} (ho : o.op = .indexAddr t x y) (hs : sop P evs h k o.op = some out) (R : Rel h c)
    (H : ∀ x ∈ o.op.operands, V c (evs x) (ev x)) : Good P ev o h k c out := by
  rw [ho] at hs H
  simp only [sop, indexPtr] at hs
  have hx := H x (by simp [Op.operands])
  have hy := H y (by simp [Op.operands])
  split at hs <;> try cases hs
  rename_i kk n hn
  rw [hn] at hy
  have hy' := vint hy
  cases hsl : tslice P t with
  | some e =>
    have hu := tslice_some hsl
    simp only [hsl] at hs
    by_cases hz : tsz P e = 0
    · simp [hz] at hs
    obtain ⟨ii, hi, hsz⟩ := tsz_pos hz
    simp only [hz, if_false] at hs
    split at hs <;> try (simp at hs; done)
    · rename_i j off z' len full hj
      by_cases hc : z' = tsz P e ∧ 0 ≤ n ∧ n < len
      · simp only [hc, and_self, if_true, yes, Option.bind_some, Option.some.injEq] at hs
        subst hs
        rw [hj, V] at hx
        obtain ⟨b, st, cap, hρ, hxx, _⟩ := hx
        obtain ⟨hc1, hc2, hc3⟩ := hc
        refine good_same R (.pointer (some ⟨b, st + off + n.toNat * tsz P e, none⟩)) ?_ ?_
        · simp [execOp, ho, Instr.indexAt, hy', asIntOf, run_underlying' hu, hxx, hc2, hc3, sizeOf, typeInfo, hi, addr_add, hsz]
        · rw [V]; exact ⟨b, st, hρ, by rw [Nat.add_assoc]⟩
      · simp [hc] at hs
    · rename_i z' es full hj
      by_cases hc : z' = tsz P e ∧ 0 ≤ n
      · simp only [hc, and_self, if_true] at hs
        obtain ⟨hc1, hc2⟩ := hc
        cases he : es[n.toNat]? with
        | none => simp [he] at hs
        | some v =>
          simp only [he, Option.map_some, yes, Option.bind_some, Option.some.injEq] at hs
          subst hs
          rw [hj, V] at hx
          rcases hx with ⟨hx, _⟩ | ⟨a, cap, vs, hxx, _, _, hst, hE⟩
          · subst hx; simp at he
          · subst hc1
            have hspot : a.spot = none := hst.spot (fun e0 => by have h1 := VE_len hE; have h2 := (List.getElem?_eq_some_iff.1 he).1; rw [e0, List.length_nil] at h1; have h3 : 0 < es.length * tsz P e := Nat.mul_pos (by omega) (by omega); omega)
            obtain ⟨u, g1, g2, g3, g4, g5⟩ := imm_elem hE he
            have hlt : n < es.length := by have := (List.getElem?_eq_some_iff.1 he).1; omega
            refine good_same R (.pointer (some ⟨a.block, a.off + n.toNat * tsz P e, none⟩)) ?_ ?_
            · simp [execOp, ho, Instr.indexAt, hy', asIntOf, run_underlying' hu, hxx, hc2, hlt, sizeOf, typeInfo, hi, addr_add' hspot, hsz]
            · rw [V]
              exact ⟨_, u.cells.toList, rfl, by rw [← g4]; exact hst.sub _ _, VL_iff.2 (g1.cells g2).1, rfl⟩
      · simp [hc] at hs
  | none =>
    simp only [hsl] at hs
    cases har : tarray P t with
    | none => simp [har] at hs
    | some q =>
      obtain ⟨len, e⟩ := q
      have hu := tarray_some har
      simp only [har] at hs
      by_cases hc : 0 ≤ n ∧ n < (len : Int) ∧ tsz P e ≠ 0
      · rw [if_pos hc] at hs
        obtain ⟨hc1, hc2, hz⟩ := hc
        obtain ⟨ii, hi, hsz⟩ := tsz_pos hz
        have hrun : ∀ a : Addr, ev x = .pointer (some a) → (execOp ev o).run P c.w = .ok (.value (.pointer (some (a.add (n.toNat * tsz P e))))) c.w := fun a ha => by
          simp [execOp, ho, Instr.indexAt, hy', asIntOf, run_underlying' hu, ha, hc1, hc2, sizeOf, typeInfo, hi, hsz, Instr.sureAddr]
        split at hs <;> try (simp at hs; done)
        · rename_i j a hj
          simp only [yes, Option.bind_some, Option.some.injEq] at hs
          subst hs
          rw [hj, V] at hx
          obtain ⟨b, st, hρ, hxx⟩ := hx
          refine good_same R _ (hrun _ hxx) ?_
          rw [addr_add, V]
          exact ⟨b, st, hρ, by rw [Nat.add_assoc]⟩
        · rename_i cs hj
          simp only [yes, Option.bind_some, Option.some.injEq] at hs
          subst hs
          rw [hj, V] at hx
          obtain ⟨a, vs, hxx, hst, hc, hsp⟩ := hx
          refine good_same R _ (hrun _ hxx) ?_
          have hsub := hst.sub (n.toNat * tsz P e) (vs.length)
          rw [List.take_of_length_le (by simp)] at hsub
          rw [addr_add' hsp, V]
          exact ⟨_, _, rfl, hsub, VL_iff.2 ((VL_iff.1 hc).drop _), rfl⟩
      · rw [if_neg hc] at hs; simp at hs
theorem agg_cells {cs : List SV} {v : Value} (hv : V c (.agg cs) v) : ∃ vs, v = .agg vs.toArray ∧ All2 (V c) cs vs ∧ ∀ x ∈ vs, x.oneCell' = true := by
  rw [V] at hv; obtain ⟨vs, e, hl, h1⟩ := hv; exact ⟨vs, e, VL_iff.1 hl, h1⟩
theorem part_rel {t : TypeId} {cs : List SV} {vs : List Value} {off : Nat} {v : SV} (hs : (takeN cs off (tsz P t)).bind (asm (tagg P t)) = some v) (hc : All2 (V c) cs vs)
    (h1 : ∀ x ∈ vs, x.oneCell' = true) (w : World) : ∃ r, (part t vs.toArray off).run P w = .ok r w ∧ V c v r := by
  cases ht : takeN cs off (tsz P t) with
  | none => simp [ht] at hs
  | some r =>
    simp only [ht, Option.bind_some] at hs
    obtain ⟨hle, rfl⟩ := takeN_some ht
    have hl := hc.length
    have hc' := (hc.drop off).take (tsz P t)
    have h1' : ∀ x ∈ (vs.drop off).take (tsz P t), x.oneCell' = true := fun x hx => h1 x (List.mem_of_mem_drop (List.mem_of_mem_take hx))
    rcases asm_rel hs hc' h1' with ⟨hag, hv⟩ | ⟨hag, x, hx, hv⟩
    · obtain ⟨ii, hi, hsz⟩ := tsz_info hag
      refine ⟨_, ?_, hv⟩
      simp [part, run_isAgg' hag, sizeOf, typeInfo, hi, ← hsz]
    · refine ⟨x, ?_, hv⟩
      have hget : vs[off]? = some x := by
        have : ((vs.drop off).take (tsz P t))[0]? = some x := by rw [hx]; rfl
        rw [List.getElem?_take] at this
        split at this
        · rw [List.getElem?_drop] at this; simpa using this
        · cases this
      simp [part, run_isAgg' hag, hget]
theorem sop_field {t : TypeId} {x : Operand} {i : Nat} {out : Out} {evs : Operand → SV} (ho : o.op = .field t x i) (hs : sop P evs h k o.op = some out) (R : Rel h c)
    (H : ∀ x ∈ o.op.operands, V c (evs x) (ev x)) : Good P ev o h k c out := by
  rw [ho] at hs H
  simp only [sop] at hs
  have hx := H x (by simp [Op.operands])
  split at hs <;> try cases hs
  rename_i off ft cs hf hj
  rw [hj] at hx
  obtain ⟨vs, hxx, hc, h1⟩ := agg_cells hx
  obtain ⟨fs, f, hu, hfi, rfl, rfl⟩ : ∃ fs f, P.underlying t = some (.struct fs) ∧ fs[i]? = some f ∧ f.offset = off ∧ f.type = ft := by
    unfold tfield at hf
    cases hu : P.underlying t with
    | none => simp [hu] at hf
    | some d =>
      cases d <;> simp only [hu] at hf <;> try cases hf
      rename_i fs
      simp only [Option.map_eq_some_iff] at hf
      obtain ⟨f, hfi, he⟩ := hf
      cases he
      exact ⟨fs, f, rfl, hfi, rfl, rfl⟩
  cases hp : (takeN cs f.offset (tsz P f.type)).bind (asm (tagg P f.type)) with
  | none => simp [hp] at hs
  | some v =>
    simp only [hp, yes, Option.bind_some, Option.some.injEq] at hs
    subst hs
    obtain ⟨r, hr, hv⟩ := part_rel (c := c) hp hc h1 c.w
    exact good_same R r (by simp [execOp, ho, Instr.field, run_underlying' hu, hfi, hxx, asAgg, hr]) hv
theorem sop_index {t : TypeId} {x y : Operand} {out : Out} {evs : Operand → SV} (ho : o.op = .index t x y) (hs : sop P evs h k o.op = some out) (R : Rel h c)
    (H : ∀ x ∈ o.op.operands, V c (evs x) (ev x)) : Good P ev o h k c out := by
  rw [ho] at hs H
  simp only [sop] at hs
  have hx := H x (by simp [Op.operands])
  have hy := H y (by simp [Op.operands])
  split at hs <;> try cases hs
  · rename_i s i n h1 h2
    rw [h1] at hx
    rw [h2] at hy
    have hx' := vstr hx
    have hy' := vint hy
    split at hs <;> try cases hs
    rename_i hc
    cases hb : s[n.toNat]? with
    | none => simp [hb] at hs
    | some b =>
      simp only [hb, yes, Option.bind_some, Option.some.injEq] at hs
      subst hs
      refine good_same R (.int .u8 b.toNat) ?_ (by simp [V])
      simp [execOp, ho, Instr.index, hy', asIntOf, run_underlying' (tstring_some hc.1), hx', hc.2, hb]
  · rename_i cs i n h1 h2
    rw [h1] at hx
    rw [h2] at hy
    have hy' := vint hy
    obtain ⟨vs, hxx, hcs, hone⟩ := agg_cells hx
    cases har : tarray P t with
    | none => simp [har] at hs
    | some q =>
      obtain ⟨len, e⟩ := q
      simp only [har] at hs
      split at hs <;> try cases hs
      rename_i hc
      cases hp : (takeN cs (n.toNat * tsz P e) (tsz P e)).bind (asm (tagg P e)) with
      | none => simp [hp] at hs
      | some v =>
        simp only [hp, yes, Option.bind_some, Option.some.injEq] at hs
        subst hs
        obtain ⟨r, hr, hv⟩ := part_rel (c := c) hp hcs hone c.w
        obtain ⟨b, hb⟩ : ∃ b, tagg P e = some b := by
          cases hb : tagg P e with
          | none =>
            cases ht : takeN cs (n.toNat * tsz P e) (tsz P e) <;> simp [ht, hb, asm] at hp
          | some b => exact ⟨b, rfl⟩
        obtain ⟨ii, hi, hsz⟩ := tsz_info hb
        rw [hsz] at hr
        exact good_same R r (by simp [execOp, ho, Instr.index, hy', asIntOf, run_underlying' (tarray_some har), hxx, hc, sizeOf, typeInfo, hi, hr]) hv
end
section
variable {P : Program} {ev : Operand → Value} {o : Oper} {h : Hp} {k : Nat} {c : Cx}
theorem intBin_rel {op : BinOp} {i : IntKind} {a b : Int} {v : SV} {t : TypeId} (hs : intBin op i a b = some v) (h1 : op ≠ .shl) (h2 : op ≠ .shr) (w : World) :
    ∃ r, (binOp op t (.int i a) (.int i b)).run P w = .ok r w ∧ V c v r := by
  cases op <;> simp only [intBin] at hs <;> try (first | (cases hs; done) | exact absurd rfl h1 | exact absurd rfl h2)
  case quo =>
    split at hs <;> try cases hs
    rename_i hb
    exact ⟨_, by simp [binOp, Op.intDiv, hb]; rfl, by rw [V]⟩
  case rem =>
    split at hs <;> try cases hs
    rename_i hb
    exact ⟨_, by simp [binOp, Op.intDiv, hb]; rfl, by rw [V]⟩
  case and => cases hs; exact ⟨.int i (i.wrap (BitVec.ofInt i.bits a &&& BitVec.ofInt i.bits b).toNat), by simp [binOp, Op.intBits], by rw [V]⟩
  case or => cases hs; exact ⟨.int i (i.wrap (BitVec.ofInt i.bits a ||| BitVec.ofInt i.bits b).toNat), by simp [binOp, Op.intBits], by rw [V]⟩
  case xor => cases hs; exact ⟨.int i (i.wrap (BitVec.ofInt i.bits a ^^^ BitVec.ofInt i.bits b).toNat), by simp [binOp, Op.intBits], by rw [V]⟩
  all_goals
    simp only [Option.some.injEq] at hs
    subst hs
    exact ⟨_, by simp [binOp, Op.intArith, Op.intCmp]; rfl, by rw [V]⟩
theorem strBin_rel {op : BinOp} {a b : ByteArray} {v : SV} {t : TypeId} (hs : strBin op a b = some v) (w : World) :
    ∃ r, (binOp op t (.string a) (.string b)).run P w = .ok r w ∧ V c v r := by
  cases op <;> simp only [strBin] at hs <;> try (cases hs; done)
  case add =>
    split at hs <;> try cases hs
    rename_i hb
    refine ⟨.string (a ++ b), ?_, by rw [V]⟩
    simp [binOp, Op.stringOp]
    have : IntKind.i64.max = 9223372036854775807 := by decide
    omega
  case gtr => cases hs; exact ⟨.bool !(Op.bytesLess a.toList b.toList || a.toList == b.toList), by simp [binOp, Op.stringOp], by rw [V]⟩
  all_goals
    simp only [Option.some.injEq] at hs
    subst hs
    exact ⟨_, by simp [binOp, Op.stringOp]; rfl, by rw [V]⟩
theorem run_eqGuard {op : BinOp} {t : TypeId} {x y : Operand} {a b : Value} (ha : a ≠ .nilIface) (hg : ∀ u, a ≠ .agg u) (w : World) :
    (eqGuard op t x y a b).run P w = .ok () w := by
  cases a <;> simp at ha hg <;> cases op <;> simp [eqGuard]
theorem run_equalIn_bool2 (d : Nat) {t : TypeId} (a b : Bool) (hu : P.underlying t = some .bool) (w : World) : (Op.equalIn (d + 1) t (.bool a) (.bool b)).run P w = .ok (a == b) w := by
  simp [Op.equalIn, run_underlying' hu]
theorem run_equalIn_ptr2 (d : Nat) {t e : TypeId} (q : Option Addr) (hu : P.underlying t = some (.pointer e)) (w : World) : (Op.equalIn (d + 1) t (.pointer q) (.pointer none)).run P w = .ok q.isNone w := by
  cases q <;> simp [Op.equalIn, run_underlying' hu]
theorem binOp_bool {t : TypeId} (a b : Bool) (hu : P.underlying t = some .bool) (w : World) :
    (binOp .eql t (.bool a) (.bool b)).run P w = .ok (.bool (a == b)) w ∧ (binOp .neq t (.bool a) (.bool b)).run P w = .ok (.bool !(a == b)) w := by
  have := run_equalIn_bool2 9999 a b hu w
  constructor <;> (simp only [binOp, Op.equal]; simp [Op.maxDepth, this])
theorem binOp_ptr {t e : TypeId} (q : Option Addr) (hu : P.underlying t = some (.pointer e)) (w : World) :
    (binOp .eql t (.pointer q) (.pointer none)).run P w = .ok (.bool q.isNone) w ∧ (binOp .neq t (.pointer q) (.pointer none)).run P w = .ok (.bool !q.isNone) w := by
  have := run_equalIn_ptr2 9999 q hu w
  constructor <;> (simp only [binOp, Op.equal]; simp [Op.maxDepth, this])
theorem tbool_some {t : TypeId} (hb : tbool P t = true) : P.underlying t = some .bool := by
  unfold tbool at hb
  split at hb
  · rename_i hu; exact hu
  · cases hb
theorem tptr_some {t : TypeId} (hb : tptr P t = true) : ∃ e, P.underlying t = some (.pointer e) := by
  unfold tptr at hb
  split at hb
  · rename_i e hu; exact ⟨e, hu⟩
  · cases hb
theorem nil_rel {x : SV} {u : Value} {bo : Bool} (hx : V c x u) (hs : (match x with | .nilp => some (SV.bool true) | .ptr .. | .iptr _ => some (.bool false) | _ => none) = some (.bool bo)) :
    ∃ q : Option Addr, u = .pointer q ∧ q.isNone = bo := by
  cases x <;> simp at hs <;> subst hs <;> rw [V] at hx
  · exact ⟨none, hx, rfl⟩
  · obtain ⟨b, st, _, e⟩ := hx; exact ⟨_, e, rfl⟩
  · obtain ⟨a, vs, e, _⟩ := hx; exact ⟨_, e, rfl⟩
theorem nil_rel' {x : SV} {u : Value} {bo : Bool} (hx : V c x u) (hs : (match x with | .nilp => some (SV.bool false) | .ptr .. | .iptr _ => some (.bool true) | _ => none) = some (.bool bo)) :
    ∃ q : Option Addr, u = .pointer q ∧ (!q.isNone) = bo := by
  cases x <;> simp at hs <;> subst hs <;> rw [V] at hx
  · exact ⟨none, hx, rfl⟩
  · obtain ⟨b, st, _, e⟩ := hx; exact ⟨_, e, rfl⟩
  · obtain ⟨a, vs, e, _⟩ := hx; exact ⟨_, e, rfl⟩
theorem sop_binOp {op : BinOp} {t t2 : TypeId} {x y : Operand} {out : Out} {evs : Operand → SV} (ho : o.op = .binOp op t x y t2) (hs : sop P evs h k o.op = some out) (R : Rel h c)
    (H : ∀ x ∈ o.op.operands, V c (evs x) (ev x)) : Good P ev o h k c out := by
  rw [ho] at hs H
  simp only [sop] at hs
  have hx := H x (by simp [Op.operands])
  have hy := H y (by simp [Op.operands])
  cases hb : binS (tbool P t) (tptr P t) op (evs x) (evs y) with
  | none => simp [hb] at hs
  | some v =>
    simp only [hb, yes, Option.bind_some, Option.some.injEq] at hs
    subst hs
    have fin : ∀ a b : Value, ev x = a → ev y = b → a ≠ .nilIface → (∀ u, a ≠ .agg u) →
        (∃ r, (binOp op t a b).run P c.w = .ok r c.w ∧ V c v r) → Good P ev o h k c { val := v } := fun a b ha hb' h1 h2 ⟨r, hr, hv⟩ =>
      good_same R r (by simp [execOp, ho, ha, hb', run_eqGuard (P := P) h1 h2, hr]) hv
    unfold binS at hb
    split at hb
    · rename_i i a j b e1 e2
      rw [e1] at hx; rw [e2] at hy
      split at hb <;> try cases hb
      rename_i hc
      refine fin _ _ (vint hx) (vint hy) (by simp) (by simp) ⟨.int i (i.wrap (a * 2 ^ (min b.toNat i.bits))), ?_, by rw [V]⟩
      simp [binOp, Op.shift, show ¬ b < 0 by omega]
    · rename_i i a j b e1 e2
      rw [e1] at hx; rw [e2] at hy
      split at hb <;> try cases hb
      rename_i hc
      refine fin _ _ (vint hx) (vint hy) (by simp) (by simp) ⟨.int i (a.fdiv (2 ^ (min b.toNat i.bits))), ?_, by rw [V]⟩
      simp [binOp, Op.shift, show ¬ b < 0 by omega]
    · rename_i i a j b n1 n2 e1 e2
      rw [e1] at hx; rw [e2] at hy
      split at hb <;> try cases hb
      rename_i hc
      subst hc
      exact fin _ _ (vint hx) (vint hy) (by simp) (by simp) (intBin_rel hb n1 n2 c.w)
    · rename_i op' a b e1 e2
      rw [e1] at hx; rw [e2] at hy
      exact fin _ _ (vstr hx) (vstr hy) (by simp) (by simp) (strBin_rel hb c.w)
    · rename_i a b e1 e2
      rw [e1] at hx; rw [e2] at hy
      split at hb <;> try cases hb
      rename_i hc
      exact fin _ _ (by simpa [V] using hx) (by simpa [V] using hy) (by simp) (by simp) ⟨_, (binOp_bool a b (tbool_some hc) c.w).1, by rw [V]⟩
    · rename_i a b e1 e2
      rw [e1] at hx; rw [e2] at hy
      split at hb <;> try cases hb
      rename_i hc
      exact fin _ _ (by simpa [V] using hx) (by simpa [V] using hy) (by simp) (by simp) ⟨_, (binOp_bool a b (tbool_some hc) c.w).2, by rw [V]⟩
    · rename_i e2
      rw [e2] at hy
      split at hb <;> try cases hb
      rename_i hc
      obtain ⟨e, hu⟩ := tptr_some hc
      obtain ⟨bo, rfl⟩ : ∃ bo, v = .bool bo := by revert hb; split <;> intro hb <;> cases hb <;> exact ⟨_, rfl⟩
      obtain ⟨q, hq, hqb⟩ := nil_rel hx hb
      exact fin _ _ hq (by simpa [V] using hy) (by simp) (by simp) ⟨_, (binOp_ptr q hu c.w).1, by rw [V, hqb]⟩
    · rename_i e2
      rw [e2] at hy
      split at hb <;> try cases hb
      rename_i hc
      obtain ⟨e, hu⟩ := tptr_some hc
      obtain ⟨bo, rfl⟩ : ∃ bo, v = .bool bo := by revert hb; split <;> intro hb <;> cases hb <;> exact ⟨_, rfl⟩
      obtain ⟨q, hq, hqb⟩ := nil_rel' hx hb
      exact fin _ _ hq (by simpa [V] using hy) (by simp) (by simp) ⟨_, (binOp_ptr q hu c.w).2, by rw [V, hqb]⟩
    · cases hb
theorem sop_unOp {op : UnOp} {t : TypeId} {x : Operand} {out : Out} {evs : Operand → SV} (ho : o.op = .unOp op t x) (hs : sop P evs h k o.op = some out) (R : Rel h c)
    (H : ∀ x ∈ o.op.operands, V c (evs x) (ev x)) : Good P ev o h k c out := by
  rw [ho] at hs H
  simp only [sop] at hs
  have hx := H x (by simp [Op.operands])
  split at hs <;> try cases hs
  · rename_i b e1
    rw [e1] at hx
    exact good_same R (.bool !b) (by simp [execOp, ho, vbool hx, Op.unary]) (by rw [V])
  · rename_i i n e1
    rw [e1] at hx
    exact good_same R (.int i (i.wrap (0 - n))) (by simp [execOp, ho, vint hx, Op.unary, Op.intArith]) (by rw [V])
theorem tint_some {t : TypeId} {i : IntKind} (hb : tint P t = some i) : P.underlying t = some (.int i) := by
  unfold tint at hb
  split at hb
  · rename_i hu; cases hb; exact hu
  · cases hb
theorem sop_convert {t t2 : TypeId} {x : Operand} {out : Out} {evs : Operand → SV} (ho : o.op = .convert t t2 x) (hs : sop P evs h k o.op = some out) (R : Rel h c)
    (H : ∀ x ∈ o.op.operands, V c (evs x) (ev x)) : Good P ev o h k c out := by
  rw [ho] at hs H
  simp only [sop] at hs
  have hx := H x (by simp [Op.operands])
  split at hs <;> try cases hs
  rename_i i j i' n e1 e2 e3
  rw [e3] at hx
  exact good_same R (.int j (j.wrap n)) (by simp [execOp, ho, vint hx, convert, run_underlying' (tint_some e1), run_underlying' (tint_some e2), Conv.intToInt]) (by rw [V])
theorem map_rel {evs : Operand → SV} (xs : Array Operand) (H : ∀ x ∈ xs.toList, V c (evs x) (ev x)) : All2 (V c) (xs.toList.map evs) (xs.map ev).toList := by
  simp only [Array.toList_map]
  refine All2.of_get (by simp) fun i a b h1 h2 => ?_
  simp only [List.getElem?_map, Option.map_eq_some_iff] at h1 h2
  obtain ⟨p, hp, rfl⟩ := h1
  obtain ⟨q, hq, rfl⟩ := h2
  rw [hp] at hq; cases hq
  exact H p (List.mem_of_getElem? hp)
theorem sop_makeFunc {f : Fn} {a b : Array Operand} {out : Out} {evs : Operand → SV} (ho : o.op = .makeFunc f a b) (hs : sop P evs h k o.op = some out) (R : Rel h c)
    (H : ∀ x ∈ o.op.operands, V c (evs x) (ev x)) : Good P ev o h k c out := by
  rw [ho] at hs H
  simp only [sop, yes, Option.some.injEq] at hs
  subst hs
  refine good_same R (.func f (a.map ev) (b.map ev)) (by simp [execOp, ho, Instr.makeFunc]) ?_
  rw [V]
  exact ⟨(a.map ev).toList, (b.map ev).toList, by rw [Array.toArray_toList, Array.toArray_toList], VL_iff.2 (map_rel a fun x hx => H x (by simp [Op.operands] at hx ⊢; exact .inl hx)), VL_iff.2 (map_rel b fun x hx => H x (by simp [Op.operands] at hx ⊢; exact .inr hx))⟩
theorem sop_extract {x : Operand} {i : Nat} {out : Out} {evs : Operand → SV} (ho : o.op = .extract x i) (hs : sop P evs h k o.op = some out) (R : Rel h c)
    (H : ∀ x ∈ o.op.operands, V c (evs x) (ev x)) : Good P ev o h k c out := by
  rw [ho] at hs H
  simp only [sop] at hs
  have hx := H x (by simp [Op.operands])
  split at hs <;> try cases hs
  rename_i vs e1
  cases hv : vs[i]? with
  | none => simp [hv] at hs
  | some v =>
    simp only [hv, yes, Option.bind_some, Option.some.injEq] at hs
    subst hs
    rw [e1, V] at hx
    obtain ⟨us, hu, hl⟩ := hx
    obtain ⟨u, hu2, hvu⟩ := (VL_iff.1 hl).get hv
    exact good_same R u (by simp [execOp, ho, hu, Instr.extract, hu2]) hvu
theorem sop_makeMap {t : TypeId} {r : Option Operand} {out : Out} {evs : Operand → SV} (ho : o.op = .makeMap t r) (hs : sop P evs h k o.op = some out) (R : Rel h c) (hk : c.ρ k = none) :
    Good P ev o h k c out := by
  rw [ho] at hs
  simp only [sop] at hs
  split at hs <;> try cases hs
  rename_i hc
  simp only [Bool.and_eq_true, Option.isNone_iff_eq_none] at hc
  obtain ⟨rfl, hc⟩ := hc
  have E := c.alloc_ext k (.map #[] 0) hk
  refine ⟨.map (some c.w.heap.size), c.alloc k (.map #[] 0), .inl ?_, by rw [V]; exact ⟨_, by simp [Cx.alloc], rfl⟩, R.alloc hk ⟨c.w.heap.size, #[], 0, by simp [Cx.alloc], by simp [Cx.alloc, heap_alloc], trivial, by simp [Born]⟩, E, fun j hj => ?_⟩
  · simp [execOp, ho, Instr.makeMap, Cx.alloc]
  · simp at hj; simp [Cx.alloc, hj]
theorem zeros_rel {z : SV} {zv : Value} (hv : V c z zv) (hs : z.storable = true) (n : Nat) :
    All2 (V c) (List.replicate n z.cells).flatten (List.replicate n zv.cells.toList).flatten ∧ ∀ x ∈ (List.replicate n zv.cells.toList).flatten, x.oneCell' = true := by
  obtain ⟨h1, h2⟩ := hv.cells hs
  refine ⟨All2.flatten (All2.replicate h1 n), fun x hx => ?_⟩
  simp only [List.mem_flatten, List.mem_replicate] at hx
  obtain ⟨l, ⟨_, rfl⟩, hx⟩ := hx
  exact h2 x hx
theorem range_zeros (zs : Array Value) (hz : zs.size ≠ 0) : ∀ n, ((Array.range (n * zs.size)).map fun i => zs[i % zs.size]!).toList = (List.replicate n zs.toList).flatten
  | 0 => by simp
  | n + 1 => by
    have ih := range_zeros zs hz n
    simp only [Array.toList_map, Array.toList_range] at *
    rw [Nat.succ_mul, List.range_add, List.map_append, ih, List.replicate_succ', List.flatten_append]
    congr 1
    simp only [List.map_map, List.flatten_cons, List.flatten_nil, List.append_nil]
    apply List.ext_getElem?
    intro i
    by_cases hi : i < zs.size
    · simp [hi, Nat.add_mod, Nat.mod_eq_of_lt hi, getElem!_pos]
    · simp [hi]
theorem sop_makeSlice {t : TypeId} {x y : Operand} {out : Out} {evs : Operand → SV} (ho : o.op = .makeSlice t x y) (hs : sop P evs h k o.op = some out) (R : Rel h c) (hk : c.ρ k = none)
    (H : ∀ x ∈ o.op.operands, V c (evs x) (ev x)) : Good P ev o h k c out := by
  rw [ho] at hs H
  simp only [sop] at hs
  have hx := H x (by simp [Op.operands])
  have hy := H y (by simp [Op.operands])
  split at hs <;> try cases hs
  rename_i e n m e1 e2 e3
  rw [e2] at hx; rw [e3] at hy
  split at hs <;> try cases hs
  rename_i hc
  obtain ⟨h0, rfl, hr, hst, hlen, hz⟩ := hc
  obtain ⟨i, z, hi, hzz, hze⟩ := tzero_storable hst
  have hvz := V_ofValue c z
  rw [← hze] at hvz
  obtain ⟨zr, z1⟩ := zeros_rel hvz hst n.toNat
  have hzsize : z.cells.size = tsz P e := by have := (hvz.cells hst).1.length; simp at this; omega
  have hsz : tsz P e = i.size := by simp [tsz, Program.cellsOf, hi]
  have hby : tbytes P e = i.bytes := by simp [tbytes, Program.bytesOf, hi]
  simp only [roomy, Bool.and_eq_true, decide_eq_true_eq] at hr
  have hbytes : (i.bytes : Int) * n ≤ 281474976710656 := by
    have : (i.bytes : Int) * n ≤ 65536 * 1073741824 := Int.mul_le_mul (by omega) (by omega) h0 (by omega)
    omega
  have hcell := range_zeros z.cells (by omega) n.toNat
  refine good_new (vs := madeCells z.cells (n.toNat * z.cells.size)) (e := e) (u := .slice (some ⟨c.w.heap.size, 0, none⟩) n.toNat n.toNat) R hk ?_ (by unfold madeCells; rw [hcell]; exact zr) (by unfold madeCells; rw [hcell]; exact z1)
    (fun c' g1 g2 => by rw [V]; exact ⟨_, 0, n.toNat, g1, rfl, Nat.le_refl _, fun _ => rfl, by rw [g2]; simp [madeCells, hzsize]⟩)
  have hrun := run_make (P := P) c.w t e i z (tslice_some e1) hi hzz .i64 .i64 n n h0 (Int.le_refl _) hbytes (by omega)
  rw [← hsz, ← hzsize] at hrun
  simp [execOp, ho, vint hx, vint hy, hrun]
theorem sop_buildSlice {t : TypeId} {len : Nat} {ps : Array (Nat × Operand)} {out : Out} {evs : Operand → SV} (ho : o.op = .buildSlice t len ps) (hs : sop P evs h k o.op = some out) (R : Rel h c) (hk : c.ρ k = none)
    (H : ∀ x ∈ o.op.operands, V c (evs x) (ev x)) : Good P ev o h k c out := by
  rw [ho] at hs H
  simp only [sop] at hs
  split at hs <;> try cases hs
  rename_i e hsl
  split at hs <;> try cases hs
  rename_i hc
  obtain ⟨hn, hst, hlen⟩ := hc
  obtain ⟨hnz, hsm⟩ := hn
  obtain ⟨i, z, hi, hzz, hze⟩ := tzero_storable hst
  have hvz := V_ofValue c z
  rw [← hze] at hvz
  obtain ⟨zr, z1⟩ := zeros_rel hvz hst len
  have hzsize : z.cells.size = tsz P e := by have := (hvz.cells hst).1.length; simp at this; omega
  have hsz : tsz P e = i.size := by simp [tsz, Program.cellsOf, hi]
  have hcell := range_zeros z.cells (by rw [hzsize]; intro h0; simp [h0] at hnz) len
  cases hf : fillS (fun i => some (i * tsz P e, tsz P e)) (List.replicate len (tzero P e).cells).flatten (ps.toList.map fun p => (p.1, evs p.2)) with
  | none => simp [hf] at hs
  | some cs =>
    simp only [hf, Option.bind_some, Option.some.injEq] at hs
    subst hs
    obtain ⟨r, hr1, hr2, hr3⟩ := fill_rel (c := c) (place' := fun i => some (i * tsz P e, tsz P e)) (fun i p hp => hp) _ _ _ ((Array.range (len * z.cells.size)).map fun i => z.cells[i % z.cells.size]!) cs
      (parts_rel ps fun p hp => H p.2 (ops_buildSlice hp)) (by rw [hcell]; exact zr) (by rw [hcell]; exact z1) hf
    have hrun := run_buildSlice (P := P) c.w t e len (ps.map fun (i, x) => (i, ev x)) r i z (tslice_some hsl) hi hzz (by rw [hsz] at hsm; omega) (by rw [← hsz]; exact hnz) (by rw [← hsz, ← hzsize]; rw [← hzsize] at hr1; exact hr1)
    have hsize : r.size = len * tsz P e := by
      have h1 := fill_size hr1
      rw [h1]; simp [hzsize]
    refine good_new (vs := r) (e := e) (u := .slice (some ⟨c.w.heap.size, 0, none⟩) len len) R hk (by simp [execOp, ho, hrun]) hr2 hr3
      (fun c' g1 g2 => by rw [V]; exact ⟨_, 0, len, g1, rfl, Nat.le_refl _, fun _ => rfl, by rw [g2, hsize]; simp⟩)
theorem bnd_some {s : Option SV} {v : Option Value} {d : Option Int} {n : Int} (hb : bnd s d = some n) (hv : ∀ x, s = some x → ∃ u, v = some u ∧ V c x u) (hn : s = none → v = none) :
    (s = none ∧ v = none ∧ d = some n) ∨ ∃ i, v = some (.int i n) := by
  unfold bnd at hb
  split at hb
  · exact .inl ⟨rfl, hn rfl, hb⟩
  · rename_i d' i m
    obtain ⟨u, hu, hvv⟩ := hv _ rfl
    cases hb
    exact .inr ⟨i, by rw [hu, vint hvv]⟩
  · cases hb
theorem run_bound {i : IntKind} {n : Int} {y : Nat} {code : BoundsCode} (h0 : 0 ≤ n) (h1 : n ≤ y) (w : World) : (Instr.sliceBound (.int i n) y code).run P w = .ok n.toNat w := by
  simp [Instr.sliceBound, asIntOf, h0, h1]
theorem run_bounds2 {isS : Bool} {len cap l m : Nat} {lo hi : Option Value} (hlo : (lo = none ∧ l = 0) ∨ ∃ i, lo = some (.int i l)) (hhi : (hi = none ∧ m = len) ∨ ∃ i, hi = some (.int i m))
    (h1 : l ≤ m) (h2 : m ≤ len) (h3 : len ≤ cap) (w : World) : (Instr.sliceBounds isS len cap lo hi none).run P w = .ok (l, m, cap) w := by
  have hb := fun (code : BoundsCode) (i : IntKind) => run_bound (P := P) (i := i) (n := (l : Int)) (y := m) (code := code) (by omega) (by omega) w
  have hb2 := fun (code : BoundsCode) (i : IntKind) => run_bound (P := P) (i := i) (n := (m : Int)) (y := cap) (code := code) (by omega) (by omega) w
  simp only [Int.toNat_natCast] at hb hb2
  rcases hlo with ⟨rfl, hl⟩ | ⟨i, rfl⟩ <;> rcases hhi with ⟨rfl, hm⟩ | ⟨j, rfl⟩
  · simp [Instr.sliceBounds, hl, hm]
  · simp [Instr.sliceBounds, hl, hb2]
  · subst hm; simp [Instr.sliceBounds, hb]
  · simp [Instr.sliceBounds, hb, hb2]
theorem run_bounds3 {isS : Bool} {len cap l m x : Nat} {lo hi : Option Value} {k3 : IntKind} (hlo : (lo = none ∧ l = 0) ∨ ∃ i, lo = some (.int i l)) (hhi : ∃ i, hi = some (.int i m))
    (h1 : l ≤ m) (h2 : m ≤ x) (h3 : x ≤ cap) (w : World) : (Instr.sliceBounds isS len cap lo hi (some (.int k3 x))).run P w = .ok (l, m, x) w := by
  obtain ⟨j, rfl⟩ := hhi
  have hb := fun (code : BoundsCode) (i : IntKind) => run_bound (P := P) (i := i) (n := (l : Int)) (y := m) (code := code) (by omega) (by omega) w
  have hb2 := fun (code : BoundsCode) (i : IntKind) => run_bound (P := P) (i := i) (n := (m : Int)) (y := x) (code := code) (by omega) (by omega) w
  have hb3 := fun (code : BoundsCode) (i : IntKind) => run_bound (P := P) (i := i) (n := (x : Int)) (y := cap) (code := code) (by omega) (by omega) w
  simp only [Int.toNat_natCast] at hb hb2 hb3
  rcases hlo with ⟨rfl, hl⟩ | ⟨i, rfl⟩
  · simp [Instr.sliceBounds, hl, hb2, hb3]
  · simp [Instr.sliceBounds, hb, hb2, hb3]
end
section
variable {P : Program} {ev : Operand → Value} {o : Oper} {h : Hp} {k : Nat} {c : Cx}
theorem optmap_rel {evs : Operand → SV} (x : Option Operand) (H : ∀ y, x = some y → V c (evs y) (ev y)) :
    (∀ s, x.map evs = some s → ∃ u, x.map ev = some u ∧ V c s u) ∧ (x.map evs = none → x.map ev = none) := by
  cases x with
  | none => simp
  | some y => simpa using H y rfl
theorem imm_cut {z : Nat} {es : List SV} {vs : List Value} (hE : VE c z es vs) (l m : Nat) (hm : m ≤ es.length) (hl : l ≤ m) :
    VE c z ((es.take m).drop l) ((vs.drop (l * z)).take ((m - l) * z)) := by
  induction es generalizing vs l m with
  | nil => simp at hm; subst hm; simp at hl; subst hl; rw [VE] at hE; subst hE; simp [VE]
  | cons e es ih =>
    have hE' := hE
    rw [VE] at hE
    obtain ⟨u, r, rfl, hz, hs, hv, hr⟩ := hE
    cases m with
    | zero => simp at hl; subst hl; simp [VE]
    | succ m =>
      simp only [List.length_cons] at hm
      cases l with
      | zero =>
        have := ih hr 0 m (by omega) (by omega)
        simp only [Nat.zero_mul, List.drop_zero, Nat.sub_zero, List.take_succ_cons] at *
        rw [VE]
        refine ⟨u, r.take (m * z), ?_, hz, hs, hv, this⟩
        rw [Nat.succ_mul, Nat.add_comm, List.take_append, List.take_of_length_le (by simp [hz])]
        congr 2
        simp [hz]
      | succ l =>
        have := ih hr l m (by omega) (by omega)
        simp only [List.take_succ_cons, List.drop_succ_cons]
        rw [Nat.succ_mul, Nat.add_comm (l * z), ← List.drop_drop, List.drop_left' (by simp [hz]), show m + 1 - (l + 1) = m - l by omega]
        exact this
theorem run_sliceAt {t e : TypeId} (hu : P.underlying t = some (.slice e)) {z : Nat} (hz : ∃ ii, P.info? e = some ii ∧ ii.size = z) (a : Option Addr) (len cap l m x : Nat) {lo hi mx : Option Value} {w : World}
    (hb : (Instr.sliceBounds true len cap lo hi mx).run P w = .ok (l, m, x) w) :
    (Instr.sliceAt t (.slice a len cap) lo hi mx).run P w = .ok (.slice (if x = l then a else a.map (·.add (l * z))) (m - l) (x - l)) w := by
  obtain ⟨ii, hi', rfl⟩ := hz
  simp [Instr.sliceAt, run_underlying' hu, Instr.slice, hb, sizeOf, typeInfo, hi']
theorem atc {α : Type} {c : Cx} {F : World → α → Prop} {G : α → Prop} (H : ∃ r, (∀ w, F w r) ∧ G r) : ∃ r, F c.w r ∧ G r := let ⟨r, h, g⟩ := H; ⟨r, h c.w, g⟩
theorem slice_imm {t e : TypeId} (hu : P.underlying t = some (.slice e)) {z l m : Nat} {es : List SV} {full f : Bool} {u : Value} {lo hi mx : Option Value} (hx : V c (.imm z es full) u)
    (hi' : ∃ ii, P.info? e = some ii ∧ ii.size = tsz P e) (hz : es = [] ∨ tsz P e = z) (hl : l ≤ m) (hm : m ≤ es.length)
    (hb : ∀ cap, es.length ≤ cap → (full = true → cap = es.length) → ∃ x, m ≤ x ∧ x ≤ cap ∧ (f = true → x = m) ∧ ∀ w, (Instr.sliceBounds true es.length cap lo hi mx).run P w = .ok (l, m, x) w) :
    ∃ r, (∀ w, (Instr.sliceAt t u lo hi mx).run P w = .ok r w) ∧ V c (.imm z ((es.take m).drop l) f) r := by
  rw [V] at hx
  rcases hx with ⟨rfl, rfl⟩ | ⟨a, cap, vs, rfl, hcap, hfull, hst, hE⟩
  · obtain ⟨x, h1, h2, h3, h4⟩ := hb 0 (Nat.le_refl _) (fun _ => rfl)
    have hx0 : x = 0 := by omega
    simp at hm; subst hm; simp at hl; subst hl; subst hx0
    exact ⟨_, fun w => run_sliceAt hu hi' none 0 0 0 0 0 (h4 w), by rw [V]; exact .inl ⟨by simp, by simp⟩⟩
  · obtain ⟨x, h1, h2, h3, h4⟩ := hb cap hcap hfull
    refine ⟨_, fun w => run_sliceAt hu hi' (some a) es.length cap l m x (h4 w), ?_⟩
    rw [V]
    have hlen : ((es.take m).drop l).length = m - l := by simp; omega
    refine .inr ⟨if x = l then a else a.add (l * tsz P e), x - l, (vs.drop (l * z)).take ((m - l) * z), ?_, by rw [hlen]; omega, fun hf => by rw [hlen, h3 hf], ?_, imm_cut hE l m hm hl⟩
    · rw [hlen]; split <;> rfl
    · split
      · rename_i hxl
        have : m - l = 0 := by omega
        rw [this]; simp
        exact ⟨by simp, by simp, by simp, by simp⟩
      · rcases hz with rfl | rfl
        · simp at hm; subst hm; simp at hl; subst hl
          simp [Addr.add]
          exact ⟨by simp, by simp, by simp, by simp⟩
        · by_cases hvs : vs = []
          · have h0 := VE_len hE
            have h1 : l * tsz P e ≤ es.length * tsz P e := Nat.mul_le_mul_right _ (by omega)
            rw [hvs] at h0 ⊢
            rw [List.length_nil] at h0
            simp
            exact ⟨by simp, by simp, by simp, by simp⟩
          · rw [addr_add' (hst.spot hvs)]; exact hst.sub _ _
theorem slice_sl {t e : TypeId} (hu : P.underlying t = some (.slice e)) {j off z l m len : Nat} {full f : Bool} {u : Value} {lo hi mx : Option Value} (hx : V c (.sl j off z len full) u)
    (hi' : ∃ ii, P.info? e = some ii ∧ ii.size = tsz P e) (hz : tsz P e = z) (hl : l ≤ m) (_hm : m ≤ len)
    (hb : ∀ cap, len ≤ cap → (full = true → cap = len) → ∃ x, m ≤ x ∧ x ≤ cap ∧ (f = true → x = m) ∧ (Instr.sliceBounds true len cap lo hi mx).run P c.w = .ok (l, m, x) c.w) :
    ∃ r, (Instr.sliceAt t u lo hi mx).run P c.w = .ok r c.w ∧ V c (if l = m ∧ l ≠ 0 then .imm z [] f else .sl j (off + l * z) z (m - l) f) r := by
  rw [V] at hx
  obtain ⟨b, st, cap, hρ, rfl, hcap, hfull, hroom⟩ := hx
  obtain ⟨x, h1, h2, h3, h4⟩ := hb cap hcap hfull
  refine ⟨_, run_sliceAt hu hi' _ len cap l m x h4, ?_⟩
  rw [hz]
  split
  · rename_i hc
    rw [V]
    refine .inr ⟨if x = l then ⟨b, st + off, none⟩ else (⟨b, st + off, none⟩ : Addr).add (l * z), x - l, [], ?_, by simp, fun hf => by simp; have := h3 hf; omega, ?_, by rw [VE]⟩
    · rw [show m - l = 0 by omega]; split <;> rfl
    · split
      · exact ⟨by simp, by simp, by simp, by simp⟩
      · rw [addr_add]; exact ⟨by simp, by simp, by simp, by simp⟩
  · rename_i hc
    rw [V]
    refine ⟨b, st, x - l, hρ, ?_, by omega, fun hf => by rw [h3 hf], ?_⟩
    · split
      · rename_i hxl
        have : l = 0 := by omega
        subst this; simp
      · simp [addr_add, Nat.add_assoc]
    · have : l * z + (x - l) * z = x * z := by rw [← Nat.add_mul]; congr 1; omega
      have h5 : x * z ≤ cap * z := Nat.mul_le_mul_right _ h2
      omega
theorem sop_slice {t : TypeId} {x : Operand} {lo hi mx : Option Operand} {out : Out} {evs : Operand → SV} (ho : o.op = .slice t x lo hi mx) (hs : sop P evs h k o.op = some out) (R : Rel h c)
    (H : ∀ x ∈ o.op.operands, V c (evs x) (ev x)) : Good P ev o h k c out := by
  rw [ho] at hs H
  simp only [sop] at hs
  have hx := H x (by simp [Op.operands])
  have hlo := optmap_rel (c := c) (ev := ev) (evs := evs) lo fun y e => H y (by subst e; simp [Op.operands])
  have hhi := optmap_rel (c := c) (ev := ev) (evs := evs) hi fun y e => H y (by subst e; simp [Op.operands])
  have hmx := optmap_rel (c := c) (ev := ev) (evs := evs) mx fun y e => H y (by subst e; simp [Op.operands])
  cases hb : sliceS P t (evs x) (lo.map evs) (hi.map evs) (mx.map evs) with
  | none => simp [hb] at hs
  | some v =>
    simp only [hb, yes, Option.bind_some, Option.some.injEq] at hs
    subst hs
    suffices hgoal : ∃ r, (Instr.sliceAt t (ev x) (lo.map ev) (hi.map ev) (mx.map ev)).run P c.w = .ok r c.w ∧ V c v r by
      obtain ⟨r, hr, hv⟩ := hgoal
      exact good_same R r (by simp [execOp, ho, hr]) hv
    have cvt : ∀ {s : Option SV} {vv : Option Value} {d : Option Int} {n : Int} {N : Nat}, bnd s d = some n → 0 ≤ n → ((∀ x, s = some x → ∃ u, vv = some u ∧ V c x u) ∧ (s = none → vv = none)) → d = some (N : Int) →
        (vv = none ∧ n.toNat = N) ∨ ∃ i, vv = some (.int i n.toNat) := fun hb h0 hv hd => by
      rcases bnd_some hb hv.1 hv.2 with ⟨_, e, e2⟩ | ⟨i, e⟩
      · rw [hd] at e2; cases e2; exact .inl ⟨e, by simp⟩
      · exact .inr ⟨i, by rw [e]; congr 2; omega⟩
    unfold sliceS at hb
    split at hb
    · rename_i s e1
      rw [e1] at hx
      have hx' := vstr hx
      split at hb <;> try cases hb
      rename_i hc
      simp only [Bool.or_eq_true, Bool.not_eq_true', not_or, Bool.not_eq_false, Option.isSome_map] at hc
      have hmn : mx = none := by cases mx <;> simp at hc ⊢
      subst hmn
      split at hb <;> try cases hb
      rename_i l m hl hm
      split at hb <;> try cases hb
      rename_i hc2
      have hu := tstring_some hc.1
      have hlo' := cvt hl hc2.1 hlo (by rfl : some (0 : Int) = some ((0 : Nat) : Int))
      have hhi' := cvt hm (by omega) hhi rfl
      have hrun := run_bounds2 (P := P) (isS := false) (len := s.size) (cap := s.size) hlo' hhi' (by omega) (by omega) (Nat.le_refl _) c.w
      refine ⟨.string (s.extract l.toNat m.toNat), ?_, by rw [V]⟩
      simp [Instr.sliceAt, run_underlying' hu, Instr.slice, hx', hrun]
    · rename_i z es full e1
      rw [e1] at hx
      cases hsl' : tslice P t with
      | none => simp [hsl'] at hb
      | some e =>
        have hu := tslice_some hsl'
        simp only [hsl', Option.any_some] at hb
        split at hb <;> try cases hb
        rename_i hz
        simp only [Bool.not_eq_true', Bool.not_eq_false, Bool.and_eq_true, bne_iff_ne, ne_eq, Bool.or_eq_true, beq_iff_eq, List.isEmpty_iff] at hz
        obtain ⟨hz0, hz⟩ := hz
        obtain ⟨ii, hi', hsz⟩ := tsz_pos hz0
        split at hb <;> try cases hb
        rename_i l m hl hm
        split at hb <;> try cases hb
        rename_i hc2
        have hlo' := cvt hl hc2.1 hlo (by rfl : some (0 : Int) = some ((0 : Nat) : Int))
        have hhi' := cvt hm (by omega) hhi rfl
        cases mx with
        | none =>
          simp only [Option.map_none, Option.some.injEq] at hb
          subst hb
          refine atc (slice_imm hu hx ⟨ii, hi', hsz.symm⟩ hz (by omega) (by omega) fun cap h1 h2 => ⟨cap, by omega, Nat.le_refl _, fun hf => ?_, fun w => run_bounds2 hlo' hhi' (by omega) (by omega) h1 w⟩)
          simp at hf; have := h2 hf.1; omega
        | some mo =>
          have hmo := hmx.1 _ rfl
          simp only [Option.map_some] at hb hmo
          split at hb <;> try cases hb
          · rename_i heq; cases heq
          · rename_i i x heq
            simp only [Option.some.injEq] at heq
            obtain ⟨uu, hu1, hu2⟩ := hmo
            cases hu1
            rw [heq] at hu2
            have hu3 := vint hu2
            split at hb <;> try cases hb
            rename_i hc3
            simp only [Bool.and_eq_true, decide_eq_true_eq] at hc3
            have hsome : ∃ i, Option.map ev hi = some (.int i m.toNat) := by
              rcases hhi' with ⟨e1, _⟩ | h
              · cases hi <;> simp at e1 hc3
              · exact h
            have hxx : (x : Int) = (x.toNat : Int) := by omega
            refine atc (slice_imm hu hx ⟨ii, hi', hsz.symm⟩ hz (by omega) (by omega) fun cap h1 h2 => ⟨x.toNat, by omega, by omega, fun hf => ?_, fun w => ?_⟩)
            · simp at hf; omega
            · rw [Option.map_some, hu3, hxx]; exact run_bounds3 hlo' hsome (by omega) (by omega) (by omega) w
    · rename_i j off z len full e1
      rw [e1] at hx
      cases hsl' : tslice P t with
      | none => simp [hsl'] at hb
      | some e =>
        have hu := tslice_some hsl'
        simp only [hsl', Option.any_some] at hb
        split at hb <;> try cases hb
        rename_i hz
        simp only [Bool.not_eq_true', Bool.not_eq_false, Bool.and_eq_true, bne_iff_ne, ne_eq, beq_iff_eq] at hz
        obtain ⟨hz0, hz⟩ := hz
        obtain ⟨ii, hi', hsz⟩ := tsz_pos hz0
        split at hb <;> try cases hb
        rename_i l m hl hm
        split at hb <;> try cases hb
        rename_i hc2
        have hlo' := cvt hl hc2.1 hlo (by rfl : some (0 : Int) = some ((0 : Nat) : Int))
        have hhi' := cvt hm (by omega) hhi rfl
        have hl0 : (l = m ∧ l ≠ 0) ↔ (l.toNat = m.toNat ∧ l.toNat ≠ 0) := by omega
        have hml : (m - l).toNat = m.toNat - l.toNat := by omega
        cases mx with
        | none =>
          simp only [Option.map_none, hl0, hml] at hb
          have := slice_sl (f := full && m == len) (lo := lo.map ev) (hi := hi.map ev) (mx := none) (l := l.toNat) (m := m.toNat) hu hx ⟨ii, hi', hsz.symm⟩ hz (by omega) (by omega)
            fun cap h1 h2 => ⟨cap, by omega, Nat.le_refl _, fun hf => by simp at hf; have := h2 hf.1; omega, run_bounds2 hlo' hhi' (by omega) (by omega) h1 c.w⟩
          split at hb <;> (rename_i hcc; simp only [Option.some.injEq] at hb; subst hb; first | (rw [if_pos hcc] at this; exact this) | (rw [if_neg hcc] at this; exact this))
        | some mo =>
          have hmo := hmx.1 _ rfl
          simp only [Option.map_some, hl0, hml] at hb hmo
          split at hb <;> try cases hb
          · rename_i heq; cases heq
          · rename_i i x heq
            simp only [Option.some.injEq] at heq
            obtain ⟨uu, hu1, hu2⟩ := hmo
            cases hu1
            rw [heq] at hu2
            have hu3 := vint hu2
            split at hb <;> try cases hb
            rename_i hc3
            simp only [Bool.and_eq_true, decide_eq_true_eq] at hc3
            have hsome : ∃ i, Option.map ev hi = some (.int i m.toNat) := by
              rcases hhi' with ⟨e1, _⟩ | h
              · cases hi <;> simp at e1 hc3
              · exact h
            have hxx : (x : Int) = (x.toNat : Int) := by omega
            have := slice_sl (f := x == m) (lo := lo.map ev) (hi := hi.map ev) (mx := some (ev mo)) (l := l.toNat) (m := m.toNat) hu hx ⟨ii, hi', hsz.symm⟩ hz (by omega) (by omega)
              fun cap h1 h2 => ⟨x.toNat, by omega, by omega, fun hf => by simp at hf; omega, by rw [hu3, hxx]; exact run_bounds3 hlo' hsome (by omega) (by omega) (by omega) c.w⟩
            split at hb <;> (rename_i hcc; simp only [Option.some.injEq] at hb; subst hb; first | (rw [if_pos hcc] at this; exact this) | (rw [if_neg hcc] at this; exact this))
    · cases hb
end
section
variable {P : Program} {ev : Operand → Value} {o : Oper} {h : Hp} {k : Nat} {c : Cx}
theorem flat_rel {s : SV} {u : Value} {xs : List SV} {n : Nat} (R : Rel h c) (hf : flat h s = some xs) (hn : lenS s = some n) (hv : V c s u) :
    ∃ a cap vs, u = .slice a n cap ∧ n ≤ cap ∧ All2 (V c) xs vs ∧ (∀ x ∈ vs, x.oneCell' = true) ∧ (∀ z, zOk z s = true → vs.length = n * z) ∧
      (match a with | some a => (vs ≠ [] → a.spot = none) ∧ ∀ i x, vs[i]? = some x → c.w.cell? ⟨a.block, a.off + i, none⟩ = some x | none => n = 0 ∧ cap = 0 ∧ vs = []) := by
  unfold flat at hf
  split at hf
  · rename_i z es full
    simp only [Option.some.injEq] at hf
    simp only [lenS, Option.some.injEq] at hn
    subst hf; subst hn
    rw [V] at hv
    rcases hv with ⟨rfl, rfl⟩ | ⟨a, cap, vs, rfl, hcap, _, hst, hE⟩
    · exact ⟨none, 0, [], rfl, by simp, by simp [All2], by simp, by simp, rfl, rfl, rfl⟩
    · obtain ⟨us, h1, h2, h3, rfl⟩ := VE_iff.1 hE
      refine ⟨some a, cap, _, rfl, hcap, ?_, hst.one, fun z' hz => ?_, hst.spot, hst.cell⟩
      · clear hst hE h2 hcap
        rename_i hfl
        clear hfl
        induction es generalizing us with
        | nil => rw [h1.nil_left]; trivial
        | cons e es ih =>
          match us, h1 with
          | u :: us, h1 =>
            simp only [List.flatMap_cons]
            exact All2.append (h1.1.cells (h3 e (by simp))).1 (ih us h1.2 fun x hx => h3 x (by simp [hx]))
          | [], h1 => exact h1.elim
      · have hl := h1.length
        simp only [zOk, Bool.or_eq_true, List.isEmpty_iff, beq_iff_eq] at hz
        have gen : ∀ us : List Value, (∀ u ∈ us, u.cells.size = z) → (us.flatMap (·.cells.toList)).length = us.length * z := by
          intro us
          induction us with
          | nil => simp
          | cons u us ih => intro h; simp only [List.flatMap_cons, List.length_append, List.length_cons, Nat.succ_mul, Array.length_toList]; rw [ih fun x hx => h x (by simp [hx]), h u (by simp)]; omega
        rw [gen us h2]
        rcases hz with rfl | rfl
        · simp at hl; simp [← hl]
        · rw [hl]
  · rename_i o' off z len full
    simp only [lenS, Option.some.injEq] at hn
    subst hn
    split at hf
    · rename_i cs ty ho
      rw [V] at hv
      obtain ⟨b, st, cap, hρ, rfl, hcap, _, _⟩ := hv
      obtain ⟨b', st', vs, hρ', hc, h1, hcell⟩ := (R.obj _ _ ho).cell
      rw [hρ] at hρ'; cases hρ'
      obtain ⟨hle, rfl⟩ := takeN_some hf
      refine ⟨_, cap, (vs.drop off).take (len * z), rfl, hcap, (hc.drop off).take _, fun x hx => h1 x (List.mem_of_mem_drop (List.mem_of_mem_take hx)), fun z' hz => ?_, fun _ => rfl, fun i x hx => ?_⟩
      · simp only [zOk, beq_iff_eq] at hz
        subst hz
        have := hc.length; simp; omega
      · rw [List.getElem?_take] at hx
        split at hx
        · rw [List.getElem?_drop] at hx
          simp only [Nat.add_assoc]; exact hcell _ _ hx
        · cases hx
    · cases hf
  · cases hf
theorem args1 {α : Type} {a : Array α} {x : α} (h : a.toList = [x]) : a = #[x] := by apply Array.ext'; simpa using h
theorem args2 {α : Type} {a : Array α} {x y : α} (h : a.toList = [x, y]) : a = #[x, y] := by apply Array.ext'; simpa using h
theorem tsome {α : Type} {a : Option α} (h : a.isSome = true) : ∃ x, a = some x := Option.isSome_iff_exists.1 h
theorem run_builtin {b : Builtin} {ts : Array TypeId} {args : Array Operand} (ho : o.op = .call { callee := .builtin b, args := args, argTypes := ts }) (w w' : World) (r : Value)
    (hr : ∀ cs, (builtin b ts o.type cs (args.map ev)).run P w = .ok (.value r) w') : (execOp ev o).run P w = .ok (.value r) w' := by
  simp only [execOp, ho, resolve]
  simp only [Sem.run_bind, Sem.run_pure, Result.andThen_ok, invoke]
  exact hr _
theorem good_len {ts : Array TypeId} {args : Array Operand} {out : Out} {evs : Operand → SV} (ho : o.op = .call { callee := .builtin .len, args := args, argTypes := ts })
    (hs : builtinS P h k .len ts.toList (args.toList.map evs) = some out) (R : Rel h c) (H : All2 (V c) (args.toList.map evs) (args.map ev).toList) : Good P ev o h k c out := by
  generalize hA : args.toList.map evs = A at hs H
  generalize hU : args.map ev = U at H
  have hrun := fun (w w' : World) (r : Value) => run_builtin (P := P) (ev := ev) ho w w' r
  rw [hU] at hrun
  simp only [builtinS] at hs
  split at hs <;> try (first | contradiction | (cases hs; done))
  rename_i t x _ e1
  obtain ⟨u, hu, hv⟩ := H.single
  have e1' := args1 e1
  have e2 := args1 hu
  subst e1'
  subst e2
  have fin : ∀ n : Nat, (∀ w, w.heap = c.w.heap → (Builtin.len_ #[t] o.type #[u]).run P w = .ok (.int .i64 n) w) → Good P ev o h k c { val := .int .i64 n } := fun n hn =>
    good_same R (.int .i64 n) (hrun _ _ _ (fun cs => by simp [builtin, hn _ rfl])) (by rw [V])
  split at hs
  · rename_i s
    split at hs <;> try cases hs
    rename_i ht
    exact fin _ fun w _ => by simp [Builtin.len_, run_underlying' (tstring_some ht), vstr hv, goInt]
  · rename_i z es full
    split at hs <;> try cases hs
    rename_i ht
    obtain ⟨e, he⟩ := tsome ht
    rw [V] at hv
    rcases hv with ⟨rfl, rfl⟩ | ⟨a, cap, vs, rfl, _⟩
    · exact fin _ fun w _ => by simp [Builtin.len_, run_underlying' (tslice_some he), goInt]
    · exact fin _ fun w _ => by simp [Builtin.len_, run_underlying' (tslice_some he), goInt]
  · rename_i o' off z len full
    split at hs <;> try cases hs
    rename_i ht
    obtain ⟨e, he⟩ := tsome ht
    rw [V] at hv
    obtain ⟨b, st, cap, _, rfl, _⟩ := hv
    exact fin _ fun w _ => by simp [Builtin.len_, run_underlying' (tslice_some he), goInt]
  · rename_i o'
    split at hs <;> try cases hs
    rename_i es hob
    split at hs <;> try cases hs
    rename_i ht
    obtain ⟨⟨kt, e⟩, he⟩ := tsome ht
    rw [V] at hv
    obtain ⟨b, hρ, rfl⟩ := hv
    obtain ⟨b', ents, clock, g1, g2, g3, _⟩ := R.obj _ _ hob
    rw [hρ] at g1; cases g1
    have hl := g3.length
    have := fin es.length fun w hw => by simp [Builtin.len_, run_underlying' (tmap_some he), goInt, getObj, Sem.run, hw, g2, hl]
    exact this
  · split at hs <;> try cases hs
    rename_i ht
    obtain ⟨e, he⟩ := tsome ht
    rw [V] at hv
    subst hv
    exact fin 0 fun w _ => by simp [Builtin.len_, run_underlying' (tslice_some he), goInt]
  · cases hs
theorem good_cap {ts : Array TypeId} {args : Array Operand} {out : Out} {evs : Operand → SV} (ho : o.op = .call { callee := .builtin .cap, args := args, argTypes := ts })
    (hs : builtinS P h k .cap ts.toList (args.toList.map evs) = some out) (R : Rel h c) (H : All2 (V c) (args.toList.map evs) (args.map ev).toList) : Good P ev o h k c out := by
  generalize hA : args.toList.map evs = A at hs H
  generalize hU : args.map ev = U at H
  have hrun := fun (w w' : World) (r : Value) => run_builtin (P := P) (ev := ev) ho w w' r
  rw [hU] at hrun
  simp only [builtinS] at hs
  split at hs <;> try (first | contradiction | (cases hs; done))
  rename_i t x _ e1
  obtain ⟨u, hu, hv⟩ := H.single
  have e1' := args1 e1
  have e2 := args1 hu
  subst e1'
  subst e2
  have fin : ∀ n : Nat, (Builtin.cap_ #[t] o.type #[u]).run P c.w = .ok (.int .i64 n) c.w → Good P ev o h k c { val := .int .i64 n } := fun n hn =>
    good_same R (.int .i64 n) (hrun _ _ _ (fun cs => by simp [builtin, hn])) (by rw [V])
  split at hs
  · rename_i z es
    split at hs <;> try cases hs
    rename_i ht
    obtain ⟨e, he⟩ := tsome ht
    rw [V] at hv
    rcases hv with ⟨rfl, rfl⟩ | ⟨a, cap, vs, rfl, _, hf, _⟩
    · exact fin _ (by simp [Builtin.cap_, run_underlying' (tslice_some he), goInt])
    · exact fin _ (by simp [Builtin.cap_, run_underlying' (tslice_some he), goInt, hf rfl])
  · rename_i o' off z len
    split at hs <;> try cases hs
    rename_i ht
    obtain ⟨e, he⟩ := tsome ht
    rw [V] at hv
    obtain ⟨b, st, cap, _, rfl, _, hf, _⟩ := hv
    exact fin _ (by simp [Builtin.cap_, run_underlying' (tslice_some he), goInt, hf rfl])
  · cases hs
theorem good_min {ts : Array TypeId} {args : Array Operand} {out : Out} {evs : Operand → SV} (ho : o.op = .call { callee := .builtin .min, args := args, argTypes := ts })
    (hs : builtinS P h k .min ts.toList (args.toList.map evs) = some out) (R : Rel h c) (H : All2 (V c) (args.toList.map evs) (args.map ev).toList) : Good P ev o h k c out := by
  generalize hA : args.toList.map evs = A at hs H
  generalize hU : args.map ev = U at H
  have hrun := fun (w w' : World) (r : Value) => run_builtin (P := P) (ev := ev) ho w w' r
  rw [hU] at hrun
  have e3 : builtinS P h k .min ts.toList A = (minS A).bind yes := by unfold builtinS; split <;> simp_all
  rw [e3] at hs
  unfold minS at hs
  split at hs
  · rename_i i a j b
    split at hs <;> try (simp at hs; done)
    rename_i hij
    simp only [yes, Option.bind_some, Option.some.injEq] at hs
    subst hs; subst hij
    match hU' : U.toList, H with
    | [u, v], H =>
      have e2 := args2 hU'
      subst e2
      have h1 := vint H.1
      have h2 := vint H.2.1
      subst h1; subst h2
      exact good_same R (.int i (if b < a then b else a)) (hrun _ _ _ (fun cs => by simp [builtin, Builtin.min_, Builtin.min2])) (by rw [V])
    | [], H => exact H.elim
    | [_], H => exact H.2.elim
    | _ :: _ :: _ :: _, H => exact H.2.2.elim
  · simp at hs
theorem good_max {ts : Array TypeId} {args : Array Operand} {out : Out} {evs : Operand → SV} (ho : o.op = .call { callee := .builtin .max, args := args, argTypes := ts })
    (hs : builtinS P h k .max ts.toList (args.toList.map evs) = some out) (R : Rel h c) (H : All2 (V c) (args.toList.map evs) (args.map ev).toList) : Good P ev o h k c out := by
  generalize hA : args.toList.map evs = A at hs H
  generalize hU : args.map ev = U at H
  have hrun := fun (w w' : World) (r : Value) => run_builtin (P := P) (ev := ev) ho w w' r
  rw [hU] at hrun
  have e3 : builtinS P h k .max ts.toList A = (maxS A).bind yes := by unfold builtinS; split <;> simp_all
  rw [e3] at hs
  unfold maxS at hs
  split at hs
  · rename_i i a j b
    split at hs <;> try (simp at hs; done)
    rename_i hij
    simp only [yes, Option.bind_some, Option.some.injEq] at hs
    subst hs; subst hij
    match hU' : U.toList, H with
    | [u, v], H =>
      have e2 := args2 hU'
      subst e2
      have h1 := vint H.1
      have h2 := vint H.2.1
      subst h1; subst h2
      exact good_same R (.int i (if b > a then b else a)) (hrun _ _ _ (fun cs => by simp [builtin, Builtin.max_, Builtin.max2])) (by rw [V])
    | [], H => exact H.elim
    | [_], H => exact H.2.elim
    | _ :: _ :: _ :: _, H => exact H.2.2.elim
  · simp at hs
end
end Go.Proofs.YthinbkgpjmjfeaaGreatDoor.Sh
