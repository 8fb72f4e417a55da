/- A part of the proof (part 1 of 17). -/
import Derived.Orders
import Derived.Laws.Sem
import Derived.Laws.World
import Derived.Laws.Cells
import Derived.Laws.CopyRow
import Derived.Laws.Tables
import Derived.ChangeKeysEq
import Derived.Deep.AppendSrc
import Derived.Laws.MakeOwn
import Derived.Great.BuildSlice
import Derived.Deep.Upon
namespace Go.Proofs.YtgakninlhfkkmaaGreat.Sh
abbrev J2:=@List.map_eq_nil_iff
abbrev JN:=@ByteArray.size_append
abbrev JZ:=@List.getLast?_concat
abbrev KG:=@Nat.mul_add
abbrev KW:=@List.getD_eq_getElem?_getD
abbrev Kg:=@List.mem_map_of_mem
abbrev Q6:=@List.getElem_cons_drop
abbrev Qw:=@List.map_map
abbrev YP:=@Function.comp_apply
abbrev Ys:=@List.dropLast_concat
abbrev jA:=@List.nodup_cons
abbrev jB:=@Nat.add_mul
abbrev jC:=@List.pairwise_iff_getElem
abbrev jD:=@List.getElem?_append_left
abbrev jE:=@Option.isSome_some
abbrev jF:=@List.drop_eq_nil_of_le
abbrev jG:=@List.getElem?_cons_zero
abbrev jH:=@Array.getElem?_setIfInBounds_ne
abbrev jI:=@List.length_nil
abbrev jJ:=@Nat.add_zero
abbrev jM:=@Bool.not_eq_false
abbrev jN:=@List.mem_append_right
abbrev jO:=@Nat.min_eq_left
abbrev jP:=@List.mem_cons_self
abbrev jT:=@List.map_congr_left
abbrev jU:=@Array.length_toList
abbrev jV:=@List.set_append_right
abbrev jW:=@List.length_mergeSort
abbrev jX:=@Array.getElem?_modify
abbrev jY:=@List.flatMap_nil
abbrev jZ:=@List.filter_cons
abbrev ja:=@List.take_append_drop
abbrev jb:=@List.mem_of_getElem?
abbrev jc:=@Nat.zero_add
abbrev jd:=@Array.getElem?_eq_getElem
abbrev je:=@Nat.le_succ
abbrev jf:=@List.getElem?_take
abbrev jg:=@Array.getElem?_eq_none
abbrev ji:=@Nat.lt_or_ge
abbrev jj:=@List.all_eq_true
abbrev jk:=@Option.map_some
abbrev jl:=@List.take_succ_cons
abbrev jm:=@List.flatMap_append
abbrev jn:=@Option.isSome_iff_exists
abbrev jo:=@List.mem_flatMap
abbrev jp:=@Array.getElem?_append_left
abbrev jq:=@List.append_nil
abbrev jr:=@List.length_take
abbrev js:=@Bool.not_eq_true'
abbrev jt:=@Nat.mul_le_mul_right
abbrev ju:=@List.getElem_cons_succ
abbrev jv:=@Classical.choose_spec
abbrev jx:=@List.getElem_of_mem
abbrev jy:=@List.filter_eq_self
abbrev jz:=@Array.getElem?_push
abbrev kC:=@Nat.lt_of_not_le
abbrev kD:=@List.eq_nil_of_length_eq_zero
abbrev kF:=@Nat.sub_zero
abbrev kH:=@Bool.or_eq_true
abbrev kK:=@List.sum_cons
abbrev kN:=@List.map_id
abbrev kc:=@List.mem_append_left
abbrev kg:=@List.foldl_append
abbrev kh:=@Option.map_none
abbrev kj:=@List.drop_of_length_le
abbrev kl:=@List.drop_length_add_append
abbrev km:=@List.take_zero
abbrev kn:=@List.drop_zero
abbrev kq:=@Nat.lt_of_lt_of_le
abbrev ku:=@List.set_eq_take_append_cons_drop
abbrev kv:=@Nat.ne_of_lt
abbrev kx:=@Nat.le_of_lt
abbrev ky:=@List.mem_iff_getElem
abbrev kz:=@List.map_take
abbrev qA:=@List.length_pos_iff
abbrev qB:=@List.take_of_length_le
abbrev qD:=@Nat.add_assoc
abbrev qE:=@List.nil_append
abbrev qF:=@List.length_cons
abbrev qG:=@List.drop_eq_getElem_cons
abbrev qH:=@List.mem_of_mem_take
abbrev qI:=@List.filter_append
abbrev qJ:=@Option.bind_some
abbrev qK:=@List.flatMap_cons
abbrev qL:=@List.mem_cons_of_mem
abbrev qM:=@List.foldl_cons
abbrev qO:=@List.getElem?_map
abbrev qP:=@Nat.lt_succ_self
abbrev qR:=@List.pairwise_cons
abbrev qS:=@List.map_nil
abbrev qT:=@List.mem_of_mem_drop
abbrev qU:=@List.length_filter_le
abbrev qV:=@List.getElem?_append_right
abbrev qW:=@List.mem_filter
abbrev qX:=@Option.map_eq_some_iff
abbrev qY:=@List.getElem?_drop
abbrev qZ:=@Array.getD_eq_getD_getElem?
abbrev qa:=@Nat.le_refl
abbrev qb:=@List.take_succ_eq_append_getElem
abbrev qc:=@List.map_append
abbrev qd:=@List.length_map
abbrev qe:=@List.mem_append
abbrev qf:=@List.getElem?_eq_getElem
abbrev qg:=@Nat.zero_le
abbrev qh:=@Option.some.injEq
abbrev qi:=@List.take_length
abbrev qj:=@Bool.false_eq_true
abbrev qk:=@List.mem_cons
abbrev ql:=@List.getElem_mem
abbrev qn:=@List.append_assoc
abbrev qo:=@List.getElem?_eq_some_iff
abbrev qp:=@Array.getElem?_eq_some_iff
abbrev qq:=@Bool.and_eq_true
abbrev qr:=@Nat.le_trans
abbrev qt:=@List.length_append
abbrev qu:=@List.map_cons
abbrev qv:=@List.mem_singleton
abbrev qy:=@List.mem_map
abbrev qz:=@List.cons_append
inductive SV where
 | bool (b:Bool)
 | int (k:IntKind) (n:Int)
 | str (s:ByteArray)
 | nilp
 | nilf
 | nilm
 | agg (cs:List SV)
 | tup (vs:List SV)
 | fn (f:Fn) (first captured:List SV)
 | ptr (o off:Nat)
 | iptr (cs:List SV)
 | sl (o off z len:Nat) (full:Bool)
 | imm (z:Nat) (es:List SV) (full:Bool)
 | map (o:Nat)
 | junk
 | slc (o off z len cap:Nat)
 deriving Inhabited
inductive BT where
 | cells (cs:List SV) (ty:Option TypeId:=none)
 | map (es:List (SV×SV))
 | loop (r:Loop)
 | iter (left:List (SV×SV)) (last:Option (SV×SV))
 | list (z:Nat) (es:List SV)
 deriving Inhabited
def BT.lst:BT->Bool
 | .list _ _=>true
 | _=>false
def SV.cells:SV->List SV
 | .agg cs=>cs
 | v=>[v]
def SV.storable:SV->Bool
 | .junk|.tup _=>false
 | _=>true
def SV.ids:SV->List Nat
 | .ptr o _|.sl o _ _ _ _|.map o|.slc o _ _ _ _=>[o]
 | _=>[]
def G9:Value->SV
 | .bool b=>.bool b
 | .int k n=>.int k n
 | .string s=>.str s
 | .pointer none=>.nilp
 | .slice none 0 0=>.imm 0 [] true
 | .map none=>.nilm
 | .nilFunc=>.nilf
 | _=>.junk
def ofValue:Value->SV
 | .agg cs=>if cs.toList.all (·.oneCell')then .agg (cs.toList.map G9)else .junk
 | v=>G9 v
abbrev SA:=List (Nat×SV)
def Ai:SA->Nat->SV
 | [],_=>.junk
 | (k,x)::r,t=>if k=t then x else Ai r t
def EB (sa:SA):Option Tmp->SV->SA
 | some d,v=>(d,v)::sa
 | none,_=>sa
def Gp (sa:SA):Operand->SV
 | .tmp t=>Ai sa t
 | .const v=>ofValue v
 | .global _=>.junk
 | .func f=>.fn (.func f) [] []
abbrev Hp:=Nat->Option BT
def hset (h:Hp) (o:Nat) (x:Option BT):Hp:=λk=>if k=o then x else h k
section types
variable (P : Program) (t : TypeId)
def Bh:Nat:=P.cellsOf t
def BY:Nat:=P.bytesOf t
def Fm:Option Bool:=match P.underlying t with|some (.struct _)|some (.array _ _)=>some true|some _=>some false|none=>none
def BH:SV:=match P.info? t with|some { zero:=some v,.. }=>ofValue v|_=>.junk
def A9:Option TypeId:=match P.underlying t with|some (.slice e)=>some e|_=>none
def JF:Option (Nat×TypeId):=match P.underlying t with|some (.array n e)=>some (n,e)|_=>none
def Ko:Option (TypeId×TypeId):=match P.underlying t with|some (.map k e)=>some (k,e)|_=>none
def FC:Bool:=match P.underlying t with|some .string=>true|_=>false
def MA:Bool:=match P.underlying t with|some .bool=>true|_=>false
def UF:Bool:=match P.underlying t with|some (.pointer _)=>true|_=>false
def Jl:Option IntKind:=match P.underlying t with|some (.int k)=>some k|_=>none
def Bb:Option (List (Nat×Nat)):=
 match P.info? t,P.underlying t with
 | some _,some (.struct fs)=>fs.toList.mapM λf=>(P.info? f.type).map λi=>(f.offset,i.size)
 | some _,some (.array n e)=>(P.info? e).map λi=>(List.range n).map λj=>(j*i.size,i.size)
 | _,_=>none
def IR (i:Nat):Option (Nat×TypeId):=match P.underlying t with|some (.struct fs)=>(fs[i]?).map λf=>(f.offset,f.type)|_=>none
end types
def P4 (ag:Option Bool) (cs:List SV):Option SV:=
 match ag with
 | some true=>some (.agg cs)
 | some false=>match cs with|[v]=>some v|_=>none
 | none=>none
def Bg (cs:List SV) (off n:Nat):Option (List SV):=if off+n<=cs.length then some ((cs.drop off).take n)else none
def GC (cs:List SV) (off:Nat) (xs:List SV):Option (List SV):=
 if off+xs.length<=cs.length then some (cs.take off++xs++cs.drop (off+xs.length))else none
structure dW where
 val:SV
 upd:Option (Nat×Option BT):=none
 new:Option BT:=none
def dW.app (h:Hp) (k:Nat) (o:dW):Hp:=
 let h1:=match o.upd with|some (j,x)=>hset h j x|none=>h
 match o.new with|some x=>hset h1 k (some x)|none=>h1
def EH (v:SV):Option dW:=some { val:=v }
def JS (place:Nat->Option (Nat×Nat)) (cells:List SV):List (Nat×SV)->Option (List SV)
 | []=>some cells
 | (i, v) :: rest =>
  match place i with
  | none=>none
  | some (off, size) =>
   if v.storable&&v.cells.length==size then
    match GC cells off v.cells with
    | some cs=>JS place cs rest
    | none=>none
   else none
def J7 (op:BinOp) (k:IntKind) (a b:Int):Option SV:=
 match op with
 | .add=>some (.int k (k.wrap (a+b)))
 | .sub=>some (.int k (k.wrap (a-b)))
 | .mul=>some (.int k (k.wrap (a*b)))
 | .quo=>if b=0 then none else some (.int k (k.wrap (a.tdiv b)))
 | .rem=>if b=0 then none else some (.int k (a.tmod b))
 | .and=>some (.int k (k.wrap (BitVec.ofInt k.bits a &&& BitVec.ofInt k.bits b).toNat))
 | .or=>some (.int k (k.wrap (BitVec.ofInt k.bits a ||| BitVec.ofInt k.bits b).toNat))
 | .xor=>some (.int k (k.wrap (BitVec.ofInt k.bits a ^^^ BitVec.ofInt k.bits b).toNat))
 | .eql=>some (.bool (a==b))
 | .neq=>some (.bool (a !=b))
 | .lss=>some (.bool (a<b))
 | .leq=>some (.bool (a<=b))
 | .gtr=>some (.bool (a>b))
 | .geq=>some (.bool (a ≥ b))
 | _=>none
def OC (op:BinOp) (a b:ByteArray):Option SV:=
 match op with
 | .add=>if a.size+b.size<=9223372036854775807 then some (.str (a++b))else none
 | .eql=>some (.bool (a.toList==b.toList))
 | .neq=>some (.bool !(a.toList==b.toList))
 | .lss=>some (.bool (Op.bytesLess a.toList b.toList))
 | .leq=>some (.bool (Op.bytesLess a.toList b.toList||a.toList==b.toList))
 | .gtr=>some (.bool !(Op.bytesLess a.toList b.toList||a.toList==b.toList))
 | .geq=>some (.bool !(Op.bytesLess a.toList b.toList))
 | _=>none
def YO:SV->Option Bool
 | .nilp|.nilf|.nilm=>some true
 | .ptr .. | .iptr _|.fn .. | .map _|.sl ..=>some false
 | .imm _ (_::_) _=>some false
 | _=>none
def UZ (isB isP:Bool) (op:BinOp) (x y:SV):Option SV:=
 match op,x,y with
 | .shl,.int k a,.int _ b=>if 0<=b then some (.int k (k.wrap (a*2 ^ (min b.toNat k.bits))))else none
 | .shr,.int k a,.int _ b=>if 0<=b then some (.int k (a.fdiv (2 ^ (min b.toNat k.bits))))else none
 | op,.int k a,.int k' b=>if k=k' then J7 op k a b else none
 | op,.str a,.str b=>OC op a b
 | .eql,.bool a,.bool b=>if isB then some (.bool (a==b))else none
 | .neq,.bool a,.bool b=>if isB then some (.bool !(a==b))else none
 | .eql,x,.nilp=>if isP then match x with|.nilp=>some (.bool true)|.ptr .. | .iptr _=>some (.bool false)|_=>none else none
 | .neq,x,.nilp=>if isP then match x with|.nilp=>some (.bool false)|.ptr .. | .iptr _=>some (.bool true)|_=>none else none
 | _,_,_=>none
def G5:SV->SV->Option Bool
 | .int k a,.int k' b=>if k=k' then some (a==b)else none
 | .str a,.str b=>some (a==b)
 | .bool a,.bool b=>some (a==b)
 | _,_=>none
def CK (P:Program) (t:TypeId):SV->Bool
 | .int _ _=>(Jl P t).isSome
 | .str _=>FC P t
 | .bool _=>MA P t
 | _=>false
def DH (k:SV):List (SV×SV)->Nat->Option (Option (Nat×SV))
 | [],_=>some none
 | e::es,i=>
  match G5 k e.1 with
  | some true=>some (some (i,e.2))
  | some false=>DH k es (i+1)
  | none=>none
def KX (h:Hp):SV->Option (List (SV×SV))
 | .nilm=>some []
 | .map o=>match h o with|some (.map es)=>some es|_=>none
 | _=>none
def HF (es:List (SV×SV)) (i:Nat) (k v:SV):List (SV×SV):=es.modify i λ_=>(k,v)
def flat (h:Hp):SV->Option (List SV)
 | .imm _ es _=>some (es.flatMap SV.cells)
 | .sl o off z len _=>
  match h o with
  | some (.cells cs _)=>Bg cs off (len*z)
  | _=>none
 | _=>none
def Dw:SV->Option Nat
 | .imm _ es _=>some es.length
 | .sl _ _ _ len _=>some len
 | .str s=>some s.size
 | _=>none
def Hd (z:Nat):SV->Bool
 | .imm z' es _=>es.isEmpty||z'==z
 | .sl _ _ z' _ _=>z'==z
 | _=>false
def Gq (t:TypeId):Option TypeId:=if t=388\/t=5 then some t else none
def Wy:Option BT->Option TypeId
 | some (.cells _ ty)=>ty
 | _=>none
def HI (h:Hp) (e:TypeId) (o off:Nat):Option TypeId:=match Gq e with|none=>none|some t=>if off=0/\Wy (h o)=some t then some t else none
def dY (n bytes:Nat):Bool:=n<=1073741824&&bytes<=65536
def Cm (P:Program) (h:Hp) (n:Nat) (t:TypeId) (s x:SV):Option dW:=
 match A9 P t with
 | none=>none
 | some e =>
  let z:=Bh P e
  match Dw x,flat h x with
  | some m, some ys =>
   if !(Hd z s&&Hd z x&&z !=0&&(BH P e).storable&&(BH P e).cells.length==z)then none else
   if m=0 then EH s else
   match s with
   | .imm _ es true=>
    if dY (es.length+m) (BY P e)then some { val:=.sl n 0 z (es.length+m) false,new:=some (.cells (es.flatMap SV.cells++ys) (Gq e)) } else none
   | .sl o off z' len full =>
    match flat h (.sl o off z' len full)with
    | some xs =>
     if dY (len+m) (BY P e)then
      some { val:=.sl n 0 z (len+m) false,upd:=if full then none else some (o,none),new:=some (.cells (xs++ys) (HI h e o off)) } else none
    | none=>none
   | _=>none
  | _,_=>none
def FO (P:Program) (n:Nat) (t t2:TypeId) (s x:SV):Option dW:=
 match A9 P t,P.underlying t2,s,x with
 | some e, some (.int _), .imm _ [] true, .int .i64 m =>
  if(0<m/\m<=1073741824)/\Bh P e≠0/\BY P e<=65536/\(BH P e).storable=true/\(BH P e).cells.length=Bh P e then
   some { val:=.sl n 0 (Bh P e) m.toNat false,new:=some (.cells (List.replicate m.toNat (BH P e).cells).flatten) }
  else none
 | _,_,_,_=>none
def Oi (P:Program) (h:Hp) (t:TypeId) (d x:SV):Option dW:=
 match A9 P t,Dw d,Dw x,flat h x with
 | some e, some dl, some m, some ys =>
  let z:=Bh P e
  if !(Hd z d&&Hd z x&&z !=0)then none else
  let c:=Nat.min m dl
  if c=0 then EH (.int .i64 0)else
  match d with
  | .sl o off _ _ _ =>
   match h o with
   | some (.cells cs ty)=>
    match GC cs off (ys.take (c*z))with
    | some cs'=>some { val:=.int .i64 c,upd:=some (o,some (.cells cs' ty)) }
    | none=>none
   | _=>none
  | _=>none
 | _,_,_,_=>none
def LI (P:Program) (h:Hp) (t:TypeId) (d:SV):Option dW:=
 match A9 P t,Dw d with
 | some e, some dl =>
  if !(Hd (Bh P e) d&&Bh P e !=0&&(BH P e).storable&&(BH P e).cells.length==Bh P e)then none else
  if dl=0 then EH (.tup [])else
  match d with
  | .sl o off _ _ _ =>
   match h o with
   | some (.cells cs ty)=>
    match GC cs off (List.replicate dl (BH P e).cells).flatten with
    | some cs'=>some { val:=.tup [],upd:=some (o,some (.cells cs' ty)) }
    | none=>none
   | _=>none
  | _=>none
 | _,_=>none
def Tl:List SV->Option SV
 | [.int k a,.int k' b]=>if k=k' then some (.int k (if b<a then b else a))else none
 | _=>none
def Tj:List SV->Option SV
 | [.int k a,.int k' b]=>if k=k' then some (.int k (if b>a then b else a))else none
 | _=>none
def AU (P:Program) (h:Hp) (n:Nat) (b:Builtin) (ts:List TypeId) (args:List SV):Option dW:=
 match b,ts,args with
 | .len,[t],[x]=>
  match x with
  | .str s=>if FC P t then EH (.int .i64 s.size)else none
  | .imm _ es _=>if(A9 P t).isSome then EH (.int .i64 es.length)else none
  | .sl _ _ _ len _=>if(A9 P t).isSome then EH (.int .i64 len)else none
  | .map o=>match h o with|some (.map es)=>if(Ko P t).isSome then EH (.int .i64 es.length)else none|_=>none
  | _=>none
 | .cap,[t],[x]=>
  match x with
  | .imm _ es true=>if(A9 P t).isSome then EH (.int .i64 es.length)else none
  | .sl _ _ _ len true=>if(A9 P t).isSome then EH (.int .i64 len)else none
  | _=>none
 | .append,[t,t2],[s,x]=>if(A9 P t2).isSome then Cm P h n t s x else FO P n t t2 s x
 | .copy,[t,_],[d,x]=>Oi P h t d x
 | .clear,[t],[d]=>LI P h t d
 | .min,_,l=>(Tl l).bind EH
 | .max,_,l=>(Tj l).bind EH
 | .delete, [t, _], [.map o, k] =>
  match Ko P t,h o with
  | some (kt,_),some (.map es)=>
   if !CK P kt k then none else
   match DH k es 0 with
   | some (some (i,_))=>some { val:=.tup [],upd:=some (o,some (.map (es.eraseIdx i))) }
   | some none=>some { val:=.tup [],upd:=some (o,some (.map es)) }
   | none=>none
  | _,_=>none
 | _,_,_=>none
def Jd (P:Program) (h:Hp) (t:TypeId):SV->Option SV
 | .ptr o off=>
  match h o with
  | some (.cells cs _)=>(Bg cs off (Bh P t)).bind (P4 (Fm P t))
  | _=>none
 | .iptr cs=>(Bg cs 0 (Bh P t)).bind (P4 (Fm P t))
 | _=>none
def OB (P:Program) (h:Hp) (t:TypeId) (a v:SV):Option dW:=
 match a with
 | .ptr o off =>
  match h o with
  | some (.cells cs ty) =>
   if v.storable&&v.cells.length==Bh P t&&Bh P t !=0 then
    match GC cs off v.cells with
    | some cs'=>some { val:=.tup [],upd:=some (o,some (.cells cs' ty)) }
    | none=>none
   else none
  | _=>none
 | _=>none
def Gx (P:Program) (t:TypeId) (x:SV) (i:Nat):Option SV:=
 match IR P t i with
 | some (off,ft)=>
  if Bh P ft=0 then none else
  match x with
  | .ptr o a=>some (.ptr o (a+off))
  | .iptr cs=>some (.iptr (cs.drop off))
  | _=>none
 | none=>none
def G2 (P:Program) (t:TypeId) (x:SV) (i:Int):Option SV:=
 match A9 P t with
 | some e=>
  let z:=Bh P e
  if z=0 then none else
  match x with
  | .sl o off z' len _=>if z'=z/\0<=i/\i<len then some (.ptr o (off+i.toNat*z))else none
  | .imm z' es _=>if z'=z/\0<=i then(es[i.toNat]?).map λv=>.iptr v.cells else none
  | _=>none
 | none =>
  match JF P t with
  | some (len, e) =>
   let z:=Bh P e
   if 0<=i/\i<len/\z≠0 then
    match x with
    | .ptr o off=>some (.ptr o (off+i.toNat*z))
    | .iptr cs=>some (.iptr (cs.drop (i.toNat*z)))
    | _=>none
   else none
  | none=>none
def Sw:Option SV->Option Int->Option Int
 | none,d=>d
 | some (.int _ n),_=>some n
 | _,_=>none
def JE (P:Program) (t:TypeId) (x:SV) (lo hi mx:Option SV):Option SV:=
 match x with
 | .str s=>
  if !FC P t||mx.isSome then none else
  match Sw lo (some 0),Sw hi (some s.size)with
  | some l,some h=>if 0<=l/\l<=h/\h<=s.size then some (.str (s.extract l.toNat h.toNat))else none
  | _,_=>none
 | .imm z es full =>
  if !((A9 P t).any λe=>Bh P e !=0&&(es.isEmpty||Bh P e==z))then none else
  match Sw lo (some 0),Sw hi (some es.length)with
  | some l, some h =>
   if 0<=l/\l<=h/\h<=es.length then
    match mx with
    | none=>some (.imm z ((es.take h.toNat).drop l.toNat) (full&&h==es.length))
    | some (.int _ m)=>if hi.isSome&&h<=m&&m<=es.length then some (.imm z ((es.take h.toNat).drop l.toNat) (m==h))else none
    | _=>none
   else none
  | _,_=>none
 | .sl o off z len full =>
  if !((A9 P t).any λe=>Bh P e !=0&&Bh P e==z)then none else
  match Sw lo (some 0),Sw hi (some len)with
  | some l, some h =>
   if 0<=l/\l<=h/\h<=len then
    match mx with
    | none=>if l=h/\l≠0 then some (.imm z [] (full&&h==len))else some (.sl o (off+l.toNat*z) z (h-l).toNat (full&&h==len))
    | some (.int _ m) =>
     if hi.isSome&&h<=m&&m<=len then
      if l=h/\l≠0 then some (.imm z [] (m==h))else some (.sl o (off+l.toNat*z) z (h-l).toNat (m==h))
     else none
    | _=>none
   else none
  | _,_=>none
 | _=>none
def dV (P:Program) (ev:Operand->SV) (h:Hp) (k:Nat) (op:Op):Option dW:=
 match op with
 | .move x|.assign x=>EH (ev x)
 | .pick c a b=>match ev c with|.bool t=>EH (if t then ev a else ev b)|_=>none
 | .alloc e=>if(BH P e).storable&&(BH P e).cells.length==Bh P e then some { val:=.ptr k 0,new:=some (.cells (BH P e).cells (Gq e)) } else none
 | .box e x=>if(ev x).storable then some { val:=.ptr k 0,new:=some (.cells (ev x).cells (Gq e)) } else none
 | .build t ps=>
  match BH P t,Bb P t with
  | .agg z,some pl=>(JS (pl[·]?) z (ps.toList.map λp=>(p.1,ev p.2))).bind λcs=>EH (.agg cs)
  | _,_=>none
 | .buildSlice t len ps =>
  match A9 P t with
  | some e =>
   if(len*Bh P e≠0/\len*Bh P e<=1048576)/\(BH P e).storable=true/\(BH P e).cells.length=Bh P e then
    (JS (λi=>some (i*Bh P e,Bh P e)) (List.replicate len (BH P e).cells).flatten (ps.toList.map λp=>(p.1,ev p.2))).bind λcs=>
      some { val:=.sl k 0 (Bh P e) len true,new:=some (.cells cs) }
   else none
  | none=>none
 | .load t a=>(Jd P h t (ev a)).bind EH
 | .store t a x=>OB P h t (ev a) (ev x)
 | .nilCheck x=>match ev x with|.ptr o a=>EH (.ptr o a)|.iptr cs=>EH (.iptr cs)|_=>none
 | .binOp op t x y _=>(UZ (MA P t) (UF P t) op (ev x) (ev y)).bind EH
 | .unOp op _ x=>
  match op,ev x with
  | .not,.bool b=>EH (.bool !b)
  | .neg,.int i n=>EH (.int i (i.wrap (0-n)))
  | _,_=>none
 | .convert src dst x=>match Jl P src,Jl P dst,ev x with|some _,some i,.int _ n=>EH (.int i (i.wrap n))|_,_,_=>none
 | .makeFunc f a b=>EH (.fn f (a.toList.map ev) (b.toList.map ev))
 | .makeMap t r=>if r.isNone&&(Ko P t).isSome then some { val:=.map k,new:=some (.map []) } else none
 | .makeSlice t l c =>
  match A9 P t,ev l,ev c with
  | some e, .int .i64 n, .int .i64 m =>
   if 0<=n/\n=m/\dY n.toNat (BY P e)=true/\(BH P e).storable=true/\(BH P e).cells.length=Bh P e/\Bh P e≠0 then
    some { val:=.sl k 0 (Bh P e) n.toNat true,new:=some (.cells (List.replicate n.toNat (BH P e).cells).flatten) }
   else none
  | _,_,_=>none
 | .slice t x lo hi mx=>(JE P t (ev x) (lo.map ev) (hi.map ev) (mx.map ev)).bind EH
 | .fieldAddr t x i=>(Gx P t (ev x) i).bind EH
 | .field t x i=>
  match IR P t i,ev x with
  | some (off,ft),.agg cs=>((Bg cs off (Bh P ft)).bind (P4 (Fm P ft))).bind EH
  | _,_=>none
 | .indexAddr t x i=>match ev i with|.int _ n=>(G2 P t (ev x) n).bind EH|_=>none
 | .index t x i =>
  match ev x,ev i with
  | .str s,.int _ n=>if FC P t=true/\0<=n then(s[n.toNat]?).bind λb=>EH (.int .u8 b.toNat)else none
  | .agg cs,.int _ n=>
   match JF P t with
   | some (len,e)=>if 0<=n/\n<len then((Bg cs (n.toNat*Bh P e) (Bh P e)).bind (P4 (Fm P e))).bind EH else none
   | none=>none
  | _,_=>none
 | .lookup t m x ok =>
  match Ko P t with
  | some (kt, e) =>
   if !CK P kt (ev x) || !(BH P e).storable then none else
   match KX h (ev m)with
   | some es =>
    match DH (ev x) es 0 with
    | some r=>
     let(v,b):=match r with|some (_,v)=>(v,true)|none=>(BH P e,false)
     EH (if ok then .tup [v,.bool b]else v)
    | none=>none
   | none=>none
  | none=>none
 | .mapUpdate t m y x =>
  match Ko P t,ev m with
  | some (kt, _), .map o =>
   if !CK P kt (ev y)then none else
   match h o with
   | some (.map es) =>
    if(ev x).storable then
     match DH (ev y) es 0 with
     | some (some (i,_))=>some { val:=.tup [],upd:=some (o,some (.map (HF es i (ev y) (ev x)))) }
     | some none=>some { val:=.tup [],upd:=some (o,some (.map (es++[(ev y,ev x)]))) }
     | none=>none
    else none
   | _=>none
  | _,_=>none
 | .extract x i=>match ev x with|.tup vs=>(vs[i]?).bind EH|_=>none
 | .call { callee:=.builtin b,args,argTypes }=>AU P h k b argTypes.toList (args.toList.map ev)
 | _=>none
def Ek (ev:Operand->SV):Op->List Nat
 | .load _ a=>(ev a).ids
 | .store _ a _=>(ev a).ids
 | .lookup _ m _ _=>(ev m).ids
 | .mapUpdate _ m _ _=>(ev m).ids
 | .call { callee:=.builtin b,args,.. }=>args.toList.flatMap λx=>match b,ev x with|.len,.sl ..=>[]|_,v=>v.ids
 | _=>[]
def AZ {α β:Type} (R:α->β->Prop):List α->List β->Prop
 | [],[]=>True
 | a::aS,b::bs=>R a b/\AZ R aS bs
 | _,_=>False
section all2
variable {α β : Type} {R : α → β → Prop}
theorem AZ.length:∀{aS:List α} {bs:List β},AZ R aS bs->aS.length=bs.length
 | [],[],_=>rfl
 | _::_,_::_,h=>by simp[AZ.length h.2]
 | [],_::_,h=>h.elim
 | _::_,[],h=>h.elim
theorem AZ.get:∀{aS:List α} {bs:List β} {i:Nat} {a:α},AZ R aS bs->aS[i]? = some a->∃b,bs[i]? = some b/\R a b
 | a::_,b::_,0,_,h,e=>by simp at e;subst e;exact⟨b,rfl,h.1⟩
 | _::_,_::_,i+1,_,h,e=>by simp at e;simpa using AZ.get h.2 e
 | [],_,_,_,_,e=>by simp at e
 | _::_,[],_,_,h,_=>h.elim
theorem AZ.append:∀{aS as':List α} {bs a:List β},AZ R aS bs->AZ R as' a->AZ R (aS++as') (bs++a)
 | [],_,[],_,_,h'=>h'
 | _::_,_,_::_,_,h,h'=>⟨h.1,AZ.append h.2 h'⟩
 | [],_,_::_,_,h,_=>h.elim
 | _::_,_,[],_,h,_=>h.elim
theorem AZ.take:∀{aS:List α} {bs:List β} (n:Nat),AZ R aS bs->AZ R (aS.take n) (bs.take n)
 | _,_,0,_=>by simp[AZ]
 | [],[],_+1,_=>by simp[AZ]
 | _::_,_::_,n+1,h=>⟨h.1,AZ.take n h.2⟩
 | [],_::_,_+1,h=>h.elim
 | _::_,[],_+1,h=>h.elim
theorem AZ.drop:∀{aS:List α} {bs:List β} (n:Nat),AZ R aS bs->AZ R (aS.drop n) (bs.drop n)
 | _,_,0,h=>by simpa using h
 | [],[],_+1,_=>by simp[AZ]
 | _::_,_::_,n+1,h=>AZ.drop n h.2
 | [],_::_,_+1,h=>h.elim
 | _::_,[],_+1,h=>h.elim
theorem AZ.mono {c:α->β->Prop} (h:∀a b,R a b->c a b):∀{aS:List α} {bs:List β},AZ R aS bs->AZ c aS bs
 | [],[],_=>trivial
 | _::_,_::_,g=>⟨h _ _ g.1,AZ.mono h g.2⟩
 | [],_::_,g=>g.elim
 | _::_,[],g=>g.elim
theorem AZ.nil_left {bs:List β} (h:AZ R [] bs):bs=[]:=by cases bs;rfl;exact h.elim
theorem AZ.single {a:α} {bs:List β} (h:AZ R [a] bs):∃b,bs=[b]/\R a b:=by
 match bs,h with
 | [b],h=>exact⟨b,rfl,h.1⟩
 | [],h=>exact h.elim
 | _::_::_,h=>exact h.2.elim
theorem AZ.modify (f:α->α) (g:β->β) (c:∀a b,R a b->R (f a) (g b)):
 ∀(i:Nat) {aS:List α} {bs:List β},AZ R aS bs->AZ R (aS.modify i f) (bs.modify i g)
 | 0,a::aS,b::bs,h=>by simpa[AZ]using⟨c _ _ h.1,h.2⟩
 | i+1,a::aS,b::bs,h=>by simpa[AZ]using⟨h.1,AZ.modify (aS:=aS) (bs:=bs) f g c i h.2⟩
 | i,[],[],_=>by cases i<;>simp[AZ]
 | _,[],_::_,h=>h.elim
 | _,_::_,[],h=>h.elim
theorem AZ.eraseIdx:∀(i:Nat) {aS:List α} {bs:List β},AZ R aS bs->AZ R (aS.eraseIdx i) (bs.eraseIdx i)
 | 0,_::_,_::_,h=>by simpa using h.2
 | i+1,_::_,_::_,h=>by simpa[AZ]using⟨h.1,AZ.eraseIdx i h.2⟩
 | i,[],[],_=>by cases i<;>simp[AZ]
 | _,[],_::_,h=>h.elim
 | _,_::_,[],h=>h.elim
theorem AZ.replicate {a:α} {b:β} (h:R a b):∀n,AZ R (List.replicate n a) (List.replicate n b)
 | 0=>trivial
 | n+1=>by simpa[List.replicate_succ,AZ]using⟨h,AZ.replicate h n⟩
theorem AZ.flatten {γ δ:Type} {T:γ->δ->Prop}:∀{aS:List (List γ)} {bs:List (List δ)},AZ (AZ T) aS bs->AZ T aS.flatten bs.flatten
 | [],[],_=>trivial
 | _::_,_::_,h=>by simpa using AZ.append h.1 (AZ.flatten h.2)
 | [],_::_,h=>h.elim
 | _::_,[],h=>h.elim
theorem AZ.map {γ δ:Type} {T:γ->δ->Prop} {f:α->γ} {g:β->δ} (c:∀a b,R a b->T (f a) (g b)):∀{aS:List α} {bs:List β},AZ R aS bs->AZ T (aS.map f) (bs.map g)
 | [],[],_=>trivial
 | _::_,_::_,h=>⟨c _ _ h.1,AZ.map c h.2⟩
 | [],_::_,h=>h.elim
 | _::_,[],h=>h.elim
theorem AZ.of_get {aS:List α} {bs:List β} (hl:aS.length=bs.length) (h:∀(i:Nat) (a:α) (b:β),aS[i]? = some a->bs[i]? = some b->R a b):AZ R aS bs:=by
 induction aS generalizing bs with
 | nil=>cases bs;trivial;simp at hl
 | cons a aS ih=>
  cases bs with
  | nil=>simp at hl
  | cons b bs=>exact⟨h 0 a b rfl rfl,ih (by simpa using hl) λi a b ha hb=>h (i+1) a b (by simpa using ha) (by simpa using hb)⟩
end all2
def rm (w:World) (b:Nat):Nat:=match w.heap[b]? with|some (.cells c _ _)=>c.size|_=>0
structure Cx where
 ρ:Nat->Option (Nat×Nat)
 own:Nat->Prop
 w:World
 bk:Nat->Option Nat
structure GZ (c:Cx) (a:Addr) (vs:List Value):Prop where
 spot:vs≠[]->a.spot=none
 free:vs≠[]->¬c.own a.block
 cell:∀i x,vs[i]? = some x->c.w.cell? ⟨a.block,a.off+i,none⟩=some x
 one:∀x∈vs,x.oneCell'=true
mutual
def V (c:Cx):SV->Value->Prop
 | .bool b,v=>v=.bool b
 | .int k n,v=>v=.int k n
 | .str s,v=>v=.string s
 | .nilp,v=>v=.pointer none
 | .nilf,v=>v=.nilFunc
 | .nilm,v=>v=.map none
 | .agg cs,v=>∃vs,v=.agg vs.toArray/\VL c cs vs/\∀x∈vs,x.oneCell'=true
 | .tup cs,v=>∃vs,v=.tuple vs.toArray/\VL c cs vs
 | .fn f a b,v=>∃xs ys,v=.func f xs.toArray ys.toArray/\VL c a xs/\VL c b ys
 | .ptr o off,v=>∃b st,c.ρ o=some (b,st)/\v=.pointer (some ⟨b,st+off,none⟩)
 | .iptr cs,v=>∃a vs,v=.pointer (some a)/\GZ c a vs/\VL c cs vs/\a.spot=none
 | .sl o off z len full,v=>∃b st cap,c.ρ o=some (b,st)/\v=.slice (some ⟨b,st+off,none⟩) len cap/\len<=cap/\(full=true->cap=len)/\st+off+cap*z<=rm c.w b
 | .imm z es full,v=>(es=[]/\v=.slice none 0 0)\/∃a cap vs,v=.slice (some a) es.length cap/\es.length<=cap/\(full=true->cap=es.length)/\GZ c a vs/\VE c z es vs
 | .map o,v=>∃b,c.ρ o=some (b,0)/\v=.map (some b)
 | .junk,_=>True
 | .slc o off z len cap,v=>∃b st,c.ρ o=some (b,st)/\v=.slice (some ⟨b,st+off,none⟩) len cap/\len<=cap/\st+off+cap*z<=rm c.w b
def VL (c:Cx):List SV->List Value->Prop
 | [],vs=>vs=[]
 | s::ss,vs=>∃v r,vs=v::r/\V c s v/\VL c ss r
def VE (c:Cx) (z:Nat):List SV->List Value->Prop
 | [],vs=>vs=[]
 | e::es,vs=>∃u r,vs=u.cells.toList++r/\u.cells.size=z/\e.storable=true/\V c e u/\VE c z es r
end
theorem Nd {c:Cx} {z:Nat}:∀{es:List SV} {vs:List Value},VE c z es vs->vs.length=es.length*z
 | [],vs,h=>by rw[VE]at h;simp[h]
 | e::es,vs,h=>by
  rw[VE]at h;obtain⟨u,r,rfl,b,_,_,a⟩:=h;have:=Nd a;simp[this,b,jB,Nat.add_comm]
theorem BN {c:Cx}:∀{a:List SV} {vs:List Value},VL c a vs↔AZ (V c) a vs
 | [],vs=>by cases vs<;>simp[VL,AZ]
 | s::a,[]=>by simp[VL,AZ]
 | s::a,v::vs=>by
  rw[VL];constructor;rintro⟨_,_,e,b,h2⟩;simp at e;obtain⟨rfl,rfl⟩:=e;exact⟨b,BN.1 h2⟩;intro h;exact⟨v,vs,rfl,h.1,BN.2 h.2⟩
theorem Ho {c:Cx} {z:Nat}:∀{es:List SV} {vs:List Value},VE c z es vs ↔
 ∃us,AZ (V c) es us/\(∀u∈us,u.cells.size=z)/\(∀e∈es,e.storable=true)/\vs=us.flatMap (·.cells.toList)
 | [],vs=>by
  rw[VE];constructor;rintro rfl;exact⟨[],trivial,by simp,by simp,rfl⟩;rintro⟨us,h,_,_,rfl⟩;rw[h.nil_left];rfl
 | e::es,vs=>by
  rw[VE];constructor;rintro⟨u,r,rfl,b,a,j,i⟩;obtain⟨us,f,h2,g,rfl⟩:=Ho.1 i;exact⟨u::us,⟨j,f⟩,by simpa using⟨b,h2⟩,by simpa using⟨a,g⟩,by simp⟩;rintro⟨us,h,b,a,rfl⟩
  match us,h with
  | u::us,h=>exact⟨u,_,by simp,b u (by simp),a e (by simp),h.1,Ho.2 ⟨us,h.2,λx d=>b x (by simp[d]),λx d=>a x (by simp[d]),rfl⟩⟩
  | [],h=>exact h.elim
def Td (w w':World):Prop:=w'.tape=w.tape/\w.drawn<=w'.drawn
theorem Td.trans {a b c:World} (h:Td a b) (g:Td b c):Td a c:=⟨g.1.trans h.1,qr h.2 g.2⟩
structure DZ (c c':Cx):Prop where
 ρ:∀o p,c.ρ o=some p->c'.ρ o=some p
 size:c.w.heap.size<=c'.w.heap.size
 keep:∀b,b<c.w.heap.size->¬c.own b->¬c'.own b/\c'.w.heap[b]? = c.w.heap[b]?
 room:∀b,rm c.w b<=rm c'.w b
 os:c'.w.os=c.w.os
 out:c'.w.output=c.w.output
 td:Td c.w c'.w
theorem DZ.refl (c:Cx):DZ c c:=⟨λ_ _ h=>h,qa _,λ_ _ h=>⟨h,rfl⟩,λ_=>qa _,rfl,rfl,⟨rfl,qa _⟩⟩
theorem DZ.trans {a b c:Cx} (h:DZ a b) (g:DZ b c):DZ a c:=
 ⟨λo p e=>g.ρ o p (h.ρ o p e),qr h.size g.size,
  λx d f=>let⟨h1,h2⟩:=h.keep x d f;let⟨g1,g2⟩:=g.keep x (kq d h.size) h1;⟨g1,g2.trans h2⟩,
  λx=>qr (h.room x) (g.room x),g.os.trans h.os,g.out.trans h.out,h.td.trans g.td⟩
structure ON (c c':Cx):Prop where
 ρ:∀o p,c.ρ o=some p->c'.ρ o=some p
 keep:∀b,¬c.own b->(∃ob,c.w.heap[b]? = some ob/\∀l,ob≠.deferred l)->¬c'.own b/\c'.w.heap[b]? = c.w.heap[b]?
 room:∀b,rm c.w b<=rm c'.w b
theorem DZ.to0 {c a:Cx} (x:DZ c a):ON c a:=⟨x.ρ,λb d ⟨_,hb,_⟩=>x.keep b (qp.1 hb).1 d,x.room⟩
theorem Ht {w:World} {b i:Nat} {v:Value} (h:w.cell? ⟨b,i,none⟩=some v):∃ob,w.heap[b]? = some ob/\∀l,ob≠.deferred l:=by
 unfold World.cell? at h;cases hb:w.heap[b]? with
 | none=>simp[hb]at h
 | some o=>cases o<;>simp[hb]at h ⊢
theorem GZ.mono0 {c d:Cx} (x:ON c d) {a:Addr} {vs:List Value} (h:GZ c a vs):GZ d a vs:=by
 refine⟨h.spot,λb=>?_,λi u hi=>?_,h.one⟩
 match vs,b with
 | u::us,b=>
  have h0:=h.cell 0 u (by simp);exact(x.keep _ (h.free b) (Ht h0)).1
 have h0:=h.cell i u hi;have b:vs≠[]:=by rintro rfl;simp at hi
 have:=(x.keep _ (h.free b) (Ht h0)).2;unfold World.cell? at *;rw[this];exact h0
mutual
theorem V.mono0 {c k:Cx} (x:ON c k):∀{s:SV} {v:Value},V c s v->V k s v
 | .bool _,_,h=>h
 | .int _ _,_,h=>h
 | .str _,_,h=>h
 | .nilp,_,h=>h
 | .nilf,_,h=>h
 | .nilm,_,h=>h
 | .junk,_,_=>trivial
 | .agg cs,v,h=>by rw[V]at *;obtain⟨vs,e,hl,l⟩:=h;exact⟨vs,e,VL.mono0 x hl,l⟩
 | .tup cs,v,h=>by rw[V]at *;obtain⟨vs,e,hl⟩:=h;exact⟨vs,e,VL.mono0 x hl⟩
 | .fn f a b,v,h=>by rw[V]at *;obtain⟨xs,ys,e,d,h2⟩:=h;exact⟨xs,ys,e,VL.mono0 x d,VL.mono0 x h2⟩
 | .ptr o off,v,h=>by rw[V]at *;obtain⟨b,st,d,h2⟩:=h;exact⟨b,st,x.ρ _ _ d,h2⟩
 | .iptr cs,v,h=>by rw[V]at *;obtain⟨a,vs,e,d,h2,g⟩:=h;exact⟨a,vs,e,d.mono0 x,VL.mono0 x h2,g⟩
 | .sl o off z len full,v,h=>by
  rw[V]at *;obtain⟨b,st,cap,d,h2,g,i,j⟩:=h;exact⟨b,st,cap,x.ρ _ _ d,h2,g,i,qr j (x.room b)⟩
 | .slc o off z len cap,v,h=>by
  rw[V]at *;obtain⟨b,st,d,h2,g,j⟩:=h;exact⟨b,st,x.ρ _ _ d,h2,g,qr j (x.room b)⟩
 | .imm z es full,v,h=>by
  rw[V]at *;rcases h with h|⟨a,cap,vs,e,d,h2,g,i⟩
  exact .inl h;exact .inr ⟨a,cap,vs,e,d,h2,g.mono0 x,VE.mono0 x i⟩
 | .map o,v,h=>by rw[V]at *;obtain⟨b,d,h2⟩:=h;exact⟨b,x.ρ _ _ d,h2⟩
theorem VL.mono0 {c a:Cx} (x:ON c a):∀{s:List SV} {v:List Value},VL c s v->VL a s v
 | [],_,h=>by rw[VL]at *;exact h
 | s::ss,v,h=>by rw[VL]at *;obtain⟨u,r,e,b,h2⟩:=h;exact⟨u,r,e,V.mono0 x b,VL.mono0 x h2⟩
theorem VE.mono0 {c a:Cx} (x:ON c a) {z:Nat}:∀{s:List SV} {v:List Value},VE c z s v->VE a z s v
 | [],_,h=>by rw[VE]at *;exact h
 | s::ss,v,h=>by rw[VE]at *;obtain⟨u,r,e,f,d,b,h2⟩:=h;exact⟨u,r,e,f,d,V.mono0 x b,VE.mono0 x h2⟩
end
theorem GZ.mono {c b:Cx} (x:DZ c b) {a:Addr} {vs:List Value} (h:GZ c a vs):GZ b a vs:=h.mono0 x.to0
theorem V.mono {c a:Cx} (x:DZ c a) {s:SV} {v:Value} (h:V c s v):V a s v:=V.mono0 x.to0 h
theorem VL.mono {c a:Cx} (x:DZ c a) {s:List SV} {v:List Value} (h:VL c s v):VL a s v:=VL.mono0 x.to0 h
theorem V2.mono0 {c a:Cx} (x:ON c a) {s:List SV} {v:List Value} (h:AZ (V c) s v):AZ (V a) s v:=AZ.mono (λ_ _=>V.mono0 x) h
theorem V2.mono {c a:Cx} (x:DZ c a) {s:List SV} {v:List Value} (h:AZ (V c) s v):AZ (V a) s v:=AZ.mono (λ_ _=>V.mono x) h
def Hm (ents:List MapEntry) (clock:Nat):Prop:=(∀x∈ents,x.born<clock)/\(ents.map (·.born)).Nodup
def Ty (ty:Option TypeId) (st:Nat) (e:TypeId):Prop:=∀t,ty=some t->st=0/\e=t
theorem Ty.none {st:Nat} {e:TypeId}:Ty Option.none st e:=λ_ h=>by cases h
theorem Ty.row {e:TypeId}:Ty (Gq e) 0 e:=λt h=>⟨rfl,by unfold Gq at h;split at h<;>cases h;rfl⟩
theorem GX {h:Hp} {e:TypeId} {o off:Nat} (H:Gq e=none):HI h e o off=none:=by unfold HI;rw[H]
theorem Ty.app {h:Hp} {e t:TypeId} {o off:Nat} (H:HI h e o off=some t):off=0/\Wy (h o)=some t/\e=t:=by
 unfold HI at H;split at H;cases H;rename_i t' ht;split at H<;>cases H;rename_i a;exact⟨a.1,a.2,(Ty.row _ ht).2⟩
def Dl (c:Cx) (o:Nat):BT->Prop
 | .cells cs ty=>∃b st arr e vs,c.ρ o=some (b,st)/\c.w.heap[b]? = some (.cells arr e (0,0))/\(∀i x,vs[i]? = some x->arr[st+i]? = some x)/\
  AZ (V c) cs vs/\(∀x∈vs,x.oneCell'=true)/\Ty ty st e
 | .map es=>∃b ents clock,c.ρ o=some (b,0)/\c.w.heap[b]? = some (.map ents clock)/\AZ (λ(p:SV×SV) (e:MapEntry)=>V c p.1 e.key/\V c p.2 e.val) es ents.toList/\Hm ents.toList clock
 | .loop r=>∃b,c.ρ o=some (b,0)/\c.w.heap[b]? = some (.loop r)
 | .iter left last=>∃b bm ents clock seen,c.ρ o=some (b,0)/\c.w.heap[b]? = some (.mapIter (some bm) clock seen clock)/\c.w.heap[bm]? = some (.map ents clock)/\¬c.own bm/\Hm ents.toList clock/\
  AZ (λ(p:SV×SV) (e:MapEntry)=>V c p.1 e.key/\V c p.2 e.val) left (ents.toList.filter λe=>!seen.contains e.born)/\
  ∀p,last=some p->∃e∈ents.toList,seen.back? = some e.born/\V c p.1 e.key/\V c p.2 e.val
 | .list z es => ∃ b Po arr e v, c.ρ o = some (b, Po) ∧ c.w.heap[b]? = some (.cells arr e (0, 0)) ∧ arr[Po]? = some v ∧ v.oneCell' = true ∧
  ((es=[]/\c.bk o=none/\V c (.imm 0 [] true) v)\/
   ∃B st arr2 e2 vs cap,es≠[]/\B≠b/\c.bk o=some B/\c.w.heap[B]? = some (.cells arr2 e2 (0,0))/\v=.slice (some ⟨B,st,none⟩) es.length cap/\es.length<=cap/\st+cap*z<=arr2.size/\
    (∀i x,vs[i]? = some x->arr2[st+i]? = some x)/\AZ (V c) (es.flatMap SV.cells) vs/\∀x∈vs,x.oneCell'=true)
def BE (c:Cx) (o:Nat) (x:BT) (b:Nat):Prop:=(∃st,c.ρ o=some (b,st))\/(x.lst=true/\c.bk o=some b)
structure Bn (h:Hp) (c:Cx):Prop where
 obj:∀o x,h o=some x->Dl c o x
 inj2:∀o o' x x' b,h o=some x->h o'=some x'->BE c o x b->BE c o' x' b->o=o'
 own2:∀b,c.own b↔∃o x,h o=some x/\BE c o x b
theorem Bn.inj {h:Hp} {c:Cx} (R:Bn h c):∀o d x e b st a,h o=some x->h d=some e->c.ρ o=some (b,st)->c.ρ d=some (b,a)->o=d:=
 λo d x e b st a f g i j=>R.inj2 o d x e b f g (.inl ⟨st,i⟩) (.inl ⟨a,j⟩)
theorem Bn.ownI {h:Hp} {c:Cx} (R:Bn h c) {b:Nat} (H:∃o x st,h o=some x/\c.ρ o=some (b,st)):c.own b:=
 let⟨o,x,st,e1,e2⟩:=H;(R.own2 b).2 ⟨o,x,e1,.inl ⟨st,e2⟩⟩
theorem Dl.block {c:Cx} {o:Nat} {x:BT} (h:Dl c o x):∃b st,c.ρ o=some (b,st)/\b<c.w.heap.size:=by
 cases x with
 | cells cs ty=>obtain⟨b,st,arr,e,vs,a,h2,_⟩:=h;exact⟨b,st,a,(qp.1 h2).1⟩
 | map es=>obtain⟨b,f,d,a,h2,_⟩:=h;exact⟨b,0,a,(qp.1 h2).1⟩
 | loop r=>obtain⟨b,a,h2⟩:=h;exact⟨b,0,a,(qp.1 h2).1⟩
 | iter left last=>obtain⟨b,bm,f,d,seen,a,h2,_⟩:=h;exact⟨b,0,a,(qp.1 h2).1⟩
 | list z es=>obtain⟨b,Po,arr,e,v,a,h2,_⟩:=h;exact⟨b,Po,a,(qp.1 h2).1⟩
theorem Dl.hold_lt {c:Cx} {o:Nat} {x:BT} (h:Dl c o x) {b:Nat} (hb:BE c o x b):b<c.w.heap.size:=by
 rcases hb with⟨st,hb⟩|⟨hl,hb⟩
 obtain⟨f,st',d,h2⟩:=h.block;rw[hb]at d;cases d;exact h2;cases x with
 | list z es=>
  obtain⟨f,Po,arr,e,v,d,h2,h3,h4,⟨_,a,_⟩|⟨B,st,arr2,e2,vs,cap,_,_,a,g,_⟩⟩:=h;rw[hb]at a;cases a;rw[hb]at a;cases a;exact(qp.1 g).1
 | cells cs ty=>cases hl
 | map es=>cases hl
 | loop r=>cases hl
 | iter left last=>cases hl
theorem Dl.mono0 {c n:Cx} (x:ON c n) {o:Nat} {y:BT} (h:Dl c o y) (i:∀b,BE c o y b->n.w.heap[b]? = c.w.heap[b]?) (E:n.bk o=c.bk o:=by rfl):Dl n o y:=by
 have hb:∀b st,c.ρ o=some (b,st)->n.w.heap[b]? = c.w.heap[b]?:=λb st e=>i b (.inl ⟨st,e⟩);cases y with
 | list z es=>
  obtain⟨b,Po,arr,e,v,d,h2,j,k,u⟩:=h;refine⟨b,Po,arr,e,v,x.ρ _ _ d,(hb b Po d).trans h2,j,k,?_⟩;rcases u with⟨s,l,t⟩|⟨B,st,m,F,vs,cap,s,L,l,t,C,G,H,I,J,K⟩
  exact .inl ⟨s,E.trans l,V.mono0 x t⟩;exact .inr ⟨B,st,m,F,vs,cap,s,L,E.trans l,(i B (.inr ⟨rfl,l⟩)).trans t,C,G,H,I,V2.mono0 x J,K⟩
 | cells cs ty=>
  obtain⟨b,st,arr,e,vs,d,h2,j,k,u⟩:=h;exact⟨b,st,arr,e,vs,x.ρ _ _ d,(hb b st d).trans h2,j,V2.mono0 x k,u⟩
 | map es=>
  obtain⟨b,f,a,d,h2,j,k⟩:=h;exact⟨b,f,a,x.ρ _ _ d,(hb b 0 d).trans h2,AZ.mono (λ_ _ g=>⟨V.mono0 x g.1,V.mono0 x g.2⟩) j,k⟩
 | iter left last=>
  obtain⟨b,D,f,a,A,d,h2,j,k,u,M,N⟩:=h;obtain⟨O,P⟩:=x.keep D k ⟨_,j,by simp⟩;exact⟨b,D,f,a,A,x.ρ _ _ d,(hb b 0 d).trans h2,P.trans j,O,u,AZ.mono (λ_ _ g=>⟨V.mono0 x g.1,V.mono0 x g.2⟩) M,λp e=>let⟨q,s,l,t,C⟩:=N p e;⟨q,s,l,V.mono0 x t,V.mono0 x C⟩⟩
 | loop r=>
  obtain⟨b,d,h2⟩:=h;exact⟨b,x.ρ _ _ d,(hb b 0 d).trans h2⟩
theorem Dl.mono {c a:Cx} (x:DZ c a) {o:Nat} {y:BT} (h:Dl c o y) (hb:∀b,BE c o y b->a.w.heap[b]? = c.w.heap[b]?) (d:a.bk o=c.bk o:=by rfl):Dl a o y:=h.mono0 x.to0 hb d
theorem V.cells {c:Cx} {s:SV} {v:Value} (h:V c s v) (hs:s.storable=true):AZ (V c) s.cells v.cells.toList/\∀x∈v.cells.toList,x.oneCell'=true:=by
 cases s<;>simp only[SV.storable]at hs<;>try cases hs
 case agg cs=>
  rw[V]at h;obtain⟨vs,rfl,hl,ho⟩:=h;simpa[SV.cells,Value.cells]using⟨BN.1 hl,ho⟩
 case imm z es full=>
  have h':=h;rw[V]at h;rcases h with⟨_,rfl⟩|⟨a,cap,vs,rfl,_⟩<;>simp[SV.cells,Value.cells,AZ,Value.oneCell',h']
 all_goals
  have h':=h;rw[V]at h
  try (repeat' (obtain⟨_,h⟩:=h))
  try subst h
  try (obtain⟨rfl,_⟩:=h)
  simp_all [SV.cells,Value.cells,AZ,Value.oneCell']
theorem Bk (w:World) (b:Obj):(w.alloc b).heap=w.heap.push b:=rfl
theorem K9 (c:Cx) (v:Value):V c (G9 v) v:=by
 unfold G9;split<;>simp[V]
theorem C9 (c:Cx) (v:Value):V c (ofValue v) v:=by
 unfold ofValue;split;rename_i cs;split;rename_i d;rw[jj]at d;rw[V];refine⟨cs.toList,by simp,BN.2 ?_,d⟩;have:=AZ.map (R:=Eq) (T:=V c) (f:=G9) (g:=id) (λa b e=>by subst e;exact K9 c a)
  (aS:=cs.toList) (bs:=cs.toList) (AZ.of_get rfl λi a b h h2=>by rw[h]at h2;simpa using h2)
 simpa using this;simp[V];exact K9 c _
def DN (P:Program) (ev:Operand->Value) (o:Oper) (h:Hp) (k:Nat) (c:Cx) (out:dW):Prop:=
 ∃u c',((execOp ev o).run P c.w=.ok (.value u) c'.w\/(u=undef/\(execOp ev o).run P c.w=.ok .skip c'.w))/\
  V c' out.val u/\Bn (out.app h k) c'/\DZ c c'/\(∀j,out.new.isNone=true\/j≠k->c'.ρ j=c.ρ j)
section
variable {P : Program} {ev : Operand → Value} {o : Oper} {h : Hp} {k : Nat} {c : Cx}
theorem BF {v:SV} (R:Bn h c) (u:Value) (a:(execOp ev o).run P c.w=.ok (.value u) c.w) (b:V c v u):DN P ev o h k c { val:=v }:=
 ⟨u,c,.inl a,b,R,DZ.refl c,λ_ _=>rfl⟩
theorem Gm {b:Bool} {v:Value} (h:V c (.bool b) v):v=.bool b:=by simpa[V]using h
theorem C7 {i:IntKind} {n:Int} {v:Value} (h:V c (.int i n) v):v=.int i n:=by simpa[V]using h
theorem Kq {s:ByteArray} {v:Value} (h:V c (.str s) v):v=.string s:=by simpa[V]using h
def Cx.alloc (c:Cx) (k:Nat) (b:Obj):Cx:=
 { ρ:=λj=>if j=k then some (c.w.heap.size,0)else c.ρ j,own:=λx=>c.own x\/x=c.w.heap.size,w:=c.w.alloc b,bk:=c.bk }
theorem Cx.alloc_ext (c:Cx) (k:Nat) (b:Obj) (d:c.ρ k=none):DZ c (c.alloc k b):=by
 refine⟨λj p e=>?_,by simp[Cx.alloc],λx a f=>⟨?_,?_⟩,λx=>?_,rfl,rfl,⟨rfl,qa _⟩⟩;simp only[Cx.alloc];split;subst_vars;rw[d]at e;cases e;exact e;simp only[Cx.alloc];rintro(h|h);exact f h;omega;simp[Cx.alloc,Bk,jz,kv a];unfold rm;rcases ji x c.w.heap.size with a|a;simp[Cx.alloc,Bk,jz,kv a];simp[jg a]
theorem Bn.none_of {h:Hp} {c:Cx} (R:Bn h c) {k:Nat} (d:c.ρ k=none):h k=none:=by
 cases e:h k with
 | none=>rfl
 | some x=>obtain⟨b,st,a,_⟩:=(R.obj k x e).block;rw[d]at a;cases a
theorem Bn.alloc {h:Hp} {c:Cx} (R:Bn h c) {k:Nat} (r:c.ρ k=none) {x:BT} {b:Obj} (t:Dl (c.alloc k b) k x) (q:x.lst=false:=by rfl):
 Bn (hset h k (some x)) (c.alloc k b):=by
 have hn:=R.none_of r;have E:=c.alloc_ext k b r;have old:∀j y a,h j=some y->BE c j y a->a<c.w.heap.size:=λj y a e e'=>(R.obj j y e).hold_lt e';have f:∀j y a,j≠k->BE (c.alloc k b) j y a->BE c j y a:=λj y a d H=>by
  simp only[BE,Cx.alloc,d,if_false]at H;exact H
 have m:∀a,BE (c.alloc k b) k x a->a=c.w.heap.size:=λa H=>by
  rcases H with⟨st,H⟩|⟨H,_⟩
  simp only[Cx.alloc,if_true]at H;cases H;rfl;rw[q]at H;cases H
 have get:∀j y,hset h k (some x) j=some y->(j=k/\y=x)\/(j≠k/\h j=some y):=λj y e=>by
  simp only[hset]at e;split at e;cases e;exact .inl ⟨by assumption,rfl⟩;exact .inr ⟨by assumption,e⟩
 refine⟨λj y e=>?_,λi j y n a g l o p=>?_,λa=>?_⟩;rcases get j y e with⟨rfl,rfl⟩|⟨d,e⟩
 exact t;refine(R.obj j y e).mono E λa e'=>?_;have:=old j y a e e';simp[Cx.alloc,Bk,jz,kv this];rcases get i y g with⟨rfl,rfl⟩|⟨hi,f1⟩
 rcases get j n l with⟨rfl,rfl⟩|⟨d,f2⟩
 rfl;have s:=m _ o;have h2:=old j n a f2 (f j n a d p);omega;rcases get j n l with⟨rfl,rfl⟩|⟨d,f2⟩
 have s:=m _ p;have h2:=old i y a f1 (f i y a hi o);omega;exact R.inj2 i j y n a f1 f2 (f i y a hi o) (f j n a d p);constructor;rintro(h'|h');obtain⟨j,y,g,l⟩:=(R.own2 a).1 h';have d:j≠k:=by rintro rfl;rw[hn]at g;cases g
 exact⟨j,y,by simp[hset,d,g],by simpa[BE,Cx.alloc,d]using l⟩;exact⟨k,x,by simp[hset],.inl ⟨0,by simp[Cx.alloc,h']⟩⟩;rintro⟨j,y,g,l⟩;rcases get j y g with⟨rfl,rfl⟩|⟨d,g⟩
 exact .inr (m _ l);exact .inl ((R.own2 a).2 ⟨j,y,g,f j y a d l⟩)
theorem JW {cs:List SV} {ty:Option TypeId} {vs:Array Value} {e:TypeId} {v:SV} {u:Value} (R:Bn h c) (d:c.ρ k=none)
 (g:(execOp ev o).run P c.w=.ok (.value u) (c.w.alloc (.cells vs e)))
 (hc:AZ (V c) cs vs.toList) (f:∀x∈vs.toList,x.oneCell'=true)
 (l:∀c':Cx,c'.ρ k=some (c.w.heap.size,0)->rm c'.w c.w.heap.size=vs.size->V c' v u)
 (a:Ty ty 0 e:=by exact Ty.none):DN P ev o h k c { val:=v,new:=some (.cells cs ty) }:=by
 have E:=c.alloc_ext k (.cells vs e) d;refine⟨u,c.alloc k (.cells vs e),.inl g,l _ (by simp[Cx.alloc]) (by simp[rm,Cx.alloc,Bk]),R.alloc d ?_,E,λj b=>?_⟩;refine⟨c.w.heap.size,0,vs,e,vs.toList,by simp[Cx.alloc],by simp[Cx.alloc,Bk],λi x m=>by simpa using m,V2.mono E hc,f,a⟩;simp at b;simp[Cx.alloc,b]
theorem E5 {t:TypeId} {w:World} {i:TypeInfo} {z:Value} (hi:P.info? t=some i) (a:i.zero=some z):(zeroValue t).run P w=.ok z w:=by
 simp[zeroValue,typeInfo,hi,a]
theorem AO {t:TypeId} {w:World} {d:TypeDesc} (a:P.underlying t=some d):(underlying t).run P w=.ok d w:=by
 simp[underlying,a]
theorem I6 {t:TypeId} {d:TypeDesc} (a:P.underlying t=some d):∃i,P.info? t=some i:=by
 cases hi:P.info? t with
 | none=>simp[Program.underlying,hi]at a
 | some i=>exact⟨i,rfl⟩
theorem CB {t:TypeId} (b:(BH P t).storable=true):∃i z,P.info? t=some i/\i.zero=some z/\BH P t=ofValue z:=by
 cases hi:P.info? t with
 | none=>simp[BH,hi,SV.storable]at b
 | some i =>
  cases a:i.zero with
  | none=>
   exfalso;unfold BH at b;rw[hi]at b;obtain⟨a1,a2,a3,a4,a5,d,e,f,a9,c⟩:=i;simp at a;subst a;simp[SV.storable]at b
  | some z=>
   refine⟨i,z,rfl,a,?_⟩;unfold BH;rw[hi];obtain⟨a1,a2,a3,a4,a5,d,e,f,a9,c⟩:=i;simp at a;subst a;rfl
theorem SJ {e:TypeId} {out:dW} {evs:Operand->SV} (g:o.op=.alloc e) (f:dV P evs h k o.op=some out) (R:Bn h c) (l:c.ρ k=none):DN P ev o h k c out:=by
 rw[g]at f;simp only[dV]at f;split at f<;>try cases f
 rename_i a;simp at a;obtain⟨i,z,hi,m,d⟩:=CB a.1;have b:=V.cells (c:=c) (C9 c z) (by rw[<-d];exact a.1);rw[<-d]at b;refine JW (vs:=z.cells) (e:=e) (u:=.pointer (some ⟨c.w.heap.size,0,none⟩)) R l ?_ b.1 b.2 (λc' j _=>by rw[V];exact⟨_,0,j,rfl⟩) Ty.row;simp[execOp,g,Instr.alloc,E5 hi m,newVar,newRow]
theorem VA {e:TypeId} {x:Operand} {out:dW} {evs:Operand->SV} (f:o.op=.box e x) (d:dV P evs h k o.op=some out) (R:Bn h c) (i:c.ρ k=none)
 (H:∀x∈o.op.operands,V c (evs x) (ev x)):DN P ev o h k c out:=by
 rw[f]at d H;simp only[dV]at d;split at d<;>try cases d
 rename_i a;have b:=V.cells (H x (by simp[Op.operands])) a;refine JW (vs:=(ev x).cells) (e:=e) (u:=.pointer (some ⟨c.w.heap.size,0,none⟩)) R i ?_ b.1 b.2 (λc' g _=>by rw[V];exact⟨_,0,g,rfl⟩) Ty.row;simp[execOp,f,Instr.box,newVar,newRow]
theorem Pm {x:Operand} {out:dW} {evs:Operand->SV} (a:o.op=.move x\/o.op=.assign x) (b:dV P evs h k o.op=some out) (R:Bn h c)
 (H:∀x∈o.op.operands,V c (evs x) (ev x)):DN P ev o h k c out:=by
 rcases a with a|a <;>
 . rw[a]at b H;simp only[dV,EH,qh]at b;subst b;exact BF R (ev x) (by simp[execOp,a]) (H x (by simp[Op.operands]))
theorem T9 {x a b:Operand} {out:dW} {evs:Operand->SV} (f:o.op=.pick x a b) (e:dV P evs h k o.op=some out) (R:Bn h c)
 (H:∀x∈o.op.operands,V c (evs x) (ev x)):DN P ev o h k c out:=by
 rw[f]at e H;simp only[dV]at e;split at e<;>try cases e
 rename_i t ht;have g:=H x (by simp[Op.operands]);rw[ht]at g;have d:=Gm g;cases t;exact BF R (ev b) (by simp[execOp,f,d,asBool]) (by simpa using H b (by simp[Op.operands]));exact BF R (ev a) (by simp[execOp,f,d,asBool]) (by simpa using H a (by simp[Op.operands]))
theorem KT (off:Nat):∀(xs:List Value) (k:Nat) (cs:Array Value),off+k+xs.length<=cs.size->
 ((xs.zipIdx k).foldl (λcs (p:Value×Nat)=>cs.setIfInBounds (off+p.2) p.1) cs).toList=cs.toList.take (off+k)++xs++cs.toList.drop (off+k+xs.length)
 | [],k,cs,_=>by simp
 | x::xs,k,cs,hl=>by
  simp only[qF]at hl;rw[List.zipIdx_cons,qM,KT off xs (k+1) _ (by simp;omega)];have:=list_seg_step cs.toList (off+k) x xs (by simp;omega);simp only[qF,Array.toList_setIfInBounds]at *;rw[show off+(k+1)=off+k+1 by omega];exact this
theorem Ml (off:Nat) (v:Value) (cs:Array Value) (hl:off+v.cells.size<=cs.size):
 (v.cells.zipIdx.foldl (λcs (c,j)=>cs.setIfInBounds (off+j) c) cs).toList=cs.toList.take off++v.cells.toList++cs.toList.drop (off+v.cells.size):=by
 have:=KT off v.cells.toList 0 cs (by simpa using hl);rw[<-Array.foldl_toList];simpa using this
theorem GD {cs xs r:List SV} {off:Nat} (h:GC cs off xs=some r):off+xs.length<=cs.length/\r=cs.take off++xs++cs.drop (off+xs.length):=by
 unfold GC at h;split at h;rename_i hl;cases h;exact⟨hl,rfl⟩;cases h
theorem L6 {cs xs:List SV} {vs us:List Value} (off:Nat) (h:AZ (V c) cs vs) (g:AZ (V c) xs us):
 AZ (V c) (cs.take off++xs++cs.drop (off+xs.length)) (vs.take off++us++vs.drop (off+us.length)):=by
 rw[g.length];exact AZ.append (AZ.append (h.take off) g) (h.drop _)
theorem L5 {vs us:List Value} (off n:Nat) (h:∀x∈vs,x.oneCell'=true) (g:∀x∈us,x.oneCell'=true):∀x∈vs.take off++us++vs.drop n,x.oneCell'=true:=by
 intro x a;simp only[qe]at a;rcases a with(a|a)|a;exact h x (qH a);exact g x a;exact h x (qT a)
theorem LR {a place':Nat->Option (Nat×Nat)} (hp:∀i p,a i=some p->place' i=some p):
 ∀(ps:List (Nat×SV)) (l:List (Nat×Value)) (m:List SV) (cells:Array Value) (cs:List SV),AZ (λp q=>p.1=q.1/\V c p.2 q.2) ps l->AZ (V c) m cells.toList->
  (∀x∈cells.toList,x.oneCell'=true)->JS a m ps=some cs->∃r,Instr.fill place' cells l=some r/\AZ (V c) cs r.toList/\∀x∈r.toList,x.oneCell'=true
 | [],l,m,cells,cs,e,hz,h1,hf=>by
  rw[e.nil_left];simp only[JS,qh]at hf;subst hf;exact⟨cells,rfl,hz,h1⟩
 | (i,s)::ps,[],_,_,_,e,_,_,_=>e.elim
 | (i, s) :: ps, (j, v) :: l, m, cells, cs, e, hz, h1, hf => by
  obtain⟨⟨rfl,z⟩,e⟩:=e;simp only[JS]at hf;cases d:a i with
  | none=>simp[d]at hf
  | some p=>
   obtain⟨off,size⟩:=p;simp only[d]at hf;split at hf;rename_i y;simp only[qq,beq_iff_eq]at y;cases f:GC m off s.cells with
   | none=>simp[f]at hf
   | some zs' =>
    simp only[f]at hf;obtain⟨hle,rfl⟩:=GD f;obtain⟨g,n⟩:=z.cells y.1;have b:=g.length;have k:=hz.length;have w:v.cells.size=size:=by simp only[jU]at b;omega
    have h:=Ml off v cells (by simp only[jU]at b k;omega);obtain⟨r,o,t,u⟩:=LR hp ps l _ (v.cells.zipIdx.foldl (λcs (c,j)=>cs.setIfInBounds (off+j) c) cells) cs e
     (by rw[h];have:=L6 off hz g;simpa using this) (by rw[h];exact L5 off _ h1 n) hf
    refine⟨r,?_,t,u⟩;simp only[Instr.fill,hp i _ d];have hn:off+v.cells.size<=cells.size:=by simp only[jU]at b k;omega
    rw[if_neg (by simp[w];omega)];exact o
   cases hf
theorem Mk {a:Nat->Option (Nat×Nat)}:∀{b:List (Nat×Value)} {cells r:Array Value},Instr.fill a cells b=some r->r.size=cells.size
 | [],cells,r,h=>by simp only[Instr.fill,qh]at h;rw[h]
 | (i,v)::b,cells,r,h=>by
  simp only[Instr.fill]at h;split at h;cases h;split at h;cases h;rename_i off size heq hc;rw[Mk h];have hl:off+v.cells.size<=cells.size:=by simp at hc;omega
  have:=congrArg List.length (Ml off v cells hl);simp only[jU,qt,jr,List.length_drop]at this;rw[this];omega
theorem NH {evs:Operand->SV} (ps:Array (Nat×Operand)) (H:∀p∈ps.toList,V c (evs p.2) (ev p.2)):
 AZ (λ(p:Nat×SV) (q:Nat×Value)=>p.1=q.1/\V c p.2 q.2) (ps.toList.map λp=>(p.1,evs p.2)) (ps.map λ(i,x)=>(i,ev x)).toList:=by
 simp only[Array.toList_map];refine AZ.of_get (by simp) λi a b d h2=>?_;simp only[qO,qX]at d h2;obtain⟨p,hp,rfl⟩:=d;obtain⟨q,e,rfl⟩:=h2;rw[hp]at e;cases e;exact⟨rfl,H p (jb hp)⟩
theorem NG {t:TypeId} {ps:Array (Nat×Operand)} {p:Nat×Operand} (h:p∈ps.toList):p.2∈(Op.build t ps).operands:=by
 simp[Op.operands];exact⟨p.1,by simpa using h⟩
theorem H7 {t:TypeId} {l:Nat} {ps:Array (Nat×Operand)} {p:Nat×Operand} (h:p∈ps.toList):p.2∈(Op.buildSlice t l ps).operands:=by
 simp[Op.operands];exact⟨p.1,by simpa using h⟩
theorem SL {t:TypeId} {ps:Array (Nat×Operand)} {out:dW} {evs:Operand->SV} (ho:o.op=.build t ps) (hs:dV P evs h k o.op=some out) (R:Bn h c)
 (H:∀x∈o.op.operands,V c (evs x) (ev x)):DN P ev o h k c out:=by
 rw[ho]at hs H;simp only[dV]at hs;cases hz:BH P t<;>simp only[hz]at hs<;>try cases hs
 rename_i zs;cases hpl:Bb P t with
 | none=>simp[hpl]at hs
 | some pl =>
  simp only[hpl]at hs;cases hf:JS (pl[·]?) zs (ps.toList.map λp=>(p.1,evs p.2))with
  | none=>simp[hf]at hs
  | some cs =>
   simp only[hf,EH,qJ,qh]at hs;subst hs;obtain⟨i,z,hi,hzz,hze⟩:=CB (P:=P) (t:=t) (by rw[hz];rfl);have hvz:=C9 c z;rw[<-hze,hz]at hvz;have hcs:=hvz.cells rfl;unfold Bb at hpl;rw[hi]at hpl;obtain⟨place',hp',hb⟩:∃place':Nat->Option (Nat×Nat),(∀i p,pl[i]? = some p->place' i=some p)/\
    ∀q:List (Nat×Value),P.built t q=Instr.fill place' z.cells q:=by
    cases hu:P.underlying t with
    | none=>simp[hu]at hpl
    | some d =>
     cases d<;>simp only[hu]at hpl<;>try cases hpl
     case array n e=>
      cases hie:P.info? e with
      | none=>simp[hie]at hpl
      | some ie=>
       simp only[hie,jk,qh]at hpl;subst hpl;refine⟨λi=>some (i*ie.size,ie.size),λi p hp=>?_,λq=>by simp[Program.built,hi,hu,hzz,hie]⟩;simp only[qO,qX]at hp;obtain⟨a,ha,rfl⟩:=hp;obtain⟨hi',rfl⟩:=qo.1 ha;simp
     case struct fs=>
      exact⟨(pl.toArray[·]?),λi p hp=>by simpa using hp,λq=>by simp[Program.built,hi,hu,hzz,hpl]⟩
   obtain⟨r,hr1,hr2,hr3⟩:=LR (c:=c) hp' _ _ zs z.cells cs (NH ps λp hp=>H p.2 (NG hp)) (by simpa[SV.cells]using hcs.1) hcs.2 hf;refine BF R (.agg r) ?_ (by rw[V];exact⟨r.toList,by simp,BN.2 hr2,hr3⟩);have hrun:=run_build (P:=P) c.w t (ps.map λ(i,x)=>(i,ev x)) r (by rw[hb];exact hr1);simp[execOp,ho,hrun]
end
section
variable {P : Program} {ev : Operand → Value} {o : Oper} {h : Hp} {k : Nat} {c : Cx}
theorem Ef {cs r:List SV} {off n:Nat} (e:Bg cs off n=some r):off+n<=cs.length/\r=(cs.drop off).take n:=by
 unfold Bg at e;split at e;rename_i hl;cases e;exact⟨hl,rfl⟩;cases e
theorem Fc (b off n:Nat):(⟨b,off,none⟩:Addr).add n=⟨b,off+n,none⟩:=by
 unfold Addr.add;split<;>simp_all
theorem dT {a:Addr} (c:a.spot=none) (n:Nat):a.add n=⟨a.block,a.off+n,none⟩:=by
 obtain⟨b,off,s⟩:=a;simp at c;subst c;exact Fc b off n
theorem Dz {t:TypeId} {b:Bool} (ht:Fm P t=some b) (w:World):(isAgg t).run P w=.ok b w:=by
 unfold Fm at ht;cases a:P.underlying t with
 | none=>simp[a]at ht
 | some d=>cases d<;>simp[a]at ht<;>simp[isAgg,AO a,ht]
theorem MF {t:TypeId} {b:Bool} (ht:Fm P t=some b):∃i,P.info? t=some i/\Bh P t=i.size:=by
 unfold Fm at ht;cases a:P.underlying t with
 | none=>simp[a]at ht
 | some d=>obtain⟨i,hi⟩:=I6 a;exact⟨i,hi,by simp[Bh,Program.cellsOf,hi]⟩
theorem Kz {a:Option Bool} {cs:List SV} {us:List Value} {v:SV} (e:P4 a cs=some v) (hc:AZ (V c) cs us) (d:∀x∈us,x.oneCell'=true):
 (a=some true/\V c v (.agg us.toArray))\/(a=some false/\∃u,us=[u]/\V c v u):=by
 cases a with
 | none=>simp[P4]at e
 | some b =>
  cases b with
  | true=>
   simp only[P4,qh]at e;subst e;exact .inl ⟨rfl,by rw[V];exact⟨us,rfl,BN.2 hc,d⟩⟩
  | false =>
   simp only[P4]at e
   match cs,e,hc with
   | [x],e,hc=>
    simp at e;subst e;obtain⟨u,rfl,f⟩:=hc.single;exact .inr ⟨rfl,u,rfl,f⟩
   | [],e,_=>simp at e
   | _::_::_,e,_=>simp at e
theorem ED {t:TypeId} {w:World} {a:Addr} {us:List Value} {d:Bool} (f:a.spot=none) (ht:Fm P t=some d) (hl:us.length=Bh P t)
 (c:∀i x,us[i]? = some x->w.cell? ⟨a.block,a.off+i,none⟩=some x):
 (d=true->(loadVar t a).run P w=.ok (.agg us.toArray) w)/\(d=false->∀u,us=[u]->(loadVar t a).run P w=.ok u w):=by
 obtain⟨i,hi,h⟩:=MF ht;refine⟨λe=>?_,λe u l=>?_⟩;subst e;have k:=run_loadCells_list (P:=P) w a us (λj v m=>by rw[dT f];exact c j v m);rw[hl,h]at k;simp[loadVar,Dz ht,sizeOf,typeInfo,hi,k];subst e;subst l;have h0:=c 0 u rfl;have g:(⟨a.block,a.off+0,none⟩:Addr)=a:=by obtain⟨b,off,s⟩:=a;simp at f;subst f;rfl
 rw[g]at h0;simp[loadVar,Dz ht,h0]
theorem Dl.cell {o:Nat} {cs:List SV} {ty:Option TypeId} (H:Dl c o (.cells cs ty)):∃b st vs,c.ρ o=some (b,st)/\AZ (V c) cs vs/\(∀x∈vs,x.oneCell'=true)/\
 ∀i x,vs[i]? = some x->c.w.cell? ⟨b,st+i,none⟩=some x:=by
 obtain⟨b,st,arr,e,vs,a,h2,d,f,g,_⟩:=H;exact⟨b,st,vs,a,f,g,λi x h=>by simp[World.cell?,h2,d i x h]⟩
theorem M9 {t:TypeId} {s v:SV} {u:Value} (R:Bn h c) (j:Jd P h t s=some v) (k:V c s u):
 ∃a r,u=.pointer (some a)/\(loadVar t a).run P c.w=.ok r c.w/\V c v r:=by
 unfold Jd at j;split at j;rename_i o off;split at j;rename_i cs ty A;rw[V]at k;obtain⟨b,st,hρ,rfl⟩:=k;obtain⟨b',st',vs,hρ',hc,z,n⟩:=(R.obj _ _ A).cell;rw[hρ]at hρ';cases hρ';cases ht:Bg cs off (Bh P t)with
 | none=>simp[ht]at j
 | some r =>
  simp only[ht,qJ]at j;obtain⟨y,rfl⟩:=Ef ht;have m:=(hc.drop off).take (Bh P t);have l:∀x∈(vs.drop off).take (Bh P t),x.oneCell'=true:=λx e=>z x (qT (qH e));have f:((vs.drop off).take (Bh P t)).length=Bh P t:=by have:=hc.length;simp;omega
  have d:∀i x,((vs.drop off).take (Bh P t))[i]? = some x->c.w.cell? ⟨b,st+off+i,none⟩=some x:=λi x e=>by
   rw[jf]at e;split at e;rw[qY]at e;rw[qD];exact n _ _ e;cases e
  rcases Kz j m l with⟨g,k⟩|⟨g,x,e,k⟩
  exact⟨_,_,rfl,(ED (a:=⟨b,st+off,none⟩) rfl g f d).1 rfl,k⟩;exact⟨_,_,rfl,(ED (a:=⟨b,st+off,none⟩) rfl g f d).2 rfl x e,k⟩
 cases j;rename_i cs;rw[V]at k;obtain⟨a,vs,rfl,q,hc,p⟩:=k;rw[BN]at hc;cases ht:Bg cs 0 (Bh P t)with
 | none=>simp[ht]at j
 | some r =>
  simp only[ht,qJ]at j;obtain⟨y,rfl⟩:=Ef ht;simp only[kn]at j;have m:=hc.take (Bh P t);have l:∀x∈vs.take (Bh P t),x.oneCell'=true:=λx e=>q.one x (qH e);have f:(vs.take (Bh P t)).length=Bh P t:=by have:=hc.length;simp;omega
  have d:∀i x,(vs.take (Bh P t))[i]? = some x->c.w.cell? ⟨a.block,a.off+i,none⟩=some x:=λi x e=>by
   rw[jf]at e;split at e;exact q.cell _ _ e;cases e
  rcases Kz j m l with⟨g,k⟩|⟨g,x,e,k⟩
  exact⟨_,_,rfl,(ED p g f d).1 rfl,k⟩;exact⟨_,_,rfl,(ED p g f d).2 rfl x e,k⟩
 cases j
theorem T8 {t:TypeId} {x:Operand} {out:dW} {evs:Operand->SV} (d:o.op=.load t x) (b:dV P evs h k o.op=some out) (R:Bn h c)
 (H:∀x∈o.op.operands,V c (evs x) (ev x)):DN P ev o h k c out:=by
 rw[d]at b H;simp only[dV]at b;cases hl:Jd P h t (evs x)with
 | none=>simp[hl]at b
 | some v=>
  simp only[hl,EH,qJ,qh]at b;subst b;obtain⟨a,r,f,e,g⟩:=M9 R hl (H x (by simp[Op.operands]));exact BF R r (by simp[execOp,d,f,Instr.loadAt,Instr.sureAddr,e]) g
theorem Ha (w:World) (g:Nat) (cs:Array Value) {b:Nat} (hb:b≠g):(w.setRow g cs).heap[b]? = w.heap[b]?:=by
 simp[World.setRow,jX,Ne.symm hb]
theorem IJ (w:World) (g:Nat) (cs:Array Value):(w.setRow g cs).heap.size=w.heap.size:=by simp[World.setRow]
theorem Bn.write {w':World} {o b st:Nat} {x y:BT} (R:Bn h c) (r:h o=some x) (p:c.ρ o=some (b,st))
 (l:w'.heap.size=c.w.heap.size) (d:∀a,a≠b->w'.heap[a]? = c.w.heap[a]?) (k:rm c.w b<=rm w' b) (u:w'.os=c.w.os) (n:w'.output=c.w.output)
 (J:DZ c { c with w:=w' }->Dl { c with w:=w' } o y) (A:x.lst=false:=by rfl) (B:y.lst=false:=by rfl) (v:Td c.w w':=by exact⟨rfl,qa _⟩):Bn (hset h o (some y)) { c with w:=w' }/\DZ c { c with w:=w' }:=by
 have E:DZ c { c with w:=w' }:=by
  refine⟨λ_ _ e=>e,by simp[l],λa hb' hn=>⟨hn,?_⟩,λa=>?_,u,n,v⟩;refine d a ?_;rintro rfl;exact hn (R.ownI ⟨o,x,st,r,p⟩);by_cases e:a=b;subst e;exact k;simp[rm,d a e]
 have s:∀z:BT,z.lst=false->∀a,BE c o z a->a=b:=λz s a H=>by
  rcases H with⟨st',H⟩|⟨H,_⟩
  rw[p]at H;cases H;rfl;rw[s]at H;cases H
 have f:∀j z,hset h o (some y) j=some z->∃z0,h j=some z0/\∀a,BE { c with w:=w' } j z a->BE c j z0 a:=λj z e=>by
  simp only[hset]at e;split at e;subst_vars;cases e;exact⟨x,r,λa H=>by rw[s y B a H];exact .inl ⟨st,p⟩⟩;exact⟨z,e,λa H=>H⟩
 refine⟨⟨λj z e=>?_,λi j z L b1 g m F G=>?_,λa=>?_⟩,E⟩;simp only[hset]at e;split at e;subst_vars;cases e;exact J E;rename_i q;refine(R.obj j z e).mono E λD e'=>d D ?_;rintro rfl;exact q (R.inj2 j o z x D e r e' (.inl ⟨st,p⟩));obtain⟨z0,t,C⟩:=f i z g;obtain⟨M,I,K⟩:=f j L m;exact R.inj2 i j z0 M b1 t I (C _ F) (K _ G);rw[R.own2 a];constructor;rintro⟨j,z,g,m⟩;by_cases q:j=o;subst q;rw[r]at g;cases g;exact⟨j,y,by simp[hset],by rw[s x A a m];exact .inl ⟨st,p⟩⟩;exact⟨j,z,by simp[hset,q,g],m⟩;rintro⟨j,z,g,m⟩;obtain⟨z0,t,C⟩:=f j z g;exact⟨j,z0,t,C _ m⟩
theorem Qe {A vs us:List Value} {st off:Nat} (c:∀(i:Nat) (x:Value),vs[i]? = some x->A[st+i]? = some x) (hle:off+us.length<=vs.length) (hne:us.length≠0):
 st+off+us.length<=A.length/\∀(i:Nat) (x:Value),(vs.take off++us++vs.drop (off+us.length))[i]? = some x->(A.take (st+off)++us++A.drop (st+off+us.length))[st+i]? = some x:=by
 have b:=c (vs.length-1) vs[vs.length-1] (by simp);have hlen:=(qo.1 b).1;refine⟨by omega,λi x a=>?_⟩;have d:(A.take (st+off)).length=st+off:=by simp;omega
 have e:(vs.take off).length=off:=by simp;omega
 simp only[qn]at a ⊢;by_cases h1:i<off;rw[jD (by omega)]at a ⊢;rw[jf,if_pos (by omega)]at a ⊢;exact c i x a;rw[qV (by omega)]at a ⊢;rw[d,e]at *;by_cases h2:i-off<us.length;rw[jD (by omega)]at a ⊢;rw[show st+i-(st+off)=i-off by omega];exact a;rw[qV (by omega)]at a ⊢;rw[qY]at a ⊢;have:=c _ _ a;rw[<-this];congr 1;omega
theorem Ig {o off:Nat} {cs xs:List SV} {ty:Option TypeId} {us:List Value} {b st:Nat} (R:Bn h c) (p:h o=some (.cells cs ty)) (k:c.ρ o=some (b,st))
 (hle:off+xs.length<=cs.length) (hne:xs.length≠0) (f:AZ (V c) xs us) (n:∀x∈us,x.oneCell'=true):
 ∃w',(storeCells ⟨b,st+off,none⟩ us).run P c.w=.ok () w'/\Bn (hset h o (some (.cells (cs.take off++xs++cs.drop (off+xs.length)) ty))) { c with w:=w' }/\DZ c { c with w:=w' }:=by
 obtain⟨q,st',arr,e,vs,l,g,r,m,s,t⟩:=R.obj _ _ p;rw[k]at l;cases l;have hl:=f.length;have hl2:=m.length;obtain⟨s1,s2⟩:=Qe (A:=arr.toList) (st:=st) (off:=off) (us:=us) (λi x f=>by simpa using r i x f) (by omega) (by omega);have d:=run_storeCells_at (P:=P) b (st+off) e us 0 arr c.w g (by simpa using s1) n;simp only[jJ]at d;refine⟨_,d,?_⟩;have a:=setRow_heap c.w b arr (arr.toList.take (st+off)++us++arr.toList.drop (st+off+us.length)).toArray e (0,0) g;refine R.write p k (IJ _ _ _) (λq j=>Ha _ _ _ j) ?_ rfl rfl (λE=>?_);simp only[rm,g,a];simp at s1 ⊢;omega;refine⟨b,st,_,e,vs.take off++us++vs.drop (off+us.length),k,a,λi x f=>by simpa using s2 i x f,?_,L5 _ _ s n,t⟩;exact V2.mono E (L6 off m f)
theorem SR {t:TypeId} {x y:Operand} {out:dW} {evs:Operand->SV} (r:o.op=.store t x y) (d:dV P evs h k o.op=some out) (R:Bn h c)
 (H:∀x∈o.op.operands,V c (evs x) (ev x)):DN P ev o h k c out:=by
 rw[r]at d H;simp only[dV,OB]at d;have s:=H x (by simp[Op.operands]);have z:=H y (by simp[Op.operands]);split at d<;>try cases d
 rename_i j off v;split at d<;>try cases d
 rename_i cs ty g;split at d<;>try cases d
 rename_i a;simp only[qq,beq_iff_eq,bne_iff_ne,ne_eq]at a;cases e:GC cs off (evs y).cells with
 | none=>simp[e]at d
 | some cs' =>
  simp only[e,qh]at d;subst d;obtain⟨n,rfl⟩:=GD e;rw[v,V]at s;obtain⟨b,st,hρ,q⟩:=s;obtain⟨f,m⟩:=z.cells a.1.1;obtain⟨w',l,u,E⟩:=Ig (P:=P) R g hρ n (by omega) f m;obtain⟨i,hi⟩:∃i,P.info? t=some i:=by
   cases hi:P.info? t with
   | none=>have:=a.2;simp[Bh,Program.cellsOf,hi]at this
   | some i=>exact⟨i,rfl⟩
  have p:(ev y).cells.size=i.size:=by
   have:=f.length;have h2:=a.1.2;simp[Bh,Program.cellsOf,hi]at h2;simp at this;omega
  refine⟨undef,{ c with w:=w' },.inr ⟨rfl,?_⟩,by simp[V,undef,VL],u,E,λ_ _=>rfl⟩;simp[execOp,r,q,Instr.storeAt,Instr.sureAddr,storeVar,sizeOf,typeInfo,hi,p,l]
theorem N7 {x:Operand} {out:dW} {evs:Operand->SV} (l:o.op=.nilCheck x) (g:dV P evs h k o.op=some out) (R:Bn h c)
 (H:∀x∈o.op.operands,V c (evs x) (ev x)):DN P ev o h k c out:=by
 rw[l]at g H;simp only[dV]at g;have d:=H x (by simp[Op.operands]);split at g<;>try cases g
 rename_i j off i;rw[i]at d;have e:=d;rw[V]at d;obtain⟨b,st,hρ,f⟩:=d;exact BF R (ev x) (by simp[execOp,l,f]) e;rename_i cs i;rw[i]at d;have e:=d;rw[V]at d;obtain⟨a,vs,f,_⟩:=d;exact BF R (ev x) (by simp[execOp,l,f]) e
theorem MW {t:TypeId} {x:Operand} {i:Nat} {out:dW} {evs:Operand->SV} (D:o.op=.fieldAddr t x i) (e:dV P evs h k o.op=some out) (R:Bn h c)
 (H:∀x∈o.op.operands,V c (evs x) (ev x)):DN P ev o h k c out:=by
 rw[D]at e H;simp only[dV,Gx]at e;have s:=H x (by simp[Op.operands]);cases g:IR P t i with
 | none=>simp[g]at e
 | some q=>
  obtain⟨off,C⟩:=q;simp only[g]at e;by_cases B:Bh P C=0;simp[B]at e
  . simp only[B,if_false]at e;obtain⟨v,f,y,m,rfl,rfl⟩:∃v f,P.underlying t=some (.struct v)/\v[i]? = some f/\f.offset=off/\f.type=C:=by
     unfold IR at g;cases y:P.underlying t with
     | none=>simp[y]at g
     | some d=>
      cases d<;>simp only[y]at g<;>try cases g
      rename_i v;simp only[qX]at g;obtain⟨f,m,F⟩:=g;cases F;exact⟨v,f,rfl,m,rfl,rfl⟩
    obtain⟨u,hi,hsz⟩:∃u,P.info? f.type=some u/\Bh P f.type=u.size:=by
     cases hi:P.info? f.type with
     | none=>simp[Bh,Program.cellsOf,hi]at B
     | some u=>exact⟨u,rfl,by simp[Bh,Program.cellsOf,hi]⟩
    have z:∀a:Addr,(fieldPlace a f).run P c.w=.ok (a.add f.offset) c.w:=λa=>by
     simp[fieldPlace,sizeOf,typeInfo,hi,show ¬u.size=0 by omega]
    have l:∀a:Addr,ev x=.pointer (some a)->(execOp ev o).run P c.w=.ok (.value (.pointer (some (a.add f.offset)))) c.w:=λa E=>by
     simp[execOp,D,Instr.fieldAt,AO y,m,E,Instr.sureAddr,z]
    split at e<;>try (simp at e;done)
    rename_i j a r;simp only[EH,qJ,qh]at e;subst e;rw[r,V]at s;obtain⟨b,st,hρ,p⟩:=s;refine BF R _ (l _ p) ?_;rw[Fc,V];exact⟨b,st,hρ,by rw[qD]⟩;rename_i cs r;simp only[EH,qJ,qh]at e;subst e;rw[r,V]at s;obtain⟨a,vs,p,n,hc,A⟩:=s;refine BF R _ (l _ p) ?_;rw[dT A,V];refine⟨_,vs.drop f.offset,rfl,⟨λ_=>rfl,λG=>n.free (by rintro rfl;simp at G),λj x r=>?_,λx s=>n.one x (qT s)⟩,BN.2 ((BN.1 hc).drop _),rfl⟩;rw[qY]at r;simp only[qD];exact n.cell _ _ r
theorem O2 {z:Nat} {es:List SV} {vs:List Value} {i:Nat} {e:SV} (hE:VE c z es vs) (hi:es[i]? = some e):
 ∃u,V c e u/\e.storable=true/\u.cells.size=z/\(vs.drop (i*z)).take z=u.cells.toList/\i*z+z<=vs.length:=by
 induction es generalizing i vs with
 | nil=>simp at hi
 | cons e' es ih =>
  rw[VE]at hE;obtain⟨u,r,rfl,hz,hs,hv,hr⟩:=hE;cases i with
  | zero=>
   simp at hi;subst hi;exact⟨u,hv,hs,hz,by simp[<-hz],by simp[<-hz]⟩
  | succ i=>
   simp at hi;obtain⟨u',h1,h1',h2,h3,h4⟩:=ih hr hi;refine⟨u',h1,h1',h2,?_,?_⟩;rw[<-h3,Nat.succ_mul,Nat.add_comm,<-List.drop_drop,List.drop_left' (by simp[hz])];simp[Nat.succ_mul];omega
theorem GZ.sub {a:Addr} {vs:List Value} (b:GZ c a vs) (d n:Nat):GZ c ⟨a.block,a.off+d,none⟩ ((vs.drop d).take n):=by
 refine⟨λ_=>rfl,λf=>b.free (by rintro rfl;simp at f),λj x e=>?_,λx g=>b.one x (qT (qH g))⟩;rw[jf]at e;split at e;rw[qY]at e;simp only[qD];exact b.cell _ _ e;cases e
theorem A5 {t e:TypeId} (a:A9 P t=some e):P.underlying t=some (.slice e):=by
 unfold A9 at a;split at a;rename_i e' b;cases a;exact b;cases a
theorem Kf {t:TypeId} {n:Nat} {e:TypeId} (a:JF P t=some (n,e)):P.underlying t=some (.array n e):=by
 unfold JF at a;split at a;rename_i e' he b;cases a;exact b;cases a
theorem EE {t b e:TypeId} (a:Ko P t=some (b,e)):P.underlying t=some (.map b e):=by
 unfold Ko at a;split at a;rename_i e' he c;cases a;exact c;cases a
theorem FD {t:TypeId} (a:FC P t=true):P.underlying t=some .string:=by
 unfold FC at a;split at a;rename_i b;exact b;cases a
theorem EZ {e:TypeId} (a:Bh P e≠0):∃ii,P.info? e=some ii/\Bh P e=ii.size:=by
 cases hi:P.info? e with
 | none=>simp[Bh,Program.cellsOf,hi]at a
 | some ii=>exact⟨ii,rfl,by simp[Bh,Program.cellsOf,hi]⟩
theorem MX {t:TypeId} {x y:Operand} {out:dW} {evs:Operand->SV} (G:o.op=.indexAddr t x y) (d:dV P evs h k o.op=some out) (R:Bn h c)
 (H:∀x∈o.op.operands,V c (evs x) (ev x)):DN P ev o h k c out:=by
 rw[G]at d H;simp only[dV,G2]at d;have i:=H x (by simp[Op.operands]);have O:=H y (by simp[Op.operands]);split at d<;>try cases d
 rename_i kk n hn;rw[hn]at O;have D:=C7 O;cases B:A9 P t with
 | some e=>
  have I:=A5 B;simp only[B]at d;by_cases F:Bh P e=0;simp[F]at d;obtain⟨Y,hi,p⟩:=EZ F;simp only[F,if_false]at d;split at d<;>try (simp at d;done)
  rename_i j off M len full A;by_cases hc:M=Bh P e/\0<=n/\n<len;simp only[hc,and_self,if_true,EH,qJ,qh]at d;subst d;rw[A,V]at i;obtain⟨b,st,cap,hρ,f,_⟩:=i;obtain⟨l,g,J⟩:=hc;refine BF R (.pointer (some ⟨b,st+off+n.toNat*Bh P e,none⟩)) ?_ ?_;simp[execOp,G,Instr.indexAt,D,asIntOf,AO I,f,g,J,sizeOf,typeInfo,hi,Fc,p];rw[V];exact⟨b,st,hρ,by rw[qD]⟩;simp[hc]at d;rename_i M es full A;by_cases hc:M=Bh P e/\0<=n;simp only[hc,and_self,if_true]at d;obtain⟨l,g⟩:=hc;cases E:es[n.toNat]? with
  | none=>simp[E]at d
  | some v=>
   simp only[E,jk,EH,qJ,qh]at d;subst d;rw[A,V]at i;rcases i with⟨i,_⟩|⟨a,cap,vs,f,_,_,m,N⟩
   subst i;simp at E;subst l;have C:a.spot=none:=m.spot (λQ=>by have W:=Nd N;have h2:=(qo.1 E).1;rw[Q,jI]at W;have h3:0<es.length*Bh P e:=Nat.mul_pos (by omega) (by omega);omega);obtain⟨u,S,T,g3,U,g5⟩:=O2 N E;have K:n<es.length:=by have:=(qo.1 E).1;omega
   refine BF R (.pointer (some ⟨a.block,a.off+n.toNat*Bh P e,none⟩)) ?_ ?_;simp[execOp,G,Instr.indexAt,D,asIntOf,AO I,f,g,K,sizeOf,typeInfo,hi,dT C,p];rw[V];exact⟨_,u.cells.toList,rfl,by rw[<-U];exact m.sub _ _,BN.2 (S.cells T).1,rfl⟩
  simp[hc]at d
 | none =>
  simp only[B]at d;cases z:JF P t with
  | none=>simp[z]at d
  | some q=>
   obtain⟨len,e⟩:=q;have I:=Kf z;simp only[z]at d;by_cases hc:0<=n/\n<(len:Int)/\Bh P e≠0
   . rw[if_pos hc]at d;obtain⟨l,g,F⟩:=hc;obtain⟨Y,hi,p⟩:=EZ F;have r:∀a:Addr,ev x=.pointer (some a)->(execOp ev o).run P c.w=.ok (.value (.pointer (some (a.add (n.toNat*Bh P e))))) c.w:=λa X=>by
      simp[execOp,G,Instr.indexAt,D,asIntOf,AO I,X,l,g,sizeOf,typeInfo,hi,p,Instr.sureAddr]
     split at d<;>try (simp at d;done)
     rename_i j a A;simp only[EH,qJ,qh]at d;subst d;rw[A,V]at i;obtain⟨b,st,hρ,f⟩:=i;refine BF R _ (r _ f) ?_;rw[Fc,V];exact⟨b,st,hρ,by rw[qD]⟩;rename_i cs A;simp only[EH,qJ,qh]at d;subst d;rw[A,V]at i;obtain⟨a,vs,f,m,hc,L⟩:=i;refine BF R _ (r _ f) ?_;have s:=m.sub (n.toNat*Bh P e) (vs.length);rw[qB (by simp)]at s;rw[dT L,V];exact⟨_,_,rfl,s,BN.2 ((BN.1 hc).drop _),rfl⟩
   rw[if_neg hc]at d;simp at d
theorem Eh {cs:List SV} {v:Value} (a:V c (.agg cs) v):∃vs,v=.agg vs.toArray/\AZ (V c) cs vs/\∀x∈vs,x.oneCell'=true:=by
 rw[V]at a;obtain⟨vs,e,hl,b⟩:=a;exact⟨vs,e,BN.1 hl,b⟩
theorem PS {t:TypeId} {cs:List SV} {vs:List Value} {off:Nat} {v:SV} (f:(Bg cs off (Bh P t)).bind (P4 (Fm P t))=some v) (hc:AZ (V c) cs vs)
 (j:∀x∈vs,x.oneCell'=true) (w:World):∃r,(part t vs.toArray off).run P w=.ok r w/\V c v r:=by
 cases ht:Bg cs off (Bh P t)with
 | none=>simp[ht]at f
 | some r=>
  simp only[ht,qJ]at f;obtain⟨hle,rfl⟩:=Ef ht;have hl:=hc.length;have e:=(hc.drop off).take (Bh P t);have d:∀x∈(vs.drop off).take (Bh P t),x.oneCell'=true:=λx i=>j x (qT (qH i));rcases Kz f e d with⟨a,h⟩|⟨a,x,i,h⟩
  obtain⟨ii,hi,g⟩:=MF a;refine⟨_,?_,h⟩;simp[part,Dz a,sizeOf,typeInfo,hi,<-g];refine⟨x,?_,h⟩;have b:vs[off]? = some x:=by
   have:((vs.drop off).take (Bh P t))[0]? = some x:=by rw[i];rfl
   rw[jf]at this;split at this;rw[qY]at this;simpa using this;cases this
  simp[part,Dz a,b]
theorem SM {t:TypeId} {x:Operand} {i:Nat} {out:dW} {evs:Operand->SV} (m:o.op=.field t x i) (b:dV P evs h k o.op=some out) (R:Bn h c)
 (H:∀x∈o.op.operands,V c (evs x) (ev x)):DN P ev o h k c out:=by
 rw[m]at b H;simp only[dV]at b;have n:=H x (by simp[Op.operands]);split at b<;>try cases b
 rename_i off p cs e u;rw[u]at n;obtain⟨vs,l,hc,q⟩:=Eh n;obtain⟨g,f,j,a,rfl,rfl⟩:∃g f,P.underlying t=some (.struct g)/\g[i]? = some f/\f.offset=off/\f.type=p:=by
  unfold IR at e;cases j:P.underlying t with
  | none=>simp[j]at e
  | some d=>
   cases d<;>simp only[j]at e<;>try cases e
   rename_i g;simp only[qX]at e;obtain⟨f,a,s⟩:=e;cases s;exact⟨g,f,rfl,a,rfl,rfl⟩
 cases hp:(Bg cs f.offset (Bh P f.type)).bind (P4 (Fm P f.type))with
 | none=>simp[hp]at b
 | some v=>
  simp only[hp,EH,qJ,qh]at b;subst b;obtain⟨r,y,z⟩:=PS (c:=c) hp hc q c.w;exact BF R r (by simp[execOp,m,Instr.field,AO j,a,l,asAgg,y]) z
theorem SN {t:TypeId} {x y:Operand} {out:dW} {evs:Operand->SV} (u:o.op=.index t x y) (a:dV P evs h k o.op=some out) (R:Bn h c)
 (H:∀x∈o.op.operands,V c (evs x) (ev x)):DN P ev o h k c out:=by
 rw[u]at a H;simp only[dV]at a;have j:=H x (by simp[Op.operands]);have l:=H y (by simp[Op.operands]);split at a<;>try cases a
 . rename_i s i n m h2;rw[m]at j;rw[h2]at l;have A:=Kq j;have f:=C7 l;split at a<;>try cases a
   rename_i hc;cases hb:s[n.toNat]? with
   | none=>simp[hb]at a
   | some b=>
    simp only[hb,EH,qJ,qh]at a;subst a;refine BF R (.int .u8 b.toNat) ?_ (by simp[V]);simp[execOp,u,Instr.index,f,asIntOf,AO (FD hc.1),A,hc.2,hb]
 . rename_i cs i n m h2;rw[m]at j;rw[h2]at l;have f:=C7 l;obtain⟨vs,B,p,g⟩:=Eh j;cases d:JF P t with
   | none=>simp[d]at a
   | some q =>
    obtain⟨len,e⟩:=q;simp only[d]at a;split at a<;>try cases a
    rename_i hc;cases hp:(Bg cs (n.toNat*Bh P e) (Bh P e)).bind (P4 (Fm P e))with
    | none=>simp[hp]at a
    | some v =>
     simp only[hp,EH,qJ,qh]at a;subst a;obtain⟨r,C,D⟩:=PS (c:=c) hp p g c.w;obtain⟨b,hb⟩:∃b,Fm P e=some b:=by
      cases hb:Fm P e with
      | none=>
       cases ht:Bg cs (n.toNat*Bh P e) (Bh P e)<;>simp[ht,hb,P4]at hp
      | some b=>exact⟨b,rfl⟩
     obtain⟨ii,hi,z⟩:=MF hb;rw[z]at C;exact BF R r (by simp[execOp,u,Instr.index,f,asIntOf,AO (Kf d),B,hc,sizeOf,typeInfo,hi,C]) D
end
section
variable {P : Program} {ev : Operand → Value} {o : Oper} {h : Hp} {k : Nat} {c : Cx}
theorem Lb {op:BinOp} {i:IntKind} {a b:Int} {v:SV} {t:TypeId} (hs:J7 op i a b=some v) (h1:op≠.shl) (h2:op≠.shr) (w:World):
 ∃r,(binOp op t (.int i a) (.int i b)).run P w=.ok r w/\V c v r:=by
 cases op<;>simp only[J7]at hs<;>try (first|(cases hs;done)|exact absurd rfl h1|exact absurd rfl h2)
 case quo=>
  split at hs<;>try cases hs
  rename_i hb;exact⟨_,by simp[binOp,Op.intDiv,hb];rfl,by rw[V]⟩
 case rem=>
  split at hs<;>try cases hs
  rename_i hb;exact⟨_,by simp[binOp,Op.intDiv,hb];rfl,by rw[V]⟩
 case and=>cases hs;exact⟨.int i (i.wrap (BitVec.ofInt i.bits a &&& BitVec.ofInt i.bits b).toNat),by simp[binOp,Op.intBits],by rw[V]⟩
 case or=>cases hs;exact⟨.int i (i.wrap (BitVec.ofInt i.bits a ||| BitVec.ofInt i.bits b).toNat),by simp[binOp,Op.intBits],by rw[V]⟩
 case xor=>cases hs;exact⟨.int i (i.wrap (BitVec.ofInt i.bits a ^^^ BitVec.ofInt i.bits b).toNat),by simp[binOp,Op.intBits],by rw[V]⟩
 all_goals
  simp only[qh]at hs;subst hs;exact⟨_,by simp[binOp,Op.intArith,Op.intCmp];rfl,by rw[V]⟩
theorem Qh {op:BinOp} {a b:ByteArray} {v:SV} {t:TypeId} (hs:OC op a b=some v) (w:World):
 ∃r,(binOp op t (.string a) (.string b)).run P w=.ok r w/\V c v r:=by
 cases op<;>simp only[OC]at hs<;>try (cases hs;done)
 case add=>
  split at hs<;>try cases hs
  rename_i hb;refine⟨.string (a++b),?_,by rw[V]⟩;simp[binOp,Op.stringOp];have:IntKind.i64.max=9223372036854775807:=by decide
  omega
 case gtr=>cases hs;exact⟨.bool !(Op.bytesLess a.toList b.toList||a.toList==b.toList),by simp[binOp,Op.stringOp],by rw[V]⟩
 all_goals
  simp only[qh]at hs;subst hs;exact⟨_,by simp[binOp,Op.stringOp];rfl,by rw[V]⟩
theorem IH {c:BinOp} {t:TypeId} {x y:Operand} {a b:Value} (d:a≠.nilIface) (e:∀u,a≠.agg u) (w:World):
 (eqGuard c t x y a b).run P w=.ok () w:=by
 cases a<;>simp at d e<;>cases c<;>simp[eqGuard]
theorem Gk (d:Nat) {t:TypeId} (a b:Bool) (c:P.underlying t=some .bool) (w:World):(Op.equalIn (d+1) t (.bool a) (.bool b)).run P w=.ok (a==b) w:=by
 simp[Op.equalIn,AO c]
theorem KH (d:Nat) {t e:TypeId} (q:Option Addr) (a:P.underlying t=some (.pointer e)) (w:World):(Op.equalIn (d+1) t (.pointer q) (.pointer none)).run P w=.ok q.isNone w:=by
 cases q<;>simp[Op.equalIn,AO a]
theorem LE {t:TypeId} (a b:Bool) (c:P.underlying t=some .bool) (w:World):
 (binOp .eql t (.bool a) (.bool b)).run P w=.ok (.bool (a==b)) w/\(binOp .neq t (.bool a) (.bool b)).run P w=.ok (.bool !(a==b)) w:=by
 have:=Gk 9999 a b c w;constructor<;>(simp only[binOp,Op.equal];simp[Op.maxDepth,this])
theorem Md {t e:TypeId} (q:Option Addr) (a:P.underlying t=some (.pointer e)) (w:World):
 (binOp .eql t (.pointer q) (.pointer none)).run P w=.ok (.bool q.isNone) w/\(binOp .neq t (.pointer q) (.pointer none)).run P w=.ok (.bool !q.isNone) w:=by
 have:=KH 9999 q a w;constructor<;>(simp only[binOp,Op.equal];simp[Op.maxDepth,this])
theorem Hc {t:TypeId} (hb:MA P t=true):P.underlying t=some .bool:=by
 unfold MA at hb;split at hb;rename_i a;exact a;cases hb
theorem NX {t:TypeId} (hb:UF P t=true):∃e,P.underlying t=some (.pointer e):=by
 unfold UF at hb;split at hb;rename_i e a;exact⟨e,a⟩;cases hb
theorem Uz {x:SV} {u:Value} {f:Bool} (d:V c x u) (g:(match x with|.nilp=>some (SV.bool true)|.ptr .. | .iptr _=>some (.bool false)|_=>none)=some (.bool f)):
 ∃q:Option Addr,u=.pointer q/\q.isNone=f:=by
 cases x<;>simp at g<;>subst g<;>rw[V]at d;exact⟨none,d,rfl⟩;obtain⟨b,st,_,e⟩:=d;exact⟨_,e,rfl⟩;obtain⟨a,vs,e,_⟩:=d;exact⟨_,e,rfl⟩
theorem Tm {x:SV} {u:Value} {f:Bool} (d:V c x u) (g:(match x with|.nilp=>some (SV.bool false)|.ptr .. | .iptr _=>some (.bool true)|_=>none)=some (.bool f)):
 ∃q:Option Addr,u=.pointer q/\(!q.isNone)=f:=by
 cases x<;>simp at g<;>subst g<;>rw[V]at d;exact⟨none,d,rfl⟩;obtain⟨b,st,_,e⟩:=d;exact⟨_,e,rfl⟩;obtain⟨a,vs,e,_⟩:=d;exact⟨_,e,rfl⟩
theorem SK {B:BinOp} {t t2:TypeId} {x y:Operand} {out:dW} {evs:Operand->SV} (C:o.op=.binOp B t x y t2) (p:dV P evs h k o.op=some out) (R:Bn h c)
 (H:∀x∈o.op.operands,V c (evs x) (ev x)):DN P ev o h k c out:=by
 rw[C]at p H;simp only[dV]at p;have g:=H x (by simp[Op.operands]);have d:=H y (by simp[Op.operands]);cases hb:UZ (MA P t) (UF P t) B (evs x) (evs y)with
 | none=>simp[hb]at p
 | some v =>
  simp only[hb,EH,qJ,qh]at p;subst p;have fin:∀a b:Value,ev x=a->ev y=b->a≠.nilIface->(∀u,a≠.agg u)->
   (∃r,(binOp B t a b).run P c.w=.ok r c.w/\V c v r)->DN P ev o h k c { val:=v }:=λa b E s D h2 ⟨r,F,G⟩=>
   BF R r (by simp[execOp,C,E,s,IH (P:=P) D h2,F]) G
  unfold UZ at hb;split at hb
  . rename_i i a j b l f;rw[l]at g;rw[f]at d;split at hb<;>try cases hb
    rename_i hc;refine fin _ _ (C7 g) (C7 d) (by simp) (by simp) ⟨.int i (i.wrap (a*2 ^ (min b.toNat i.bits))),?_,by rw[V]⟩;simp[binOp,Op.shift,show ¬b<0 by omega]
  . rename_i i a j b l f;rw[l]at g;rw[f]at d;split at hb<;>try cases hb
    rename_i hc;refine fin _ _ (C7 g) (C7 d) (by simp) (by simp) ⟨.int i (a.fdiv (2 ^ (min b.toNat i.bits))),?_,by rw[V]⟩;simp[binOp,Op.shift,show ¬b<0 by omega]
  . rename_i i a j b I J l f;rw[l]at g;rw[f]at d;split at hb<;>try cases hb
    rename_i hc;subst hc;exact fin _ _ (C7 g) (C7 d) (by simp) (by simp) (Lb hb I J c.w)
  rename_i op' a b l f;rw[l]at g;rw[f]at d;exact fin _ _ (Kq g) (Kq d) (by simp) (by simp) (Qh hb c.w)
  . rename_i a b l f;rw[l]at g;rw[f]at d;split at hb<;>try cases hb
    rename_i hc;exact fin _ _ (by simpa[V]using g) (by simpa[V]using d) (by simp) (by simp) ⟨_,(LE a b (Hc hc) c.w).1,by rw[V]⟩
  . rename_i a b l f;rw[l]at g;rw[f]at d;split at hb<;>try cases hb
    rename_i hc;exact fin _ _ (by simpa[V]using g) (by simpa[V]using d) (by simp) (by simp) ⟨_,(LE a b (Hc hc) c.w).2,by rw[V]⟩
  . rename_i f;rw[f]at d;split at hb<;>try cases hb
    rename_i hc;obtain⟨e,A⟩:=NX hc;obtain⟨n,rfl⟩:∃n,v=.bool n:=by revert hb;split<;>intro hb<;>cases hb<;>exact⟨_,rfl⟩
    obtain⟨q,z,m⟩:=Uz g hb;exact fin _ _ z (by simpa[V]using d) (by simp) (by simp) ⟨_,(Md q A c.w).1,by rw[V,m]⟩
  . rename_i f;rw[f]at d;split at hb<;>try cases hb
    rename_i hc;obtain⟨e,A⟩:=NX hc;obtain⟨n,rfl⟩:∃n,v=.bool n:=by revert hb;split<;>intro hb<;>cases hb<;>exact⟨_,rfl⟩
    obtain⟨q,z,m⟩:=Tm g hb;exact fin _ _ z (by simpa[V]using d) (by simp) (by simp) ⟨_,(Md q A c.w).2,by rw[V,m]⟩
  cases hb
theorem UA {g:UnOp} {t:TypeId} {x:Operand} {out:dW} {evs:Operand->SV} (f:o.op=.unOp g t x) (a:dV P evs h k o.op=some out) (R:Bn h c)
 (H:∀x∈o.op.operands,V c (evs x) (ev x)):DN P ev o h k c out:=by
 rw[f]at a H;simp only[dV]at a;have d:=H x (by simp[Op.operands]);split at a<;>try cases a
 rename_i b e;rw[e]at d;exact BF R (.bool !b) (by simp[execOp,f,Gm d,Op.unary]) (by rw[V]);rename_i i n e;rw[e]at d;exact BF R (.int i (i.wrap (0-n))) (by simp[execOp,f,C7 d,Op.unary,Op.intArith]) (by rw[V])
theorem FY {t:TypeId} {i:IntKind} (hb:Jl P t=some i):P.underlying t=some (.int i):=by
 unfold Jl at hb;split at hb;rename_i a;cases hb;exact a;cases hb
theorem Pj {t t2:TypeId} {x:Operand} {out:dW} {evs:Operand->SV} (b:o.op=.convert t t2 x) (a:dV P evs h k o.op=some out) (R:Bn h c)
 (H:∀x∈o.op.operands,V c (evs x) (ev x)):DN P ev o h k c out:=by
 rw[b]at a H;simp only[dV]at a;have d:=H x (by simp[Op.operands]);split at a<;>try cases a
 rename_i i j i' n e f g;rw[g]at d;exact BF R (.int j (j.wrap n)) (by simp[execOp,b,C7 d,convert,AO (FY e),AO (FY f),Conv.intToInt]) (by rw[V])
theorem Gg {evs:Operand->SV} (xs:Array Operand) (H:∀x∈xs.toList,V c (evs x) (ev x)):AZ (V c) (xs.toList.map evs) (xs.map ev).toList:=by
 simp only[Array.toList_map];refine AZ.of_get (by simp) λi a b d h2=>?_;simp only[qO,qX]at d h2;obtain⟨p,hp,rfl⟩:=d;obtain⟨q,e,rfl⟩:=h2;rw[hp]at e;cases e;exact H p (jb hp)
theorem N6 {f:Fn} {a b:Array Operand} {out:dW} {evs:Operand->SV} (g:o.op=.makeFunc f a b) (e:dV P evs h k o.op=some out) (R:Bn h c)
 (H:∀x∈o.op.operands,V c (evs x) (ev x)):DN P ev o h k c out:=by
 rw[g]at e H;simp only[dV,EH,qh]at e;subst e;refine BF R (.func f (a.map ev) (b.map ev)) (by simp[execOp,g,Instr.makeFunc]) ?_;rw[V];exact⟨(a.map ev).toList,(b.map ev).toList,by rw[Array.toArray_toList,Array.toArray_toList],BN.2 (Gg a λx d=>H x (by simp[Op.operands]at d ⊢;exact .inl d)),BN.2 (Gg b λx d=>H x (by simp[Op.operands]at d ⊢;exact .inr d))⟩
theorem Pk {x:Operand} {i:Nat} {out:dW} {evs:Operand->SV} (f:o.op=.extract x i) (a:dV P evs h k o.op=some out) (R:Bn h c)
 (H:∀x∈o.op.operands,V c (evs x) (ev x)):DN P ev o h k c out:=by
 rw[f]at a H;simp only[dV]at a;have g:=H x (by simp[Op.operands]);split at a<;>try cases a
 rename_i vs j;cases d:vs[i]? with
 | none=>simp[d]at a
 | some v=>
  simp only[d,EH,qJ,qh]at a;subst a;rw[j,V]at g;obtain⟨us,l,hl⟩:=g;obtain⟨u,b,e⟩:=(BN.1 hl).get d;exact BF R u (by simp[execOp,f,l,Instr.extract,b]) e
theorem Pl {t:TypeId} {r:Option Operand} {out:dW} {evs:Operand->SV} (e:o.op=.makeMap t r) (a:dV P evs h k o.op=some out) (R:Bn h c) (d:c.ρ k=none):
 DN P ev o h k c out:=by
 rw[e]at a;simp only[dV]at a;split at a<;>try cases a
 rename_i hc;simp only[qq,Option.isNone_iff_eq_none]at hc;obtain⟨rfl,hc⟩:=hc;have E:=c.alloc_ext k (.map #[] 0) d;refine⟨.map (some c.w.heap.size),c.alloc k (.map #[] 0),.inl ?_,by rw[V];exact⟨_,by simp[Cx.alloc],rfl⟩,R.alloc d ⟨c.w.heap.size,#[],0,by simp[Cx.alloc],by simp[Cx.alloc,Bk],trivial,by simp[Hm]⟩,E,λj b=>?_⟩;simp[execOp,e,Instr.makeMap,Cx.alloc];simp at b;simp[Cx.alloc,b]
theorem HJ {z:SV} {b:Value} (f:V c z b) (e:z.storable=true) (n:Nat):
 AZ (V c) (List.replicate n z.cells).flatten (List.replicate n b.cells.toList).flatten/\∀x∈(List.replicate n b.cells.toList).flatten,x.oneCell'=true:=by
 obtain⟨d,h2⟩:=f.cells e;refine⟨AZ.flatten (AZ.replicate d n),λx a=>?_⟩;simp only[List.mem_flatten,List.mem_replicate]at a;obtain⟨l,⟨_,rfl⟩,a⟩:=a;exact h2 x a
theorem Em (a:Array Value) (b:a.size≠0):∀n,((Array.range (n*a.size)).map λi=>a[i % a.size]!).toList=(List.replicate n a.toList).flatten
 | 0=>by simp
 | n+1=>by
  have c:=Em a b n;simp only[Array.toList_map,Array.toList_range]at *;rw[Nat.succ_mul,List.range_add,qc,c,List.replicate_succ',List.flatten_append];congr 1;simp only[Qw,List.flatten_cons,List.flatten_nil,jq];apply List.ext_getElem?;intro i;by_cases hi:i<a.size;simp[hi,Nat.add_mod,Nat.mod_eq_of_lt hi,getElem!_pos];simp[hi]
theorem MY {t:TypeId} {x y:Operand} {out:dW} {evs:Operand->SV} (s:o.op=.makeSlice t x y) (l:dV P evs h k o.op=some out) (R:Bn h c) (G:c.ρ k=none)
 (H:∀x∈o.op.operands,V c (evs x) (ev x)):DN P ev o h k c out:=by
 rw[s]at l H;simp only[dV]at l;have v:=H x (by simp[Op.operands]);have A:=H y (by simp[Op.operands]);split at l<;>try cases l
 rename_i e n m B C D;rw[C]at v;rw[D]at A;split at l<;>try cases l
 rename_i hc;obtain⟨h0,rfl,I,g,hlen,hz⟩:=hc;obtain⟨i,z,hi,r,q⟩:=CB g;have j:=C9 c z;rw[<-q]at j;obtain⟨K,J⟩:=HJ j g n.toNat;have a:z.cells.size=Bh P e:=by have:=(j.cells g).1.length;simp at this;omega
 have p:Bh P e=i.size:=by simp[Bh,Program.cellsOf,hi]
 have hby:BY P e=i.bytes:=by simp[BY,Program.bytesOf,hi]
 simp only[dY,qq,decide_eq_true_eq]at I;have d:(i.bytes:Int)*n<=281474976710656:=by
  have:(i.bytes:Int)*n<=65536*1073741824:=Int.mul_le_mul (by omega) (by omega) h0 (by omega);omega
 have b:=Em z.cells (by omega) n.toNat;refine JW (vs:=madeCells z.cells (n.toNat*z.cells.size)) (e:=e) (u:=.slice (some ⟨c.w.heap.size,0,none⟩) n.toNat n.toNat) R G ?_ (by unfold madeCells;rw[b];exact K) (by unfold madeCells;rw[b];exact J)
  (λc' E F=>by rw[V];exact⟨_,0,n.toNat,E,rfl,qa _,λ_=>rfl,by rw[F];simp[madeCells,a]⟩)
 have f:=run_make (P:=P) c.w t e i z (A5 B) hi r .i64 .i64 n n h0 (Int.le_refl _) d (by omega);rw[<-p,<-a]at f;simp[execOp,s,C7 v,C7 A,f]
theorem L3 {t:TypeId} {len:Nat} {ps:Array (Nat×Operand)} {out:dW} {evs:Operand->SV} (E:o.op=.buildSlice t len ps) (d:dV P evs h k o.op=some out) (R:Bn h c) (J:c.ρ k=none)
 (H:∀x∈o.op.operands,V c (evs x) (ev x)):DN P ev o h k c out:=by
 rw[E]at d H;simp only[dV]at d;split at d<;>try cases d
 rename_i e A;split at d<;>try cases d
 rename_i hc;obtain⟨hn,j,hlen⟩:=hc;obtain⟨n,B⟩:=hn;obtain⟨i,z,hi,D,C⟩:=CB j;have m:=C9 c z;rw[<-C]at m;obtain⟨L,K⟩:=HJ m j len;have a:z.cells.size=Bh P e:=by have:=(m.cells j).1.length;simp at this;omega
 have l:Bh P e=i.size:=by simp[Bh,Program.cellsOf,hi]
 have b:=Em z.cells (by rw[a];intro h0;simp[h0]at n) len;cases s:JS (λi=>some (i*Bh P e,Bh P e)) (List.replicate len (BH P e).cells).flatten (ps.toList.map λp=>(p.1,evs p.2))with
 | none=>simp[s]at d
 | some cs =>
  simp only[s,qJ,qh]at d;subst d;obtain⟨r,f,v,y⟩:=LR (c:=c) (place':=λi=>some (i*Bh P e,Bh P e)) (λi p hp=>hp) _ _ _ ((Array.range (len*z.cells.size)).map λi=>z.cells[i % z.cells.size]!) cs
   (NH ps λp hp=>H p.2 (H7 hp)) (by rw[b];exact L) (by rw[b];exact K) s
  have q:=run_buildSlice (P:=P) c.w t e len (ps.map λ(i,x)=>(i,ev x)) r i z (A5 A) hi D (by rw[l]at B;omega) (by rw[<-l];exact n) (by rw[<-l,<-a];rw[<-a]at f;exact f);have g:r.size=len*Bh P e:=by
   have I:=Mk f;rw[I];simp[a]
  refine JW (vs:=r) (e:=e) (u:=.slice (some ⟨c.w.heap.size,0,none⟩) len len) R J (by simp[execOp,E,q]) v y
   (λc' F G=>by rw[V];exact⟨_,0,len,F,rfl,qa _,λ_=>rfl,by rw[G,g];simp⟩)
theorem OZ {s:Option SV} {v:Option Value} {d:Option Int} {n:Int} (hb:Sw s d=some n) (e:∀x,s=some x->∃u,v=some u/\V c x u) (hn:s=none->v=none):
 (s=none/\v=none/\d=some n)\/∃i,v=some (.int i n):=by
 unfold Sw at hb;split at hb;exact .inl ⟨rfl,hn rfl,hb⟩;rename_i d' i m;obtain⟨u,b,a⟩:=e _ rfl;cases hb;exact .inr ⟨i,by rw[b,C7 a]⟩;cases hb
theorem FW {i:IntKind} {n:Int} {y:Nat} {code:BoundsCode} (h0:0<=n) (a:n<=y) (w:World):(Instr.sliceBound (.int i n) y code).run P w=.ok n.toNat w:=by
 simp[Instr.sliceBound,asIntOf,h0,a]
theorem Gj {isS:Bool} {len cap l m:Nat} {lo hi:Option Value} (b:(lo=none/\l=0)\/∃i,lo=some (.int i l)) (a:(hi=none/\m=len)\/∃i,hi=some (.int i m))
 (h1:l<=m) (h2:m<=len) (h3:len<=cap) (w:World):(Instr.sliceBounds isS len cap lo hi none).run P w=.ok (l,m,cap) w:=by
 have hb:=λ(code:BoundsCode) (i:IntKind)=>FW (P:=P) (i:=i) (n:=(l:Int)) (y:=m) (code:=code) (by omega) (by omega) w;have Hn:=λ(code:BoundsCode) (i:IntKind)=>FW (P:=P) (i:=i) (n:=(m:Int)) (y:=cap) (code:=code) (by omega) (by omega) w;simp only[Int.toNat_natCast]at hb Hn;rcases b with⟨rfl,hl⟩|⟨i,rfl⟩<;>rcases a with⟨rfl,c⟩|⟨j,rfl⟩
 simp[Instr.sliceBounds,hl,c];simp[Instr.sliceBounds,hl,Hn];subst c;simp[Instr.sliceBounds,hb];simp[Instr.sliceBounds,hb,Hn]
theorem IG {isS:Bool} {len cap l m x:Nat} {lo hi:Option Value} {c:IntKind} (b:(lo=none/\l=0)\/∃i,lo=some (.int i l)) (a:∃i,hi=some (.int i m))
 (h1:l<=m) (h2:m<=x) (h3:x<=cap) (w:World):(Instr.sliceBounds isS len cap lo hi (some (.int c x))).run P w=.ok (l,m,x) w:=by
 obtain⟨j,rfl⟩:=a;have hb:=λ(code:BoundsCode) (i:IntKind)=>FW (P:=P) (i:=i) (n:=(l:Int)) (y:=m) (code:=code) (by omega) (by omega) w;have Hn:=λ(code:BoundsCode) (i:IntKind)=>FW (P:=P) (i:=i) (n:=(m:Int)) (y:=x) (code:=code) (by omega) (by omega) w;have TT:=λ(code:BoundsCode) (i:IntKind)=>FW (P:=P) (i:=i) (n:=(x:Int)) (y:=cap) (code:=code) (by omega) (by omega) w;simp only[Int.toNat_natCast]at hb Hn TT;rcases b with⟨rfl,hl⟩|⟨i,rfl⟩
 simp[Instr.sliceBounds,hl,Hn,TT];simp[Instr.sliceBounds,hb,Hn,TT]
end
section
variable {P : Program} {ev : Operand → Value} {o : Oper} {h : Hp} {k : Nat} {c : Cx}
theorem FU {evs:Operand->SV} (x:Option Operand) (H:∀y,x=some y->V c (evs y) (ev y)):
 (∀s,x.map evs=some s->∃u,x.map ev=some u/\V c s u)/\(x.map evs=none->x.map ev=none):=by
 cases x with
 | none=>simp
 | some y=>simpa using H y rfl
theorem Um {z:Nat} {es:List SV} {vs:List Value} (hE:VE c z es vs) (l m:Nat) (hm:m<=es.length) (hl:l<=m):
 VE c z ((es.take m).drop l) ((vs.drop (l*z)).take ((m-l)*z)):=by
 induction es generalizing vs l m with
 | nil=>simp at hm;subst hm;simp at hl;subst hl;rw[VE]at hE;subst hE;simp[VE]
 | cons e es ih =>
  have hE':=hE;rw[VE]at hE;obtain⟨u,r,rfl,hz,hs,hv,hr⟩:=hE;cases m with
  | zero=>simp at hl;subst hl;simp[VE]
  | succ m =>
   simp only[qF]at hm;cases l with
   | zero=>
    have:=ih hr 0 m (by omega) (by omega);simp only[Nat.zero_mul,kn,kF,jl]at *;rw[VE];refine⟨u,r.take (m*z),?_,hz,hs,hv,this⟩;rw[Nat.succ_mul,Nat.add_comm,List.take_append,qB (by simp[hz])];congr 2;simp[hz]
   | succ l=>
    have:=ih hr l m (by omega) (by omega);simp only[jl,List.drop_succ_cons];rw[Nat.succ_mul,Nat.add_comm (l*z),<-List.drop_drop,List.drop_left' (by simp[hz]),show m+1-(l+1)=m-l by omega];exact this
theorem Gl {t e:TypeId} (d:P.underlying t=some (.slice e)) {z:Nat} (f:∃c,P.info? e=some c/\c.size=z) (a:Option Addr) (len cap l m x:Nat) {lo hi mx:Option Value} {w:World}
 (hb:(Instr.sliceBounds true len cap lo hi mx).run P w=.ok (l,m,x) w):
 (Instr.sliceAt t (.slice a len cap) lo hi mx).run P w=.ok (.slice (if x=l then a else a.map (·.add (l*z))) (m-l) (x-l)) w:=by
 obtain⟨c,b,rfl⟩:=f;simp[Instr.sliceAt,AO d,Instr.slice,hb,sizeOf,typeInfo,b]
theorem atc {α:Type} {c:Cx} {F:World->α->Prop} {G:α->Prop} (H:∃r,(∀w,F w r)/\G r):∃r,F c.w r/\G r:=let⟨r,h,g⟩:=H;⟨r,h c.w,g⟩
theorem Ij {t e:TypeId} (v:P.underlying t=some (.slice e)) {z l m:Nat} {es:List SV} {full f:Bool} {u:Value} {lo hi mx:Option Value} (y:V c (.imm z es full) u)
 (h:∃ii,P.info? e=some ii/\ii.size=Bh P e) (B:es=[]\/Bh P e=z) (hl:l<=m) (i:m<=es.length)
 (hb:∀cap,es.length<=cap->(full=true->cap=es.length)->∃x,m<=x/\x<=cap/\(f=true->x=m)/\∀w,(Instr.sliceBounds true es.length cap lo hi mx).run P w=.ok (l,m,x) w):
 ∃r,(∀w,(Instr.sliceAt t u lo hi mx).run P w=.ok r w)/\V c (.imm z ((es.take m).drop l) f) r:=by
 rw[V]at y;rcases y with⟨rfl,rfl⟩|⟨a,cap,vs,rfl,g,d,j,s⟩
 obtain⟨x,p,h2,q,n⟩:=hb 0 (qa _) (λ_=>rfl);have o:x=0:=by omega
 simp at i;subst i;simp at hl;subst hl;subst o;exact⟨_,λw=>Gl v h none 0 0 0 0 0 (n w),by rw[V];exact .inl ⟨by simp,by simp⟩⟩;obtain⟨x,p,h2,q,n⟩:=hb cap g d;refine⟨_,λw=>Gl v h (some a) es.length cap l m x (n w),?_⟩;rw[V];have b:((es.take m).drop l).length=m-l:=by simp;omega
 refine .inr ⟨if x=l then a else a.add (l*Bh P e),x-l,(vs.drop (l*z)).take ((m-l)*z),?_,by rw[b];omega,λA=>by rw[b,q A],?_,Um s l m i hl⟩;rw[b];split<;>rfl;split;rename_i hxl;have:m-l=0:=by omega
 rw[this];simp;exact⟨by simp,by simp,by simp,by simp⟩;rcases B with rfl|rfl;simp at i;subst i;simp at hl;subst hl;simp[Addr.add];exact⟨by simp,by simp,by simp,by simp⟩;by_cases k:vs=[];have h0:=Nd s;have p:l*Bh P e<=es.length*Bh P e:=jt _ (by omega);rw[k]at h0 ⊢;rw[jI]at h0;simp;exact⟨by simp,by simp,by simp,by simp⟩;rw[dT (j.spot k)];exact j.sub _ _
theorem Pi {t e:TypeId} (p:P.underlying t=some (.slice e)) {j off z l m len:Nat} {full f:Bool} {u:Value} {lo hi mx:Option Value} (n:V c (.sl j off z len full) u)
 (i:∃ii,P.info? e=some ii/\ii.size=Bh P e) (q:Bh P e=z) (hl:l<=m) (_hm:m<=len)
 (hb:∀cap,len<=cap->(full=true->cap=len)->∃x,m<=x/\x<=cap/\(f=true->x=m)/\(Instr.sliceBounds true len cap lo hi mx).run P c.w=.ok (l,m,x) c.w):
 ∃r,(Instr.sliceAt t u lo hi mx).run P c.w=.ok r c.w/\V c (if l=m/\l≠0 then .imm z [] f else .sl j (off+l*z) z (m-l) f) r:=by
 rw[V]at n;obtain⟨b,st,cap,hρ,rfl,d,a,hroom⟩:=n;obtain⟨x,h1,h2,k,o⟩:=hb cap d a;refine⟨_,Gl p i _ len cap l m x o,?_⟩;rw[q];split;rename_i hc;rw[V];refine .inr ⟨if x=l then⟨b,st+off,none⟩else(⟨b,st+off,none⟩:Addr).add (l*z),x-l,[],?_,by simp,λg=>by simp;have:=k g;omega,?_,by rw[VE]⟩;rw[show m-l=0 by omega];split<;>rfl;split;exact⟨by simp,by simp,by simp,by simp⟩;rw[Fc];exact⟨by simp,by simp,by simp,by simp⟩;rename_i hc;rw[V];refine⟨b,st,x-l,hρ,?_,by omega,λg=>by rw[k g],?_⟩;split;rename_i hxl;have:l=0:=by omega
 subst this;simp;simp[Fc,qD];have:l*z+(x-l)*z=x*z:=by rw[<-jB];congr 1;omega
 have h5:x*z<=cap*z:=jt _ h2;omega
theorem SQ {t:TypeId} {x:Operand} {lo hi mx:Option Operand} {out:dW} {evs:Operand->SV} (ho:o.op=.slice t x lo hi mx) (hs:dV P evs h k o.op=some out) (R:Bn h c)
 (H:∀x∈o.op.operands,V c (evs x) (ev x)):DN P ev o h k c out:=by
 rw[ho]at hs H;simp only[dV]at hs;have M:=H x (by simp[Op.operands]);have S:=FU (c:=c) (ev:=ev) (evs:=evs) lo λy e=>H y (by subst e;simp[Op.operands]);have Q:=FU (c:=c) (ev:=ev) (evs:=evs) hi λy e=>H y (by subst e;simp[Op.operands]);have hmx:=FU (c:=c) (ev:=ev) (evs:=evs) mx λy e=>H y (by subst e;simp[Op.operands]);cases hb:JE P t (evs x) (lo.map evs) (hi.map evs) (mx.map evs)with
 | none=>simp[hb]at hs
 | some v =>
  simp only[hb,EH,qJ,qh]at hs;subst hs;suffices O:∃r,(Instr.sliceAt t (ev x) (lo.map ev) (hi.map ev) (mx.map ev)).run P c.w=.ok r c.w/\V c v r by
   obtain⟨r,hr,hv⟩:=O;exact BF R r (by simp[execOp,ho,hr]) hv
  have A:∀{s:Option SV} {vv:Option Value} {d:Option Int} {n:Int} {N:Nat},Sw s d=some n->0<=n->((∀x,s=some x->∃u,vv=some u/\V c x u)/\(s=none->vv=none))->d=some (N:Int)->
   (vv=none/\n.toNat=N)\/∃i,vv=some (.int i n.toNat):=λhb h0 hv hd=>by
   rcases OZ hb hv.1 hv.2 with⟨_,e,e2⟩|⟨i,e⟩
   rw[hd]at e2;cases e2;exact .inl ⟨e,by simp⟩;exact .inr ⟨i,by rw[e];congr 2;omega⟩
  unfold JE at hb;split at hb
  . rename_i s K;rw[K]at M;have hx':=Kq M;split at hb<;>try cases hb
    rename_i hc;simp only[kH,js,not_or,jM,Option.isSome_map]at hc;have hmn:mx=none:=by cases mx<;>simp at hc ⊢
    subst hmn;split at hb<;>try cases hb
    rename_i l m hl hm;split at hb<;>try cases hb
    rename_i B;have T:=FD hc.1;have b:=A hl B.1 S (by rfl:some (0:Int)=some ((0:Nat):Int));have a:=A hm (by omega) Q rfl;have hrun:=Gj (P:=P) (isS:=false) (len:=s.size) (cap:=s.size) b a (by omega) (by omega) (qa _) c.w;refine⟨.string (s.extract l.toNat m.toNat),?_,by rw[V]⟩;simp[Instr.sliceAt,AO T,Instr.slice,hx',hrun]
  . rename_i z es full K;rw[K]at M;cases g:A9 P t with
    | none=>simp[g]at hb
    | some e =>
     have T:=A5 g;simp only[g,Option.any_some]at hb;split at hb<;>try cases hb
     rename_i J;simp only[js,jM,qq,bne_iff_ne,ne_eq,kH,beq_iff_eq,List.isEmpty_iff]at J;obtain⟨Y,J⟩:=J;obtain⟨ii,E,G⟩:=EZ Y;split at hb<;>try cases hb
     rename_i l m hl hm;split at hb<;>try cases hb
     rename_i B;have b:=A hl B.1 S (by rfl:some (0:Int)=some ((0:Nat):Int));have a:=A hm (by omega) Q rfl;cases mx with
     | none=>
      simp only[kh,qh]at hb;subst hb;refine atc (Ij T M ⟨ii,E,G.symm⟩ J (by omega) (by omega) λcap Z h2=>⟨cap,by omega,qa _,λL=>?_,λw=>Gj b a (by omega) (by omega) Z w⟩);simp at L;have:=h2 L.1;omega
     | some mo=>
      have F:=hmx.1 _ rfl;simp only[jk]at hb F;split at hb<;>try cases hb
      rename_i p;cases p
      . rename_i i x p;simp only[qh]at p;obtain⟨uu,U,I⟩:=F;cases U;rw[p]at I;have W:=C7 I;split at hb<;>try cases hb
        rename_i C;simp only[qq,decide_eq_true_eq]at C;have q:∃i,Option.map ev hi=some (.int i m.toNat):=by
         rcases a with⟨K,_⟩|h;cases hi<;>simp at K C;exact h
        have X:(x:Int)=(x.toNat:Int):=by omega
        refine atc (Ij T M ⟨ii,E,G.symm⟩ J (by omega) (by omega) λcap Z h2=>⟨x.toNat,by omega,by omega,λL=>?_,λw=>?_⟩);simp at L;omega;rw[jk,W,X];exact IG b q (by omega) (by omega) (by omega) w
  . rename_i j off z len full K;rw[K]at M;cases g:A9 P t with
    | none=>simp[g]at hb
    | some e =>
     have T:=A5 g;simp only[g,Option.any_some]at hb;split at hb<;>try cases hb
     rename_i J;simp only[js,jM,qq,bne_iff_ne,ne_eq,beq_iff_eq]at J;obtain⟨Y,J⟩:=J;obtain⟨ii,E,G⟩:=EZ Y;split at hb<;>try cases hb
     rename_i l m hl hm;split at hb<;>try cases hb
     rename_i B;have b:=A hl B.1 S (by rfl:some (0:Int)=some ((0:Nat):Int));have a:=A hm (by omega) Q rfl;have hl0:(l=m/\l≠0)↔(l.toNat=m.toNat/\l.toNat≠0):=by omega
     have hml:(m-l).toNat=m.toNat-l.toNat:=by omega
     cases mx with
     | none =>
      simp only[kh,hl0,hml]at hb;have:=Pi (f:=full&&m==len) (lo:=lo.map ev) (hi:=hi.map ev) (mx:=none) (l:=l.toNat) (m:=m.toNat) T M ⟨ii,E,G.symm⟩ J (by omega) (by omega)
       λcap Z h2=>⟨cap,by omega,qa _,λL=>by simp at L;have:=h2 L.1;omega,Gj b a (by omega) (by omega) Z c.w⟩
      split at hb<;>(rename_i D;simp only[qh]at hb;subst hb;first|(rw[if_pos D]at this;exact this)|(rw[if_neg D]at this;exact this))
     | some mo=>
      have F:=hmx.1 _ rfl;simp only[jk,hl0,hml]at hb F;split at hb<;>try cases hb
      rename_i p;cases p
      . rename_i i x p;simp only[qh]at p;obtain⟨uu,U,I⟩:=F;cases U;rw[p]at I;have W:=C7 I;split at hb<;>try cases hb
        rename_i C;simp only[qq,decide_eq_true_eq]at C;have q:∃i,Option.map ev hi=some (.int i m.toNat):=by
         rcases a with⟨K,_⟩|h;cases hi<;>simp at K C;exact h
        have X:(x:Int)=(x.toNat:Int):=by omega
        have:=Pi (f:=x==m) (lo:=lo.map ev) (hi:=hi.map ev) (mx:=some (ev mo)) (l:=l.toNat) (m:=m.toNat) T M ⟨ii,E,G.symm⟩ J (by omega) (by omega)
         λcap Z h2=>⟨x.toNat,by omega,by omega,λL=>by simp at L;omega,by rw[W,X];exact IG b q (by omega) (by omega) (by omega) c.w⟩
        split at hb<;>(rename_i D;simp only[qh]at hb;subst hb;first|(rw[if_pos D]at this;exact this)|(rw[if_neg D]at this;exact this))
  cases hb
end
section
variable {P : Program} {ev : Operand → Value} {o : Oper} {h : Hp} {k : Nat} {c : Cx}
theorem JV {s:SV} {u:Value} {xs:List SV} {n:Nat} (R:Bn h c) (hf:flat h s=some xs) (hn:Dw s=some n) (hv:V c s u):
 ∃a cap vs,u=.slice a n cap/\n<=cap/\AZ (V c) xs vs/\(∀x∈vs,x.oneCell'=true)/\(∀z,Hd z s=true->vs.length=n*z)/\
  (match a with|some a=>(vs≠[]->a.spot=none)/\∀i x,vs[i]? = some x->c.w.cell? ⟨a.block,a.off+i,none⟩=some x|none=>n=0/\cap=0/\vs=[]):=by
 unfold flat at hf;split at hf;rename_i z es full;simp only[qh]at hf;simp only[Dw,qh]at hn;subst hf;subst hn;rw[V]at hv;rcases hv with⟨rfl,rfl⟩|⟨a,cap,vs,rfl,hcap,_,hst,hE⟩
 exact⟨none,0,[],rfl,by simp,by simp[AZ],by simp,by simp,rfl,rfl,rfl⟩;obtain⟨us,h1,h2,h3,rfl⟩:=Ho.1 hE;refine⟨some a,cap,_,rfl,hcap,?_,hst.one,λz' hz=>?_,hst.spot,hst.cell⟩;clear hst hE h2 hcap;rename_i hfl;clear hfl
 induction es generalizing us with
 | nil=>rw[h1.nil_left];trivial
 | cons e es ih =>
  match us,h1 with
  | u::us,h1=>
   simp only[qK];exact AZ.append (h1.1.cells (h3 e (by simp))).1 (ih us h1.2 λx hx=>h3 x (by simp[hx]))
  | [],h1=>exact h1.elim
 have hl:=h1.length;simp only[Hd,kH,List.isEmpty_iff,beq_iff_eq]at hz;have gen:∀us:List Value,(∀u∈us,u.cells.size=z)->(us.flatMap (·.cells.toList)).length=us.length*z:=by
  intro us
  induction us with
  | nil=>simp
  | cons u us ih=>intro h;simp only[qK,qt,qF,Nat.succ_mul,jU];rw[ih λx hx=>h x (by simp[hx]),h u (by simp)];omega
 rw[gen us h2];rcases hz with rfl|rfl;simp at hl;simp[<-hl];rw[hl];rename_i o' off z len full;simp only[Dw,qh]at hn;subst hn;split at hf;rename_i cs ty ho;rw[V]at hv;obtain⟨b,st,cap,hρ,rfl,hcap,_,_⟩:=hv;obtain⟨b',st',vs,hρ',hc,h1,hcell⟩:=(R.obj _ _ ho).cell;rw[hρ]at hρ';cases hρ';obtain⟨hle,rfl⟩:=Ef hf;refine⟨_,cap,(vs.drop off).take (len*z),rfl,hcap,(hc.drop off).take _,λx hx=>h1 x (qT (qH hx)),λz' hz=>?_,λ_=>rfl,λi x hx=>?_⟩;simp only[Hd,beq_iff_eq]at hz;subst hz;have:=hc.length;simp;omega;rw[jf]at hx;split at hx;rw[qY]at hx;simp only[qD];exact hcell _ _ hx;cases hx;cases hf;cases hf
theorem KR {α:Type} {a:Array α} {x:α} (h:a.toList=[x]):a = #[x]:=by apply Array.ext';simpa using h
theorem In {α:Type} {a:Array α} {x y:α} (h:a.toList=[x,y]):a = #[x,y]:=by apply Array.ext';simpa using h
theorem Ki {α:Type} {a:Option α} (h:a.isSome=true):∃x,a=some x:=jn.1 h
theorem Bi {b:Builtin} {a:Array TypeId} {args:Array Operand} (c:o.op=.call { callee:=.builtin b,args:=args,argTypes:=a }) (w w':World) (r:Value)
 (d:∀cs,(builtin b a o.type cs (args.map ev)).run P w=.ok (.value r) w'):(execOp ev o).run P w=.ok (.value r) w':=by
 simp only[execOp,c,resolve];simp only[Sem.run_bind,Sem.run_pure,Result.andThen_ok,invoke];exact d _
theorem TP {p:Array TypeId} {args:Array Operand} {out:dW} {evs:Operand->SV} (D:o.op=.call { callee:=.builtin .len,args:=args,argTypes:=p })
 (d:AU P h k .len p.toList (args.toList.map evs)=some out) (R:Bn h c) (H:AZ (V c) (args.toList.map evs) (args.map ev).toList):DN P ev o h k c out:=by
 generalize hA:args.toList.map evs=A at d H;generalize C:args.map ev=U at H;have f:=λ(w w':World) (r:Value)=>Bi (P:=P) (ev:=ev) D w w' r;rw[C]at f;simp only[AU]at d;split at d<;>try (first|contradiction|(cases d;done))
 rename_i t x _ q;obtain⟨u,E,g⟩:=H.single;have j:=KR q;have v:=KR E;subst j;subst v;have fin:∀n:Nat,(∀w,w.heap=c.w.heap->(Builtin.len_ #[t] o.type #[u]).run P w=.ok (.int .i64 n) w)->DN P ev o h k c { val:=.int .i64 n }:=λn hn=>
  BF R (.int .i64 n) (f _ _ _ (λcs=>by simp[builtin,hn _ rfl])) (by rw[V])
 split at d
 . rename_i s;split at d<;>try cases d
   rename_i ht;exact fin _ λw _=>by simp[Builtin.len_,AO (FD ht),Kq g,goInt]
 . rename_i z es full;split at d<;>try cases d
   rename_i ht;obtain⟨e,i⟩:=Ki ht;rw[V]at g;rcases g with⟨rfl,rfl⟩|⟨a,cap,vs,rfl,_⟩
   exact fin _ λw _=>by simp[Builtin.len_,AO (A5 i),goInt]
   exact fin _ λw _=>by simp[Builtin.len_,AO (A5 i),goInt]
 . rename_i F off z len full;split at d<;>try cases d
   rename_i ht;obtain⟨e,i⟩:=Ki ht;rw[V]at g;obtain⟨b,st,cap,_,rfl,_⟩:=g;exact fin _ λw _=>by simp[Builtin.len_,AO (A5 i),goInt]
 . rename_i F;split at d<;>try cases d
   rename_i es l;split at d<;>try cases d
   rename_i ht;obtain⟨⟨kt,e⟩,i⟩:=Ki ht;rw[V]at g;obtain⟨b,hρ,rfl⟩:=g;obtain⟨b',ents,clock,m,y,B,_⟩:=R.obj _ _ l;rw[hρ]at m;cases m;have hl:=B.length;have:=fin es.length λw hw=>by simp[Builtin.len_,AO (EE i),goInt,getObj,Sem.run,hw,y,hl]
   exact this
 cases d
theorem TN {m:Array TypeId} {args:Array Operand} {out:dW} {evs:Operand->SV} (v:o.op=.call { callee:=.builtin .cap,args:=args,argTypes:=m })
 (d:AU P h k .cap m.toList (args.toList.map evs)=some out) (R:Bn h c) (H:AZ (V c) (args.toList.map evs) (args.map ev).toList):DN P ev o h k c out:=by
 generalize hA:args.toList.map evs=A at d H;generalize s:args.map ev=U at H;have f:=λ(w w':World) (r:Value)=>Bi (P:=P) (ev:=ev) v w w' r;rw[s]at f;simp only[AU]at d;split at d<;>try (first|contradiction|(cases d;done))
 rename_i t x _ p;obtain⟨u,y,i⟩:=H.single;have j:=KR p;have q:=KR y;subst j;subst q;have fin:∀n:Nat,(Builtin.cap_ #[t] o.type #[u]).run P c.w=.ok (.int .i64 n) c.w->DN P ev o h k c { val:=.int .i64 n }:=λn hn=>
  BF R (.int .i64 n) (f _ _ _ (λcs=>by simp[builtin,hn])) (by rw[V])
 split at d
 . rename_i z es;split at d<;>try cases d
   rename_i ht;obtain⟨e,g⟩:=Ki ht;rw[V]at i;rcases i with⟨rfl,rfl⟩|⟨a,cap,vs,rfl,_,l,_⟩
   exact fin _ (by simp[Builtin.cap_,AO (A5 g),goInt]);exact fin _ (by simp[Builtin.cap_,AO (A5 g),goInt,l rfl])
 . rename_i o' off z len;split at d<;>try cases d
   rename_i ht;obtain⟨e,g⟩:=Ki ht;rw[V]at i;obtain⟨b,st,cap,_,rfl,_,l,_⟩:=i;exact fin _ (by simp[Builtin.cap_,AO (A5 g),goInt,l rfl])
 cases d
theorem TR {g:Array TypeId} {args:Array Operand} {out:dW} {evs:Operand->SV} (q:o.op=.call { callee:=.builtin .min,args:=args,argTypes:=g })
 (d:AU P h k .min g.toList (args.toList.map evs)=some out) (R:Bn h c) (H:AZ (V c) (args.toList.map evs) (args.map ev).toList):DN P ev o h k c out:=by
 generalize hA:args.toList.map evs=A at d H;generalize p:args.map ev=U at H;have e:=λ(w w':World) (r:Value)=>Bi (P:=P) (ev:=ev) q w w' r;rw[p]at e;have m:AU P h k .min g.toList A=(Tl A).bind EH:=by unfold AU;split<;>simp_all
 rw[m]at d;unfold Tl at d;split at d
 . rename_i i a j b;split at d<;>try (simp at d;done)
   rename_i f;simp only[EH,qJ,qh]at d;subst d;subst f
   match hU':U.toList,H with
   | [u,v],H=>
    have l:=In hU';subst l;have n:=C7 H.1;have h2:=C7 H.2.1;subst n;subst h2;exact BF R (.int i (if b<a then b else a)) (e _ _ _ (λcs=>by simp[builtin,Builtin.min_,Builtin.min2])) (by rw[V])
   | [],H=>exact H.elim
   | [_],H=>exact H.2.elim
   | _::_::_::_,H=>exact H.2.2.elim
 simp at d
theorem TQ {g:Array TypeId} {args:Array Operand} {out:dW} {evs:Operand->SV} (q:o.op=.call { callee:=.builtin .max,args:=args,argTypes:=g })
 (d:AU P h k .max g.toList (args.toList.map evs)=some out) (R:Bn h c) (H:AZ (V c) (args.toList.map evs) (args.map ev).toList):DN P ev o h k c out:=by
 generalize hA:args.toList.map evs=A at d H;generalize p:args.map ev=U at H;have e:=λ(w w':World) (r:Value)=>Bi (P:=P) (ev:=ev) q w w' r;rw[p]at e;have m:AU P h k .max g.toList A=(Tj A).bind EH:=by unfold AU;split<;>simp_all
 rw[m]at d;unfold Tj at d;split at d
 . rename_i i a j b;split at d<;>try (simp at d;done)
   rename_i f;simp only[EH,qJ,qh]at d;subst d;subst f
   match hU':U.toList,H with
   | [u,v],H=>
    have l:=In hU';subst l;have n:=C7 H.1;have h2:=C7 H.2.1;subst n;subst h2;exact BF R (.int i (if b>a then b else a)) (e _ _ _ (λcs=>by simp[builtin,Builtin.max_,Builtin.max2])) (by rw[V])
   | [],H=>exact H.elim
   | [_],H=>exact H.2.elim
   | _::_::_::_,H=>exact H.2.2.elim
 simp at d
end
end Go.Proofs.YtgakninlhfkkmaaGreat.Sh
