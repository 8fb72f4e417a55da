/- A part of the proof (part 1 of 17). -/
import Derived.Orders
import Derived.Laws.Sem
import Derived.Laws.World
import Derived.Laws.Cells
import Derived.Laws.CopyRow
import Derived.Laws.Tables
import Derived.ChangeKeysEq
import Derived.Deep.AppendSrc
import Derived.Laws.MakeOwn
import Derived.Great.BuildSlice
import Derived.Deep.Upon
namespace Go.Proofs.YthinbkgpjmjfeaaGreatDoor.Sh
abbrev IO:=@Nat.le_refl
abbrev qA:=@List.drop_eq_getElem_cons
abbrev qB:=@List.cons_append
abbrev qC:=@Nat.le_trans
abbrev qD:=@List.length_pos_iff
abbrev qE:=@List.mem_flatMap
abbrev qF:=@List.map_congr_left
abbrev qG:=@List.all_eq_true
abbrev qH:=@List.flatMap_append
abbrev qI:=@List.nil_append
abbrev qJ:=@Nat.eq_of_beq_eq_true
abbrev qK:=@List.mem_cons_self
abbrev qL:=@List.foldl_cons
abbrev qN:=@Option.bind_some
abbrev qO:=@Array.getD_eq_getD_getElem?
abbrev qP:=@List.mem_cons_of_mem
abbrev qQ:=@List.take_of_length_le
abbrev qS:=@Bool.not_eq_true'
abbrev qT:=@Option.map_eq_some_iff
abbrev qU:=@List.nodup_cons
abbrev qV:=@List.append_nil
abbrev qW:=@List.mem_filter
abbrev qZ:=@Nat.zero_add
abbrev qa:=@List.mem_map
abbrev qb:=@List.take_succ_eq_append_getElem
abbrev qc:=@List.map_append
abbrev qd:=@List.mem_append
abbrev qe:=@List.mem_cons
abbrev qf:=@List.length_map
abbrev qg:=@Bool.and_eq_true
abbrev qh:=@Array.getElem?_eq_some_iff
abbrev qi:=@List.map_cons
abbrev qj:=@Nat.zero_le
abbrev qk:=@List.getElem?_eq_getElem
abbrev ql:=@List.length_append
abbrev qm:=@Option.some.injEq
abbrev qn:=@List.getElem_mem
abbrev qo:=@List.length_cons
abbrev qp:=@List.take_length
abbrev qq:=@Nat.add_assoc
abbrev qr:=@List.append_assoc
abbrev qt:=@Bool.false_eq_true
abbrev qu:=@List.nodup_append
abbrev qv:=@List.getElem?_eq_some_iff
abbrev qw:=@List.mem_singleton
abbrev qx:=@List.mem_append_right
abbrev qz:=@List.mem_append_left
abbrev vA:=@List.mem_of_mem_take
abbrev vB:=@List.mem_of_mem_drop
abbrev vC:=@List.length_filter_le
abbrev vE:=@Option.map_some
abbrev vF:=@Nat.min_eq_left
abbrev vG:=@List.not_mem_nil
abbrev vH:=@List.drop_length
abbrev vI:=@Bool.not_eq_false
abbrev vJ:=@List.mem_of_getElem?
abbrev vK:=@List.getElem?_take
abbrev vL:=@List.filter_append
abbrev vM:=@Array.getElem?_setIfInBounds_ne
abbrev vN:=@List.map_nil
abbrev vO:=@List.map_map
abbrev vP:=@List.filter_eq_self
abbrev vQ:=@Array.getElem?_push
abbrev vR:=@List.getElem?_append_right
abbrev vS:=@Array.getElem?_append_left
abbrev vT:=@List.drop_zero
abbrev vU:=@List.length_nil
abbrev vV:=@Bool.or_eq_true
abbrev vW:=@Option.isSome_iff_exists
abbrev vX:=@List.getElem_of_mem
abbrev vY:=@List.take_append_drop
abbrev vZ:=@Nat.le_succ
abbrev va:=@List.flatMap_cons
abbrev vb:=@List.length_eq_zero_iff
abbrev vg:=@Classical.choose_spec
abbrev vh:=@Nat.lt_succ_self
abbrev vj:=@Array.getElem?_eq_getElem
abbrev vk:=@List.take_zero
abbrev vo:=@List.getElem?_map
abbrev vp:=@List.foldl_append
abbrev vq:=@Nat.lt_or_ge
abbrev vt:=@Array.getElem?_eq_none
abbrev vu:=@List.length_take
abbrev vw:=@List.getElem?_drop
abbrev wA:=@List.drop_length_add_append
abbrev wB:=@List.map_id
abbrev wC:=@Nat.lt_of_lt_of_le
abbrev wD:=@List.pairwise_cons
abbrev wF:=@Nat.ne_of_lt
abbrev wG:=@Array.ext'
abbrev wa:=@Nat.mod_two_eq_zero_or_one
abbrev wd:=@Nat.mul_le_mul_right
abbrev we:=@List.getElem?_cons_zero
abbrev wh:=@Array.length_toList
abbrev wi:=@Nat.add_mul
abbrev wj:=@List.getElem?_append_left
abbrev wl:=@List.length_singleton
abbrev wm:=@List.length_mergeSort
abbrev wn:=@Array.getElem?_modify
abbrev wp:=@Nat.lt_of_not_le
abbrev wq:=@List.map_take
abbrev wt:=@List.getLast?_concat
abbrev wu:=@Function.comp_def
abbrev wv:=@List.pairwise_mergeSort
abbrev wy:=@Nat.sub_zero
abbrev wz:=@Nat.add_zero
theorem mq{p:Prop}(h:p:=by omega):p:=h
theorem mr{p:Prop}(h:p:=by simp):p:=h
theorem ms{p:Prop}(h:p:=by simp[go_sem]):p:=h
theorem mu{p:Prop}(h:p:=by kernel_rfl):p:=h
theorem mw{c:Prop}{i:Decidable c}(h:¬c){α:Sort _}{t e:α}:ite c t e=e:=if_neg h
theorem my{c:Prop}{i:Decidable c}(h:c){α:Sort _}{t e:α}:ite c t e=t:=if_pos h
inductive SV where
 | bool (b:Bool)
 | int (k:IntKind) (n:Int)
 | str (s:ByteArray)
 | nilp
 | nilf
 | nilm
 | agg (cs:List SV)
 | tup (vs:List SV)
 | fn (f:Fn) (first captured:List SV)
 | ptr (o off:Nat)
 | q (cs:List SV)
 | sl (o off z len:Nat) (full:Bool)
 | y (z:Nat) (es:List SV) (full:Bool)
 | map (o:Nat)
 | junk
 | slc (o off z len cap:Nat)
 | yl (o:Nat)
 | nils
 deriving Inhabited
inductive A9 where
 | cells (cs:List SV) (ty:Option TypeId:=none)
 | map (es:List (SV×SV))
 | loop (r:Loop)
 | sit (s:ByteArray) (pos:Nat)
 | iter (left:List (SV×SV)) (last:Option (SV×SV))
 | list (z:Nat) (es:List SV)
 deriving Inhabited
def A9.lst:A9->Bool
 | .list _ _=>true
 | _=>false
def SV.cells:SV->List SV
 | .agg cs=>cs
 | v=>[v]
def SV.B:SV->Bool
 | .junk|.tup _=>false
 | _=>true
def SV.ids:SV->List Nat
 | .ptr o _|.sl o _ _ _ _|.map o|.slc o _ _ _ _=>[o]
 | _=>[]
def Dz:Value->SV
 | .bool b=>.bool b
 | .int k n=>.int k n
 | .string s=>.str s
 | .pointer none=>.nilp
 | .slice none 0 0=>.y 0 [] true
 | .map none=>.nilm
 | .nilFunc=>.nilf
 | _=>.junk
def ofValue:Value->SV
 | .agg cs=>if cs.toList.all (·.oneCell')then .agg (cs.toList.map Dz)else .junk
 | v=>Dz v
abbrev SA:=List (Nat×SV)
def look:SA->Nat->SV
 | [],_=>.junk
 | (k,x)::r,t=>if k=t then x else look r t
def C1(sa:SA):Option Tmp->SV->SA
 | some d,v=>(d,v)::sa
 | none,_=>sa
def EV(sa:SA):Operand->SV
 | .tmp t=>look sa t
 | .const v=>ofValue v
 | .global _=>.junk
 | .func f=>.fn (.func f) [] []
abbrev Hp:=Nat->Option A9
def h_(h:Hp)(o:Nat)(x:Option A9):Hp:=λk=>if k=o then x else h k
section types
variable(P:Program)(t:TypeId)
def Bj:Nat:=P.cellsOf t
def Cv:Nat:=P.bytesOf t
def GH:Option Bool:=match P.underlying t with|some (.struct _)|some (.array _ _)=>some true|some _=>some false|none=>none
def BU:SV:=match P.info? t with|some { zero:=some v,.. }=>ofValue v|_=>.junk
def A5:Option TypeId:=match P.underlying t with|some (.slice e)=>some e|_=>none
def KQ:Option (Nat×TypeId):=match P.underlying t with|some (.array n e)=>some (n,e)|_=>none
def I6:Option (TypeId×TypeId):=match P.underlying t with|some (.map k e)=>some (k,e)|_=>none
def Dq:Bool:=match P.underlying t with|some .string=>true|_=>false
def I5:Bool:=match P.underlying t with|some .bool=>true|_=>false
def QQ:Bool:=match P.underlying t with|some (.pointer _)=>true|_=>false
def OX:Option IntKind:=match P.underlying t with|some (.int k)=>some k|_=>none
def Bk:Option (List (Nat×Nat)):=
 match P.info? t,P.underlying t with
 | some _,some (.struct fs)=>fs.toList.mapM λf=>(P.info? f.type).map λi=>(f.offset,i.size)
 | some _,some (.array n e)=>(P.info? e).map λi=>(List.range n).map λj=>(j*i.size,i.size)
 | _,_=>none
def IL(i:Nat):Option (Nat×TypeId):=match P.underlying t with|some (.struct fs)=>(fs[i]?).map λf=>(f.offset,f.type)|_=>none
end types
def SN(ag:Option Bool)(cs:List SV):Option SV:=
 match ag with
 | some true=>some (.agg cs)
 | some false=>match cs with|[v]=>some v|_=>none
 | none=>none
def Cb(cs:List SV)(off n:Nat):Option (List SV):=if off+n<=cs.length then some ((cs.drop off).take n)else none
def GP(cs:List SV)(off:Nat)(xs:List SV):Option (List SV):=
 if off+xs.length<=cs.length then some (cs.take off++xs++cs.drop (off+xs.length))else none
structure Cg where
 val:SV
 upd:Option (Nat×Option A9):=none
 new:Option A9:=none
def Cg.app(h:Hp)(k:Nat)(o:Cg):Hp:=
 let h1:=match o.upd with|some (j,x)=>h_ h j x|none=>h
 match o.new with|some x=>h_ h1 k (some x)|none=>h1
def C9(v:SV):Option Cg:=some { val:=v }
def Ji(place:Nat->Option (Nat×Nat))(cells:List SV):List (Nat×SV)->Option (List SV)
 | []=>some cells
 | (i, v) :: rest =>
  match place i with
  | none=>none
  | some (off, size) =>
   if v.B&&v.cells.length==size then
    match GP cells off v.cells with
    | some cs=>Ji place cs rest
    | none=>none
   else none
def Il(op:BinOp)(k:IntKind)(a b:Int):Option SV:=
 match op with
 | .add=>some (.int k (k.wrap (a+b)))
 | .sub=>some (.int k (k.wrap (a-b)))
 | .mul=>some (.int k (k.wrap (a*b)))
 | .quo=>if b=0 then none else some (.int k (k.wrap (a.tdiv b)))
 | .rem=>if b=0 then none else some (.int k (a.tmod b))
 | .and=>some (.int k (k.wrap (BitVec.ofInt k.bits a &&& BitVec.ofInt k.bits b).toNat))
 | .or=>some (.int k (k.wrap (BitVec.ofInt k.bits a ||| BitVec.ofInt k.bits b).toNat))
 | .xor=>some (.int k (k.wrap (BitVec.ofInt k.bits a ^^^ BitVec.ofInt k.bits b).toNat))
 | .eql=>some (.bool (a==b))
 | .neq=>some (.bool (a !=b))
 | .lss=>some (.bool (a<b))
 | .leq=>some (.bool (a<=b))
 | .gtr=>some (.bool (a>b))
 | .geq=>some (.bool (a ≥ b))
 | _=>none
def KP(op:BinOp)(a b:ByteArray):Option SV:=
 match op with
 | .add=>if a.size+b.size<=9223372036854775807 then some (.str (a++b))else none
 | .eql=>some (.bool (a.toList==b.toList))
 | .neq=>some (.bool !(a.toList==b.toList))
 | .lss=>some (.bool (Op.bytesLess a.toList b.toList))
 | .leq=>some (.bool (Op.bytesLess a.toList b.toList||a.toList==b.toList))
 | .gtr=>some (.bool !(Op.bytesLess a.toList b.toList||a.toList==b.toList))
 | .geq=>some (.bool !(Op.bytesLess a.toList b.toList))
 | _=>none
def gn:SV->Option Bool
 | .nilp|.nilf|.nilm|.nils=>some true
 | .ptr .. | .q _|.fn .. | .map _|.sl ..=>some false
 | .y _ (_::_) _=>some false
 | _=>none
def OP(isB isP:Bool)(op:BinOp)(x y:SV):Option SV:=
 match op,x,y with
 | .shl,.int k a,.int _ b=>if 0<=b then some (.int k (k.wrap (a*2 ^ (min b.toNat k.bits))))else none
 | .shr,.int k a,.int _ b=>if 0<=b then some (.int k (a.fdiv (2 ^ (min b.toNat k.bits))))else none
 | op,.int k a,.int k' b=>if k=k' then Il op k a b else none
 | op,.str a,.str b=>KP op a b
 | .eql,.bool a,.bool b=>if isB then some (.bool (a==b))else none
 | .neq,.bool a,.bool b=>if isB then some (.bool !(a==b))else none
 | .eql,x,.nilp=>if isP then match x with|.nilp=>some (.bool true)|.ptr .. | .q _=>some (.bool false)|_=>none else none
 | .neq,x,.nilp=>if isP then match x with|.nilp=>some (.bool false)|.ptr .. | .q _=>some (.bool true)|_=>none else none
 | _,_,_=>none
def GJ:SV->SV->Option Bool
 | .int k a,.int k' b=>if k=k' then some (a==b)else none
 | .str a,.str b=>some (a==b)
 | .bool a,.bool b=>some (a==b)
 | _,_=>none
def BQ(P:Program)(t:TypeId):SV->Bool
 | .int _ _=>(OX P t).isSome
 | .str _=>Dq P t
 | .bool _=>I5 P t
 | _=>false
def CY(k:SV):List (SV×SV)->Nat->Option (Option (Nat×SV))
 | [],_=>some none
 | e::es,i=>
  match GJ k e.1 with
  | some true=>some (some (i,e.2))
  | some false=>CY k es (i+1)
  | none=>none
def ME(h:Hp):SV->Option (List (SV×SV))
 | .nilm=>some []
 | .map o=>match h o with|some (.map es)=>some es|_=>none
 | _=>none
def FY(es:List (SV×SV))(i:Nat)(k v:SV):List (SV×SV):=es.modify i λ_=>(k,v)
def flat(h:Hp):SV->Option (List SV)
 | .y _ es _=>some (es.flatMap SV.cells)
 | .sl o off z len _=>
  match h o with
  | some (.cells cs _)=>Cb cs off (len*z)
  | _=>none
 | _=>none
def In:SV->Option Nat
 | .y _ es _=>some es.length
 | .sl _ _ _ len _=>some len
 | .str s=>some s.size
 | .nils=>some 0
 | _=>none
def OM(z:Nat):SV->Bool
 | .y z' es _=>es.isEmpty||z'==z
 | .sl _ _ z' _ _=>z'==z
 | .nils=>true
 | _=>false
def Hn(t:TypeId):Option TypeId:=if t=378\/t=5\/t=121 then some t else none
def eS:Option A9->Option TypeId
 | some (.cells _ ty)=>ty
 | _=>none
def IV(h:Hp)(e:TypeId)(o off:Nat):Option TypeId:=match Hn e with|none=>none|some t=>if off=0/\eS (h o)=some t then some t else none
def O2:SV->SV
 | .y 0 [] true=>.nils
 | v=>v
def Xp(e:TypeId)(cs:List SV):List SV:=match Hn e with|none=>cs|some _=>if e≠5/\cs.length=2 then cs.map O2 else cs
def F6(n bytes:Nat):Bool:=n<=1073741824&&bytes<=65536
def Fq(P:Program)(h:Hp)(n:Nat)(t:TypeId)(s x:SV):Option Cg:=
 match A5 P t with
 | none=>none
 | some e =>
  let z:=Bj P e
  match In x,flat h x with
  | some m, some ys =>
   if !(OM z s&&OM z x&&z !=0&&(BU P e).B&&(BU P e).cells.length==z)then none else
   if m=0 then C9 s else
   match s with
   | .y _ es true=>
    if F6 (es.length+m) (Cv P e)then some { val:=.sl n 0 z (es.length+m) false,new:=some (.cells (es.flatMap SV.cells++ys) (Hn e)) } else none
   | .nils=>if F6 m (Cv P e)then some { val:=.sl n 0 z m false,new:=some (.cells ys (Hn e)) } else none
   | .sl o off z' len full =>
    match flat h (.sl o off z' len full)with
    | some xs =>
     if F6 (len+m) (Cv P e)then
      some { val:=.sl n 0 z (len+m) false,upd:=if full then none else some (o,none),new:=some (.cells (xs++ys) (IV h e o off)) } else none
    | none=>none
   | _=>none
  | _,_=>none
def WO(s:ByteArray):List SV:=s.data.toList.map λb=>.int .u8 b.toNat
def WH(P:Program)(h:Hp)(n:Nat)(e:TypeId)(s:SV)(m:Nat)(ys:List SV):Option Cg:=
 if m=0 then C9 s else
 match s with
 | .y _ es true=>
  if F6 (es.length+m) (Cv P e)then some { val:=.sl n 0 (Bj P e) (es.length+m) false,new:=some (.cells (es.flatMap SV.cells++ys) (Hn e)) } else none
 | .nils=>if F6 m (Cv P e)then some { val:=.sl n 0 (Bj P e) m false,new:=some (.cells ys (Hn e)) } else none
 | .sl o off z' len full =>
  match flat h (.sl o off z' len full)with
  | some xs =>
   if F6 (len+m) (Cv P e)then
    some { val:=.sl n 0 (Bj P e) (len+m) false,upd:=if full then none else some (o,none),new:=some (.cells (xs++ys) (IV h e o off)) } else none
  | none=>none
 | _=>none
def Hg(P:Program)(h:Hp)(n:Nat)(t:TypeId)(s x:SV):Option Cg:=
 match A5 P t,x with
 | some e,.str b=>if !(OM (Bj P e) s&&Bj P e==1&&(BU P e).B&&(BU P e).cells.length==Bj P e)then none else WH P h n e s b.size (WO b)
 | _,_=>none
def Fc(P:Program)(n:Nat)(t t2:TypeId)(s x:SV):Option Cg:=
 match A5 P t,P.underlying t2,s,x with
 | some e, some (.int _), .y _ [] true, .int .i64 m =>
  if(0<m/\m<=1073741824)/\Bj P e≠0/\Cv P e<=65536/\(BU P e).B=true/\(BU P e).cells.length=Bj P e then
   some { val:=.sl n 0 (Bj P e) m.toNat false,new:=some (.cells (List.replicate m.toNat (BU P e).cells).flatten) }
  else none
 | _,_,_,_=>none
def Qx(P:Program)(h:Hp)(t:TypeId)(d x:SV):Option Cg:=
 match A5 P t,In d,In x,flat h x with
 | some e, some dl, some m, some ys =>
  let z:=Bj P e
  if !(OM z d&&OM z x&&z !=0)then none else
  let c:=Nat.min m dl
  if c=0 then C9 (.int .i64 0)else
  match d with
  | .sl o off _ _ _ =>
   match h o with
   | some (.cells cs ty)=>
    match GP cs off (ys.take (c*z))with
    | some cs'=>some { val:=.int .i64 c,upd:=some (o,some (.cells cs' ty)) }
    | none=>none
   | _=>none
  | _=>none
 | _,_,_,_=>none
def NQ(P:Program)(h:Hp)(t:TypeId)(d:SV):Option Cg:=
 match A5 P t,In d with
 | some e, some dl =>
  if !(OM (Bj P e) d&&Bj P e !=0&&(BU P e).B&&(BU P e).cells.length==Bj P e)then none else
  if dl=0 then C9 (.tup [])else
  match d with
  | .sl o off _ _ _ =>
   match h o with
   | some (.cells cs ty)=>
    match GP cs off (List.replicate dl (BU P e).cells).flatten with
    | some cs'=>some { val:=.tup [],upd:=some (o,some (.cells cs' ty)) }
    | none=>none
   | _=>none
  | _=>none
 | _,_=>none
def Xn:List SV->Option SV
 | [.int k a,.int k' b]=>if k=k' then some (.int k (if b<a then b else a))else none
 | _=>none
def Xf:List SV->Option SV
 | [.int k a,.int k' b]=>if k=k' then some (.int k (if b>a then b else a))else none
 | _=>none
def Ak(P:Program)(h:Hp)(n:Nat)(b:Builtin)(ts:List TypeId)(args:List SV):Option Cg:=
 match b,ts,args with
 | .len,[t],[x]=>
  match x with
  | .str s=>if Dq P t then C9 (.int .i64 s.size)else none
  | .y _ es _=>if(A5 P t).isSome then C9 (.int .i64 es.length)else none
  | .sl _ _ _ len _=>if(A5 P t).isSome then C9 (.int .i64 len)else none
  | .map o=>match h o with|some (.map es)=>if(I6 P t).isSome then C9 (.int .i64 es.length)else none|_=>none
  | .nils=>if(A5 P t).isSome then C9 (.int .i64 0)else none
  | _=>none
 | .cap,[t],[x]=>
  match x with
  | .y _ es true=>if(A5 P t).isSome then C9 (.int .i64 es.length)else none
  | .sl _ _ _ len true=>if(A5 P t).isSome then C9 (.int .i64 len)else none
  | _=>none
 | .append,[t,t2],[s,x]=>if(A5 P t2).isSome then Fq P h n t s x else if Dq P t2 then Hg P h n t s x else Fc P n t t2 s x
 | .copy,[t,_],[d,x]=>Qx P h t d x
 | .clear,[t],[d]=>NQ P h t d
 | .min,_,l=>(Xn l).bind C9
 | .max,_,l=>(Xf l).bind C9
 | .delete, [t, _], [.map o, k] =>
  match I6 P t,h o with
  | some (kt,_),some (.map es)=>
   if !BQ P kt k then none else
   match CY k es 0 with
   | some (some (i,_))=>some { val:=.tup [],upd:=some (o,some (.map (es.eraseIdx i))) }
   | some none=>some { val:=.tup [],upd:=some (o,some (.map es)) }
   | none=>none
  | _,_=>none
 | _,_,_=>none
def HL(P:Program)(h:Hp)(t:TypeId):SV->Option SV
 | .ptr o off=>
  match h o with
  | some (.cells cs _)=>(Cb cs off (Bj P t)).bind (SN (GH P t))
  | _=>none
 | .q cs=>(Cb cs 0 (Bj P t)).bind (SN (GH P t))
 | _=>none
def OD(P:Program)(h:Hp)(t:TypeId)(a v:SV):Option Cg:=
 match a with
 | .ptr o off =>
  match h o with
  | some (.cells cs ty) =>
   if v.B&&v.cells.length==Bj P t&&Bj P t !=0 then
    match GP cs off v.cells with
    | some cs'=>some { val:=.tup [],upd:=some (o,some (.cells cs' ty)) }
    | none=>none
   else none
  | _=>none
 | _=>none
def Gm(P:Program)(t:TypeId)(x:SV)(i:Nat):Option SV:=
 match IL P t i with
 | some (off,ft)=>
  if Bj P ft=0 then none else
  match x with
  | .ptr o a=>some (.ptr o (a+off))
  | .q cs=>some (.q (cs.drop off))
  | _=>none
 | none=>none
def Gu(P:Program)(t:TypeId)(x:SV)(i:Int):Option SV:=
 match A5 P t with
 | some e=>
  let z:=Bj P e
  if z=0 then none else
  match x with
  | .sl o off z' len _=>if z'=z/\0<=i/\i<len then some (.ptr o (off+i.toNat*z))else none
  | .y z' es _=>if z'=z/\0<=i then(es[i.toNat]?).map λv=>.q v.cells else none
  | _=>none
 | none =>
  match KQ P t with
  | some (len, e) =>
   let z:=Bj P e
   if 0<=i/\i<len/\z≠0 then
    match x with
    | .ptr o off=>some (.ptr o (off+i.toNat*z))
    | .q cs=>some (.q (cs.drop (i.toNat*z)))
    | _=>none
   else none
  | none=>none
def Sa:Option SV->Option Int->Option Int
 | none,d=>d
 | some (.int _ n),_=>some n
 | _,_=>none
def HZ(P:Program)(t:TypeId)(x:SV)(lo hi mx:Option SV):Option SV:=
 match x with
 | .str s=>
  if !Dq P t||mx.isSome then none else
  match Sa lo (some 0),Sa hi (some s.size)with
  | some l,some h=>if 0<=l/\l<=h/\h<=s.size then some (.str (s.extract l.toNat h.toNat))else none
  | _,_=>none
 | .y z es full =>
  if !((A5 P t).any λe=>Bj P e !=0&&(es.isEmpty||Bj P e==z))then none else
  match Sa lo (some 0),Sa hi (some es.length)with
  | some l, some h =>
   if 0<=l/\l<=h/\h<=es.length then
    match mx with
    | none=>some (.y z ((es.take h.toNat).drop l.toNat) (full&&h==es.length))
    | some (.int _ m)=>if hi.isSome&&h<=m&&m<=es.length then some (.y z ((es.take h.toNat).drop l.toNat) (m==h))else none
    | _=>none
   else none
  | _,_=>none
 | .sl o off z len full =>
  if !((A5 P t).any λe=>Bj P e !=0&&Bj P e==z)then none else
  match Sa lo (some 0),Sa hi (some len)with
  | some l, some h =>
   if 0<=l/\l<=h/\h<=len then
    match mx with
    | none=>if l=h/\l≠0 then some (.y z [] (full&&h==len))else some (.sl o (off+l.toNat*z) z (h-l).toNat (full&&h==len))
    | some (.int _ m) =>
     if hi.isSome&&h<=m&&m<=len then
      if l=h/\l≠0 then some (.y z [] (m==h))else some (.sl o (off+l.toNat*z) z (h-l).toNat (m==h))
     else none
    | _=>none
   else none
  | _,_=>none
 | _=>none
def C0(P:Program)(ev:Operand->SV)(h:Hp)(k:Nat)(op:Op):Option Cg:=
 match op with
 | .move x|.assign x=>C9 (ev x)
 | .pick c a b=>match ev c with|.bool t=>C9 (if t then ev a else ev b)|_=>none
 | .alloc e=>if(BU P e).B&&(BU P e).cells.length==Bj P e then some { val:=.ptr k 0,new:=some (.cells (Xp e (BU P e).cells) (Hn e)) } else none
 | .box e x=>if(ev x).B then some { val:=.ptr k 0,new:=some (.cells (ev x).cells (Hn e)) } else none
 | .build t ps=>
  match BU P t,Bk P t with
  | .agg z,some pl=>(Ji (pl[·]?) z (ps.toList.map λp=>(p.1,ev p.2))).bind λcs=>C9 (.agg cs)
  | _,_=>none
 | .buildSlice t len ps =>
  match A5 P t with
  | some e =>
   if(len*Bj P e≠0/\len*Bj P e<=1048576)/\(BU P e).B=true/\(BU P e).cells.length=Bj P e then
    (Ji (λi=>some (i*Bj P e,Bj P e)) (List.replicate len (BU P e).cells).flatten (ps.toList.map λp=>(p.1,ev p.2))).bind λcs=>
      some { val:=.sl k 0 (Bj P e) len true,new:=some (.cells cs) }
   else none
  | none=>none
 | .load t a=>(HL P h t (ev a)).bind C9
 | .store t a x=>OD P h t (ev a) (ev x)
 | .nilCheck x=>match ev x with|.ptr o a=>C9 (.ptr o a)|.q cs=>C9 (.q cs)|_=>none
 | .binOp op t x y _=>(OP (I5 P t) (QQ P t) op (ev x) (ev y)).bind C9
 | .unOp op _ x=>
  match op,ev x with
  | .not,.bool b=>C9 (.bool !b)
  | .neg,.int i n=>C9 (.int i (i.wrap (0-n)))
  | _,_=>none
 | .convert src dst x=>match OX P src,OX P dst,ev x with|some _,some i,.int _ n=>C9 (.int i (i.wrap n))|_,_,_=>none
 | .makeFunc f a b=>C9 (.fn f (a.toList.map ev) (b.toList.map ev))
 | .makeMap t r=>if r.isNone&&(I6 P t).isSome then some { val:=.map k,new:=some (.map []) } else none
 | .makeSlice t l c =>
  match A5 P t,ev l,ev c with
  | some e, .int .i64 n, .int .i64 m =>
   if 0<=n/\n=m/\F6 n.toNat (Cv P e)=true/\(BU P e).B=true/\(BU P e).cells.length=Bj P e/\Bj P e≠0 then
    some { val:=.sl k 0 (Bj P e) n.toNat true,new:=some (.cells (List.replicate n.toNat (BU P e).cells).flatten) }
   else none
  | _,_,_=>none
 | .slice t x lo hi mx=>(HZ P t (ev x) (lo.map ev) (hi.map ev) (mx.map ev)).bind C9
 | .fieldAddr t x i=>(Gm P t (ev x) i).bind C9
 | .field t x i=>
  match IL P t i,ev x with
  | some (off,ft),.agg cs=>((Cb cs off (Bj P ft)).bind (SN (GH P ft))).bind C9
  | _,_=>none
 | .indexAddr t x i=>match ev i with|.int _ n=>(Gu P t (ev x) n).bind C9|_=>none
 | .index t x i =>
  match ev x,ev i with
  | .str s,.int _ n=>if Dq P t=true/\0<=n then(s[n.toNat]?).bind λb=>C9 (.int .u8 b.toNat)else none
  | .agg cs,.int _ n=>
   match KQ P t with
   | some (len,e)=>if 0<=n/\n<len then((Cb cs (n.toNat*Bj P e) (Bj P e)).bind (SN (GH P e))).bind C9 else none
   | none=>none
  | _,_=>none
 | .lookup t m x ok =>
  match I6 P t with
  | some (kt, e) =>
   if !BQ P kt (ev x) || !(BU P e).B then none else
   match ME h (ev m)with
   | some es =>
    match CY (ev x) es 0 with
    | some r=>
     let(v,b):=match r with|some (_,v)=>(v,true)|none=>(BU P e,false)
     C9 (if ok then .tup [v,.bool b]else v)
    | none=>none
   | none=>none
  | none=>none
 | .mapUpdate t m y x =>
  match I6 P t,ev m with
  | some (kt, _), .map o =>
   if !BQ P kt (ev y)then none else
   match h o with
   | some (.map es) =>
    if(ev x).B then
     match CY (ev y) es 0 with
     | some (some (i,_))=>some { val:=.tup [],upd:=some (o,some (.map (FY es i (ev y) (ev x)))) }
     | some none=>some { val:=.tup [],upd:=some (o,some (.map (es++[(ev y,ev x)]))) }
     | none=>none
    else none
   | _=>none
  | _,_=>none
 | .insert t m y x =>
  match I6 P t,ev m with
  | some (kt, _), .map o =>
   if !BQ P kt (ev y)then none else
   match h o with
   | some (.map es) =>
    if(ev x).B then
     match CY (ev y) es 0 with
     | some (some (i,_))=>some { val:=.tup [],upd:=some (o,some (.map (FY es i (ev y) (ev x)))) }
     | some none=>some { val:=.tup [],upd:=some (o,some (.map (es++[(ev y,ev x)]))) }
     | none=>none
    else none
   | _=>none
  | _,_=>none
 | .extract x i=>match ev x with|.tup vs=>(vs[i]?).bind C9|_=>none
 | .call { callee:=.builtin b,args,argTypes }=>Ak P h k b argTypes.toList (args.toList.map ev)
 | _=>none
def Cs(ev:Operand->SV):Op->List Nat
 | .load _ a=>(ev a).ids
 | .store _ a _=>(ev a).ids
 | .lookup _ m _ _=>(ev m).ids
 | .mapUpdate _ m _ _=>(ev m).ids
 | .insert _ m _ _=>(ev m).ids
 | .call { callee:=.builtin b,args,.. }=>args.toList.flatMap λx=>match b,ev x with|.len,.sl ..=>[]|_,v=>v.ids
 | _=>[]
def AU{α β:Type}(R:α->β->Prop):List α->List β->Prop
 | [],[]=>True
 | a::aS,b::bs=>R a b/\AU R aS bs
 | _,_=>False
section all2
variable{α β:Type}{R:α->β->Prop}
theorem AU.length:∀{aS:List α} {bs:List β},AU R aS bs->aS.length=bs.length
 | [],[],_=>rfl
 | _::_,_::_,h=>by simp[AU.length h.2]
 | [],_::_,h=>h.elim
 | _::_,[],h=>h.elim
theorem AU.get:∀{aS:List α} {bs:List β} {i:Nat} {a:α},AU R aS bs->aS[i]? = some a->∃b,bs[i]? = some b/\R a b
 | a::_,b::_,0,_,h,e=>by simp at e;subst e;exact⟨b,rfl,h.1⟩
 | _::_,_::_,i+1,_,h,e=>by simp at e;simpa using AU.get h.2 e
 | [],_,_,_,_,e=>by simp at e
 | _::_,[],_,_,h,_=>h.elim
theorem AU.append:∀{aS as':List α} {bs a:List β},AU R aS bs->AU R as' a->AU R (aS++as') (bs++a)
 | [],_,[],_,_,h'=>h'
 | _::_,_,_::_,_,h,h'=>⟨h.1,AU.append h.2 h'⟩
 | [],_,_::_,_,h,_=>h.elim
 | _::_,_,[],_,h,_=>h.elim
theorem AU.take:∀{aS:List α} {bs:List β} (n:Nat),AU R aS bs->AU R (aS.take n) (bs.take n)
 | _,_,0,_=>by simp[AU]
 | [],[],_+1,_=>by simp[AU]
 | _::_,_::_,n+1,h=>⟨h.1,AU.take n h.2⟩
 | [],_::_,_+1,h=>h.elim
 | _::_,[],_+1,h=>h.elim
theorem AU.drop:∀{aS:List α} {bs:List β} (n:Nat),AU R aS bs->AU R (aS.drop n) (bs.drop n)
 | _,_,0,h=>by simpa using h
 | [],[],_+1,_=>by simp[AU]
 | _::_,_::_,n+1,h=>AU.drop n h.2
 | [],_::_,_+1,h=>h.elim
 | _::_,[],_+1,h=>h.elim
theorem AU.mono{c:α->β->Prop}(h:∀a b,R a b->c a b):∀{aS:List α} {bs:List β},AU R aS bs->AU c aS bs
 | [],[],_=>trivial
 | _::_,_::_,g=>⟨h _ _ g.1,AU.mono h g.2⟩
 | [],_::_,g=>g.elim
 | _::_,[],g=>g.elim
theorem AU.nil_left{bs:List β}(h:AU R [] bs):bs=[]:=by cases bs;rfl;exact h.elim
theorem AU.single{a:α}{bs:List β}(h:AU R [a] bs):∃b,bs=[b]/\R a b:=by
 match bs,h with
 | [b],h=>exact⟨b,rfl,h.1⟩
 | [],h=>exact h.elim
 | _::_::_,h=>exact h.2.elim
theorem AU.modify(f:α->α)(g:β->β)(c:∀a b,R a b->R (f a) (g b)):
 ∀(i:Nat) {aS:List α} {bs:List β},AU R aS bs->AU R (aS.modify i f) (bs.modify i g)
 | 0,a::aS,b::bs,h=>by simpa[AU]using⟨c _ _ h.1,h.2⟩
 | i+1,a::aS,b::bs,h=>by simpa[AU]using⟨h.1,AU.modify (aS:=aS) (bs:=bs) f g c i h.2⟩
 | i,[],[],_=>by cases i<;>simp[AU]
 | _,[],_::_,h=>h.elim
 | _,_::_,[],h=>h.elim
theorem AU.eraseIdx:∀(i:Nat) {aS:List α} {bs:List β},AU R aS bs->AU R (aS.eraseIdx i) (bs.eraseIdx i)
 | 0,_::_,_::_,h=>by simpa using h.2
 | i+1,_::_,_::_,h=>by simpa[AU]using⟨h.1,AU.eraseIdx i h.2⟩
 | i,[],[],_=>by cases i<;>simp[AU]
 | _,[],_::_,h=>h.elim
 | _,_::_,[],h=>h.elim
theorem AU.replicate{a:α}{b:β}(h:R a b):∀n,AU R (List.replicate n a) (List.replicate n b)
 | 0=>trivial
 | n+1=>by simpa[List.replicate_succ,AU]using⟨h,AU.replicate h n⟩
theorem AU.flatten{γ δ:Type}{T:γ->δ->Prop}:∀{aS:List (List γ)} {bs:List (List δ)},AU (AU T) aS bs->AU T aS.flatten bs.flatten
 | [],[],_=>trivial
 | _::_,_::_,h=>by simpa using AU.append h.1 (AU.flatten h.2)
 | [],_::_,h=>h.elim
 | _::_,[],h=>h.elim
theorem AU.map{γ δ:Type}{T:γ->δ->Prop}{f:α->γ}{g:β->δ}(c:∀a b,R a b->T (f a) (g b)):∀{aS:List α} {bs:List β},AU R aS bs->AU T (aS.map f) (bs.map g)
 | [],[],_=>trivial
 | _::_,_::_,h=>⟨c _ _ h.1,AU.map c h.2⟩
 | [],_::_,h=>h.elim
 | _::_,[],h=>h.elim
theorem AU.of_get{aS:List α}{bs:List β}(hl:aS.length=bs.length)(h:∀(i:Nat)(a:α)(b:β),aS[i]? = some a->bs[i]? = some b->R a b):AU R aS bs:=by
 induction aS generalizing bs with
 | nil=>cases bs;trivial;simp at hl
 | cons a aS ih=>
  cases bs with
  | nil=>simp at hl
  | cons b bs=>exact⟨h 0 a b rfl rfl,ih (by simpa using hl) λi a b ha hb=>h (i+1) a b (by simpa using ha) (by simpa using hb)⟩
end all2
def rm(w:World)(b:Nat):Nat:=match w.heap[b]? with|some (.cells c _ _)=>c.size|_=>0
structure Cx where
 ρ:Nat->Option (Nat×Nat)
 own:Nat->Prop
 w:World
 bk:Nat->Option Nat
structure HI(c:Cx)(a:Addr)(vs:List Value):Prop where
 spot:vs≠[]->a.spot=none
 free:vs≠[]->¬c.own a.block
 cell:∀i x,vs[i]? = some x->c.w.cell? ⟨a.block,a.off+i,none⟩=some x
 one:∀x∈vs,x.oneCell'=true
mutual
def V(c:Cx):SV->Value->Prop
 | .bool b,v=>v=.bool b
 | .int k n,v=>v=.int k n
 | .str s,v=>v=.string s
 | .nilp,v=>v=.pointer none
 | .nilf,v=>v=.nilFunc
 | .nilm,v=>v=.map none
 | .agg cs,v=>∃vs,v=.agg vs.toArray/\VL c cs vs/\∀x∈vs,x.oneCell'=true
 | .tup cs,v=>∃vs,v=.tuple vs.toArray/\VL c cs vs
 | .fn f a b,v=>∃xs ys,v=.func f xs.toArray ys.toArray/\VL c a xs/\VL c b ys
 | .ptr o off,v=>∃b st,c.ρ o=some (b,st)/\v=.pointer (some ⟨b,st+off,none⟩)
 | .q cs,v=>∃a vs,v=.pointer (some a)/\HI c a vs/\VL c cs vs/\a.spot=none
 | .sl o off z len full,v=>∃b st cap,c.ρ o=some (b,st)/\v=.slice (some ⟨b,st+off,none⟩) len cap/\len<=cap/\(full=true->cap=len)/\st+off+cap*z<=rm c.w b
 | .y z es full,v=>(es=[]/\v=.slice none 0 0)\/∃a cap vs,v=.slice (some a) es.length cap/\es.length<=cap/\(full=true->cap=es.length)/\HI c a vs/\VE c z es vs
 | .map o,v=>∃b,c.ρ o=some (b,0)/\v=.map (some b)
 | .junk,_=>True
 | .slc o off z len cap,v=>∃b st,c.ρ o=some (b,st)/\v=.slice (some ⟨b,st+off,none⟩) len cap/\len<=cap/\st+off+cap*z<=rm c.w b
 | .yl o,v=>∃b,c.ρ o=some (b,0)/\v=.func (.yield b) #[] #[]
 | .nils,v=>v=.slice none 0 0
def VL(c:Cx):List SV->List Value->Prop
 | [],vs=>vs=[]
 | s::ss,vs=>∃v r,vs=v::r/\V c s v/\VL c ss r
def VE(c:Cx)(z:Nat):List SV->List Value->Prop
 | [],vs=>vs=[]
 | e::es,vs=>∃u r,vs=u.cells.toList++r/\u.cells.size=z/\e.B=true/\V c e u/\VE c z es r
end
theorem PX{c:Cx}{z:Nat}:∀{es:List SV} {vs:List Value},VE c z es vs->vs.length=es.length*z
 | [],vs,h=>by rw[VE]at h;simp[h]
 | e::es,vs,h=>by
  rw[VE]at h;obtain⟨u,r,rfl,a,_,_,hr⟩:=h;have:=PX hr;simp[this,a,wi,Nat.add_comm]
theorem BE{c:Cx}:∀{a:List SV} {vs:List Value},VL c a vs↔AU (V c) a vs
 | [],vs=>by cases vs<;>simp[VL,AU]
 | s::a,[]=>by simp[VL,AU]
 | s::a,v::vs=>by
  rw[VL];constructor;rintro⟨_,_,e,h1,h2⟩;simp at e;obtain⟨rfl,rfl⟩:=e;exact⟨h1,BE.1 h2⟩;intro h;exact⟨v,vs,rfl,h.1,BE.2 h.2⟩
theorem Ju{c:Cx}{z:Nat}:∀{es:List SV} {vs:List Value},VE c z es vs ↔
 ∃us,AU (V c) es us/\(∀u∈us,u.cells.size=z)/\(∀e∈es,e.B=true)/\vs=us.flatMap (·.cells.toList)
 | [],vs=>by
  rw[VE];constructor;rintro rfl;exact⟨[],trivial,by simp,by simp,rfl⟩;rintro⟨us,h,_,_,rfl⟩;rw[h.nil_left];rfl
 | e::es,vs=>by
  rw[VE];constructor;rintro⟨u,r,rfl,b,a,hv,hr⟩;obtain⟨us,h1,h2,f,rfl⟩:=Ju.1 hr;exact⟨u::us,⟨hv,h1⟩,by simpa using⟨b,h2⟩,by simpa using⟨a,f⟩,by simp⟩;rintro⟨us,h,b,a,rfl⟩
  match us,h with
  | u::us,h=>exact⟨u,_,by simp,b u mr,a e mr,h.1,Ju.2 ⟨us,h.2,λx d=>b x (by simp[d]),λx d=>a x (by simp[d]),rfl⟩⟩
  | [],h=>exact h.elim
def Td(w w':World):Prop:=w'.tape=w.tape/\w.drawn<=w'.drawn
theorem Td.trans{a b c:World}(h:Td a b)(g:Td b c):Td a c:=⟨g.1.trans h.1,qC h.2 g.2⟩
structure DV(c c':Cx):Prop where
 ρ:∀o p,c.ρ o=some p->c'.ρ o=some p
 size:c.w.heap.size<=c'.w.heap.size
 keep:∀b,b<c.w.heap.size->¬c.own b->¬c'.own b/\c'.w.heap[b]? = c.w.heap[b]?
 room:∀b,rm c.w b<=rm c'.w b
 os:c'.w.os=c.w.os
 out:c'.w.output=c.w.output
 td:Td c.w c'.w
theorem DV.refl(c:Cx):DV c c:=⟨λ_ _ h=>h,IO _,λ_ _ h=>⟨h,rfl⟩,λ_=>IO _,rfl,rfl,⟨rfl,IO _⟩⟩
theorem DV.trans{a b c:Cx}(h:DV a b)(g:DV b c):DV a c:=
 ⟨λo p e=>g.ρ o p (h.ρ o p e),qC h.size g.size,
  λx d f=>let⟨h1,h2⟩:=h.keep x d f;let⟨g1,g2⟩:=g.keep x (wC d h.size) h1;⟨g1,g2.trans h2⟩,
  λx=>qC (h.room x) (g.room x),g.os.trans h.os,g.out.trans h.out,h.td.trans g.td⟩
structure Qc(c c':Cx):Prop where
 ρ:∀o p,c.ρ o=some p->c'.ρ o=some p
 keep:∀b,¬c.own b->(∃ob,c.w.heap[b]? = some ob/\∀l,ob≠.deferred l)->¬c'.own b/\c'.w.heap[b]? = c.w.heap[b]?
 room:∀b,rm c.w b<=rm c'.w b
theorem DV.to0{c a:Cx}(x:DV c a):Qc c a:=⟨x.ρ,λb d ⟨_,hb,_⟩=>x.keep b (qh.1 hb).1 d,x.room⟩
theorem Gj{w:World}{b i:Nat}{v:Value}(h:w.cell? ⟨b,i,none⟩=some v):∃ob,w.heap[b]? = some ob/\∀l,ob≠.deferred l:=by
 unfold World.cell? at h;cases hb:w.heap[b]? with
 | none=>simp[hb]at h
 | some o=>cases o<;>simp[hb]at h ⊢
theorem HI.mono0{c b:Cx}(x:Qc c b){a:Addr}{vs:List Value}(h:HI c a vs):HI b a vs:=by
 refine⟨h.spot,λhv=>?_,λi u hi=>?_,h.one⟩
 match vs,hv with
 | u::us,hv=>
  have h0:=h.cell 0 u mr;exact(x.keep _ (h.free hv) (Gj h0)).1
 have h0:=h.cell i u hi;have hv:vs≠[]:=by rintro rfl;simp at hi
 have:=(x.keep _ (h.free hv) (Gj h0)).2;unfold World.cell? at *;rw[this];exact h0
mutual
theorem V.mono0{c k:Cx}(x:Qc c k):∀{s:SV} {v:Value},V c s v->V k s v
 | .bool _,_,h=>h
 | .int _ _,_,h=>h
 | .str _,_,h=>h
 | .nilp,_,h=>h
 | .nilf,_,h=>h
 | .nilm,_,h=>h
 | .nils,_,h=>h
 | .junk,_,_=>trivial
 | .agg cs,v,h=>by rw[V]at *;obtain⟨vs,e,j,l⟩:=h;exact⟨vs,e,VL.mono0 x j,l⟩
 | .tup cs,v,h=>by rw[V]at *;obtain⟨vs,e,j⟩:=h;exact⟨vs,e,VL.mono0 x j⟩
 | .fn f a b,v,h=>by rw[V]at *;obtain⟨xs,m,e,h1,h2⟩:=h;exact⟨xs,m,e,VL.mono0 x h1,VL.mono0 x h2⟩
 | .ptr o off,v,h=>by rw[V]at *;obtain⟨b,st,h1,h2⟩:=h;exact⟨b,st,x.ρ _ _ h1,h2⟩
 | .q cs,v,h=>by rw[V]at *;obtain⟨a,vs,e,h1,h2,d⟩:=h;exact⟨a,vs,e,h1.mono0 x,VL.mono0 x h2,d⟩
 | .sl o off z len full,v,h=>by
  rw[V]at *;obtain⟨b,st,cap,h1,h2,d,g,i⟩:=h;exact⟨b,st,cap,x.ρ _ _ h1,h2,d,g,qC i (x.room b)⟩
 | .slc o off z len cap,v,h=>by
  rw[V]at *;obtain⟨b,st,h1,h2,d,i⟩:=h;exact⟨b,st,x.ρ _ _ h1,h2,d,qC i (x.room b)⟩
 | .y z es full,v,h=>by
  rw[V]at *;rcases h with h|⟨a,cap,vs,e,h1,h2,d,g⟩
  exact .inl h;exact .inr ⟨a,cap,vs,e,h1,h2,d.mono0 x,VE.mono0 x g⟩
 | .map o,v,h=>by rw[V]at *;obtain⟨b,h1,h2⟩:=h;exact⟨b,x.ρ _ _ h1,h2⟩
 | .yl o,v,h=>by rw[V]at *;obtain⟨b,h1,h2⟩:=h;exact⟨b,x.ρ _ _ h1,h2⟩
theorem VL.mono0{c a:Cx}(x:Qc c a):∀{s:List SV} {v:List Value},VL c s v->VL a s v
 | [],_,h=>by rw[VL]at *;exact h
 | s::ss,v,h=>by rw[VL]at *;obtain⟨u,r,e,h1,h2⟩:=h;exact⟨u,r,e,V.mono0 x h1,VL.mono0 x h2⟩
theorem VE.mono0{c a:Cx}(x:Qc c a){z:Nat}:∀{s:List SV} {v:List Value},VE c z s v->VE a z s v
 | [],_,h=>by rw[VE]at *;exact h
 | s::ss,v,h=>by rw[VE]at *;obtain⟨u,r,e,d,b,h1,h2⟩:=h;exact⟨u,r,e,d,b,V.mono0 x h1,VE.mono0 x h2⟩
end
theorem HI.mono{c b:Cx}(x:DV c b){a:Addr}{vs:List Value}(h:HI c a vs):HI b a vs:=h.mono0 x.to0
theorem V.mono{c a:Cx}(x:DV c a){s:SV}{v:Value}(h:V c s v):V a s v:=V.mono0 x.to0 h
theorem VL.mono{c a:Cx}(x:DV c a){s:List SV}{v:List Value}(h:VL c s v):VL a s v:=VL.mono0 x.to0 h
theorem V2.mono0{c a:Cx}(x:Qc c a){s:List SV}{v:List Value}(h:AU (V c) s v):AU (V a) s v:=AU.mono (λ_ _=>V.mono0 x) h
theorem V2.mono{c a:Cx}(x:DV c a){s:List SV}{v:List Value}(h:AU (V c) s v):AU (V a) s v:=AU.mono (λ_ _=>V.mono x) h
def Hb(ents:List MapEntry)(clock:Nat):Prop:=(∀x∈ents,x.born<clock)/\(ents.map (·.born)).Nodup
def Ty(ty:Option TypeId)(st:Nat)(e:TypeId):Prop:=∀t,ty=some t->st=0/\e=t
theorem Ty.none{st:Nat}{e:TypeId}:Ty Option.none st e:=λ_ h=>by cases h
theorem Ty.row{e:TypeId}:Ty (Hn e) 0 e:=λt h=>⟨rfl,by unfold Hn at h;split at h<;>cases h;rfl⟩
theorem Tk{h:Hp}{e:TypeId}{o off:Nat}(H:Hn e=none):IV h e o off=none:=by unfold IV;rw[H]
theorem Ty.app{h:Hp}{e t:TypeId}{o off:Nat}(H:IV h e o off=some t):off=0/\eS (h o)=some t/\e=t:=by
 unfold IV at H;split at H;cases H;rename_i t' ht;split at H<;>cases H;rename_i h1;exact⟨h1.1,h1.2,(Ty.row _ ht).2⟩
def EF(c:Cx)(o:Nat):A9->Prop
 | .cells cs ty=>∃b st arr e vs,c.ρ o=some (b,st)/\c.w.heap[b]? = some (.cells arr e (0,0))/\(∀i x,vs[i]? = some x->arr[st+i]? = some x)/\
  AU (V c) cs vs/\(∀x∈vs,x.oneCell'=true)/\Ty ty st e
 | .map es=>∃b ents clock,c.ρ o=some (b,0)/\c.w.heap[b]? = some (.map ents clock)/\AU (λ(p:SV×SV)(e:MapEntry)=>V c p.1 e.key/\V c p.2 e.val) es ents.toList/\Hb ents.toList clock
 | .loop r=>∃b,c.ρ o=some (b,0)/\c.w.heap[b]? = some (.loop r)
 | .sit s pos=>∃b,c.ρ o=some (b,0)/\c.w.heap[b]? = some (.stringIter s pos)
 | .iter left last=>∃b bm ents clock seen,c.ρ o=some (b,0)/\c.w.heap[b]? = some (.mapIter (some bm) clock seen clock)/\c.w.heap[bm]? = some (.map ents clock)/\¬c.own bm/\Hb ents.toList clock/\
  AU (λ(p:SV×SV)(e:MapEntry)=>V c p.1 e.key/\V c p.2 e.val) left (ents.toList.filter λe=>!seen.contains e.born)/\
  ∀p,last=some p->∃e∈ents.toList,seen.back? = some e.born/\V c p.1 e.key/\V c p.2 e.val
 | .list z es => ∃ b Tf arr e v, c.ρ o = some (b, Tf) ∧ c.w.heap[b]? = some (.cells arr e (0, 0)) ∧ arr[Tf]? = some v ∧ v.oneCell' = true ∧
  ((es=[]/\c.bk o=none/\V c (.y 0 [] true) v)\/
   ∃B st arr2 e2 vs cap,es≠[]/\B≠b/\c.bk o=some B/\c.w.heap[B]? = some (.cells arr2 e2 (0,0))/\v=.slice (some ⟨B,st,none⟩) es.length cap/\es.length<=cap/\st+cap*z<=arr2.size/\
    (∀i x,vs[i]? = some x->arr2[st+i]? = some x)/\AU (V c) (es.flatMap SV.cells) vs/\∀x∈vs,x.oneCell'=true)
def BA(c:Cx)(o:Nat)(x:A9)(b:Nat):Prop:=(∃st,c.ρ o=some (b,st))\/(x.lst=true/\c.bk o=some b)
structure CB(h:Hp)(c:Cx):Prop where
 obj:∀o x,h o=some x->EF c o x
 inj2:∀o o' x x' b,h o=some x->h o'=some x'->BA c o x b->BA c o' x' b->o=o'
 own2:∀b,c.own b↔∃o x,h o=some x/\BA c o x b
theorem CB.ownI{h:Hp}{c:Cx}(R:CB h c){b:Nat}(H:∃o x st,h o=some x/\c.ρ o=some (b,st)):c.own b:=
 let⟨o,x,st,e1,e2⟩:=H;(R.own2 b).2 ⟨o,x,e1,.inl ⟨st,e2⟩⟩
theorem EF.block{c:Cx}{o:Nat}{x:A9}(h:EF c o x):∃b st,c.ρ o=some (b,st)/\b<c.w.heap.size:=by
 cases x with
 | cells cs ty=>obtain⟨b,st,arr,e,vs,h1,h2,_⟩:=h;exact⟨b,st,h1,(qh.1 h2).1⟩
 | map es=>obtain⟨b,d,a,h1,h2,_⟩:=h;exact⟨b,0,h1,(qh.1 h2).1⟩
 | loop r=>obtain⟨b,h1,h2⟩:=h;exact⟨b,0,h1,(qh.1 h2).1⟩
 | sit s pos=>obtain⟨b,h1,h2⟩:=h;exact⟨b,0,h1,(qh.1 h2).1⟩
 | iter left last=>obtain⟨b,bm,d,a,seen,h1,h2,_⟩:=h;exact⟨b,0,h1,(qh.1 h2).1⟩
 | list z es=>obtain⟨b,Tf,arr,e,v,h1,h2,_⟩:=h;exact⟨b,Tf,h1,(qh.1 h2).1⟩
theorem EF.hold_lt{c:Cx}{o:Nat}{x:A9}(h:EF c o x){b:Nat}(hb:BA c o x b):b<c.w.heap.size:=by
 rcases hb with⟨st,hb⟩|⟨d,hb⟩
 obtain⟨f,st',h1,h2⟩:=h.block;rw[hb]at h1;cases h1;exact h2;cases x with
 | list z es=>
  obtain⟨f,Tf,arr,e,v,h1,h2,h3,h4,⟨_,a,_⟩|⟨B,st,arr2,e2,vs,cap,_,_,a,g,_⟩⟩:=h;rw[hb]at a;cases a;rw[hb]at a;cases a;exact(qh.1 g).1
 | cells cs ty=>cases d
 | map es=>cases d
 | loop r=>cases d
 | sit s pos=>cases d
 | iter left last=>cases d
theorem EF.mono0{c m:Cx}(x:Qc c m){o:Nat}{y:A9}(h:EF c o y)(f:∀b,BA c o y b->m.w.heap[b]? = c.w.heap[b]?)(hk:m.bk o=c.bk o:=by rfl):EF m o y:=by
 have hb:∀b st,c.ρ o=some (b,st)->m.w.heap[b]? = c.w.heap[b]?:=λb st e=>f b (.inl ⟨st,e⟩);cases y with
 | list z es=>
  obtain⟨b,Tf,arr,e,v,h1,h2,i,j,n⟩:=h;refine⟨b,Tf,arr,e,v,x.ρ _ _ h1,(hb b Tf h1).trans h2,i,j,?_⟩;rcases n with⟨g1,k,g3⟩|⟨B,st,l,A,vs,cap,g1,E,k,g3,u,C,g6,g7,g8,D⟩
  exact .inl ⟨g1,hk.trans k,V.mono0 x g3⟩;exact .inr ⟨B,st,l,A,vs,cap,g1,E,hk.trans k,(f B (.inr ⟨rfl,k⟩)).trans g3,u,C,g6,g7,V2.mono0 x g8,D⟩
 | cells cs ty=>
  obtain⟨b,st,arr,e,vs,h1,h2,i,j,n⟩:=h;exact⟨b,st,arr,e,vs,x.ρ _ _ h1,(hb b st h1).trans h2,i,V2.mono0 x j,n⟩
 | map es=>
  obtain⟨b,d,a,h1,h2,i,j⟩:=h;exact⟨b,d,a,x.ρ _ _ h1,(hb b 0 h1).trans h2,AU.mono (λ_ _ g=>⟨V.mono0 x g.1,V.mono0 x g.2⟩) i,j⟩
 | iter left last=>
  obtain⟨b,bm,d,a,t,h1,h2,i,j,n,F,G⟩:=h;obtain⟨H,I⟩:=x.keep bm j ⟨_,i,by simp⟩;exact⟨b,bm,d,a,t,x.ρ _ _ h1,(hb b 0 h1).trans h2,I.trans i,H,n,AU.mono (λ_ _ g=>⟨V.mono0 x g.1,V.mono0 x g.2⟩) F,λp e=>let⟨q,g1,k,g3,u⟩:=G p e;⟨q,g1,k,V.mono0 x g3,V.mono0 x u⟩⟩
 | loop r=>
  obtain⟨b,h1,h2⟩:=h;exact⟨b,x.ρ _ _ h1,(hb b 0 h1).trans h2⟩
 | sit s pos=>
  obtain⟨b,h1,h2⟩:=h;exact⟨b,x.ρ _ _ h1,(hb b 0 h1).trans h2⟩
theorem EF.mono{c a:Cx}(x:DV c a){o:Nat}{y:A9}(h:EF c o y)(hb:∀b,BA c o y b->a.w.heap[b]? = c.w.heap[b]?)(hk:a.bk o=c.bk o:=by rfl):EF a o y:=h.mono0 x.to0 hb hk
theorem V.cells{c:Cx}{s:SV}{v:Value}(h:V c s v)(hs:s.B=true):AU (V c) s.cells v.cells.toList/\∀x∈v.cells.toList,x.oneCell'=true:=by
 cases s<;>simp only[SV.B]at hs<;>try cases hs
 case agg cs=>
  rw[V]at h;obtain⟨vs,rfl,hl,ho⟩:=h;simpa[SV.cells,Value.cells]using⟨BE.1 hl,ho⟩
 case y z es full=>
  have h':=h;rw[V]at h;rcases h with⟨_,rfl⟩|⟨a,cap,vs,rfl,_⟩<;>simp[SV.cells,Value.cells,AU,Value.oneCell',h']
 all_goals
  have h':=h;rw[V]at h
  try (repeat' (obtain⟨_,h⟩:=h))
  try subst h
  try (obtain⟨rfl,_⟩:=h)
  simp_all [SV.cells,Value.cells,AU,Value.oneCell']
theorem Bu(w:World)(b:Obj):(w.alloc b).heap=w.heap.push b:=rfl
theorem Jv(c:Cx)(v:Value):V c (Dz v) v:=by
 unfold Dz;split<;>simp[V]
theorem DX(c:Cx)(v:Value):V c (ofValue v) v:=by
 unfold ofValue;split;rename_i h;split;rename_i d;rw[qG]at d;rw[V];refine⟨h.toList,by simp,BE.2 ?_,d⟩;have:=AU.map (R:=Eq) (T:=V c) (f:=Dz) (g:=id) (λa b e=>by subst e;exact Jv c a)
  (aS:=h.toList) (bs:=h.toList) (AU.of_get rfl λi a b h1 h2=>by rw[h1]at h2;simpa using h2)
 simpa using this;simp[V];exact Jv c _
theorem Ts(c:Cx)(v:Value):V c (O2 (Dz v)) v:=by
 have h:=Jv c v;unfold O2;split;rename_i e;unfold Dz at e;split at e<;>cases e;rw[V];exact h
theorem cG(c:Cx)(z:Value)(h:AU (V c) (ofValue z).cells z.cells.toList):AU (V c) ((ofValue z).cells.map O2) z.cells.toList:=by
 cases z with
 | agg cs=>
  simp only[ofValue]at h ⊢;split at h;rename_i d;rw[my d];simp only[SV.cells,vO,Value.cells];have:=AU.map (R:=Eq) (T:=V c) (f:=O2 ∘ Dz) (g:=id) (λa b e=>by subst e;exact Ts c a)
   (aS:=cs.toList) (bs:=cs.toList) (AU.of_get rfl λi a b h1 h2=>by rw[h1]at h2;simpa using h2)
  simpa using this;rename_i d;rw[mw d];exact h
 | _=>
  have e:∀v:Value,(Dz v).cells=[Dz v]:=λv=>by unfold Dz;split<;>rfl
  simp only[ofValue,e,qi,vN,Value.cells]at h ⊢;exact⟨Ts c _,h.2⟩
def DT(P:Program)(ev:Operand->Value)(o:Oper)(h:Hp)(k:Nat)(c:Cx)(out:Cg):Prop:=
 ∃u c',((execOp ev o).run P c.w=.ok (.value u) c'.w\/(u=undef/\(execOp ev o).run P c.w=.ok .skip c'.w))/\
  V c' out.val u/\CB (out.app h k) c'/\DV c c'/\(∀j,out.new.isNone=true\/j≠k->c'.ρ j=c.ρ j)
section
variable{P:Program}{ev:Operand->Value}{o:Oper}{h:Hp}{k:Nat}{c:Cx}
theorem A8{v:SV}(R:CB h c)(u:Value)(hr:(execOp ev o).run P c.w=.ok (.value u) c.w)(hv:V c v u):DT P ev o h k c { val:=v }:=
 ⟨u,c,.inl hr,hv,R,DV.refl c,λ_ _=>rfl⟩
theorem HU{b:Bool}{v:Value}(h:V c (.bool b) v):v=.bool b:=by simpa[V]using h
theorem Dt{i:IntKind}{n:Int}{v:Value}(h:V c (.int i n) v):v=.int i n:=by simpa[V]using h
theorem KT{s:ByteArray}{v:Value}(h:V c (.str s) v):v=.string s:=by simpa[V]using h
def Cx.alloc(c:Cx)(k:Nat)(b:Obj):Cx:=
 { ρ:=λj=>if j=k then some (c.w.heap.size,0)else c.ρ j,own:=λx=>c.own x\/x=c.w.heap.size,w:=c.w.alloc b,bk:=c.bk }
theorem Cx.zf(c:Cx)(k:Nat)(b:Obj)(hk:c.ρ k=none):DV c (c.alloc k b):=by
 refine⟨λj p e=>?_,by simp[Cx.alloc],λx a d=>⟨?_,?_⟩,λx=>?_,rfl,rfl,⟨rfl,IO _⟩⟩;simp only[Cx.alloc];split;subst_vars;rw[hk]at e;cases e;exact e;simp only[Cx.alloc];rintro(h|h);exact d h;omega;simp[Cx.alloc,Bu,vQ,wF a];unfold rm;rcases vq x c.w.heap.size with a|a;simp[Cx.alloc,Bu,vQ,wF a];simp[vt a]
theorem CB.none_of{h:Hp}{c:Cx}(R:CB h c){k:Nat}(hk:c.ρ k=none):h k=none:=by
 cases e:h k with
 | none=>rfl
 | some x=>obtain⟨b,st,h1,_⟩:=(R.obj k x e).block;rw[hk]at h1;cases h1
theorem CB.alloc{h:Hp}{c:Cx}(R:CB h c){k:Nat}(hk:c.ρ k=none){x:A9}{b:Obj}(r:EF (c.alloc k b) k x)(p:x.lst=false:=by rfl):
 CB (h_ h k (some x)) (c.alloc k b):=by
 have q:=R.none_of hk;have E:=c.zf k b hk;have old:∀j y a,h j=some y->BA c j y a->a<c.w.heap.size:=λj y a e m=>(R.obj j y e).hold_lt m;have f:∀j y a,j≠k->BA (c.alloc k b) j y a->BA c j y a:=λj y a d H=>by
  simp only[BA,Cx.alloc,d,if_false]at H;exact H
 have hat:∀a,BA (c.alloc k b) k x a->a=c.w.heap.size:=λa H=>by
  rcases H with⟨st,H⟩|⟨H,_⟩
  simp only[Cx.alloc,if_true]at H;cases H;rfl;rw[p]at H;cases H
 have get:∀j y,h_ h k (some x) j=some y->(j=k/\y=x)\/(j≠k/\h j=some y):=λj y e=>by
  simp only[h_]at e;split at e;cases e;exact .inl ⟨by assumption,rfl⟩;exact .inr ⟨by assumption,e⟩
 refine⟨λj y e=>?_,λi j y y' a g l n o=>?_,λa=>?_⟩;rcases get j y e with⟨rfl,rfl⟩|⟨d,e⟩
 exact r;refine(R.obj j y e).mono E λa m=>?_;have:=old j y a e m;simp[Cx.alloc,Bu,vQ,wF this];rcases get i y g with⟨rfl,rfl⟩|⟨hi,f1⟩
 rcases get j y' l with⟨rfl,rfl⟩|⟨d,f2⟩
 rfl;have h1:=hat _ n;have h2:=old j y' a f2 (f j y' a d o);omega;rcases get j y' l with⟨rfl,rfl⟩|⟨d,f2⟩
 have h1:=hat _ o;have h2:=old i y a f1 (f i y a hi n);omega;exact R.inj2 i j y y' a f1 f2 (f i y a hi n) (f j y' a d o);constructor;rintro(h'|h');obtain⟨j,y,g,l⟩:=(R.own2 a).1 h';have d:j≠k:=by rintro rfl;rw[q]at g;cases g
 exact⟨j,y,by simp[h_,d,g],by simpa[BA,Cx.alloc,d]using l⟩;exact⟨k,x,by simp[h_],.inl ⟨0,by simp[Cx.alloc,h']⟩⟩;rintro⟨j,y,g,l⟩;rcases get j y g with⟨rfl,rfl⟩|⟨d,g⟩
 exact .inr (hat _ l);exact .inl ((R.own2 a).2 ⟨j,y,g,f j y a d l⟩)
theorem Ko{b:List SV}{f:Option TypeId}{vs:Array Value}{e:TypeId}{v:SV}{u:Value}(R:CB h c)(hk:c.ρ k=none)
 (hr:(execOp ev o).run P c.w=.ok (.value u) (c.w.alloc (.cells vs e)))
 (g:AU (V c) b vs.toList) (h1:∀x∈vs.toList,x.oneCell'=true)
 (hv:∀c':Cx,c'.ρ k=some (c.w.heap.size,0)->rm c'.w c.w.heap.size=vs.size->V c' v u)
 (a:Ty f 0 e:=by exact Ty.none):DT P ev o h k c { val:=v,new:=some (.cells b f) }:=by
 have E:=c.zf k (.cells vs e) hk;refine⟨u,c.alloc k (.cells vs e),.inl hr,hv _ (by simp[Cx.alloc]) (by simp[rm,Cx.alloc,Bu]),R.alloc hk ?_,E,λj d=>?_⟩;refine⟨c.w.heap.size,0,vs,e,vs.toList,by simp[Cx.alloc],by simp[Cx.alloc,Bu],λi x l=>by simpa using l,V2.mono E g,h1,a⟩;simp at d;simp[Cx.alloc,d]
theorem FP{t:TypeId}{w:World}{i:TypeInfo}{z:Value}(hi:P.info? t=some i)(a:i.zero=some z):(zeroValue t).run P w=.ok z w:=by
 simp[zeroValue,typeInfo,hi,a]
theorem AM{t:TypeId}{w:World}{d:TypeDesc}(a:P.underlying t=some d):(underlying t).run P w=.ok d w:=by
 simp[underlying,a]
theorem J7{t:TypeId}{d:TypeDesc}(a:P.underlying t=some d):∃i,P.info? t=some i:=by
 cases hi:P.info? t with
 | none=>simp[Program.underlying,hi]at a
 | some i=>exact⟨i,rfl⟩
theorem Cc{t:TypeId}(b:(BU P t).B=true):∃i z,P.info? t=some i/\i.zero=some z/\BU P t=ofValue z:=by
 cases hi:P.info? t with
 | none=>simp[BU,hi,SV.B]at b
 | some i =>
  cases a:i.zero with
  | none=>
   exfalso;unfold BU at b;rw[hi]at b;obtain⟨a1,a2,a3,a4,a5,d,e,f,a9,c⟩:=i;simp at a;subst a;simp[SV.B]at b
  | some z=>
   refine⟨i,z,rfl,a,?_⟩;unfold BU;rw[hi];obtain⟨a1,a2,a3,a4,a5,d,e,f,a9,c⟩:=i;simp at a;subst a;rfl
theorem Vh{e:TypeId}{out:Cg}{evs:Operand->SV}(j:o.op=.alloc e)(g:C0 P evs h k o.op=some out)(R:CB h c)(hk:c.ρ k=none):DT P ev o h k c out:=by
 rw[j]at g;simp only[C0]at g;split at g<;>try cases g
 rename_i a;simp at a;obtain⟨i,z,hi,l,d⟩:=Cc a.1;have b:=V.cells (c:=c) (DX c z) (by rw[<-d];exact a.1);rw[<-d]at b;have f:AU (V c) (Xp e (BU P e).cells) z.cells.toList:=by
  unfold Xp;split;exact b.1;split;rw[d];rw[d]at b;exact cG c z b.1;exact b.1
 refine Ko (vs:=z.cells) (e:=e) (u:=.pointer (some ⟨c.w.heap.size,0,none⟩)) R hk ?_ f b.2 (λc' h1 _=>by rw[V];exact⟨_,0,h1,rfl⟩) Ty.row;simp[execOp,j,Instr.alloc,FP hi l,newVar,newRow]
theorem aZ{e:TypeId}{x:Operand}{out:Cg}{evs:Operand->SV}(f:o.op=.box e x)(d:C0 P evs h k o.op=some out)(R:CB h c)(hk:c.ρ k=none)
 (H:∀x∈o.op.operands,V c (evs x) (ev x)):DT P ev o h k c out:=by
 rw[f]at d H;simp only[C0]at d;split at d<;>try cases d
 rename_i a;have b:=V.cells (H x (by simp[Op.operands])) a;refine Ko (vs:=(ev x).cells) (e:=e) (u:=.pointer (some ⟨c.w.heap.size,0,none⟩)) R hk ?_ b.1 b.2 (λc' h1 _=>by rw[V];exact⟨_,0,h1,rfl⟩) Ty.row;simp[execOp,f,Instr.box,newVar,newRow]
theorem R7{x:Operand}{out:Cg}{evs:Operand->SV}(a:o.op=.move x\/o.op=.assign x)(b:C0 P evs h k o.op=some out)(R:CB h c)
 (H:∀x∈o.op.operands,V c (evs x) (ev x)):DT P ev o h k c out:=by
 rcases a with a|a <;>
 . rw[a]at b H;simp only[C0,C9,qm]at b;subst b;exact A8 R (ev x) (by simp[execOp,a]) (H x (by simp[Op.operands]))
theorem Yb{x a b:Operand}{out:Cg}{evs:Operand->SV}(f:o.op=.pick x a b)(e:C0 P evs h k o.op=some out)(R:CB h c)
 (H:∀x∈o.op.operands,V c (evs x) (ev x)):DT P ev o h k c out:=by
 rw[f]at e H;simp only[C0]at e;split at e<;>try cases e
 rename_i t ht;have g:=H x (by simp[Op.operands]);rw[ht]at g;have d:=HU g;cases t;exact A8 R (ev b) (by simp[execOp,f,d,asBool]) (by simpa using H b (by simp[Op.operands]));exact A8 R (ev a) (by simp[execOp,f,d,asBool]) (by simpa using H a (by simp[Op.operands]))
theorem MA(off:Nat):∀(xs:List Value)(k:Nat)(a:Array Value),off+k+xs.length<=a.size->
 ((xs.zipIdx k).foldl (λa (p:Value×Nat)=>a.setIfInBounds (off+p.2) p.1) a).toList=a.toList.take (off+k)++xs++a.toList.drop (off+k+xs.length)
 | [],k,a,_=>by simp
 | x::xs,k,a,hl=>by
  simp only[qo]at hl;rw[List.zipIdx_cons,qL,MA off xs (k+1) _ (by simp;omega)];have:=list_seg_step a.toList (off+k) x xs (by simp;omega);simp only[qo,Array.toList_setIfInBounds]at *;rw[show off+(k+1)=off+k+1 by omega];exact this
theorem Ok(off:Nat)(v:Value)(a:Array Value)(b:off+v.cells.size<=a.size):
 (v.cells.zipIdx.foldl (λa (c,j)=>a.setIfInBounds (off+j) c) a).toList=a.toList.take off++v.cells.toList++a.toList.drop (off+v.cells.size):=by
 have:=MA off v.cells.toList 0 a (by simpa using b);rw[<-Array.foldl_toList];simpa using this
theorem GQ{a xs r:List SV}{off:Nat}(h:GP a off xs=some r):off+xs.length<=a.length/\r=a.take off++xs++a.drop (off+xs.length):=by
 unfold GP at h;split at h;rename_i b;cases h;exact⟨b,rfl⟩;cases h
theorem OA{a xs:List SV}{vs us:List Value}(off:Nat)(h:AU (V c) a vs)(g:AU (V c) xs us):
 AU (V c) (a.take off++xs++a.drop (off+xs.length)) (vs.take off++us++vs.drop (off+us.length)):=by
 rw[g.length];exact AU.append (AU.append (h.take off) g) (h.drop _)
theorem N9{vs us:List Value}(off n:Nat)(h:∀x∈vs,x.oneCell'=true)(g:∀x∈us,x.oneCell'=true):∀x∈vs.take off++us++vs.drop n,x.oneCell'=true:=by
 intro x a;simp only[qd]at a;rcases a with(a|a)|a;exact h x (vA a);exact g x a;exact h x (vB a)
theorem Nb{a place':Nat->Option (Nat×Nat)}(hp:∀i p,a i=some p->place' i=some p):
 ∀(ps:List (Nat×SV))(m:List (Nat×Value))(n:List SV)(cells:Array Value)(d:List SV),AU (λp q=>p.1=q.1/\V c p.2 q.2) ps m->AU (V c) n cells.toList->
  (∀x∈cells.toList,x.oneCell'=true)->Ji a n ps=some d->∃r,Instr.fill place' cells m=some r/\AU (V c) d r.toList/\∀x∈r.toList,x.oneCell'=true
 | [],m,n,cells,d,f,hz,h1,hf=>by
  rw[f.nil_left];simp only[Ji,qm]at hf;subst hf;exact⟨cells,rfl,hz,h1⟩
 | (i,s)::ps,[],_,_,_,f,_,_,_=>f.elim
 | (i, s) :: ps, (j, v) :: m, n, cells, d, f, hz, h1, hf => by
  obtain⟨⟨rfl,hv⟩,f⟩:=f;simp only[Ji]at hf;cases e:a i with
  | none=>simp[e]at hf
  | some p=>
   obtain⟨off,size⟩:=p;simp only[e]at hf;split at hf;rename_i z;simp only[qg,beq_iff_eq]at z;cases g:GP n off s.cells with
   | none=>simp[g]at hf
   | some zs' =>
    simp only[g]at hf;obtain⟨hle,rfl⟩:=GQ g;obtain⟨h,o⟩:=hv.cells z.1;have b:=h.length;have l:=hz.length;have y:v.cells.size=size:=by simp only[wh]at b;omega
    have k:=Ok off v cells (by simp only[wh]at b l;omega);obtain⟨r,t,u,w⟩:=Nb hp ps m _ (v.cells.zipIdx.foldl (λd (c,j)=>d.setIfInBounds (off+j) c) cells) d f
     (by rw[k];have:=OA off hz h;simpa using this) (by rw[k];exact N9 off _ h1 o) hf
    refine⟨r,?_,u,w⟩;simp only[Instr.fill,hp i _ e];have hn:off+v.cells.size<=cells.size:=by simp only[wh]at b l;omega
    rw[mw (by simp[y];omega)];exact t
   cases hf
theorem Oj{a:Nat->Option (Nat×Nat)}:∀{b:List (Nat×Value)} {cells r:Array Value},Instr.fill a cells b=some r->r.size=cells.size
 | [],cells,r,h=>by simp only[Instr.fill,qm]at h;rw[h]
 | (i,v)::b,cells,r,h=>by
  simp only[Instr.fill]at h;split at h;cases h;split at h;cases h;rename_i off size heq c;rw[Oj h];have d:off+v.cells.size<=cells.size:=by simp at c;omega
  have:=congrArg List.length (Ok off v cells d);simp only[wh,ql,vu,List.length_drop]at this;rw[this];omega
theorem O7{evs:Operand->SV}(ps:Array (Nat×Operand))(H:∀p∈ps.toList,V c (evs p.2) (ev p.2)):
 AU (λ(p:Nat×SV)(q:Nat×Value)=>p.1=q.1/\V c p.2 q.2) (ps.toList.map λp=>(p.1,evs p.2)) (ps.map λ(i,x)=>(i,ev x)).toList:=by
 simp only[Array.toList_map];refine AU.of_get mr λi a b h1 h2=>?_;simp only[vo,qT]at h1 h2;obtain⟨p,hp,rfl⟩:=h1;obtain⟨q,d,rfl⟩:=h2;rw[hp]at d;cases d;exact⟨rfl,H p (vJ hp)⟩
theorem O6{t:TypeId}{ps:Array (Nat×Operand)}{p:Nat×Operand}(h:p∈ps.toList):p.2∈(Op.build t ps).operands:=by
 simp[Op.operands];exact⟨p.1,by simpa using h⟩
theorem Iv{t:TypeId}{l:Nat}{ps:Array (Nat×Operand)}{p:Nat×Operand}(h:p∈ps.toList):p.2∈(Op.buildSlice t l ps).operands:=by
 simp[Op.operands];exact⟨p.1,by simpa using h⟩
theorem Vj{t:TypeId}{ps:Array (Nat×Operand)}{out:Cg}{evs:Operand->SV}(ho:o.op=.build t ps)(hs:C0 P evs h k o.op=some out)(R:CB h c)
 (H:∀x∈o.op.operands,V c (evs x) (ev x)):DT P ev o h k c out:=by
 rw[ho]at hs H;simp only[C0]at hs;cases hz:BU P t<;>simp only[hz]at hs<;>try cases hs
 rename_i zs;cases hpl:Bk P t with
 | none=>simp[hpl]at hs
 | some pl =>
  simp only[hpl]at hs;cases hf:Ji (pl[·]?) zs (ps.toList.map λp=>(p.1,evs p.2))with
  | none=>simp[hf]at hs
  | some cs =>
   simp only[hf,C9,qN,qm]at hs;subst hs;obtain⟨i,z,hi,hzz,hze⟩:=Cc (P:=P) (t:=t) (by rw[hz];rfl);have hvz:=DX c z;rw[<-hze,hz]at hvz;have hcs:=hvz.cells rfl;unfold Bk at hpl;rw[hi]at hpl;obtain⟨place',hp',hb⟩:∃place':Nat->Option (Nat×Nat),(∀i p,pl[i]? = some p->place' i=some p)/\
    ∀q:List (Nat×Value),P.built t q=Instr.fill place' z.cells q:=by
    cases hu:P.underlying t with
    | none=>simp[hu]at hpl
    | some d =>
     cases d<;>simp only[hu]at hpl<;>try cases hpl
     case array n e=>
      cases hie:P.info? e with
      | none=>simp[hie]at hpl
      | some ie=>
       simp only[hie,vE,qm]at hpl;subst hpl;refine⟨λi=>some (i*ie.size,ie.size),λi p hp=>?_,λq=>by simp[Program.built,hi,hu,hzz,hie]⟩;simp only[vo,qT]at hp;obtain⟨a,ha,rfl⟩:=hp;obtain⟨hi',rfl⟩:=qv.1 ha;simp
     case struct fs=>
      exact⟨(pl.toArray[·]?),λi p hp=>by simpa using hp,λq=>by simp[Program.built,hi,hu,hzz,hpl]⟩
   obtain⟨r,hr1,hr2,hr3⟩:=Nb (c:=c) hp' _ _ zs z.cells cs (O7 ps λp hp=>H p.2 (O6 hp)) (by simpa[SV.cells]using hcs.1) hcs.2 hf;refine A8 R (.agg r) ?_ (by rw[V];exact⟨r.toList,by simp,BE.2 hr2,hr3⟩);have hrun:=run_build (P:=P) c.w t (ps.map λ(i,x)=>(i,ev x)) r (by rw[hb];exact hr1);simp[execOp,ho,hrun]
end
section
variable{P:Program}{ev:Operand->Value}{o:Oper}{h:Hp}{k:Nat}{c:Cx}
theorem E4{a r:List SV}{off n:Nat}(e:Cb a off n=some r):off+n<=a.length/\r=(a.drop off).take n:=by
 unfold Cb at e;split at e;rename_i b;cases e;exact⟨b,rfl⟩;cases e
theorem Gg(b off n:Nat):(⟨b,off,none⟩:Addr).add n=⟨b,off+n,none⟩:=by
 unfold Addr.add;split<;>simp_all
theorem DY{a:Addr}(c:a.spot=none)(n:Nat):a.add n=⟨a.block,a.off+n,none⟩:=by
 obtain⟨b,off,s⟩:=a;simp at c;subst c;exact Gg b off n
theorem Ez{t:TypeId}{b:Bool}(ht:GH P t=some b)(w:World):(isAgg t).run P w=.ok b w:=by
 unfold GH at ht;cases a:P.underlying t with
 | none=>simp[a]at ht
 | some d=>cases d<;>simp[a]at ht<;>simp[isAgg,AM a,ht]
theorem OI{t:TypeId}{b:Bool}(ht:GH P t=some b):∃i,P.info? t=some i/\Bj P t=i.size:=by
 unfold GH at ht;cases a:P.underlying t with
 | none=>simp[a]at ht
 | some d=>obtain⟨i,hi⟩:=J7 a;exact⟨i,hi,by simp[Bj,Program.cellsOf,hi]⟩
theorem Ma{a:Option Bool}{f:List SV}{us:List Value}{v:SV}(e:SN a f=some v)(d:AU (V c) f us)(h1:∀x∈us,x.oneCell'=true):
 (a=some true/\V c v (.agg us.toArray))\/(a=some false/\∃u,us=[u]/\V c v u):=by
 cases a with
 | none=>simp[SN]at e
 | some b =>
  cases b with
  | true=>
   simp only[SN,qm]at e;subst e;exact .inl ⟨rfl,by rw[V];exact⟨us,rfl,BE.2 d,h1⟩⟩
  | false =>
   simp only[SN]at e
   match f,e,d with
   | [x],e,d=>
    simp at e;subst e;obtain⟨u,rfl,hv⟩:=d.single;exact .inr ⟨rfl,u,rfl,hv⟩
   | [],e,_=>simp at e
   | _::_::_,e,_=>simp at e
theorem EY{t:TypeId}{w:World}{a:Addr}{us:List Value}{d:Bool}(f:a.spot=none)(ht:GH P t=some d)(k:us.length=Bj P t)
 (c:∀i x,us[i]? = some x->w.cell? ⟨a.block,a.off+i,none⟩=some x):
 (d=true->(loadVar t a).run P w=.ok (.agg us.toArray) w)/\(d=false->∀u,us=[u]->(loadVar t a).run P w=.ok u w):=by
 obtain⟨i,hi,h⟩:=OI ht;refine⟨λe=>?_,λe u l=>?_⟩;subst e;have hr:=run_loadCells_list (P:=P) w a us (λj v hv=>by rw[DY f];exact c j v hv);rw[k,h]at hr;simp[loadVar,Ez ht,sizeOf,typeInfo,hi,hr];subst e;subst l;have h0:=c 0 u rfl;have g:(⟨a.block,a.off+0,none⟩:Addr)=a:=by obtain⟨b,off,s⟩:=a;simp at f;subst f;rfl
 rw[g]at h0;simp[loadVar,Ez ht,h0]
theorem EF.cell{o:Nat}{a:List SV}{j:Option TypeId}(H:EF c o (.cells a j)):∃b st vs,c.ρ o=some (b,st)/\AU (V c) a vs/\(∀x∈vs,x.oneCell'=true)/\
 ∀i x,vs[i]? = some x->c.w.cell? ⟨b,st+i,none⟩=some x:=by
 obtain⟨b,st,arr,e,vs,h1,h2,d,f,g,_⟩:=H;exact⟨b,st,vs,h1,f,g,λi x h=>by simp[World.cell?,h2,d i x h]⟩
theorem Ov{t:TypeId}{s v:SV}{u:Value}(R:CB h c)(j:HL P h t s=some v)(hv:V c s u):
 ∃a r,u=.pointer (some a)/\(loadVar t a).run P c.w=.ok r c.w/\V c v r:=by
 unfold HL at j;split at j;rename_i o off;split at j;rename_i y ty A;rw[V]at hv;obtain⟨b,st,hρ,rfl⟩:=hv;obtain⟨b',st',vs,hρ',n,h1,m⟩:=(R.obj _ _ A).cell;rw[hρ]at hρ';cases hρ';cases ht:Cb y off (Bj P t)with
 | none=>simp[ht]at j
 | some r =>
  simp only[ht,qN]at j;obtain⟨z,rfl⟩:=E4 ht;have l:=(n.drop off).take (Bj P t);have k:∀x∈(vs.drop off).take (Bj P t),x.oneCell'=true:=λx e=>h1 x (vB (vA e));have f:((vs.drop off).take (Bj P t)).length=Bj P t:=by have:=n.length;simp;omega
  have d:∀i x,((vs.drop off).take (Bj P t))[i]? = some x->c.w.cell? ⟨b,st+off+i,none⟩=some x:=λi x e=>by
   rw[vK]at e;split at e;rw[vw]at e;rw[qq];exact m _ _ e;cases e
  rcases Ma j l k with⟨g,hv⟩|⟨g,x,e,hv⟩
  exact⟨_,_,rfl,(EY (a:=⟨b,st+off,none⟩) rfl g f d).1 rfl,hv⟩;exact⟨_,_,rfl,(EY (a:=⟨b,st+off,none⟩) rfl g f d).2 rfl x e,hv⟩
 cases j;rename_i y;rw[V]at hv;obtain⟨a,vs,rfl,q,n,p⟩:=hv;rw[BE]at n;cases ht:Cb y 0 (Bj P t)with
 | none=>simp[ht]at j
 | some r =>
  simp only[ht,qN]at j;obtain⟨z,rfl⟩:=E4 ht;simp only[vT]at j;have l:=n.take (Bj P t);have k:∀x∈vs.take (Bj P t),x.oneCell'=true:=λx e=>q.one x (vA e);have f:(vs.take (Bj P t)).length=Bj P t:=by have:=n.length;simp;omega
  have d:∀i x,(vs.take (Bj P t))[i]? = some x->c.w.cell? ⟨a.block,a.off+i,none⟩=some x:=λi x e=>by
   rw[vK]at e;split at e;exact q.cell _ _ e;cases e
  rcases Ma j l k with⟨g,hv⟩|⟨g,x,e,hv⟩
  exact⟨_,_,rfl,(EY p g f d).1 rfl,hv⟩;exact⟨_,_,rfl,(EY p g f d).2 rfl x e,hv⟩
 cases j
theorem Ya{t:TypeId}{x:Operand}{out:Cg}{evs:Operand->SV}(e:o.op=.load t x)(b:C0 P evs h k o.op=some out)(R:CB h c)
 (H:∀x∈o.op.operands,V c (evs x) (ev x)):DT P ev o h k c out:=by
 rw[e]at b H;simp only[C0]at b;cases d:HL P h t (evs x)with
 | none=>simp[d]at b
 | some v=>
  simp only[d,C9,qN,qm]at b;subst b;obtain⟨a,r,f,hr,hv⟩:=Ov R d (H x (by simp[Op.operands]));exact A8 R r (by simp[execOp,e,f,Instr.loadAt,Instr.sureAddr,hr]) hv
theorem LD(w:World)(g:Nat)(a:Array Value){b:Nat}(hb:b≠g):(w.setRow g a).heap[b]? = w.heap[b]?:=by
 simp[World.setRow,wn,Ne.symm hb]
theorem MI(w:World)(g:Nat)(a:Array Value):(w.setRow g a).heap.size=w.heap.size:=by simp[World.setRow]
theorem CB.write{w':World}{o b st:Nat}{x y:A9}(R:CB h c)(r:h o=some x)(p:c.ρ o=some (b,st))
 (l:w'.heap.size=c.w.heap.size) (d:∀a,a≠b->w'.heap[a]? = c.w.heap[a]?) (k:rm c.w b<=rm w' b) (t:w'.os=c.w.os) (n:w'.output=c.w.output)
 (K:DV c { c with w:=w' }->EF { c with w:=w' } o y) (v:x.lst=false:=by rfl) (A:y.lst=false:=by rfl) (u:Td c.w w':=by exact⟨rfl,IO _⟩):CB (h_ h o (some y)) { c with w:=w' }/\DV c { c with w:=w' }:=by
 have E:DV c { c with w:=w' }:=by
  refine⟨λ_ _ e=>e,by simp[l],λa hb' D=>⟨D,?_⟩,λa=>?_,t,n,u⟩;refine d a ?_;rintro rfl;exact D (R.ownI ⟨o,x,st,r,p⟩);by_cases e:a=b;subst e;exact k;simp[rm,d a e]
 have s:∀z:A9,z.lst=false->∀a,BA c o z a->a=b:=λz s a H=>by
  rcases H with⟨st',H⟩|⟨H,_⟩
  rw[p]at H;cases H;rfl;rw[s]at H;cases H
 have f:∀j z,h_ h o (some y) j=some z->∃z0,h j=some z0/\∀a,BA { c with w:=w' } j z a->BA c j z0 a:=λj z e=>by
  simp only[h_]at e;split at e;subst_vars;cases e;exact⟨x,r,λa H=>by rw[s y A a H];exact .inl ⟨st,p⟩⟩;exact⟨z,e,λa H=>H⟩
 refine⟨⟨λj z e=>?_,λi j z M b1 g m G I=>?_,λa=>?_⟩,E⟩;simp only[h_]at e;split at e;subst_vars;cases e;exact K E;rename_i q;refine(R.obj j z e).mono E λC F=>d C ?_;rintro rfl;exact q (R.inj2 j o z x C e r F (.inl ⟨st,p⟩));obtain⟨z0,g1,B⟩:=f i z g;obtain⟨N,J,L⟩:=f j M m;exact R.inj2 i j z0 N b1 g1 J (B _ G) (L _ I);rw[R.own2 a];constructor;rintro⟨j,z,g,m⟩;by_cases q:j=o;subst q;rw[r]at g;cases g;exact⟨j,y,by simp[h_],by rw[s x v a m];exact .inl ⟨st,p⟩⟩;exact⟨j,z,by simp[h_,q,g],m⟩;rintro⟨j,z,g,m⟩;obtain⟨z0,g1,B⟩:=f j z g;exact⟨j,z0,g1,B _ m⟩
theorem Te{A vs us:List Value}{st off:Nat}(c:∀(i:Nat)(x:Value),vs[i]? = some x->A[st+i]? = some x)(hle:off+us.length<=vs.length)(hne:us.length≠0):
 st+off+us.length<=A.length/\∀(i:Nat)(x:Value),(vs.take off++us++vs.drop (off+us.length))[i]? = some x->(A.take (st+off)++us++A.drop (st+off+us.length))[st+i]? = some x:=by
 have b:=c (vs.length-1) vs[vs.length-1] mr;have hlen:=(qv.1 b).1;refine⟨by omega,λi x a=>?_⟩;have d:(A.take (st+off)).length=st+off:=by simp;omega
 have e:(vs.take off).length=off:=by simp;omega
 simp only[qr]at a ⊢;by_cases h1:i<off;rw[wj mq]at a ⊢;rw[vK,my mq]at a ⊢;exact c i x a;rw[vR mq]at a ⊢;rw[d,e]at *;by_cases h2:i-off<us.length;rw[wj mq]at a ⊢;rw[show st+i-(st+off)=i-off by omega];exact a;rw[vR mq]at a ⊢;rw[vw]at a ⊢;have:=c _ _ a;rw[<-this];congr 1;omega
theorem Hk{o off:Nat}{g xs:List SV}{p:Option TypeId}{us:List Value}{b st:Nat}(R:CB h c)(n:h o=some (.cells g p))(l:c.ρ o=some (b,st))
 (hle:off+xs.length<=g.length) (hne:xs.length≠0) (f:AU (V c) xs us) (h1:∀x∈us,x.oneCell'=true):
 ∃w',(storeCells ⟨b,st+off,none⟩ us).run P c.w=.ok () w'/\CB (h_ h o (some (.cells (g.take off++xs++g.drop (off+xs.length)) p))) { c with w:=w' }/\DV c { c with w:=w' }:=by
 obtain⟨q,st',arr,e,vs,g1,j,g3,m,r,g6⟩:=R.obj _ _ n;rw[l]at g1;cases g1;have hl:=f.length;have hl2:=m.length;obtain⟨s1,s2⟩:=Te (A:=arr.toList) (st:=st) (off:=off) (us:=us) (λi x f=>by simpa using g3 i x f) mq mq;have d:=run_storeCells_at (P:=P) b (st+off) e us 0 arr c.w j (by simpa using s1) h1;simp only[wz]at d;refine⟨_,d,?_⟩;have a:=setRow_heap c.w b arr (arr.toList.take (st+off)++us++arr.toList.drop (st+off+us.length)).toArray e (0,0) j;refine R.write n l (MI _ _ _) (λq k=>LD _ _ _ k) ?_ rfl rfl (λE=>?_);simp only[rm,j,a];simp at s1 ⊢;omega;refine⟨b,st,_,e,vs.take off++us++vs.drop (off+us.length),l,a,λi x f=>by simpa using s2 i x f,?_,N9 _ _ r h1,g6⟩;exact V2.mono E (OA off m f)
theorem Vn{t:TypeId}{x y:Operand}{out:Cg}{evs:Operand->SV}(r:o.op=.store t x y)(d:C0 P evs h k o.op=some out)(R:CB h c)
 (H:∀x∈o.op.operands,V c (evs x) (ev x)):DT P ev o h k c out:=by
 rw[r]at d H;simp only[C0,OD]at d;have s:=H x (by simp[Op.operands]);have A:=H y (by simp[Op.operands]);split at d<;>try cases d
 rename_i j off z;split at d<;>try cases d
 rename_i v ty g;split at d<;>try cases d
 rename_i a;simp only[qg,beq_iff_eq,bne_iff_ne,ne_eq]at a;cases e:GP v off (evs y).cells with
 | none=>simp[e]at d
 | some cs' =>
  simp only[e,qm]at d;subst d;obtain⟨n,rfl⟩:=GQ e;rw[z,V]at s;obtain⟨b,st,hρ,q⟩:=s;obtain⟨f,m⟩:=A.cells a.1.1;obtain⟨w',l,u,E⟩:=Hk (P:=P) R g hρ n mq f m;obtain⟨i,hi⟩:∃i,P.info? t=some i:=by
   cases hi:P.info? t with
   | none=>have:=a.2;simp[Bj,Program.cellsOf,hi]at this
   | some i=>exact⟨i,rfl⟩
  have p:(ev y).cells.size=i.size:=by
   have:=f.length;have h2:=a.1.2;simp[Bj,Program.cellsOf,hi]at h2;simp at this;omega
  refine⟨undef,{ c with w:=w' },.inr ⟨rfl,?_⟩,by simp[V,undef,VL],u,E,λ_ _=>rfl⟩;simp[execOp,r,q,Instr.storeAt,Instr.sureAddr,storeVar,sizeOf,typeInfo,hi,p,l]
theorem QL{x:Operand}{out:Cg}{evs:Operand->SV}(l:o.op=.nilCheck x)(g:C0 P evs h k o.op=some out)(R:CB h c)
 (H:∀x∈o.op.operands,V c (evs x) (ev x)):DT P ev o h k c out:=by
 rw[l]at g H;simp only[C0]at g;have d:=H x (by simp[Op.operands]);split at g<;>try cases g
 rename_i j off i;rw[i]at d;have e:=d;rw[V]at d;obtain⟨b,st,hρ,f⟩:=d;exact A8 R (ev x) (by simp[execOp,l,f]) e;rename_i cs i;rw[i]at d;have e:=d;rw[V]at d;obtain⟨a,vs,f,_⟩:=d;exact A8 R (ev x) (by simp[execOp,l,f]) e
theorem OU{t:TypeId}{x:Operand}{i:Nat}{out:Cg}{evs:Operand->SV}(D:o.op=.fieldAddr t x i)(e:C0 P evs h k o.op=some out)(R:CB h c)
 (H:∀x∈o.op.operands,V c (evs x) (ev x)):DT P ev o h k c out:=by
 rw[D]at e H;simp only[C0,Gm]at e;have s:=H x (by simp[Op.operands]);cases g:IL P t i with
 | none=>simp[g]at e
 | some q=>
  obtain⟨off,C⟩:=q;simp only[g]at e;by_cases B:Bj P C=0;simp[B]at e
  . simp only[B,if_false]at e;obtain⟨v,f,y,m,rfl,rfl⟩:∃v f,P.underlying t=some (.struct v)/\v[i]? = some f/\f.offset=off/\f.type=C:=by
     unfold IL at g;cases y:P.underlying t with
     | none=>simp[y]at g
     | some d=>
      cases d<;>simp only[y]at g<;>try cases g
      rename_i v;simp only[qT]at g;obtain⟨f,m,G⟩:=g;cases G;exact⟨v,f,rfl,m,rfl,rfl⟩
    obtain⟨u,hi,hsz⟩:∃u,P.info? f.type=some u/\Bj P f.type=u.size:=by
     cases hi:P.info? f.type with
     | none=>simp[Bj,Program.cellsOf,hi]at B
     | some u=>exact⟨u,rfl,by simp[Bj,Program.cellsOf,hi]⟩
    have z:∀a:Addr,(fieldPlace a f).run P c.w=.ok (a.add f.offset) c.w:=λa=>by
     simp[fieldPlace,sizeOf,typeInfo,hi,show ¬u.size=0 by omega]
    have l:∀a:Addr,ev x=.pointer (some a)->(execOp ev o).run P c.w=.ok (.value (.pointer (some (a.add f.offset)))) c.w:=λa E=>by
     simp[execOp,D,Instr.fieldAt,AM y,m,E,Instr.sureAddr,z]
    split at e<;>try (simp at e;done)
    rename_i j a r;simp only[C9,qN,qm]at e;subst e;rw[r,V]at s;obtain⟨b,st,hρ,p⟩:=s;refine A8 R _ (l _ p) ?_;rw[Gg,V];exact⟨b,st,hρ,by rw[qq]⟩;rename_i cs r;simp only[C9,qN,qm]at e;subst e;rw[r,V]at s;obtain⟨a,vs,p,n,F,A⟩:=s;refine A8 R _ (l _ p) ?_;rw[DY A,V];refine⟨_,vs.drop f.offset,rfl,⟨λ_=>rfl,λhv=>n.free (by rintro rfl;simp at hv),λj x r=>?_,λx s=>n.one x (vB s)⟩,BE.2 ((BE.1 F).drop _),rfl⟩;rw[vw]at r;simp only[qq];exact n.cell _ _ r
theorem RD{z:Nat}{es:List SV}{vs:List Value}{i:Nat}{e:SV}(hE:VE c z es vs)(hi:es[i]? = some e):
 ∃u,V c e u/\e.B=true/\u.cells.size=z/\(vs.drop (i*z)).take z=u.cells.toList/\i*z+z<=vs.length:=by
 induction es generalizing i vs with
 | nil=>simp at hi
 | cons e' es ih =>
  rw[VE]at hE;obtain⟨u,r,rfl,hz,hs,hv,hr⟩:=hE;cases i with
  | zero=>
   simp at hi;subst hi;exact⟨u,hv,hs,hz,by simp[<-hz],by simp[<-hz]⟩
  | succ i=>
   simp at hi;obtain⟨u',h1,h1',h2,h3,h4⟩:=ih hr hi;refine⟨u',h1,h1',h2,?_,?_⟩;rw[<-h3,Nat.succ_mul,Nat.add_comm,<-List.drop_drop,List.drop_left' (by simp[hz])];simp[Nat.succ_mul];omega
theorem HI.sub{a:Addr}{vs:List Value}(b:HI c a vs)(d n:Nat):HI c ⟨a.block,a.off+d,none⟩ ((vs.drop d).take n):=by
 refine⟨λ_=>rfl,λhv=>b.free (by rintro rfl;simp at hv),λj x e=>?_,λx f=>b.one x (vB (vA f))⟩;rw[vK]at e;split at e;rw[vw]at e;simp only[qq];exact b.cell _ _ e;cases e
theorem A7{t e:TypeId}(a:A5 P t=some e):P.underlying t=some (.slice e):=by
 unfold A5 at a;split at a;rename_i e' b;cases a;exact b;cases a
theorem ML{t:TypeId}{n:Nat}{e:TypeId}(a:KQ P t=some (n,e)):P.underlying t=some (.array n e):=by
 unfold KQ at a;split at a;rename_i e' he b;cases a;exact b;cases a
theorem Ea{t b e:TypeId}(a:I6 P t=some (b,e)):P.underlying t=some (.map b e):=by
 unfold I6 at a;split at a;rename_i e' he c;cases a;exact c;cases a
theorem Eb{t:TypeId}(a:Dq P t=true):P.underlying t=some .string:=by
 unfold Dq at a;split at a;rename_i b;exact b;cases a
theorem GR{e:TypeId}(a:Bj P e≠0):∃ii,P.info? e=some ii/\Bj P e=ii.size:=by
 cases hi:P.info? e with
 | none=>simp[Bj,Program.cellsOf,hi]at a
 | some ii=>exact⟨ii,rfl,by simp[Bj,Program.cellsOf,hi]⟩
theorem OV{t:TypeId}{x y:Operand}{out:Cg}{evs:Operand->SV}(I:o.op=.indexAddr t x y)(d:C0 P evs h k o.op=some out)(R:CB h c)
 (H:∀x∈o.op.operands,V c (evs x) (ev x)):DT P ev o h k c out:=by
 rw[I]at d H;simp only[C0,Gu]at d;have l:=H x (by simp[Op.operands]);have Q:=H y (by simp[Op.operands]);split at d<;>try cases d
 rename_i kk n X;rw[X]at Q;have E:=Dt Q;cases C:A5 P t with
 | some e=>
  have J:=A7 C;simp only[C]at d;by_cases G:Bj P e=0;simp[G]at d;obtain⟨Y,hi,r⟩:=GR G;simp only[G,if_false]at d;split at d<;>try (simp at d;done)
  rename_i j off N len full B;by_cases g:N=Bj P e/\0<=n/\n<len;simp only[g,and_self,if_true,C9,qN,qm]at d;subst d;rw[B,V]at l;obtain⟨b,st,cap,hρ,f,_⟩:=l;obtain⟨m,i,K⟩:=g;refine A8 R (.pointer (some ⟨b,st+off+n.toNat*Bj P e,none⟩)) ?_ ?_;simp[execOp,I,Instr.indexAt,E,asIntOf,AM J,f,i,K,sizeOf,typeInfo,hi,Gg,r];rw[V];exact⟨b,st,hρ,by rw[qq]⟩;simp[g]at d;rename_i N es full B;by_cases g:N=Bj P e/\0<=n;simp only[g,and_self,if_true]at d;obtain⟨m,i⟩:=g;cases F:es[n.toNat]? with
  | none=>simp[F]at d
  | some v=>
   simp only[F,vE,C9,qN,qm]at d;subst d;rw[B,V]at l;rcases l with⟨l,_⟩|⟨a,cap,vs,f,_,_,p,O⟩
   subst l;simp at F;subst m;have D:a.spot=none:=p.spot (λS=>by have h1:=PX O;have h2:=(qv.1 F).1;rw[S,vU]at h1;have h3:0<es.length*Bj P e:=Nat.mul_pos mq mq;omega);obtain⟨u,g1,T,g3,U,g5⟩:=RD O F;have L:n<es.length:=by have:=(qv.1 F).1;omega
   refine A8 R (.pointer (some ⟨a.block,a.off+n.toNat*Bj P e,none⟩)) ?_ ?_;simp[execOp,I,Instr.indexAt,E,asIntOf,AM J,f,i,L,sizeOf,typeInfo,hi,DY D,r];rw[V];exact⟨_,u.cells.toList,rfl,by rw[<-U];exact p.sub _ _,BE.2 (g1.cells T).1,rfl⟩
  simp[g]at d
 | none =>
  simp only[C]at d;cases A:KQ P t with
  | none=>simp[A]at d
  | some q=>
   obtain⟨len,e⟩:=q;have J:=ML A;simp only[A]at d;by_cases g:0<=n/\n<(len:Int)/\Bj P e≠0
   . rw[my g]at d;obtain⟨m,i,G⟩:=g;obtain⟨Y,hi,r⟩:=GR G;have s:∀a:Addr,ev x=.pointer (some a)->(execOp ev o).run P c.w=.ok (.value (.pointer (some (a.add (n.toNat*Bj P e))))) c.w:=λa W=>by
      simp[execOp,I,Instr.indexAt,E,asIntOf,AM J,W,m,i,sizeOf,typeInfo,hi,r,Instr.sureAddr]
     split at d<;>try (simp at d;done)
     rename_i j a B;simp only[C9,qN,qm]at d;subst d;rw[B,V]at l;obtain⟨b,st,hρ,f⟩:=l;refine A8 R _ (s _ f) ?_;rw[Gg,V];exact⟨b,st,hρ,by rw[qq]⟩;rename_i cs B;simp only[C9,qN,qm]at d;subst d;rw[B,V]at l;obtain⟨a,vs,f,p,g,M⟩:=l;refine A8 R _ (s _ f) ?_;have z:=p.sub (n.toNat*Bj P e) (vs.length);rw[qQ mr]at z;rw[DY M,V];exact⟨_,_,rfl,z,BE.2 ((BE.1 g).drop _),rfl⟩
   rw[mw g]at d;simp at d
theorem GV{a:List SV}{v:Value}(hv:V c (.agg a) v):∃vs,v=.agg vs.toArray/\AU (V c) a vs/\∀x∈vs,x.oneCell'=true:=by
 rw[V]at hv;obtain⟨vs,e,b,h1⟩:=hv;exact⟨vs,e,BE.1 b,h1⟩
theorem RX{t:TypeId}{d:List SV}{vs:List Value}{off:Nat}{v:SV}(g:(Cb d off (Bj P t)).bind (SN (GH P t))=some v)(j:AU (V c) d vs)
 (h1:∀x∈vs,x.oneCell'=true) (w:World):∃r,(part t vs.toArray off).run P w=.ok r w/\V c v r:=by
 cases ht:Cb d off (Bj P t)with
 | none=>simp[ht]at g
 | some r=>
  simp only[ht,qN]at g;obtain⟨hle,rfl⟩:=E4 ht;have hl:=j.length;have f:=(j.drop off).take (Bj P t);have e:∀x∈(vs.drop off).take (Bj P t),x.oneCell'=true:=λx i=>h1 x (vB (vA i));rcases Ma g f e with⟨a,hv⟩|⟨a,x,i,hv⟩
  obtain⟨ii,hi,h⟩:=OI a;refine⟨_,?_,hv⟩;simp[part,Ez a,sizeOf,typeInfo,hi,<-h];refine⟨x,?_,hv⟩;have b:vs[off]? = some x:=by
   have:((vs.drop off).take (Bj P t))[0]? = some x:=by rw[i];rfl
   rw[vK]at this;split at this;rw[vw]at this;simpa using this;cases this
  simp[part,Ez a,b]
theorem Vk{t:TypeId}{x:Operand}{i:Nat}{out:Cg}{evs:Operand->SV}(m:o.op=.field t x i)(b:C0 P evs h k o.op=some out)(R:CB h c)
 (H:∀x∈o.op.operands,V c (evs x) (ev x)):DT P ev o h k c out:=by
 rw[m]at b H;simp only[C0]at b;have n:=H x (by simp[Op.operands]);split at b<;>try cases b
 rename_i off q p e y;rw[y]at n;obtain⟨vs,l,s,h1⟩:=GV n;obtain⟨g,f,j,a,rfl,rfl⟩:∃g f,P.underlying t=some (.struct g)/\g[i]? = some f/\f.offset=off/\f.type=q:=by
  unfold IL at e;cases j:P.underlying t with
  | none=>simp[j]at e
  | some d=>
   cases d<;>simp only[j]at e<;>try cases e
   rename_i g;simp only[qT]at e;obtain⟨f,a,u⟩:=e;cases u;exact⟨g,f,rfl,a,rfl,rfl⟩
 cases hp:(Cb p f.offset (Bj P f.type)).bind (SN (GH P f.type))with
 | none=>simp[hp]at b
 | some v=>
  simp only[hp,C9,qN,qm]at b;subst b;obtain⟨r,hr,hv⟩:=RX (c:=c) hp s h1 c.w;exact A8 R r (by simp[execOp,m,Instr.field,AM j,a,l,asAgg,hr]) hv
theorem Vl{t:TypeId}{x y:Operand}{out:Cg}{evs:Operand->SV}(u:o.op=.index t x y)(a:C0 P evs h k o.op=some out)(R:CB h c)
 (H:∀x∈o.op.operands,V c (evs x) (ev x)):DT P ev o h k c out:=by
 rw[u]at a H;simp only[C0]at a;have l:=H x (by simp[Op.operands]);have m:=H y (by simp[Op.operands]);split at a<;>try cases a
 . rename_i s i n h1 h2;rw[h1]at l;rw[h2]at m;have A:=KT l;have f:=Dt m;split at a<;>try cases a
   rename_i j;cases hb:s[n.toNat]? with
   | none=>simp[hb]at a
   | some b=>
    simp only[hb,C9,qN,qm]at a;subst a;refine A8 R (.int .u8 b.toNat) ?_ (by simp[V]);simp[execOp,u,Instr.index,f,asIntOf,AM (Eb j.1),A,j.2,hb]
 . rename_i C i n h1 h2;rw[h1]at l;rw[h2]at m;have f:=Dt m;obtain⟨vs,B,p,g⟩:=GV l;cases d:KQ P t with
   | none=>simp[d]at a
   | some q =>
    obtain⟨len,e⟩:=q;simp only[d]at a;split at a<;>try cases a
    rename_i j;cases hp:(Cb C (n.toNat*Bj P e) (Bj P e)).bind (SN (GH P e))with
    | none=>simp[hp]at a
    | some v =>
     simp only[hp,C9,qN,qm]at a;subst a;obtain⟨r,hr,hv⟩:=RX (c:=c) hp p g c.w;obtain⟨b,hb⟩:∃b,GH P e=some b:=by
      cases hb:GH P e with
      | none=>
       cases ht:Cb C (n.toNat*Bj P e) (Bj P e)<;>simp[ht,hb,SN]at hp
      | some b=>exact⟨b,rfl⟩
     obtain⟨ii,hi,z⟩:=OI hb;rw[z]at hr;exact A8 R r (by simp[execOp,u,Instr.index,f,asIntOf,AM (ML d),B,j,sizeOf,typeInfo,hi,hr]) hv
end
section
variable{P:Program}{ev:Operand->Value}{o:Oper}{h:Hp}{k:Nat}{c:Cx}
theorem Nm{op:BinOp}{i:IntKind}{a b:Int}{v:SV}{t:TypeId}(hs:Il op i a b=some v)(h1:op≠.shl)(h2:op≠.shr)(w:World):
 ∃r,(binOp op t (.int i a) (.int i b)).run P w=.ok r w/\V c v r:=by
 cases op<;>simp only[Il]at hs<;>try (first|(cases hs;done)|exact absurd rfl h1|exact absurd rfl h2)
 case quo=>
  split at hs<;>try cases hs
  rename_i hb;exact⟨_,by simp[binOp,Op.intDiv,hb];rfl,by rw[V]⟩
 case rem=>
  split at hs<;>try cases hs
  rename_i hb;exact⟨_,by simp[binOp,Op.intDiv,hb];rfl,by rw[V]⟩
 case and=>cases hs;exact⟨.int i (i.wrap (BitVec.ofInt i.bits a &&& BitVec.ofInt i.bits b).toNat),by simp[binOp,Op.intBits],by rw[V]⟩
 case or=>cases hs;exact⟨.int i (i.wrap (BitVec.ofInt i.bits a ||| BitVec.ofInt i.bits b).toNat),by simp[binOp,Op.intBits],by rw[V]⟩
 case xor=>cases hs;exact⟨.int i (i.wrap (BitVec.ofInt i.bits a ^^^ BitVec.ofInt i.bits b).toNat),by simp[binOp,Op.intBits],by rw[V]⟩
 all_goals
  simp only[qm]at hs;subst hs;exact⟨_,by simp[binOp,Op.intArith,Op.intCmp];rfl,by rw[V]⟩
theorem Th{op:BinOp}{a b:ByteArray}{v:SV}{t:TypeId}(hs:KP op a b=some v)(w:World):
 ∃r,(binOp op t (.string a) (.string b)).run P w=.ok r w/\V c v r:=by
 cases op<;>simp only[KP]at hs<;>try (cases hs;done)
 case add=>
  split at hs<;>try cases hs
  rename_i hb;refine⟨.string (a++b),?_,by rw[V]⟩;simp[binOp,Op.stringOp];have:IntKind.i64.max=9223372036854775807:=by decide
  omega
 case gtr=>cases hs;exact⟨.bool !(Op.bytesLess a.toList b.toList||a.toList==b.toList),by simp[binOp,Op.stringOp],by rw[V]⟩
 all_goals
  simp only[qm]at hs;subst hs;exact⟨_,by simp[binOp,Op.stringOp];rfl,by rw[V]⟩
theorem HP{op:BinOp}{t:TypeId}{x y:Operand}{a b:Value}(c:a≠.nilIface)(hg:∀u,a≠.agg u)(w:World):
 (eqGuard op t x y a b).run P w=.ok () w:=by
 cases a<;>simp at c hg<;>cases op<;>simp[eqGuard]
theorem HQ(d:Nat){t:TypeId}(a b:Bool)(c:P.underlying t=some .bool)(w:World):(Op.equalIn (d+1) t (.bool a) (.bool b)).run P w=.ok (a==b) w:=by
 simp[Op.equalIn,AM c]
theorem Ll(d:Nat){t e:TypeId}(q:Option Addr)(a:P.underlying t=some (.pointer e))(w:World):(Op.equalIn (d+1) t (.pointer q) (.pointer none)).run P w=.ok q.isNone w:=by
 cases q<;>simp[Op.equalIn,AM a]
theorem NK{t:TypeId}(a b:Bool)(c:P.underlying t=some .bool)(w:World):
 (binOp .eql t (.bool a) (.bool b)).run P w=.ok (.bool (a==b)) w/\(binOp .neq t (.bool a) (.bool b)).run P w=.ok (.bool !(a==b)) w:=by
 have:=HQ 9999 a b c w;constructor<;>(simp only[binOp,Op.equal];simp[Op.maxDepth,this])
theorem Ob{t e:TypeId}(q:Option Addr)(a:P.underlying t=some (.pointer e))(w:World):
 (binOp .eql t (.pointer q) (.pointer none)).run P w=.ok (.bool q.isNone) w/\(binOp .neq t (.pointer q) (.pointer none)).run P w=.ok (.bool !q.isNone) w:=by
 have:=Ll 9999 q a w;constructor<;>(simp only[binOp,Op.equal];simp[Op.maxDepth,this])
theorem IJ{t:TypeId}(hb:I5 P t=true):P.underlying t=some .bool:=by
 unfold I5 at hb;split at hb;rename_i a;exact a;cases hb
theorem PN{t:TypeId}(hb:QQ P t=true):∃e,P.underlying t=some (.pointer e):=by
 unfold QQ at hb;split at hb;rename_i e a;exact⟨e,a⟩;cases hb
theorem aH{x:SV}{u:Value}{f:Bool}(d:V c x u)(g:(match x with|.nilp=>some (SV.bool true)|.ptr .. | .q _=>some (.bool false)|_=>none)=some (.bool f)):
 ∃q:Option Addr,u=.pointer q/\q.isNone=f:=by
 cases x<;>simp at g<;>subst g<;>rw[V]at d;exact⟨none,d,rfl⟩;obtain⟨b,st,_,e⟩:=d;exact⟨_,e,rfl⟩;obtain⟨a,vs,e,_⟩:=d;exact⟨_,e,rfl⟩
theorem Xq{x:SV}{u:Value}{f:Bool}(d:V c x u)(g:(match x with|.nilp=>some (SV.bool false)|.ptr .. | .q _=>some (.bool true)|_=>none)=some (.bool f)):
 ∃q:Option Addr,u=.pointer q/\(!q.isNone)=f:=by
 cases x<;>simp at g<;>subst g<;>rw[V]at d;exact⟨none,d,rfl⟩;obtain⟨b,st,_,e⟩:=d;exact⟨_,e,rfl⟩;obtain⟨a,vs,e,_⟩:=d;exact⟨_,e,rfl⟩
theorem Vi{op:BinOp}{t t2:TypeId}{x y:Operand}{out:Cg}{evs:Operand->SV}(C:o.op=.binOp op t x y t2)(s:C0 P evs h k o.op=some out)(R:CB h c)
 (H:∀x∈o.op.operands,V c (evs x) (ev x)):DT P ev o h k c out:=by
 rw[C]at s H;simp only[C0]at s;have g:=H x (by simp[Op.operands]);have d:=H y (by simp[Op.operands]);cases hb:OP (I5 P t) (QQ P t) op (evs x) (evs y)with
 | none=>simp[hb]at s
 | some v =>
  simp only[hb,C9,qN,qm]at s;subst s;have fin:∀a b:Value,ev x=a->ev y=b->a≠.nilIface->(∀u,a≠.agg u)->
   (∃r,(binOp op t a b).run P c.w=.ok r c.w/\V c v r)->DT P ev o h k c { val:=v }:=λa b D z h1 h2 ⟨r,hr,hv⟩=>
   A8 R r (by simp[execOp,C,D,z,HP (P:=P) h1 h2,hr]) hv
  unfold OP at hb;split at hb
  . rename_i i a j b l f;rw[l]at g;rw[f]at d;split at hb<;>try cases hb
    rename_i m;refine fin _ _ (Dt g) (Dt d) mr mr ⟨.int i (i.wrap (a*2 ^ (min b.toNat i.bits))),?_,by rw[V]⟩;simp[binOp,Op.shift,show ¬b<0 by omega]
  . rename_i i a j b l f;rw[l]at g;rw[f]at d;split at hb<;>try cases hb
    rename_i m;refine fin _ _ (Dt g) (Dt d) mr mr ⟨.int i (a.fdiv (2 ^ (min b.toNat i.bits))),?_,by rw[V]⟩;simp[binOp,Op.shift,show ¬b<0 by omega]
  . rename_i i a j b n1 E l f;rw[l]at g;rw[f]at d;split at hb<;>try cases hb
    rename_i m;subst m;exact fin _ _ (Dt g) (Dt d) mr mr (Nm hb n1 E c.w)
  rename_i op' a b l f;rw[l]at g;rw[f]at d;exact fin _ _ (KT g) (KT d) mr mr (Th hb c.w)
  . rename_i a b l f;rw[l]at g;rw[f]at d;split at hb<;>try cases hb
    rename_i m;exact fin _ _ (by simpa[V]using g) (by simpa[V]using d) mr mr ⟨_,(NK a b (IJ m) c.w).1,by rw[V]⟩
  . rename_i a b l f;rw[l]at g;rw[f]at d;split at hb<;>try cases hb
    rename_i m;exact fin _ _ (by simpa[V]using g) (by simpa[V]using d) mr mr ⟨_,(NK a b (IJ m) c.w).2,by rw[V]⟩
  . rename_i f;rw[f]at d;split at hb<;>try cases hb
    rename_i m;obtain⟨e,B⟩:=PN m;obtain⟨p,rfl⟩:∃p,v=.bool p:=by revert hb;split<;>intro hb<;>cases hb<;>exact⟨_,rfl⟩
    obtain⟨q,A,n⟩:=aH g hb;exact fin _ _ A (by simpa[V]using d) mr mr ⟨_,(Ob q B c.w).1,by rw[V,n]⟩
  . rename_i f;rw[f]at d;split at hb<;>try cases hb
    rename_i m;obtain⟨e,B⟩:=PN m;obtain⟨p,rfl⟩:∃p,v=.bool p:=by revert hb;split<;>intro hb<;>cases hb<;>exact⟨_,rfl⟩
    obtain⟨q,A,n⟩:=Xq g hb;exact fin _ _ A (by simpa[V]using d) mr mr ⟨_,(Ob q B c.w).2,by rw[V,n]⟩
  cases hb
theorem Yc{op:UnOp}{t:TypeId}{x:Operand}{out:Cg}{evs:Operand->SV}(f:o.op=.unOp op t x)(a:C0 P evs h k o.op=some out)(R:CB h c)
 (H:∀x∈o.op.operands,V c (evs x) (ev x)):DT P ev o h k c out:=by
 rw[f]at a H;simp only[C0]at a;have d:=H x (by simp[Op.operands]);split at a<;>try cases a
 rename_i b e;rw[e]at d;exact A8 R (.bool !b) (by simp[execOp,f,HU d,Op.unary]) (by rw[V]);rename_i i n e;rw[e]at d;exact A8 R (.int i (i.wrap (0-n))) (by simp[execOp,f,Dt d,Op.unary,Op.intArith]) (by rw[V])
theorem Hv{t:TypeId}{i:IntKind}(hb:OX P t=some i):P.underlying t=some (.int i):=by
 unfold OX at hb;split at hb;rename_i a;cases hb;exact a;cases hb
theorem Ry{t t2:TypeId}{x:Operand}{out:Cg}{evs:Operand->SV}(b:o.op=.convert t t2 x)(a:C0 P evs h k o.op=some out)(R:CB h c)
 (H:∀x∈o.op.operands,V c (evs x) (ev x)):DT P ev o h k c out:=by
 rw[b]at a H;simp only[C0]at a;have d:=H x (by simp[Op.operands]);split at a<;>try cases a
 rename_i i j i' n e f g;rw[g]at d;exact A8 R (.int j (j.wrap n)) (by simp[execOp,b,Dt d,convert,AM (Hv e),AM (Hv f),Conv.intToInt]) (by rw[V])
theorem GN{evs:Operand->SV}(xs:Array Operand)(H:∀x∈xs.toList,V c (evs x) (ev x)):AU (V c) (xs.toList.map evs) (xs.map ev).toList:=by
 simp only[Array.toList_map];refine AU.of_get mr λi a b h1 h2=>?_;simp only[vo,qT]at h1 h2;obtain⟨p,hp,rfl⟩:=h1;obtain⟨q,d,rfl⟩:=h2;rw[hp]at d;cases d;exact H p (vJ hp)
theorem QK{f:Fn}{a b:Array Operand}{out:Cg}{evs:Operand->SV}(g:o.op=.makeFunc f a b)(e:C0 P evs h k o.op=some out)(R:CB h c)
 (H:∀x∈o.op.operands,V c (evs x) (ev x)):DT P ev o h k c out:=by
 rw[g]at e H;simp only[C0,C9,qm]at e;subst e;refine A8 R (.func f (a.map ev) (b.map ev)) (by simp[execOp,g,Instr.makeFunc]) ?_;rw[V];exact⟨(a.map ev).toList,(b.map ev).toList,by rw[Array.toArray_toList,Array.toArray_toList],BE.2 (GN a λx d=>H x (by simp[Op.operands]at d ⊢;exact .inl d)),BE.2 (GN b λx d=>H x (by simp[Op.operands]at d ⊢;exact .inr d))⟩
theorem Rz{x:Operand}{i:Nat}{out:Cg}{evs:Operand->SV}(e:o.op=.extract x i)(a:C0 P evs h k o.op=some out)(R:CB h c)
 (H:∀x∈o.op.operands,V c (evs x) (ev x)):DT P ev o h k c out:=by
 rw[e]at a H;simp only[C0]at a;have f:=H x (by simp[Op.operands]);split at a<;>try cases a
 rename_i vs g;cases hv:vs[i]? with
 | none=>simp[hv]at a
 | some v=>
  simp only[hv,C9,qN,qm]at a;subst a;rw[g,V]at f;obtain⟨us,l,j⟩:=f;obtain⟨u,b,d⟩:=(BE.1 j).get hv;exact A8 R u (by simp[execOp,e,l,Instr.extract,b]) d
theorem R6{t:TypeId}{r:Option Operand}{out:Cg}{evs:Operand->SV}(e:o.op=.makeMap t r)(a:C0 P evs h k o.op=some out)(R:CB h c)(hk:c.ρ k=none):
 DT P ev o h k c out:=by
 rw[e]at a;simp only[C0]at a;split at a<;>try cases a
 rename_i b;simp only[qg,Option.isNone_iff_eq_none]at b;obtain⟨rfl,b⟩:=b;have E:=c.zf k (.map #[] 0) hk;refine⟨.map (some c.w.heap.size),c.alloc k (.map #[] 0),.inl ?_,by rw[V];exact⟨_,by simp[Cx.alloc],rfl⟩,R.alloc hk ⟨c.w.heap.size,#[],0,by simp[Cx.alloc],by simp[Cx.alloc,Bu],trivial,by simp[Hb]⟩,E,λj d=>?_⟩;simp[execOp,e,Instr.makeMap,Cx.alloc];simp at d;simp[Cx.alloc,d]
theorem JZ{z:SV}{b:Value}(hv:V c z b)(d:z.B=true)(n:Nat):
 AU (V c) (List.replicate n z.cells).flatten (List.replicate n b.cells.toList).flatten/\∀x∈(List.replicate n b.cells.toList).flatten,x.oneCell'=true:=by
 obtain⟨h1,h2⟩:=hv.cells d;refine⟨AU.flatten (AU.replicate h1 n),λx a=>?_⟩;simp only[List.mem_flatten,List.mem_replicate]at a;obtain⟨l,⟨_,rfl⟩,a⟩:=a;exact h2 x a
theorem F5(a:Array Value)(b:a.size≠0):∀n,((Array.range (n*a.size)).map λi=>a[i % a.size]!).toList=(List.replicate n a.toList).flatten
 | 0=>by simp
 | n+1=>by
  have c:=F5 a b n;simp only[Array.toList_map,Array.toList_range]at *;rw[Nat.succ_mul,List.range_add,qc,c,List.replicate_succ',List.flatten_append];congr 1;simp only[vO,List.flatten_cons,List.flatten_nil,qV];apply List.ext_getElem?;intro i;by_cases hi:i<a.size;simp[hi,Nat.add_mod,Nat.mod_eq_of_lt hi,getElem!_pos];simp[hi]
theorem OW{t:TypeId}{x y:Operand}{out:Cg}{evs:Operand->SV}(s:o.op=.makeSlice t x y)(l:C0 P evs h k o.op=some out)(R:CB h c)(hk:c.ρ k=none)
 (H:∀x∈o.op.operands,V c (evs x) (ev x)):DT P ev o h k c out:=by
 rw[s]at l H;simp only[C0]at l;have v:=H x (by simp[Op.operands]);have A:=H y (by simp[Op.operands]);split at l<;>try cases l
 rename_i e n m B C D;rw[C]at v;rw[D]at A;split at l<;>try cases l
 rename_i F;obtain⟨h0,rfl,hr,g,hlen,hz⟩:=F;obtain⟨i,z,hi,r,q⟩:=Cc g;have j:=DX c z;rw[<-q]at j;obtain⟨I,G⟩:=JZ j g n.toNat;have a:z.cells.size=Bj P e:=by have:=(j.cells g).1.length;simp at this;omega
 have p:Bj P e=i.size:=by simp[Bj,Program.cellsOf,hi]
 have hby:Cv P e=i.bytes:=by simp[Cv,Program.bytesOf,hi]
 simp only[F6,qg,decide_eq_true_eq]at hr;have d:(i.bytes:Int)*n<=281474976710656:=by
  have:(i.bytes:Int)*n<=65536*1073741824:=Int.mul_le_mul mq mq h0 mq;omega
 have b:=F5 z.cells mq n.toNat;refine Ko (vs:=madeCells z.cells (n.toNat*z.cells.size)) (e:=e) (u:=.slice (some ⟨c.w.heap.size,0,none⟩) n.toNat n.toNat) R hk ?_ (by unfold madeCells;rw[b];exact I) (by unfold madeCells;rw[b];exact G)
  (λc' g1 E=>by rw[V];exact⟨_,0,n.toNat,g1,rfl,IO _,λ_=>rfl,by rw[E];simp[madeCells,a]⟩)
 have f:=run_make (P:=P) c.w t e i z (A7 B) hi r .i64 .i64 n n h0 (Int.le_refl _) d mq;rw[<-p,<-a]at f;simp[execOp,s,Dt v,Dt A,f]
theorem N6{t:TypeId}{len:Nat}{ps:Array (Nat×Operand)}{out:Cg}{evs:Operand->SV}(E:o.op=.buildSlice t len ps)(d:C0 P evs h k o.op=some out)(R:CB h c)(hk:c.ρ k=none)
 (H:∀x∈o.op.operands,V c (evs x) (ev x)):DT P ev o h k c out:=by
 rw[E]at d H;simp only[C0]at d;split at d<;>try cases d
 rename_i e A;split at d<;>try cases d
 rename_i G;obtain⟨I,j,hlen⟩:=G;obtain⟨n,B⟩:=I;obtain⟨i,z,hi,D,C⟩:=Cc j;have m:=DX c z;rw[<-C]at m;obtain⟨K,J⟩:=JZ m j len;have a:z.cells.size=Bj P e:=by have:=(m.cells j).1.length;simp at this;omega
 have l:Bj P e=i.size:=by simp[Bj,Program.cellsOf,hi]
 have b:=F5 z.cells (by rw[a];intro h0;simp[h0]at n) len;cases s:Ji (λi=>some (i*Bj P e,Bj P e)) (List.replicate len (BU P e).cells).flatten (ps.toList.map λp=>(p.1,evs p.2))with
 | none=>simp[s]at d
 | some cs =>
  simp only[s,qN,qm]at d;subst d;obtain⟨r,f,v,y⟩:=Nb (c:=c) (place':=λi=>some (i*Bj P e,Bj P e)) (λi p hp=>hp) _ _ _ ((Array.range (len*z.cells.size)).map λi=>z.cells[i % z.cells.size]!) cs
   (O7 ps λp hp=>H p.2 (Iv hp)) (by rw[b];exact K) (by rw[b];exact J) s
  have q:=run_buildSlice (P:=P) c.w t e len (ps.map λ(i,x)=>(i,ev x)) r i z (A7 A) hi D (by rw[l]at B;omega) (by rw[<-l];exact n) (by rw[<-l,<-a];rw[<-a]at f;exact f);have g:r.size=len*Bj P e:=by
   have h1:=Oj f;rw[h1];simp[a]
  refine Ko (vs:=r) (e:=e) (u:=.slice (some ⟨c.w.heap.size,0,none⟩) len len) R hk (by simp[execOp,E,q]) v y
   (λc' g1 F=>by rw[V];exact⟨_,0,len,g1,rfl,IO _,λ_=>rfl,by rw[F,g];simp⟩)
theorem Qm{s:Option SV}{v:Option Value}{d:Option Int}{n:Int}(hb:Sa s d=some n)(hv:∀x,s=some x->∃u,v=some u/\V c x u)(b:s=none->v=none):
 (s=none/\v=none/\d=some n)\/∃i,v=some (.int i n):=by
 unfold Sa at hb;split at hb;exact .inl ⟨rfl,b rfl,hb⟩;rename_i d' i m;obtain⟨u,e,a⟩:=hv _ rfl;cases hb;exact .inr ⟨i,by rw[e,Dt a]⟩;cases hb
theorem Ho{i:IntKind}{n:Int}{y:Nat}{code:BoundsCode}(h0:0<=n)(h1:n<=y)(w:World):(Instr.sliceBound (.int i n) y code).run P w=.ok n.toNat w:=by
 simp[Instr.sliceBound,asIntOf,h0,h1]
theorem HN{isS:Bool}{len cap l m:Nat}{lo hi:Option Value}(b:(lo=none/\l=0)\/∃i,lo=some (.int i l))(a:(hi=none/\m=len)\/∃i,hi=some (.int i m))
 (h1:l<=m) (h2:m<=len) (h3:len<=cap) (w:World):(Instr.sliceBounds isS len cap lo hi none).run P w=.ok (l,m,cap) w:=by
 have hb:=λ(code:BoundsCode)(i:IntKind)=>Ho (P:=P) (i:=i) (n:=(l:Int)) (y:=m) (code:=code) mq mq w;have IZ:=λ(code:BoundsCode)(i:IntKind)=>Ho (P:=P) (i:=i) (n:=(m:Int)) (y:=cap) (code:=code) mq mq w;simp only[Int.toNat_natCast]at hb IZ;rcases b with⟨rfl,c⟩|⟨i,rfl⟩<;>rcases a with⟨rfl,hm⟩|⟨j,rfl⟩
 simp[Instr.sliceBounds,c,hm];simp[Instr.sliceBounds,c,IZ];subst hm;simp[Instr.sliceBounds,hb];simp[Instr.sliceBounds,hb,IZ]
theorem Iz{isS:Bool}{len cap l m x:Nat}{lo hi:Option Value}{d:IntKind}(b:(lo=none/\l=0)\/∃i,lo=some (.int i l))(a:∃i,hi=some (.int i m))
 (h1:l<=m) (h2:m<=x) (h3:x<=cap) (w:World):(Instr.sliceBounds isS len cap lo hi (some (.int d x))).run P w=.ok (l,m,x) w:=by
 obtain⟨j,rfl⟩:=a;have hb:=λ(code:BoundsCode)(i:IntKind)=>Ho (P:=P) (i:=i) (n:=(l:Int)) (y:=m) (code:=code) mq mq w;have IZ:=λ(code:BoundsCode)(i:IntKind)=>Ho (P:=P) (i:=i) (n:=(m:Int)) (y:=x) (code:=code) mq mq w;have Mi:=λ(code:BoundsCode)(i:IntKind)=>Ho (P:=P) (i:=i) (n:=(x:Int)) (y:=cap) (code:=code) mq mq w;simp only[Int.toNat_natCast]at hb IZ Mi;rcases b with⟨rfl,c⟩|⟨i,rfl⟩
 simp[Instr.sliceBounds,c,IZ,Mi];simp[Instr.sliceBounds,hb,IZ,Mi]
end
section
variable{P:Program}{ev:Operand->Value}{o:Oper}{h:Hp}{k:Nat}{c:Cx}
theorem Fh{evs:Operand->SV}(x:Option Operand)(H:∀y,x=some y->V c (evs y) (ev y)):
 (∀s,x.map evs=some s->∃u,x.map ev=some u/\V c s u)/\(x.map evs=none->x.map ev=none):=by
 cases x with
 | none=>simp
 | some y=>simpa using H y rfl
theorem Zx{z:Nat}{es:List SV}{vs:List Value}(hE:VE c z es vs)(l m:Nat)(hm:m<=es.length)(hl:l<=m):
 VE c z ((es.take m).drop l) ((vs.drop (l*z)).take ((m-l)*z)):=by
 induction es generalizing vs l m with
 | nil=>simp at hm;subst hm;simp at hl;subst hl;rw[VE]at hE;subst hE;simp[VE]
 | cons e es ih =>
  have hE':=hE;rw[VE]at hE;obtain⟨u,r,rfl,hz,hs,hv,hr⟩:=hE;cases m with
  | zero=>simp at hl;subst hl;simp[VE]
  | succ m =>
   simp only[qo]at hm;cases l with
   | zero=>
    have:=ih hr 0 m mq mq;simp only[Nat.zero_mul,vT,wy,List.take_succ_cons]at *;rw[VE];refine⟨u,r.take (m*z),?_,hz,hs,hv,this⟩;rw[Nat.succ_mul,Nat.add_comm,List.take_append,qQ (by simp[hz])];congr 2;simp[hz]
   | succ l=>
    have:=ih hr l m mq mq;simp only[List.take_succ_cons,List.drop_succ_cons];rw[Nat.succ_mul,Nat.add_comm (l*z),<-List.drop_drop,List.drop_left' (by simp[hz]),show m+1-(l+1)=m-l by omega];exact this
theorem I0{t e:TypeId}(d:P.underlying t=some (.slice e)){z:Nat}(f:∃c,P.info? e=some c/\c.size=z)(a:Option Addr)(len cap l m x:Nat){lo hi mx:Option Value}{w:World}
 (hb:(Instr.sliceBounds true len cap lo hi mx).run P w=.ok (l,m,x) w):
 (Instr.sliceAt t (.slice a len cap) lo hi mx).run P w=.ok (.slice (if x=l then a else a.map (·.add (l*z))) (m-l) (x-l)) w:=by
 obtain⟨c,b,rfl⟩:=f;simp[Instr.sliceAt,AM d,Instr.slice,hb,sizeOf,typeInfo,b]
theorem atc{α:Type}{c:Cx}{F:World->α->Prop}{G:α->Prop}(H:∃r,(∀w,F w r)/\G r):∃r,F c.w r/\G r:=let⟨r,h,g⟩:=H;⟨r,h c.w,g⟩
theorem JS{t e:TypeId}(s:P.underlying t=some (.slice e)){z l m:Nat}{es:List SV}{full f:Bool}{u:Value}{lo hi mx:Option Value}(v:V c (.y z es full) u)
 (h:∃ii,P.info? e=some ii/\ii.size=Bj P e) (B:es=[]\/Bj P e=z) (i:l<=m) (hm:m<=es.length)
 (hb:∀cap,es.length<=cap->(full=true->cap=es.length)->∃x,m<=x/\x<=cap/\(f=true->x=m)/\∀w,(Instr.sliceBounds true es.length cap lo hi mx).run P w=.ok (l,m,x) w):
 ∃r,(∀w,(Instr.sliceAt t u lo hi mx).run P w=.ok r w)/\V c (.y z ((es.take m).drop l) f) r:=by
 rw[V]at v;rcases v with⟨rfl,rfl⟩|⟨a,cap,vs,rfl,g,d,j,q⟩
 obtain⟨x,h1,h2,p,n⟩:=hb 0 (IO _) (λ_=>rfl);have o:x=0:=by omega
 simp at hm;subst hm;simp at i;subst i;subst o;exact⟨_,λw=>I0 s h none 0 0 0 0 0 (n w),by rw[V];exact .inl ⟨by simp,by simp⟩⟩;obtain⟨x,h1,h2,p,n⟩:=hb cap g d;refine⟨_,λw=>I0 s h (some a) es.length cap l m x (n w),?_⟩;rw[V];have b:((es.take m).drop l).length=m-l:=by simp;omega
 refine .inr ⟨if x=l then a else a.add (l*Bj P e),x-l,(vs.drop (l*z)).take ((m-l)*z),?_,by rw[b];omega,λA=>by rw[b,p A],?_,Zx q l m hm i⟩;rw[b];split<;>rfl;split;rename_i hxl;have:m-l=0:=by omega
 rw[this];simp;exact⟨by simp,by simp,by simp,by simp⟩;rcases B with rfl|rfl;simp at hm;subst hm;simp at i;subst i;simp[Addr.add];exact⟨by simp,by simp,by simp,by simp⟩;by_cases k:vs=[];have h0:=PX q;have h1:l*Bj P e<=es.length*Bj P e:=wd _ mq;rw[k]at h0 ⊢;rw[vU]at h0;simp;exact⟨by simp,by simp,by simp,by simp⟩;rw[DY (j.spot k)];exact j.sub _ _
theorem Rx{t e:TypeId}(q:P.underlying t=some (.slice e)){j off z l m len:Nat}{full f:Bool}{u:Value}{lo hi mx:Option Value}(n:V c (.sl j off z len full) u)
 (i:∃ii,P.info? e=some ii/\ii.size=Bj P e) (s:Bj P e=z) (hl:l<=m) (_hm:m<=len)
 (hb:∀cap,len<=cap->(full=true->cap=len)->∃x,m<=x/\x<=cap/\(f=true->x=m)/\(Instr.sliceBounds true len cap lo hi mx).run P c.w=.ok (l,m,x) c.w):
 ∃r,(Instr.sliceAt t u lo hi mx).run P c.w=.ok r c.w/\V c (if l=m/\l≠0 then .y z [] f else .sl j (off+l*z) z (m-l) f) r:=by
 rw[V]at n;obtain⟨b,st,cap,hρ,rfl,d,a,hroom⟩:=n;obtain⟨x,h1,h2,k,o⟩:=hb cap d a;refine⟨_,I0 q i _ len cap l m x o,?_⟩;rw[s];split;rename_i p;rw[V];refine .inr ⟨if x=l then⟨b,st+off,none⟩else(⟨b,st+off,none⟩:Addr).add (l*z),x-l,[],?_,by simp,λg=>by simp;have:=k g;omega,?_,by rw[VE]⟩;rw[show m-l=0 by omega];split<;>rfl;split;exact⟨by simp,by simp,by simp,by simp⟩;rw[Gg];exact⟨by simp,by simp,by simp,by simp⟩;rename_i p;rw[V];refine⟨b,st,x-l,hρ,?_,by omega,λg=>by rw[k g],?_⟩;split;rename_i hxl;have:l=0:=by omega
 subst this;simp;simp[Gg,qq];have:l*z+(x-l)*z=x*z:=by rw[<-wi];congr 1;omega
 have h5:x*z<=cap*z:=wd _ h2;omega
theorem Vm{t:TypeId}{x:Operand}{lo hi mx:Option Operand}{out:Cg}{evs:Operand->SV}(ho:o.op=.slice t x lo hi mx)(hs:C0 P evs h k o.op=some out)(R:CB h c)
 (H:∀x∈o.op.operands,V c (evs x) (ev x)):DT P ev o h k c out:=by
 rw[ho]at hs H;simp only[C0]at hs;have M:=H x (by simp[Op.operands]);have S:=Fh (c:=c) (ev:=ev) (evs:=evs) lo λy e=>H y (by subst e;simp[Op.operands]);have Q:=Fh (c:=c) (ev:=ev) (evs:=evs) hi λy e=>H y (by subst e;simp[Op.operands]);have hmx:=Fh (c:=c) (ev:=ev) (evs:=evs) mx λy e=>H y (by subst e;simp[Op.operands]);cases hb:HZ P t (evs x) (lo.map evs) (hi.map evs) (mx.map evs)with
 | none=>simp[hb]at hs
 | some v =>
  simp only[hb,C9,qN,qm]at hs;subst hs;suffices O:∃r,(Instr.sliceAt t (ev x) (lo.map ev) (hi.map ev) (mx.map ev)).run P c.w=.ok r c.w/\V c v r by
   obtain⟨r,hr,hv⟩:=O;exact A8 R r (by simp[execOp,ho,hr]) hv
  have A:∀{s:Option SV} {vv:Option Value} {d:Option Int} {n:Int} {N:Nat},Sa s d=some n->0<=n->((∀x,s=some x->∃u,vv=some u/\V c x u)/\(s=none->vv=none))->d=some (N:Int)->
   (vv=none/\n.toNat=N)\/∃i,vv=some (.int i n.toNat):=λhb h0 hv hd=>by
   rcases Qm hb hv.1 hv.2 with⟨_,e,e2⟩|⟨i,e⟩
   rw[hd]at e2;cases e2;exact .inl ⟨e,by simp⟩;exact .inr ⟨i,by rw[e];congr 2;omega⟩
  unfold HZ at hb;split at hb
  . rename_i s K;rw[K]at M;have hx':=KT M;split at hb<;>try cases hb
    rename_i hc;simp only[vV,qS,not_or,vI,Option.isSome_map]at hc;have hmn:mx=none:=by cases mx<;>simp at hc ⊢
    subst hmn;split at hb<;>try cases hb
    rename_i l m Z hm;split at hb<;>try cases hb
    rename_i B;have T:=Eb hc.1;have b:=A Z B.1 S (by rfl:some (0:Int)=some ((0:Nat):Int));have a:=A hm mq Q rfl;have hrun:=HN (P:=P) (isS:=false) (len:=s.size) (cap:=s.size) b a mq mq (IO _) c.w;refine⟨.string (s.extract l.toNat m.toNat),?_,by rw[V]⟩;simp[Instr.sliceAt,AM T,Instr.slice,hx',hrun]
  . rename_i z es full K;rw[K]at M;cases g:A5 P t with
    | none=>simp[g]at hb
    | some e =>
     have T:=A7 g;simp only[g,Option.any_some]at hb;split at hb<;>try cases hb
     rename_i J;simp only[qS,vI,qg,bne_iff_ne,ne_eq,vV,beq_iff_eq,List.isEmpty_iff]at J;obtain⟨Y,J⟩:=J;obtain⟨ii,E,G⟩:=GR Y;split at hb<;>try cases hb
     rename_i l m Z hm;split at hb<;>try cases hb
     rename_i B;have b:=A Z B.1 S (by rfl:some (0:Int)=some ((0:Nat):Int));have a:=A hm mq Q rfl;cases mx with
     | none=>
      simp only[Option.map_none,qm]at hb;subst hb;refine atc (JS T M ⟨ii,E,G.symm⟩ J mq mq λcap h1 h2=>⟨cap,by omega,IO _,λL=>?_,λw=>HN b a mq mq h1 w⟩);simp at L;have:=h2 L.1;omega
     | some mo=>
      have F:=hmx.1 _ rfl;simp only[vE]at hb F;split at hb<;>try cases hb
      rename_i p;cases p
      . rename_i i x p;simp only[qm]at p;obtain⟨uu,U,I⟩:=F;cases U;rw[p]at I;have W:=Dt I;split at hb<;>try cases hb
        rename_i C;simp only[qg,decide_eq_true_eq]at C;have q:∃i,Option.map ev hi=some (.int i m.toNat):=by
         rcases a with⟨K,_⟩|h;cases hi<;>simp at K C;exact h
        have X:(x:Int)=(x.toNat:Int):=by omega
        refine atc (JS T M ⟨ii,E,G.symm⟩ J mq mq λcap h1 h2=>⟨x.toNat,by omega,by omega,λL=>?_,λw=>?_⟩);simp at L;omega;rw[vE,W,X];exact Iz b q mq mq mq w
  . rename_i j off z len full K;rw[K]at M;cases g:A5 P t with
    | none=>simp[g]at hb
    | some e =>
     have T:=A7 g;simp only[g,Option.any_some]at hb;split at hb<;>try cases hb
     rename_i J;simp only[qS,vI,qg,bne_iff_ne,ne_eq,beq_iff_eq]at J;obtain⟨Y,J⟩:=J;obtain⟨ii,E,G⟩:=GR Y;split at hb<;>try cases hb
     rename_i l m Z hm;split at hb<;>try cases hb
     rename_i B;have b:=A Z B.1 S (by rfl:some (0:Int)=some ((0:Nat):Int));have a:=A hm mq Q rfl;have hl0:(l=m/\l≠0)↔(l.toNat=m.toNat/\l.toNat≠0):=by omega
     have hml:(m-l).toNat=m.toNat-l.toNat:=by omega
     cases mx with
     | none =>
      simp only[Option.map_none,hl0,hml]at hb;have:=Rx (f:=full&&m==len) (lo:=lo.map ev) (hi:=hi.map ev) (mx:=none) (l:=l.toNat) (m:=m.toNat) T M ⟨ii,E,G.symm⟩ J mq mq
       λcap h1 h2=>⟨cap,by omega,IO _,λL=>by simp at L;have:=h2 L.1;omega,HN b a mq mq h1 c.w⟩
      split at hb<;>(rename_i D;simp only[qm]at hb;subst hb;first|(rw[my D]at this;exact this)|(rw[mw D]at this;exact this))
     | some mo=>
      have F:=hmx.1 _ rfl;simp only[vE,hl0,hml]at hb F;split at hb<;>try cases hb
      rename_i p;cases p
      . rename_i i x p;simp only[qm]at p;obtain⟨uu,U,I⟩:=F;cases U;rw[p]at I;have W:=Dt I;split at hb<;>try cases hb
        rename_i C;simp only[qg,decide_eq_true_eq]at C;have q:∃i,Option.map ev hi=some (.int i m.toNat):=by
         rcases a with⟨K,_⟩|h;cases hi<;>simp at K C;exact h
        have X:(x:Int)=(x.toNat:Int):=by omega
        have:=Rx (f:=x==m) (lo:=lo.map ev) (hi:=hi.map ev) (mx:=some (ev mo)) (l:=l.toNat) (m:=m.toNat) T M ⟨ii,E,G.symm⟩ J mq mq
         λcap h1 h2=>⟨x.toNat,by omega,by omega,λL=>by simp at L;omega,by rw[W,X];exact Iz b q mq mq mq c.w⟩
        split at hb<;>(rename_i D;simp only[qm]at hb;subst hb;first|(rw[my D]at this;exact this)|(rw[mw D]at this;exact this))
  cases hb
end
section
variable{P:Program}{ev:Operand->Value}{o:Oper}{h:Hp}{k:Nat}{c:Cx}
theorem Kl{s:SV}{u:Value}{xs:List SV}{n:Nat}(R:CB h c)(hf:flat h s=some xs)(hn:In s=some n)(hv:V c s u):
 ∃a cap vs,u=.slice a n cap/\n<=cap/\AU (V c) xs vs/\(∀x∈vs,x.oneCell'=true)/\(∀z,OM z s=true->vs.length=n*z)/\
  (match a with|some a=>(vs≠[]->a.spot=none)/\∀i x,vs[i]? = some x->c.w.cell? ⟨a.block,a.off+i,none⟩=some x|none=>n=0/\cap=0/\vs=[]):=by
 unfold flat at hf;split at hf;rename_i z es full;simp only[qm]at hf;simp only[In,qm]at hn;subst hf;subst hn;rw[V]at hv;rcases hv with⟨rfl,rfl⟩|⟨a,cap,vs,rfl,hcap,_,hst,hE⟩
 exact⟨none,0,[],rfl,by simp,by simp[AU],by simp,by simp,rfl,rfl,rfl⟩;obtain⟨us,h1,h2,h3,rfl⟩:=Ju.1 hE;refine⟨some a,cap,_,rfl,hcap,?_,hst.one,λz' hz=>?_,hst.spot,hst.cell⟩;clear hst hE h2 hcap;rename_i hfl;clear hfl
 induction es generalizing us with
 | nil=>rw[h1.nil_left];trivial
 | cons e es ih =>
  match us,h1 with
  | u::us,h1=>
   simp only[va];exact AU.append (h1.1.cells (h3 e mr)).1 (ih us h1.2 λx hx=>h3 x (by simp[hx]))
  | [],h1=>exact h1.elim
 have hl:=h1.length;simp only[OM,vV,List.isEmpty_iff,beq_iff_eq]at hz;have gen:∀us:List Value,(∀u∈us,u.cells.size=z)->(us.flatMap (·.cells.toList)).length=us.length*z:=by
  intro us
  induction us with
  | nil=>simp
  | cons u us ih=>intro h;simp only[va,ql,qo,Nat.succ_mul,wh];rw[ih λx hx=>h x (by simp[hx]),h u mr];omega
 rw[gen us h2];rcases hz with rfl|rfl;simp at hl;simp[<-hl];rw[hl];rename_i o' off z len full;simp only[In,qm]at hn;subst hn;split at hf;rename_i cs ty ho;rw[V]at hv;obtain⟨b,st,cap,hρ,rfl,hcap,_,_⟩:=hv;obtain⟨b',st',vs,hρ',hc,h1,hcell⟩:=(R.obj _ _ ho).cell;rw[hρ]at hρ';cases hρ';obtain⟨hle,rfl⟩:=E4 hf;refine⟨_,cap,(vs.drop off).take (len*z),rfl,hcap,(hc.drop off).take _,λx hx=>h1 x (vB (vA hx)),λz' hz=>?_,λ_=>rfl,λi x hx=>?_⟩;simp only[OM,beq_iff_eq]at hz;subst hz;have:=hc.length;simp;omega;rw[vK]at hx;split at hx;rw[vw]at hx;simp only[qq];exact hcell _ _ hx;cases hx;cases hf;cases hf
theorem L4{α:Type}{a:Array α}{x:α}(h:a.toList=[x]):a = #[x]:=by apply wG;simpa using h
theorem Je{α:Type}{a:Array α}{x y:α}(h:a.toList=[x,y]):a = #[x,y]:=by apply wG;simpa using h
theorem LE{α:Type}{a:Option α}(h:a.isSome=true):∃x,a=some x:=vW.1 h
theorem CS{b:Builtin}{a:Array TypeId}{args:Array Operand}(c:o.op=.call { callee:=.builtin b,args:=args,argTypes:=a })(w w':World)(r:Value)
 (hr:∀cs,(builtin b a o.type cs (args.map ev)).run P w=.ok (.value r) w'):(execOp ev o).run P w=.ok (.value r) w':=by
 simp only[execOp,c,resolve];simp only[Sem.run_bind,Sem.run_pure,Result.andThen_ok,invoke];exact hr _
theorem XG{l:Array TypeId}{args:Array Operand}{out:Cg}{evs:Operand->SV}(C:o.op=.call { callee:=.builtin .len,args:=args,argTypes:=l })
 (d:Ak P h k .len l.toList (args.toList.map evs)=some out) (R:CB h c) (H:AU (V c) (args.toList.map evs) (args.map ev).toList):DT P ev o h k c out:=by
 generalize hA:args.toList.map evs=A at d H;generalize v:args.map ev=U at H;have g:=λ(w w':World)(r:Value)=>CS (P:=P) (ev:=ev) C w w' r;rw[v]at g;simp only[Ak]at d;split at d<;>try (first|contradiction|(cases d;done))
 rename_i t x _ m;obtain⟨u,D,hv⟩:=H.single;have i:=L4 m;have p:=L4 D;subst i;subst p;have fin:∀n:Nat,(∀w,w.heap=c.w.heap->(Builtin.len_ #[t] o.type #[u]).run P w=.ok (.int .i64 n) w)->DT P ev o h k c { val:=.int .i64 n }:=λn B=>
  A8 R (.int .i64 n) (g _ _ _ (λcs=>by simp[builtin,B _ rfl])) (by rw[V])
 split at d
 . rename_i s;split at d<;>try cases d
   rename_i ht;exact fin _ λw _=>by simp[Builtin.len_,AM (Eb ht),KT hv,goInt]
 . rename_i z es full;split at d<;>try cases d
   rename_i ht;obtain⟨e,f⟩:=LE ht;rw[V]at hv;rcases hv with⟨rfl,rfl⟩|⟨a,cap,vs,rfl,_⟩
   exact fin _ λw _=>by simp[Builtin.len_,AM (A7 f),goInt]
   exact fin _ λw _=>by simp[Builtin.len_,AM (A7 f),goInt]
 . rename_i E off z len full;split at d<;>try cases d
   rename_i ht;obtain⟨e,f⟩:=LE ht;rw[V]at hv;obtain⟨b,st,cap,_,rfl,_⟩:=hv;exact fin _ λw _=>by simp[Builtin.len_,AM (A7 f),goInt]
 . rename_i E;split at d<;>try cases d
   rename_i es j;split at d<;>try cases d
   rename_i ht;obtain⟨⟨kt,e⟩,f⟩:=LE ht;rw[V]at hv;obtain⟨b,hρ,rfl⟩:=hv;obtain⟨b',ents,clock,g1,q,g3,_⟩:=R.obj _ _ j;rw[hρ]at g1;cases g1;have y:=g3.length;have:=fin es.length λw hw=>by simp[Builtin.len_,AM (Ea f),goInt,getObj,Sem.run,hw,q,y]
   exact this
 . split at d<;>try cases d
   rename_i ht;obtain⟨e,f⟩:=LE ht;rw[V]at hv;subst hv;exact fin 0 λw _=>by simp[Builtin.len_,AM (A7 f),goInt]
 cases d
theorem XE{l:Array TypeId}{args:Array Operand}{out:Cg}{evs:Operand->SV}(v:o.op=.call { callee:=.builtin .cap,args:=args,argTypes:=l })
 (d:Ak P h k .cap l.toList (args.toList.map evs)=some out) (R:CB h c) (H:AU (V c) (args.toList.map evs) (args.map ev).toList):DT P ev o h k c out:=by
 generalize hA:args.toList.map evs=A at d H;generalize q:args.map ev=U at H;have f:=λ(w w':World)(r:Value)=>CS (P:=P) (ev:=ev) v w w' r;rw[q]at f;simp only[Ak]at d;split at d<;>try (first|contradiction|(cases d;done))
 rename_i t x _ m;obtain⟨u,y,hv⟩:=H.single;have i:=L4 m;have p:=L4 y;subst i;subst p;have fin:∀n:Nat,(Builtin.cap_ #[t] o.type #[u]).run P c.w=.ok (.int .i64 n) c.w->DT P ev o h k c { val:=.int .i64 n }:=λn s=>
  A8 R (.int .i64 n) (f _ _ _ (λcs=>by simp[builtin,s])) (by rw[V])
 split at d
 . rename_i z es;split at d<;>try cases d
   rename_i ht;obtain⟨e,g⟩:=LE ht;rw[V]at hv;rcases hv with⟨rfl,rfl⟩|⟨a,cap,vs,rfl,_,j,_⟩
   exact fin _ (by simp[Builtin.cap_,AM (A7 g),goInt]);exact fin _ (by simp[Builtin.cap_,AM (A7 g),goInt,j rfl])
 . rename_i o' off z len;split at d<;>try cases d
   rename_i ht;obtain⟨e,g⟩:=LE ht;rw[V]at hv;obtain⟨b,st,cap,_,rfl,_,j,_⟩:=hv;exact fin _ (by simp[Builtin.cap_,AM (A7 g),goInt,j rfl])
 cases d
theorem XI{g:Array TypeId}{args:Array Operand}{out:Cg}{evs:Operand->SV}(p:o.op=.call { callee:=.builtin .min,args:=args,argTypes:=g })
 (d:Ak P h k .min g.toList (args.toList.map evs)=some out) (R:CB h c) (H:AU (V c) (args.toList.map evs) (args.map ev).toList):DT P ev o h k c out:=by
 generalize hA:args.toList.map evs=A at d H;generalize n:args.map ev=U at H;have e:=λ(w w':World)(r:Value)=>CS (P:=P) (ev:=ev) p w w' r;rw[n]at e;have m:Ak P h k .min g.toList A=(Xn A).bind C9:=by unfold Ak;split<;>simp_all
 rw[m]at d;unfold Xn at d;split at d
 . rename_i i a j b;split at d<;>try (simp at d;done)
   rename_i f;simp only[C9,qN,qm]at d;subst d;subst f
   match hU':U.toList,H with
   | [u,v],H=>
    have l:=Je hU';subst l;have h1:=Dt H.1;have h2:=Dt H.2.1;subst h1;subst h2;exact A8 R (.int i (if b<a then b else a)) (e _ _ _ (λcs=>by simp[builtin,Builtin.min_,Builtin.min2])) (by rw[V])
   | [],H=>exact H.elim
   | [_],H=>exact H.2.elim
   | _::_::_::_,H=>exact H.2.2.elim
 simp at d
theorem XH{g:Array TypeId}{args:Array Operand}{out:Cg}{evs:Operand->SV}(p:o.op=.call { callee:=.builtin .max,args:=args,argTypes:=g })
 (d:Ak P h k .max g.toList (args.toList.map evs)=some out) (R:CB h c) (H:AU (V c) (args.toList.map evs) (args.map ev).toList):DT P ev o h k c out:=by
 generalize hA:args.toList.map evs=A at d H;generalize n:args.map ev=U at H;have e:=λ(w w':World)(r:Value)=>CS (P:=P) (ev:=ev) p w w' r;rw[n]at e;have m:Ak P h k .max g.toList A=(Xf A).bind C9:=by unfold Ak;split<;>simp_all
 rw[m]at d;unfold Xf at d;split at d
 . rename_i i a j b;split at d<;>try (simp at d;done)
   rename_i f;simp only[C9,qN,qm]at d;subst d;subst f
   match hU':U.toList,H with
   | [u,v],H=>
    have l:=Je hU';subst l;have h1:=Dt H.1;have h2:=Dt H.2.1;subst h1;subst h2;exact A8 R (.int i (if b>a then b else a)) (e _ _ _ (λcs=>by simp[builtin,Builtin.max_,Builtin.max2])) (by rw[V])
   | [],H=>exact H.elim
   | [_],H=>exact H.2.elim
   | _::_::_::_,H=>exact H.2.2.elim
 simp at d
end
end Go.Proofs.YthinbkgpjmjfeaaGreatDoor.Sh
