/- A part of the proof (part 1 of 18). -/
import Derived.Orders
import Derived.Laws.Sem
import Derived.Laws.World
import Derived.Laws.Cells
import Derived.Laws.CopyRow
import Derived.Laws.Tables
import Derived.ChangeKeysEq
import Derived.Deep.AppendSrc
import Derived.Laws.MakeOwn
import Derived.Great.BuildSlice
import Derived.Deep.Upon
namespace Go.Proofs.YtgakninlhfkkmaaGreat.Sh
abbrev J5:=@List.foldl_cons
abbrev J9:=@List.pairwise_iff_getElem
abbrev JJ:=@List.mem_of_mem_drop
abbrev JM:=@List.length_filter_le
abbrev JP:=@List.append_nil
abbrev JY:=@List.getElem?_take
abbrev Jk:=@List.flatMap_append
abbrev KN:=@Array.getElem?_eq_getElem
abbrev Km:=@List.getElem?_drop
abbrev Kq:=@List.mem_filter
abbrev Kw:=@List.getElem_of_mem
abbrev Q9:=@List.mem_cons_of_mem
abbrev QD:=@List.mem_flatMap
abbrev QN:=@List.filter_append
abbrev QZ:=@List.flatMap_cons
abbrev Qj:=@List.mem_append_right
abbrev U1:=@List.mem_of_getElem?
abbrev UF:=@List.filter_eq_self
abbrev UI:=@Nat.add_mul
abbrev UO:=@Nat.add_zero
abbrev UU:=@List.foldl_append
abbrev UW:=@Bool.not_eq_true'
abbrev UX:=@List.drop_of_length_le
abbrev Uo:=@Array.getElem?_append_left
abbrev Ut:=@Nat.min_eq_left
abbrev VN:=@Option.toList_some
abbrev VO:=@List.mem_iff_getElem
abbrev VX:=@List.filter_cons_of_neg
abbrev Vk:=@List.drop_eq_nil_of_le
abbrev Vs:=@List.set_append_right
abbrev Vx:=@Array.getElem?_modify
abbrev WK:=@List.set_eq_take_append_cons_drop
abbrev Wc:=@List.any_cons
abbrev Wm:=@Nat.lt_of_lt_of_le
abbrev Wn:=@List.getD_eq_getElem?_getD
abbrev X6:=@Option.isSome_iff_exists
abbrev XA:=@Array.getElem?_setIfInBounds_ne
abbrev XH:=@Bool.not_eq_false
abbrev XI:=@List.length_mergeSort
abbrev XJ:=@ByteArray.size_append
abbrev XW:=@List.sum_cons
abbrev Xj:=@Classical.choose_spec
abbrev Xk:=@Array.getElem?_push
abbrev YO:=@List.all_eq_true
abbrev YP:=@List.take_succ_cons
abbrev YR:=@Nat.mul_le_mul_right
abbrev YV:=@Nat.lt_or_ge
abbrev Yc:=@Option.bind_eq_some_iff
abbrev Ye:=@Array.getD_eq_getD_getElem?
abbrev Yo:=@List.map_nil
abbrev Yp:=@List.mem_filterMap
abbrev Yv:=@Array.getElem?_eq_none
abbrev Zc:=@Nat.le_succ
abbrev qD:=@List.mem_append_left
abbrev qE:=@List.nil_append
abbrev qH:=@List.length_pos_iff
abbrev qI:=@Nat.le_trans
abbrev qJ:=@List.length_cons
abbrev qK:=@Option.bind_some
abbrev qL:=@List.map_congr_left
abbrev qM:=@List.take_append_drop
abbrev qN:=@Option.map_eq_some_iff
abbrev qO:=@Option.map_some
abbrev qQ:=@List.drop_eq_getElem_cons
abbrev qS:=@List.mem_of_mem_take
abbrev qT:=@List.getElem?_append_right
abbrev qU:=@Nat.zero_add
abbrev qV:=@List.mem_cons_self
abbrev qX:=@List.getElem?_map
abbrev qY:=@Nat.lt_succ_self
abbrev qZ:=@List.getElem?_append_left
abbrev qa:=@Nat.le_refl
abbrev qb:=@List.take_succ_eq_append_getElem
abbrev qc:=@List.map_append
abbrev qd:=@List.mem_append
abbrev qe:=@List.getElem?_eq_getElem
abbrev qf:=@List.length_map
abbrev qg:=@Nat.zero_le
abbrev qh:=@List.getElem?_eq_some_iff
abbrev qi:=@List.getElem_mem
abbrev qj:=@List.append_assoc
abbrev qk:=@Option.some.injEq
abbrev ql:=@List.mem_map
abbrev qm:=@List.take_length
abbrev qn:=@Bool.false_eq_true
abbrev qo:=@Bool.and_eq_true
abbrev qp:=@Array.getElem?_eq_some_iff
abbrev qq:=@List.length_append
abbrev qr:=@List.map_cons
abbrev qt:=@List.mem_cons
abbrev qu:=@Nat.add_assoc
abbrev qv:=@List.take_of_length_le
abbrev qx:=@List.cons_append
abbrev qy:=@List.mem_singleton
abbrev vB:=@List.getElem_cons_succ
abbrev vC:=@List.drop_length_add_append
abbrev vD:=@List.length_take
abbrev vE:=@List.take_zero
abbrev vF:=@List.drop_drop
abbrev vG:=@Option.isSome_some
abbrev vH:=@Option.map_none
abbrev vI:=@List.length_nil
abbrev vJ:=@Bool.or_eq_true
abbrev vM:=@Nat.ne_of_lt
abbrev vR:=@Option.getD_some
abbrev vU:=@Nat.sub_self
abbrev vV:=@Nat.le_of_lt
abbrev vb:=@List.take_append_of_le_length
abbrev vc:=@Nat.sub_zero
abbrev vd:=@List.nodup_cons
abbrev ve:=@List.pairwise_cons
abbrev vf:=@List.length_drop
abbrev vg:=@List.getLast?_concat
abbrev vi:=@List.drop_succ_cons
abbrev vl:=@Array.length_toList
abbrev vo:=@List.any_eq_true
abbrev vp:=@List.map_take
abbrev vt:=@List.drop_zero
abbrev vu:=@List.eq_nil_of_length_eq_zero
abbrev vw:=@List.getElem?_cons_zero
abbrev vz:=@List.length_take_le
inductive SV where
 | bool (b:Bool)
 | int (k:IntKind) (n:Int)
 | str (s:ByteArray)
 | nilp
 | nilf
 | nilm
 | agg (cs:List SV)
 | tup (vs:List SV)
 | fn (f:Fn) (first captured:List SV)
 | ptr (o off:Nat)
 | q (cs:List SV)
 | sl (o off z len:Nat) (full:Bool)
 | i (z:Nat) (es:List SV) (full:Bool)
 | map (o:Nat)
 | junk
 | slc (o off z len cap:Nat)
 deriving Inhabited
inductive Bb where
 | cells (cs:List SV) (ty:Option TypeId:=none)
 | map (es:List (SV×SV))
 | loop (r:Loop)
 | iter (left:List (SV×SV)) (last:Option (SV×SV))
 | list (z:Nat) (es:List SV)
 deriving Inhabited
def Bb.lst:Bb->Bool
 | .list _ _=>true
 | _=>false
def SV.cells:SV->List SV
 | .agg cs=>cs
 | v=>[v]
def SV.B:SV->Bool
 | .junk|.tup _=>false
 | _=>true
def SV.ids:SV->List Nat
 | .ptr o _|.sl o _ _ _ _|.map o|.slc o _ _ _ _=>[o]
 | _=>[]
def Hu:Value->SV
 | .bool b=>.bool b
 | .int k n=>.int k n
 | .string s=>.str s
 | .pointer none=>.nilp
 | .slice none 0 0=>.i 0 [] true
 | .map none=>.nilm
 | .nilFunc=>.nilf
 | _=>.junk
def ofValue:Value->SV
 | .agg cs=>if cs.toList.all (·.oneCell')then .agg (cs.toList.map Hu)else .junk
 | v=>Hu v
abbrev SA:=List (Nat×SV)
def Ao:SA->Nat->SV
 | [],_=>.junk
 | (k,x)::r,t=>if k=t then x else Ao r t
def Ek(sa:SA):Option Tmp->SV->SA
 | some d,v=>(d,v)::sa
 | none,_=>sa
def Hc(sa:SA):Operand->SV
 | .tmp t=>Ao sa t
 | .const v=>ofValue v
 | .global _=>.junk
 | .func f=>.fn (.func f) [] []
abbrev Hp:=Nat->Option Bb
def h_(h:Hp)(o:Nat)(x:Option Bb):Hp:=λk=>if k=o then x else h k
section types
variable(P:Program)(t:TypeId)
def Br:Nat:=P.cellsOf t
def Bw:Nat:=P.bytesOf t
def Gl:Option Bool:=match P.underlying t with|some (.struct _)|some (.array _ _)=>some true|some _=>some false|none=>none
def BK:SV:=match P.info? t with|some { zero:=some v,.. }=>ofValue v|_=>.junk
def BA:Option TypeId:=match P.underlying t with|some (.slice e)=>some e|_=>none
def Ka:Option (Nat×TypeId):=match P.underlying t with|some (.array n e)=>some (n,e)|_=>none
def Mk:Option (TypeId×TypeId):=match P.underlying t with|some (.map k e)=>some (k,e)|_=>none
def Fo:Bool:=match P.underlying t with|some .string=>true|_=>false
def OT:Bool:=match P.underlying t with|some .bool=>true|_=>false
def XZ:Bool:=match P.underlying t with|some (.pointer _)=>true|_=>false
def L6:Option IntKind:=match P.underlying t with|some (.int k)=>some k|_=>none
def Bf:Option (List (Nat×Nat)):=
 match P.info? t,P.underlying t with
 | some _,some (.struct fs)=>fs.toList.mapM λf=>(P.info? f.type).map λi=>(f.offset,i.size)
 | some _,some (.array n e)=>(P.info? e).map λi=>(List.range n).map λj=>(j*i.size,i.size)
 | _,_=>none
def JH(i:Nat):Option (Nat×TypeId):=match P.underlying t with|some (.struct fs)=>(fs[i]?).map λf=>(f.offset,f.type)|_=>none
end types
def Sk(ag:Option Bool)(cs:List SV):Option SV:=
 match ag with
 | some true=>some (.agg cs)
 | some false=>match cs with|[v]=>some v|_=>none
 | none=>none
def Bz(cs:List SV)(off n:Nat):Option (List SV):=if off+n<=cs.length then some ((cs.drop off).take n)else none
def Gj(cs:List SV)(off:Nat)(xs:List SV):Option (List SV):=
 if off+xs.length<=cs.length then some (cs.take off++xs++cs.drop (off+xs.length))else none
structure C5 where
 val:SV
 upd:Option (Nat×Option Bb):=none
 new:Option Bb:=none
def C5.app(h:Hp)(k:Nat)(o:C5):Hp:=
 let h1:=match o.upd with|some (j,x)=>h_ h j x|none=>h
 match o.new with|some x=>h_ h1 k (some x)|none=>h1
def E8(v:SV):Option C5:=some { val:=v }
def Ks(place:Nat->Option (Nat×Nat))(cells:List SV):List (Nat×SV)->Option (List SV)
 | []=>some cells
 | (i, v) :: rest =>
  match place i with
  | none=>none
  | some (off, size) =>
   if v.B&&v.cells.length==size then
    match Gj cells off v.cells with
    | some cs=>Ks place cs rest
    | none=>none
   else none
def Lk(op:BinOp)(k:IntKind)(a b:Int):Option SV:=
 match op with
 | .add=>some (.int k (k.wrap (a+b)))
 | .sub=>some (.int k (k.wrap (a-b)))
 | .mul=>some (.int k (k.wrap (a*b)))
 | .quo=>if b=0 then none else some (.int k (k.wrap (a.tdiv b)))
 | .rem=>if b=0 then none else some (.int k (a.tmod b))
 | .and=>some (.int k (k.wrap (BitVec.ofInt k.bits a &&& BitVec.ofInt k.bits b).toNat))
 | .or=>some (.int k (k.wrap (BitVec.ofInt k.bits a ||| BitVec.ofInt k.bits b).toNat))
 | .xor=>some (.int k (k.wrap (BitVec.ofInt k.bits a ^^^ BitVec.ofInt k.bits b).toNat))
 | .eql=>some (.bool (a==b))
 | .neq=>some (.bool (a !=b))
 | .lss=>some (.bool (a<b))
 | .leq=>some (.bool (a<=b))
 | .gtr=>some (.bool (a>b))
 | .geq=>some (.bool (a ≥ b))
 | _=>none
def QV(op:BinOp)(a b:ByteArray):Option SV:=
 match op with
 | .add=>if a.size+b.size<=9223372036854775807 then some (.str (a++b))else none
 | .eql=>some (.bool (a.toList==b.toList))
 | .neq=>some (.bool !(a.toList==b.toList))
 | .lss=>some (.bool (Op.bytesLess a.toList b.toList))
 | .leq=>some (.bool (Op.bytesLess a.toList b.toList||a.toList==b.toList))
 | .gtr=>some (.bool !(Op.bytesLess a.toList b.toList||a.toList==b.toList))
 | .geq=>some (.bool !(Op.bytesLess a.toList b.toList))
 | _=>none
def cn:SV->Option Bool
 | .nilp|.nilf|.nilm=>some true
 | .ptr .. | .q _|.fn .. | .map _|.sl ..=>some false
 | .i _ (_::_) _=>some false
 | _=>none
def X7(isB isP:Bool)(op:BinOp)(x y:SV):Option SV:=
 match op,x,y with
 | .shl,.int k a,.int _ b=>if 0<=b then some (.int k (k.wrap (a*2 ^ (min b.toNat k.bits))))else none
 | .shr,.int k a,.int _ b=>if 0<=b then some (.int k (a.fdiv (2 ^ (min b.toNat k.bits))))else none
 | op,.int k a,.int k' b=>if k=k' then Lk op k a b else none
 | op,.str a,.str b=>QV op a b
 | .eql,.bool a,.bool b=>if isB then some (.bool (a==b))else none
 | .neq,.bool a,.bool b=>if isB then some (.bool !(a==b))else none
 | .eql,x,.nilp=>if isP then match x with|.nilp=>some (.bool true)|.ptr .. | .q _=>some (.bool false)|_=>none else none
 | .neq,x,.nilp=>if isP then match x with|.nilp=>some (.bool false)|.ptr .. | .q _=>some (.bool true)|_=>none else none
 | _,_,_=>none
def Ht:SV->SV->Option Bool
 | .int k a,.int k' b=>if k=k' then some (a==b)else none
 | .str a,.str b=>some (a==b)
 | .bool a,.bool b=>some (a==b)
 | _,_=>none
def Cc(P:Program)(t:TypeId):SV->Bool
 | .int _ _=>(L6 P t).isSome
 | .str _=>Fo P t
 | .bool _=>OT P t
 | _=>false
def DT(k:SV):List (SV×SV)->Nat->Option (Option (Nat×SV))
 | [],_=>some none
 | e::es,i=>
  match Ht k e.1 with
  | some true=>some (some (i,e.2))
  | some false=>DT k es (i+1)
  | none=>none
def MO(h:Hp):SV->Option (List (SV×SV))
 | .nilm=>some []
 | .map o=>match h o with|some (.map es)=>some es|_=>none
 | _=>none
def JA(es:List (SV×SV))(i:Nat)(k v:SV):List (SV×SV):=es.modify i λ_=>(k,v)
def flat(h:Hp):SV->Option (List SV)
 | .i _ es _=>some (es.flatMap SV.cells)
 | .sl o off z len _=>
  match h o with
  | some (.cells cs _)=>Bz cs off (len*z)
  | _=>none
 | _=>none
def GW:SV->Option Nat
 | .i _ es _=>some es.length
 | .sl _ _ _ len _=>some len
 | .str s=>some s.size
 | _=>none
def LT(z:Nat):SV->Bool
 | .i z' es _=>es.isEmpty||z'==z
 | .sl _ _ z' _ _=>z'==z
 | _=>false
def Ib(t:TypeId):Option TypeId:=if t=388\/t=5 then some t else none
def aj:Option Bb->Option TypeId
 | some (.cells _ ty)=>ty
 | _=>none
def Hz(h:Hp)(e:TypeId)(o off:Nat):Option TypeId:=match Ib e with|none=>none|some t=>if off=0/\aj (h o)=some t then some t else none
def EF(n bytes:Nat):Bool:=n<=1073741824&&bytes<=65536
def Ec(P:Program)(h:Hp)(n:Nat)(t:TypeId)(s x:SV):Option C5:=
 match BA P t with
 | none=>none
 | some e =>
  let z:=Br P e
  match GW x,flat h x with
  | some m, some ys =>
   if !(LT z s&&LT z x&&z !=0&&(BK P e).B&&(BK P e).cells.length==z)then none else
   if m=0 then E8 s else
   match s with
   | .i _ es true=>
    if EF (es.length+m) (Bw P e)then some { val:=.sl n 0 z (es.length+m) false,new:=some (.cells (es.flatMap SV.cells++ys) (Ib e)) } else none
   | .sl o off z' len full =>
    match flat h (.sl o off z' len full)with
    | some xs =>
     if EF (len+m) (Bw P e)then
      some { val:=.sl n 0 z (len+m) false,upd:=if full then none else some (o,none),new:=some (.cells (xs++ys) (Hz h e o off)) } else none
    | none=>none
   | _=>none
  | _,_=>none
def Fu(P:Program)(n:Nat)(t t2:TypeId)(s x:SV):Option C5:=
 match BA P t,P.underlying t2,s,x with
 | some e, some (.int _), .i _ [] true, .int .i64 m =>
  if(0<m/\m<=1073741824)/\Br P e≠0/\Bw P e<=65536/\(BK P e).B=true/\(BK P e).cells.length=Br P e then
   some { val:=.sl n 0 (Br P e) m.toNat false,new:=some (.cells (List.replicate m.toNat (BK P e).cells).flatten) }
  else none
 | _,_,_,_=>none
def Q2(P:Program)(h:Hp)(t:TypeId)(d x:SV):Option C5:=
 match BA P t,GW d,GW x,flat h x with
 | some e, some dl, some m, some ys =>
  let z:=Br P e
  if !(LT z d&&LT z x&&z !=0)then none else
  let c:=Nat.min m dl
  if c=0 then E8 (.int .i64 0)else
  match d with
  | .sl o off _ _ _ =>
   match h o with
   | some (.cells cs ty)=>
    match Gj cs off (ys.take (c*z))with
    | some cs'=>some { val:=.int .i64 c,upd:=some (o,some (.cells cs' ty)) }
    | none=>none
   | _=>none
  | _=>none
 | _,_,_,_=>none
def NS(P:Program)(h:Hp)(t:TypeId)(d:SV):Option C5:=
 match BA P t,GW d with
 | some e, some dl =>
  if !(LT (Br P e) d&&Br P e !=0&&(BK P e).B&&(BK P e).cells.length==Br P e)then none else
  if dl=0 then E8 (.tup [])else
  match d with
  | .sl o off _ _ _ =>
   match h o with
   | some (.cells cs ty)=>
    match Gj cs off (List.replicate dl (BK P e).cells).flatten with
    | some cs'=>some { val:=.tup [],upd:=some (o,some (.cells cs' ty)) }
    | none=>none
   | _=>none
  | _=>none
 | _,_=>none
def W3:List SV->Option SV
 | [.int k a,.int k' b]=>if k=k' then some (.int k (if b<a then b else a))else none
 | _=>none
def Wy:List SV->Option SV
 | [.int k a,.int k' b]=>if k=k' then some (.int k (if b>a then b else a))else none
 | _=>none
def Al(P:Program)(h:Hp)(n:Nat)(b:Builtin)(ts:List TypeId)(args:List SV):Option C5:=
 match b,ts,args with
 | .len,[t],[x]=>
  match x with
  | .str s=>if Fo P t then E8 (.int .i64 s.size)else none
  | .i _ es _=>if(BA P t).isSome then E8 (.int .i64 es.length)else none
  | .sl _ _ _ len _=>if(BA P t).isSome then E8 (.int .i64 len)else none
  | .map o=>match h o with|some (.map es)=>if(Mk P t).isSome then E8 (.int .i64 es.length)else none|_=>none
  | _=>none
 | .cap,[t],[x]=>
  match x with
  | .i _ es true=>if(BA P t).isSome then E8 (.int .i64 es.length)else none
  | .sl _ _ _ len true=>if(BA P t).isSome then E8 (.int .i64 len)else none
  | _=>none
 | .append,[t,t2],[s,x]=>if(BA P t2).isSome then Ec P h n t s x else Fu P n t t2 s x
 | .copy,[t,_],[d,x]=>Q2 P h t d x
 | .clear,[t],[d]=>NS P h t d
 | .min,_,l=>(W3 l).bind E8
 | .max,_,l=>(Wy l).bind E8
 | .delete, [t, _], [.map o, k] =>
  match Mk P t,h o with
  | some (kt,_),some (.map es)=>
   if !Cc P kt k then none else
   match DT k es 0 with
   | some (some (i,_))=>some { val:=.tup [],upd:=some (o,some (.map (es.eraseIdx i))) }
   | some none=>some { val:=.tup [],upd:=some (o,some (.map es)) }
   | none=>none
  | _,_=>none
 | _,_,_=>none
def K7(P:Program)(h:Hp)(t:TypeId):SV->Option SV
 | .ptr o off=>
  match h o with
  | some (.cells cs _)=>(Bz cs off (Br P t)).bind (Sk (Gl P t))
  | _=>none
 | .q cs=>(Bz cs 0 (Br P t)).bind (Sk (Gl P t))
 | _=>none
def QU(P:Program)(h:Hp)(t:TypeId)(a v:SV):Option C5:=
 match a with
 | .ptr o off =>
  match h o with
  | some (.cells cs ty) =>
   if v.B&&v.cells.length==Br P t&&Br P t !=0 then
    match Gj cs off v.cells with
    | some cs'=>some { val:=.tup [],upd:=some (o,some (.cells cs' ty)) }
    | none=>none
   else none
  | _=>none
 | _=>none
def Hl(P:Program)(t:TypeId)(x:SV)(i:Nat):Option SV:=
 match JH P t i with
 | some (off,ft)=>
  if Br P ft=0 then none else
  match x with
  | .ptr o a=>some (.ptr o (a+off))
  | .q cs=>some (.q (cs.drop off))
  | _=>none
 | none=>none
def Ho(P:Program)(t:TypeId)(x:SV)(i:Int):Option SV:=
 match BA P t with
 | some e=>
  let z:=Br P e
  if z=0 then none else
  match x with
  | .sl o off z' len _=>if z'=z/\0<=i/\i<len then some (.ptr o (off+i.toNat*z))else none
  | .i z' es _=>if z'=z/\0<=i then(es[i.toNat]?).map λv=>.q v.cells else none
  | _=>none
 | none =>
  match Ka P t with
  | some (len, e) =>
   let z:=Br P e
   if 0<=i/\i<len/\z≠0 then
    match x with
    | .ptr o off=>some (.ptr o (off+i.toNat*z))
    | .q cs=>some (.q (cs.drop (i.toNat*z)))
    | _=>none
   else none
  | none=>none
def V3:Option SV->Option Int->Option Int
 | none,d=>d
 | some (.int _ n),_=>some n
 | _,_=>none
def KY(P:Program)(t:TypeId)(x:SV)(lo hi mx:Option SV):Option SV:=
 match x with
 | .str s=>
  if !Fo P t||mx.isSome then none else
  match V3 lo (some 0),V3 hi (some s.size)with
  | some l,some h=>if 0<=l/\l<=h/\h<=s.size then some (.str (s.extract l.toNat h.toNat))else none
  | _,_=>none
 | .i z es full =>
  if !((BA P t).any λe=>Br P e !=0&&(es.isEmpty||Br P e==z))then none else
  match V3 lo (some 0),V3 hi (some es.length)with
  | some l, some h =>
   if 0<=l/\l<=h/\h<=es.length then
    match mx with
    | none=>some (.i z ((es.take h.toNat).drop l.toNat) (full&&h==es.length))
    | some (.int _ m)=>if hi.isSome&&h<=m&&m<=es.length then some (.i z ((es.take h.toNat).drop l.toNat) (m==h))else none
    | _=>none
   else none
  | _,_=>none
 | .sl o off z len full =>
  if !((BA P t).any λe=>Br P e !=0&&Br P e==z)then none else
  match V3 lo (some 0),V3 hi (some len)with
  | some l, some h =>
   if 0<=l/\l<=h/\h<=len then
    match mx with
    | none=>if l=h/\l≠0 then some (.i z [] (full&&h==len))else some (.sl o (off+l.toNat*z) z (h-l).toNat (full&&h==len))
    | some (.int _ m) =>
     if hi.isSome&&h<=m&&m<=len then
      if l=h/\l≠0 then some (.i z [] (m==h))else some (.sl o (off+l.toNat*z) z (h-l).toNat (m==h))
     else none
    | _=>none
   else none
  | _,_=>none
 | _=>none
def DB(P:Program)(ev:Operand->SV)(h:Hp)(k:Nat)(op:Op):Option C5:=
 match op with
 | .move x|.assign x=>E8 (ev x)
 | .pick c a b=>match ev c with|.bool t=>E8 (if t then ev a else ev b)|_=>none
 | .alloc e=>if(BK P e).B&&(BK P e).cells.length==Br P e then some { val:=.ptr k 0,new:=some (.cells (BK P e).cells (Ib e)) } else none
 | .box e x=>if(ev x).B then some { val:=.ptr k 0,new:=some (.cells (ev x).cells (Ib e)) } else none
 | .build t ps=>
  match BK P t,Bf P t with
  | .agg z,some pl=>(Ks (pl[·]?) z (ps.toList.map λp=>(p.1,ev p.2))).bind λcs=>E8 (.agg cs)
  | _,_=>none
 | .buildSlice t len ps =>
  match BA P t with
  | some e =>
   if(len*Br P e≠0/\len*Br P e<=1048576)/\(BK P e).B=true/\(BK P e).cells.length=Br P e then
    (Ks (λi=>some (i*Br P e,Br P e)) (List.replicate len (BK P e).cells).flatten (ps.toList.map λp=>(p.1,ev p.2))).bind λcs=>
      some { val:=.sl k 0 (Br P e) len true,new:=some (.cells cs) }
   else none
  | none=>none
 | .load t a=>(K7 P h t (ev a)).bind E8
 | .store t a x=>QU P h t (ev a) (ev x)
 | .nilCheck x=>match ev x with|.ptr o a=>E8 (.ptr o a)|.q cs=>E8 (.q cs)|_=>none
 | .binOp op t x y _=>(X7 (OT P t) (XZ P t) op (ev x) (ev y)).bind E8
 | .unOp op _ x=>
  match op,ev x with
  | .not,.bool b=>E8 (.bool !b)
  | .neg,.int i n=>E8 (.int i (i.wrap (0-n)))
  | _,_=>none
 | .convert src dst x=>match L6 P src,L6 P dst,ev x with|some _,some i,.int _ n=>E8 (.int i (i.wrap n))|_,_,_=>none
 | .makeFunc f a b=>E8 (.fn f (a.toList.map ev) (b.toList.map ev))
 | .makeMap t r=>if r.isNone&&(Mk P t).isSome then some { val:=.map k,new:=some (.map []) } else none
 | .slice t x lo hi mx=>(KY P t (ev x) (lo.map ev) (hi.map ev) (mx.map ev)).bind E8
 | .fieldAddr t x i=>(Hl P t (ev x) i).bind E8
 | .indexAddr t x i=>match ev i with|.int _ n=>(Ho P t (ev x) n).bind E8|_=>none
 | .index t x i =>
  match ev x,ev i with
  | .str s,.int _ n=>if Fo P t=true/\0<=n then(s[n.toNat]?).bind λb=>E8 (.int .u8 b.toNat)else none
  | .agg cs,.int _ n=>
   match Ka P t with
   | some (len,e)=>if 0<=n/\n<len then((Bz cs (n.toNat*Br P e) (Br P e)).bind (Sk (Gl P e))).bind E8 else none
   | none=>none
  | _,_=>none
 | .lookup t m x ok =>
  match Mk P t with
  | some (kt, e) =>
   if !Cc P kt (ev x) || !(BK P e).B then none else
   match MO h (ev m)with
   | some es =>
    match DT (ev x) es 0 with
    | some r=>
     let(v,b):=match r with|some (_,v)=>(v,true)|none=>(BK P e,false)
     E8 (if ok then .tup [v,.bool b]else v)
    | none=>none
   | none=>none
  | none=>none
 | .mapUpdate t m y x =>
  match Mk P t,ev m with
  | some (kt, _), .map o =>
   if !Cc P kt (ev y)then none else
   match h o with
   | some (.map es) =>
    if(ev x).B then
     match DT (ev y) es 0 with
     | some (some (i,_))=>some { val:=.tup [],upd:=some (o,some (.map (JA es i (ev y) (ev x)))) }
     | some none=>some { val:=.tup [],upd:=some (o,some (.map (es++[(ev y,ev x)]))) }
     | none=>none
    else none
   | _=>none
  | _,_=>none
 | .extract x i=>match ev x with|.tup vs=>(vs[i]?).bind E8|_=>none
 | .call { callee:=.builtin b,args,argTypes }=>Al P h k b argTypes.toList (args.toList.map ev)
 | _=>none
def jz(ev:Operand->SV):Op->List Nat
 | .load _ a=>(ev a).ids
 | .store _ a _=>(ev a).ids
 | .lookup _ m _ _=>(ev m).ids
 | .mapUpdate _ m _ _=>(ev m).ids
 | .call { callee:=.builtin b,args,.. }=>args.toList.flatMap λx=>match b,ev x with|.len,.sl ..=>[]|_,v=>v.ids
 | _=>[]
def Ag{α β:Type}(R:α->β->Prop):List α->List β->Prop
 | [],[]=>True
 | a::aS,b::bs=>R a b/\Ag R aS bs
 | _,_=>False
section all2
variable{α β:Type}{R:α->β->Prop}
theorem Ag.length:∀{aS:List α} {bs:List β},Ag R aS bs->aS.length=bs.length
 | [],[],_=>rfl
 | _::_,_::_,h=>by simp[Ag.length h.2]
 | [],_::_,h=>h.elim
 | _::_,[],h=>h.elim
theorem Ag.get:∀{aS:List α} {bs:List β} {i:Nat} {a:α},Ag R aS bs->aS[i]? = some a->∃b,bs[i]? = some b/\R a b
 | a::_,b::_,0,_,h,e=>by simp at e;subst e;exact⟨b,rfl,h.1⟩
 | _::_,_::_,i+1,_,h,e=>by simp at e;simpa using Ag.get h.2 e
 | [],_,_,_,_,e=>by simp at e
 | _::_,[],_,_,h,_=>h.elim
theorem Ag.append:∀{aS as':List α} {bs a:List β},Ag R aS bs->Ag R as' a->Ag R (aS++as') (bs++a)
 | [],_,[],_,_,h'=>h'
 | _::_,_,_::_,_,h,h'=>⟨h.1,Ag.append h.2 h'⟩
 | [],_,_::_,_,h,_=>h.elim
 | _::_,_,[],_,h,_=>h.elim
theorem Ag.take:∀{aS:List α} {bs:List β} (n:Nat),Ag R aS bs->Ag R (aS.take n) (bs.take n)
 | _,_,0,_=>by simp[Ag]
 | [],[],_+1,_=>by simp[Ag]
 | _::_,_::_,n+1,h=>⟨h.1,Ag.take n h.2⟩
 | [],_::_,_+1,h=>h.elim
 | _::_,[],_+1,h=>h.elim
theorem Ag.drop:∀{aS:List α} {bs:List β} (n:Nat),Ag R aS bs->Ag R (aS.drop n) (bs.drop n)
 | _,_,0,h=>by simpa using h
 | [],[],_+1,_=>by simp[Ag]
 | _::_,_::_,n+1,h=>Ag.drop n h.2
 | [],_::_,_+1,h=>h.elim
 | _::_,[],_+1,h=>h.elim
theorem Ag.mono{c:α->β->Prop}(h:∀a b,R a b->c a b):∀{aS:List α} {bs:List β},Ag R aS bs->Ag c aS bs
 | [],[],_=>trivial
 | _::_,_::_,g=>⟨h _ _ g.1,Ag.mono h g.2⟩
 | [],_::_,g=>g.elim
 | _::_,[],g=>g.elim
theorem Ag.nil_left{bs:List β}(h:Ag R [] bs):bs=[]:=by cases bs;rfl;exact h.elim
theorem Ag.single{a:α}{bs:List β}(h:Ag R [a] bs):∃b,bs=[b]/\R a b:=by
 match bs,h with
 | [b],h=>exact⟨b,rfl,h.1⟩
 | [],h=>exact h.elim
 | _::_::_,h=>exact h.2.elim
theorem Ag.modify(f:α->α)(g:β->β)(c:∀a b,R a b->R (f a) (g b)):
 ∀(i:Nat) {aS:List α} {bs:List β},Ag R aS bs->Ag R (aS.modify i f) (bs.modify i g)
 | 0,a::aS,b::bs,h=>by simpa[Ag]using⟨c _ _ h.1,h.2⟩
 | i+1,a::aS,b::bs,h=>by simpa[Ag]using⟨h.1,Ag.modify (aS:=aS) (bs:=bs) f g c i h.2⟩
 | i,[],[],_=>by cases i<;>simp[Ag]
 | _,[],_::_,h=>h.elim
 | _,_::_,[],h=>h.elim
theorem Ag.eraseIdx:∀(i:Nat) {aS:List α} {bs:List β},Ag R aS bs->Ag R (aS.eraseIdx i) (bs.eraseIdx i)
 | 0,_::_,_::_,h=>by simpa using h.2
 | i+1,_::_,_::_,h=>by simpa[Ag]using⟨h.1,Ag.eraseIdx i h.2⟩
 | i,[],[],_=>by cases i<;>simp[Ag]
 | _,[],_::_,h=>h.elim
 | _,_::_,[],h=>h.elim
theorem Ag.replicate{a:α}{b:β}(h:R a b):∀n,Ag R (List.replicate n a) (List.replicate n b)
 | 0=>trivial
 | n+1=>by simpa[List.replicate_succ,Ag]using⟨h,Ag.replicate h n⟩
theorem Ag.flatten{γ δ:Type}{T:γ->δ->Prop}:∀{aS:List (List γ)} {bs:List (List δ)},Ag (Ag T) aS bs->Ag T aS.flatten bs.flatten
 | [],[],_=>trivial
 | _::_,_::_,h=>by simpa using Ag.append h.1 (Ag.flatten h.2)
 | [],_::_,h=>h.elim
 | _::_,[],h=>h.elim
theorem Ag.map{γ δ:Type}{T:γ->δ->Prop}{f:α->γ}{g:β->δ}(c:∀a b,R a b->T (f a) (g b)):∀{aS:List α} {bs:List β},Ag R aS bs->Ag T (aS.map f) (bs.map g)
 | [],[],_=>trivial
 | _::_,_::_,h=>⟨c _ _ h.1,Ag.map c h.2⟩
 | [],_::_,h=>h.elim
 | _::_,[],h=>h.elim
theorem Ag.of_get{aS:List α}{bs:List β}(hl:aS.length=bs.length)(h:∀(i:Nat)(a:α)(b:β),aS[i]? = some a->bs[i]? = some b->R a b):Ag R aS bs:=by
 induction aS generalizing bs with
 | nil=>cases bs;trivial;simp at hl
 | cons a aS ih=>
  cases bs with
  | nil=>simp at hl
  | cons b bs=>exact⟨h 0 a b rfl rfl,ih (by simpa using hl) λi a b ha hb=>h (i+1) a b (by simpa using ha) (by simpa using hb)⟩
end all2
def rm(w:World)(b:Nat):Nat:=match w.heap[b]? with|some (.cells c _ _)=>c.size|_=>0
structure Cx where
 ρ:Nat->Option (Nat×Nat)
 own:Nat->Prop
 w:World
 bk:Nat->Option Nat
structure HM(c:Cx)(a:Addr)(vs:List Value):Prop where
 spot:vs≠[]->a.spot=none
 free:vs≠[]->¬c.own a.block
 cell:∀i x,vs[i]? = some x->c.w.cell? ⟨a.block,a.off+i,none⟩=some x
 one:∀x∈vs,x.oneCell'=true
mutual
def V(c:Cx):SV->Value->Prop
 | .bool b,v=>v=.bool b
 | .int k n,v=>v=.int k n
 | .str s,v=>v=.string s
 | .nilp,v=>v=.pointer none
 | .nilf,v=>v=.nilFunc
 | .nilm,v=>v=.map none
 | .agg cs,v=>∃vs,v=.agg vs.toArray/\VL c cs vs/\∀x∈vs,x.oneCell'=true
 | .tup cs,v=>∃vs,v=.tuple vs.toArray/\VL c cs vs
 | .fn f a b,v=>∃xs ys,v=.func f xs.toArray ys.toArray/\VL c a xs/\VL c b ys
 | .ptr o off,v=>∃b st,c.ρ o=some (b,st)/\v=.pointer (some ⟨b,st+off,none⟩)
 | .q cs,v=>∃a vs,v=.pointer (some a)/\HM c a vs/\VL c cs vs/\a.spot=none
 | .sl o off z len full,v=>∃b st cap,c.ρ o=some (b,st)/\v=.slice (some ⟨b,st+off,none⟩) len cap/\len<=cap/\(full=true->cap=len)/\st+off+cap*z<=rm c.w b
 | .i z es full,v=>(es=[]/\v=.slice none 0 0)\/∃a cap vs,v=.slice (some a) es.length cap/\es.length<=cap/\(full=true->cap=es.length)/\HM c a vs/\VE c z es vs
 | .map o,v=>∃b,c.ρ o=some (b,0)/\v=.map (some b)
 | .junk,_=>True
 | .slc o off z len cap,v=>∃b st,c.ρ o=some (b,st)/\v=.slice (some ⟨b,st+off,none⟩) len cap/\len<=cap/\st+off+cap*z<=rm c.w b
def VL(c:Cx):List SV->List Value->Prop
 | [],vs=>vs=[]
 | s::ss,vs=>∃v r,vs=v::r/\V c s v/\VL c ss r
def VE(c:Cx)(z:Nat):List SV->List Value->Prop
 | [],vs=>vs=[]
 | e::es,vs=>∃u r,vs=u.cells.toList++r/\u.cells.size=z/\e.B=true/\V c e u/\VE c z es r
end
theorem Ps{c:Cx}{z:Nat}:∀{es:List SV} {vs:List Value},VE c z es vs->vs.length=es.length*z
 | [],vs,h=>by rw[VE]at h;simp[h]
 | e::es,vs,h=>by
  rw[VE]at h;obtain⟨u,r,rfl,b,_,_,a⟩:=h;have:=Ps a;simp[this,b,UI,Nat.add_comm]
theorem BP{c:Cx}:∀{a:List SV} {vs:List Value},VL c a vs↔Ag (V c) a vs
 | [],vs=>by cases vs<;>simp[VL,Ag]
 | s::a,[]=>by simp[VL,Ag]
 | s::a,v::vs=>by
  rw[VL];constructor;rintro⟨_,_,e,h1,h2⟩;simp at e;obtain⟨rfl,rfl⟩:=e;exact⟨h1,BP.1 h2⟩;intro h;exact⟨v,vs,rfl,h.1,BP.2 h.2⟩
theorem J1{c:Cx}{z:Nat}:∀{es:List SV} {vs:List Value},VE c z es vs ↔
 ∃us,Ag (V c) es us/\(∀u∈us,u.cells.size=z)/\(∀e∈es,e.B=true)/\vs=us.flatMap (·.cells.toList)
 | [],vs=>by
  rw[VE];constructor;rintro rfl;exact⟨[],trivial,by simp,by simp,rfl⟩;rintro⟨us,h,_,_,rfl⟩;rw[h.nil_left];rfl
 | e::es,vs=>by
  rw[VE];constructor;rintro⟨u,r,rfl,b,a,i,g⟩;obtain⟨us,h1,h2,f,rfl⟩:=J1.1 g;exact⟨u::us,⟨i,h1⟩,by simpa using⟨b,h2⟩,by simpa using⟨a,f⟩,by simp⟩;rintro⟨us,h,b,a,rfl⟩
  match us,h with
  | u::us,h=>exact⟨u,_,by simp,b u (by simp),a e (by simp),h.1,J1.2 ⟨us,h.2,λx d=>b x (by simp[d]),λx d=>a x (by simp[d]),rfl⟩⟩
  | [],h=>exact h.elim
def Td(w w':World):Prop:=w'.tape=w.tape/\w.drawn<=w'.drawn
theorem Td.trans{a b c:World}(h:Td a b)(g:Td b c):Td a c:=⟨g.1.trans h.1,qI h.2 g.2⟩
structure EH(c c':Cx):Prop where
 ρ:∀o p,c.ρ o=some p->c'.ρ o=some p
 size:c.w.heap.size<=c'.w.heap.size
 keep:∀b,b<c.w.heap.size->¬c.own b->¬c'.own b/\c'.w.heap[b]? = c.w.heap[b]?
 room:∀b,rm c.w b<=rm c'.w b
 os:c'.w.os=c.w.os
 out:c'.w.output=c.w.output
 td:Td c.w c'.w
theorem EH.refl(c:Cx):EH c c:=⟨λ_ _ h=>h,qa _,λ_ _ h=>⟨h,rfl⟩,λ_=>qa _,rfl,rfl,⟨rfl,qa _⟩⟩
theorem EH.trans{a b c:Cx}(h:EH a b)(g:EH b c):EH a c:=
 ⟨λo p e=>g.ρ o p (h.ρ o p e),qI h.size g.size,
  λx d f=>let⟨h1,h2⟩:=h.keep x d f;let⟨g1,g2⟩:=g.keep x (Wm d h.size) h1;⟨g1,g2.trans h2⟩,
  λx=>qI (h.room x) (g.room x),g.os.trans h.os,g.out.trans h.out,h.td.trans g.td⟩
structure Qm(c c':Cx):Prop where
 ρ:∀o p,c.ρ o=some p->c'.ρ o=some p
 keep:∀b,¬c.own b->(∃ob,c.w.heap[b]? = some ob/\∀l,ob≠.deferred l)->¬c'.own b/\c'.w.heap[b]? = c.w.heap[b]?
 room:∀b,rm c.w b<=rm c'.w b
theorem EH.to0{c a:Cx}(x:EH c a):Qm c a:=⟨x.ρ,λb d ⟨_,hb,_⟩=>x.keep b (qp.1 hb).1 d,x.room⟩
theorem Ie{w:World}{b i:Nat}{v:Value}(h:w.cell? ⟨b,i,none⟩=some v):∃ob,w.heap[b]? = some ob/\∀l,ob≠.deferred l:=by
 unfold World.cell? at h;cases hb:w.heap[b]? with
 | none=>simp[hb]at h
 | some o=>cases o<;>simp[hb]at h ⊢
theorem HM.mono0{c d:Cx}(x:Qm c d){a:Addr}{vs:List Value}(h:HM c a vs):HM d a vs:=by
 refine⟨h.spot,λb=>?_,λi u hi=>?_,h.one⟩
 match vs,b with
 | u::us,b=>
  have h0:=h.cell 0 u (by simp);exact(x.keep _ (h.free b) (Ie h0)).1
 have h0:=h.cell i u hi;have b:vs≠[]:=by rintro rfl;simp at hi
 have:=(x.keep _ (h.free b) (Ie h0)).2;unfold World.cell? at *;rw[this];exact h0
mutual
theorem V.mono0{c j:Cx}(x:Qm c j):∀{s:SV} {v:Value},V c s v->V j s v
 | .bool _,_,h=>h
 | .int _ _,_,h=>h
 | .str _,_,h=>h
 | .nilp,_,h=>h
 | .nilf,_,h=>h
 | .nilm,_,h=>h
 | .junk,_,_=>trivial
 | .agg cs,v,h=>by rw[V]at *;obtain⟨vs,e,hl,k⟩:=h;exact⟨vs,e,VL.mono0 x hl,k⟩
 | .tup cs,v,h=>by rw[V]at *;obtain⟨vs,e,hl⟩:=h;exact⟨vs,e,VL.mono0 x hl⟩
 | .fn f a b,v,h=>by rw[V]at *;obtain⟨xs,ys,e,h1,h2⟩:=h;exact⟨xs,ys,e,VL.mono0 x h1,VL.mono0 x h2⟩
 | .ptr o off,v,h=>by rw[V]at *;obtain⟨b,st,h1,h2⟩:=h;exact⟨b,st,x.ρ _ _ h1,h2⟩
 | .q cs,v,h=>by rw[V]at *;obtain⟨a,vs,e,h1,h2,d⟩:=h;exact⟨a,vs,e,h1.mono0 x,VL.mono0 x h2,d⟩
 | .sl o off z len full,v,h=>by
  rw[V]at *;obtain⟨b,st,cap,h1,h2,d,g,i⟩:=h;exact⟨b,st,cap,x.ρ _ _ h1,h2,d,g,qI i (x.room b)⟩
 | .slc o off z len cap,v,h=>by
  rw[V]at *;obtain⟨b,st,h1,h2,d,i⟩:=h;exact⟨b,st,x.ρ _ _ h1,h2,d,qI i (x.room b)⟩
 | .i z es full,v,h=>by
  rw[V]at *;rcases h with h|⟨a,cap,vs,e,h1,h2,d,g⟩
  exact .inl h;exact .inr ⟨a,cap,vs,e,h1,h2,d.mono0 x,VE.mono0 x g⟩
 | .map o,v,h=>by rw[V]at *;obtain⟨b,h1,h2⟩:=h;exact⟨b,x.ρ _ _ h1,h2⟩
theorem VL.mono0{c a:Cx}(x:Qm c a):∀{s:List SV} {v:List Value},VL c s v->VL a s v
 | [],_,h=>by rw[VL]at *;exact h
 | s::ss,v,h=>by rw[VL]at *;obtain⟨u,r,e,h1,h2⟩:=h;exact⟨u,r,e,V.mono0 x h1,VL.mono0 x h2⟩
theorem VE.mono0{c a:Cx}(x:Qm c a){z:Nat}:∀{s:List SV} {v:List Value},VE c z s v->VE a z s v
 | [],_,h=>by rw[VE]at *;exact h
 | s::ss,v,h=>by rw[VE]at *;obtain⟨u,r,e,d,b,h1,h2⟩:=h;exact⟨u,r,e,d,b,V.mono0 x h1,VE.mono0 x h2⟩
end
theorem HM.mono{c b:Cx}(x:EH c b){a:Addr}{vs:List Value}(h:HM c a vs):HM b a vs:=h.mono0 x.to0
theorem V.mono{c a:Cx}(x:EH c a){s:SV}{v:Value}(h:V c s v):V a s v:=V.mono0 x.to0 h
theorem VL.mono{c a:Cx}(x:EH c a){s:List SV}{v:List Value}(h:VL c s v):VL a s v:=VL.mono0 x.to0 h
theorem V2.mono0{c a:Cx}(x:Qm c a){s:List SV}{v:List Value}(h:Ag (V c) s v):Ag (V a) s v:=Ag.mono (λ_ _=>V.mono0 x) h
theorem V2.mono{c a:Cx}(x:EH c a){s:List SV}{v:List Value}(h:Ag (V c) s v):Ag (V a) s v:=Ag.mono (λ_ _=>V.mono x) h
def IZ(ents:List MapEntry)(clock:Nat):Prop:=(∀x∈ents,x.born<clock)/\(ents.map (·.born)).Nodup
def Ty(ty:Option TypeId)(st:Nat)(e:TypeId):Prop:=∀t,ty=some t->st=0/\e=t
theorem Ty.none{st:Nat}{e:TypeId}:Ty Option.none st e:=λ_ h=>by cases h
theorem Ty.row{e:TypeId}:Ty (Ib e) 0 e:=λt h=>⟨rfl,by unfold Ib at h;split at h<;>cases h;rfl⟩
theorem Kb{h:Hp}{e:TypeId}{o off:Nat}(H:Ib e=none):Hz h e o off=none:=by unfold Hz;rw[H]
theorem Ty.app{h:Hp}{e t:TypeId}{o off:Nat}(H:Hz h e o off=some t):off=0/\aj (h o)=some t/\e=t:=by
 unfold Hz at H;split at H;cases H;rename_i t' ht;split at H<;>cases H;rename_i h1;exact⟨h1.1,h1.2,(Ty.row _ ht).2⟩
def EJ(c:Cx)(o:Nat):Bb->Prop
 | .cells cs ty=>∃b st arr e vs,c.ρ o=some (b,st)/\c.w.heap[b]? = some (.cells arr e (0,0))/\(∀i x,vs[i]? = some x->arr[st+i]? = some x)/\
  Ag (V c) cs vs/\(∀x∈vs,x.oneCell'=true)/\Ty ty st e
 | .map es=>∃b ents clock,c.ρ o=some (b,0)/\c.w.heap[b]? = some (.map ents clock)/\Ag (λ(p:SV×SV)(e:MapEntry)=>V c p.1 e.key/\V c p.2 e.val) es ents.toList/\IZ ents.toList clock
 | .loop r=>∃b,c.ρ o=some (b,0)/\c.w.heap[b]? = some (.loop r)
 | .iter left last=>∃b bm ents clock seen,c.ρ o=some (b,0)/\c.w.heap[b]? = some (.mapIter (some bm) clock seen clock)/\c.w.heap[bm]? = some (.map ents clock)/\¬c.own bm/\IZ ents.toList clock/\
  Ag (λ(p:SV×SV)(e:MapEntry)=>V c p.1 e.key/\V c p.2 e.val) left (ents.toList.filter λe=>!seen.contains e.born)/\
  ∀p,last=some p->∃e∈ents.toList,seen.back? = some e.born/\V c p.1 e.key/\V c p.2 e.val
 | .list z es => ∃ b R9 arr e v, c.ρ o = some (b, R9) ∧ c.w.heap[b]? = some (.cells arr e (0, 0)) ∧ arr[R9]? = some v ∧ v.oneCell' = true ∧
  ((es=[]/\c.bk o=none/\V c (.i 0 [] true) v)\/
   ∃B st arr2 e2 vs cap,es≠[]/\B≠b/\c.bk o=some B/\c.w.heap[B]? = some (.cells arr2 e2 (0,0))/\v=.slice (some ⟨B,st,none⟩) es.length cap/\es.length<=cap/\st+cap*z<=arr2.size/\
    (∀i x,vs[i]? = some x->arr2[st+i]? = some x)/\Ag (V c) (es.flatMap SV.cells) vs/\∀x∈vs,x.oneCell'=true)
def BV(c:Cx)(o:Nat)(x:Bb)(b:Nat):Prop:=(∃st,c.ρ o=some (b,st))\/(x.lst=true/\c.bk o=some b)
structure CF(h:Hp)(c:Cx):Prop where
 obj:∀o x,h o=some x->EJ c o x
 inj2:∀o o' x x' b,h o=some x->h o'=some x'->BV c o x b->BV c o' x' b->o=o'
 own2:∀b,c.own b↔∃o x,h o=some x/\BV c o x b
theorem CF.inj{h:Hp}{c:Cx}(R:CF h c):∀o d x e b st a,h o=some x->h d=some e->c.ρ o=some (b,st)->c.ρ d=some (b,a)->o=d:=
 λo d x e b st a f g i j=>R.inj2 o d x e b f g (.inl ⟨st,i⟩) (.inl ⟨a,j⟩)
theorem CF.ownI{h:Hp}{c:Cx}(R:CF h c){b:Nat}(H:∃o x st,h o=some x/\c.ρ o=some (b,st)):c.own b:=
 let⟨o,x,st,e1,e2⟩:=H;(R.own2 b).2 ⟨o,x,e1,.inl ⟨st,e2⟩⟩
theorem EJ.block{c:Cx}{o:Nat}{x:Bb}(h:EJ c o x):∃b st,c.ρ o=some (b,st)/\b<c.w.heap.size:=by
 cases x with
 | cells cs ty=>obtain⟨b,st,arr,e,vs,h1,h2,_⟩:=h;exact⟨b,st,h1,(qp.1 h2).1⟩
 | map es=>obtain⟨b,d,a,h1,h2,_⟩:=h;exact⟨b,0,h1,(qp.1 h2).1⟩
 | loop r=>obtain⟨b,h1,h2⟩:=h;exact⟨b,0,h1,(qp.1 h2).1⟩
 | iter left last=>obtain⟨b,bm,d,a,seen,h1,h2,_⟩:=h;exact⟨b,0,h1,(qp.1 h2).1⟩
 | list z es=>obtain⟨b,R9,arr,e,v,h1,h2,_⟩:=h;exact⟨b,R9,h1,(qp.1 h2).1⟩
theorem EJ.hold_lt{c:Cx}{o:Nat}{x:Bb}(h:EJ c o x){b:Nat}(hb:BV c o x b):b<c.w.heap.size:=by
 rcases hb with⟨st,hb⟩|⟨hl,hb⟩
 obtain⟨d,st',h1,h2⟩:=h.block;rw[hb]at h1;cases h1;exact h2;cases x with
 | list z es=>
  obtain⟨d,R9,arr,e,v,h1,h2,h3,h4,⟨_,a,_⟩|⟨B,st,arr2,e2,vs,cap,_,_,a,f,_⟩⟩:=h;rw[hb]at a;cases a;rw[hb]at a;cases a;exact(qp.1 f).1
 | cells cs ty=>cases hl
 | map es=>cases hl
 | loop r=>cases hl
 | iter left last=>cases hl
theorem EJ.mono0{c m:Cx}(x:Qm c m){o:Nat}{y:Bb}(h:EJ c o y)(f:∀b,BV c o y b->m.w.heap[b]? = c.w.heap[b]?)(C:m.bk o=c.bk o:=by rfl):EJ m o y:=by
 have hb:∀b st,c.ρ o=some (b,st)->m.w.heap[b]? = c.w.heap[b]?:=λb st e=>f b (.inl ⟨st,e⟩);cases y with
 | list z es=>
  obtain⟨b,R9,arr,e,v,h1,h2,i,j,s⟩:=h;refine⟨b,R9,arr,e,v,x.ρ _ _ h1,(hb b R9 h1).trans h2,i,j,?_⟩;rcases s with⟨n,k,g3⟩|⟨B,st,l,D,vs,cap,n,G,k,g3,u,E,g6,g7,g8,F⟩
  exact .inl ⟨n,C.trans k,V.mono0 x g3⟩;exact .inr ⟨B,st,l,D,vs,cap,n,G,C.trans k,(f B (.inr ⟨rfl,k⟩)).trans g3,u,E,g6,g7,V2.mono0 x g8,F⟩
 | cells cs ty=>
  obtain⟨b,st,arr,e,vs,h1,h2,i,j,s⟩:=h;exact⟨b,st,arr,e,vs,x.ρ _ _ h1,(hb b st h1).trans h2,i,V2.mono0 x j,s⟩
 | map es=>
  obtain⟨b,d,a,h1,h2,i,j⟩:=h;exact⟨b,d,a,x.ρ _ _ h1,(hb b 0 h1).trans h2,Ag.mono (λ_ _ g=>⟨V.mono0 x g.1,V.mono0 x g.2⟩) i,j⟩
 | iter left last=>
  obtain⟨b,A,d,a,t,h1,h2,i,j,s,H,I⟩:=h;obtain⟨J,K⟩:=x.keep A j ⟨_,i,by simp⟩;exact⟨b,A,d,a,t,x.ρ _ _ h1,(hb b 0 h1).trans h2,K.trans i,J,s,Ag.mono (λ_ _ g=>⟨V.mono0 x g.1,V.mono0 x g.2⟩) H,λp e=>let⟨q,n,k,g3,u⟩:=I p e;⟨q,n,k,V.mono0 x g3,V.mono0 x u⟩⟩
 | loop r=>
  obtain⟨b,h1,h2⟩:=h;exact⟨b,x.ρ _ _ h1,(hb b 0 h1).trans h2⟩
theorem EJ.mono{c a:Cx}(x:EH c a){o:Nat}{y:Bb}(h:EJ c o y)(hb:∀b,BV c o y b->a.w.heap[b]? = c.w.heap[b]?)(d:a.bk o=c.bk o:=by rfl):EJ a o y:=h.mono0 x.to0 hb d
theorem V.cells{c:Cx}{s:SV}{v:Value}(h:V c s v)(hs:s.B=true):Ag (V c) s.cells v.cells.toList/\∀x∈v.cells.toList,x.oneCell'=true:=by
 cases s<;>simp only[SV.B]at hs<;>try cases hs
 case agg cs=>
  rw[V]at h;obtain⟨vs,rfl,hl,ho⟩:=h;simpa[SV.cells,Value.cells]using⟨BP.1 hl,ho⟩
 case i z es full=>
  have h':=h;rw[V]at h;rcases h with⟨_,rfl⟩|⟨a,cap,vs,rfl,_⟩<;>simp[SV.cells,Value.cells,Ag,Value.oneCell',h']
 all_goals
  have h':=h;rw[V]at h
  try (repeat' (obtain⟨_,h⟩:=h))
  try subst h
  try (obtain⟨rfl,_⟩:=h)
  simp_all [SV.cells,Value.cells,Ag,Value.oneCell']
theorem Bu(w:World)(b:Obj):(w.alloc b).heap=w.heap.push b:=rfl
theorem NK(c:Cx)(v:Value):V c (Hu v) v:=by
 unfold Hu;split<;>simp[V]
theorem C3(c:Cx)(v:Value):V c (ofValue v) v:=by
 unfold ofValue;split;rename_i cs;split;rename_i d;rw[YO]at d;rw[V];refine⟨cs.toList,by simp,BP.2 ?_,d⟩;have:=Ag.map (R:=Eq) (T:=V c) (f:=Hu) (g:=id) (λa b e=>by subst e;exact NK c a)
  (aS:=cs.toList) (bs:=cs.toList) (Ag.of_get rfl λi a b h1 h2=>by rw[h1]at h2;simpa using h2)
 simpa using this;simp[V];exact NK c _
def DW(P:Program)(ev:Operand->Value)(o:Oper)(h:Hp)(k:Nat)(c:Cx)(out:C5):Prop:=
 ∃u c',((execOp ev o).run P c.w=.ok (.value u) c'.w\/(u=undef/\(execOp ev o).run P c.w=.ok .skip c'.w))/\
  V c' out.val u/\CF (out.app h k) c'/\EH c c'/\(∀j,out.new.isNone=true\/j≠k->c'.ρ j=c.ρ j)
section
variable{P:Program}{ev:Operand->Value}{o:Oper}{h:Hp}{k:Nat}{c:Cx}
theorem BG{v:SV}(R:CF h c)(u:Value)(a:(execOp ev o).run P c.w=.ok (.value u) c.w)(b:V c v u):DW P ev o h k c { val:=v }:=
 ⟨u,c,.inl a,b,R,EH.refl c,λ_ _=>rfl⟩
theorem Hb{b:Bool}{v:Value}(h:V c (.bool b) v):v=.bool b:=by simpa[V]using h
theorem DF{i:IntKind}{n:Int}{v:Value}(h:V c (.int i n) v):v=.int i n:=by simpa[V]using h
theorem Mm{s:ByteArray}{v:Value}(h:V c (.str s) v):v=.string s:=by simpa[V]using h
def Cx.alloc(c:Cx)(k:Nat)(b:Obj):Cx:=
 { ρ:=λj=>if j=k then some (c.w.heap.size,0)else c.ρ j,own:=λx=>c.own x\/x=c.w.heap.size,w:=c.w.alloc b,bk:=c.bk }
theorem Cx.CZ(c:Cx)(k:Nat)(b:Obj)(d:c.ρ k=none):EH c (c.alloc k b):=by
 refine⟨λj p e=>?_,by simp[Cx.alloc],λx a f=>⟨?_,?_⟩,λx=>?_,rfl,rfl,⟨rfl,qa _⟩⟩;simp only[Cx.alloc];split;subst_vars;rw[d]at e;cases e;exact e;simp only[Cx.alloc];rintro(h|h);exact f h;omega;simp[Cx.alloc,Bu,Xk,vM a];unfold rm;rcases YV x c.w.heap.size with a|a;simp[Cx.alloc,Bu,Xk,vM a];simp[Yv a]
theorem CF.none_of{h:Hp}{c:Cx}(R:CF h c){k:Nat}(a:c.ρ k=none):h k=none:=by
 cases e:h k with
 | none=>rfl
 | some x=>obtain⟨b,st,h1,_⟩:=(R.obj k x e).block;rw[a]at h1;cases h1
theorem CF.alloc{h:Hp}{c:Cx}(R:CF h c){k:Nat}(r:c.ρ k=none){x:Bb}{b:Obj}(s:EJ (c.alloc k b) k x)(q:x.lst=false:=by rfl):
 CF (h_ h k (some x)) (c.alloc k b):=by
 have hn:=R.none_of r;have E:=c.CZ k b r;have old:∀j y a,h j=some y->BV c j y a->a<c.w.heap.size:=λj y a e e'=>(R.obj j y e).hold_lt e';have f:∀j y a,j≠k->BV (c.alloc k b) j y a->BV c j y a:=λj y a d H=>by
  simp only[BV,Cx.alloc,d,if_false]at H;exact H
 have m:∀a,BV (c.alloc k b) k x a->a=c.w.heap.size:=λa H=>by
  rcases H with⟨st,H⟩|⟨H,_⟩
  simp only[Cx.alloc,if_true]at H;cases H;rfl;rw[q]at H;cases H
 have get:∀j y,h_ h k (some x) j=some y->(j=k/\y=x)\/(j≠k/\h j=some y):=λj y e=>by
  simp only[h_]at e;split at e;cases e;exact .inl ⟨by assumption,rfl⟩;exact .inr ⟨by assumption,e⟩
 refine⟨λj y e=>?_,λi j y n a g l o p=>?_,λa=>?_⟩;rcases get j y e with⟨rfl,rfl⟩|⟨d,e⟩
 exact s;refine(R.obj j y e).mono E λa e'=>?_;have:=old j y a e e';simp[Cx.alloc,Bu,Xk,vM this];rcases get i y g with⟨rfl,rfl⟩|⟨hi,f1⟩
 rcases get j n l with⟨rfl,rfl⟩|⟨d,f2⟩
 rfl;have h1:=m _ o;have h2:=old j n a f2 (f j n a d p);omega;rcases get j n l with⟨rfl,rfl⟩|⟨d,f2⟩
 have h1:=m _ p;have h2:=old i y a f1 (f i y a hi o);omega;exact R.inj2 i j y n a f1 f2 (f i y a hi o) (f j n a d p);constructor;rintro(h'|h');obtain⟨j,y,g,l⟩:=(R.own2 a).1 h';have d:j≠k:=by rintro rfl;rw[hn]at g;cases g
 exact⟨j,y,by simp[h_,d,g],by simpa[BV,Cx.alloc,d]using l⟩;exact⟨k,x,by simp[h_],.inl ⟨0,by simp[Cx.alloc,h']⟩⟩;rintro⟨j,y,g,l⟩;rcases get j y g with⟨rfl,rfl⟩|⟨d,g⟩
 exact .inr (m _ l);exact .inl ((R.own2 a).2 ⟨j,y,g,f j y a d l⟩)
theorem Kz{cs:List SV}{ty:Option TypeId}{vs:Array Value}{e:TypeId}{v:SV}{u:Value}(R:CF h c)(d:c.ρ k=none)
 (f:(execOp ev o).run P c.w=.ok (.value u) (c.w.alloc (.cells vs e)))
 (hc:Ag (V c) cs vs.toList) (h1:∀x∈vs.toList,x.oneCell'=true)
 (g:∀c':Cx,c'.ρ k=some (c.w.heap.size,0)->rm c'.w c.w.heap.size=vs.size->V c' v u)
 (a:Ty ty 0 e:=by exact Ty.none):DW P ev o h k c { val:=v,new:=some (.cells cs ty) }:=by
 have E:=c.CZ k (.cells vs e) d;refine⟨u,c.alloc k (.cells vs e),.inl f,g _ (by simp[Cx.alloc]) (by simp[rm,Cx.alloc,Bu]),R.alloc d ?_,E,λj b=>?_⟩;refine⟨c.w.heap.size,0,vs,e,vs.toList,by simp[Cx.alloc],by simp[Cx.alloc,Bu],λi x l=>by simpa using l,V2.mono E hc,h1,a⟩;simp at b;simp[Cx.alloc,b]
theorem Ff{t:TypeId}{w:World}{i:TypeInfo}{z:Value}(hi:P.info? t=some i)(a:i.zero=some z):(zeroValue t).run P w=.ok z w:=by
 simp[zeroValue,typeInfo,hi,a]
theorem AN{t:TypeId}{w:World}{d:TypeDesc}(a:P.underlying t=some d):(underlying t).run P w=.ok d w:=by
 simp[underlying,a]
theorem KP{t:TypeId}{d:TypeDesc}(a:P.underlying t=some d):∃i,P.info? t=some i:=by
 cases hi:P.info? t with
 | none=>simp[Program.underlying,hi]at a
 | some i=>exact⟨i,rfl⟩
theorem CB{t:TypeId}(b:(BK P t).B=true):∃i z,P.info? t=some i/\i.zero=some z/\BK P t=ofValue z:=by
 cases hi:P.info? t with
 | none=>simp[BK,hi,SV.B]at b
 | some i =>
  cases a:i.zero with
  | none=>
   exfalso;unfold BK at b;rw[hi]at b;obtain⟨a1,a2,a3,a4,a5,d,e,f,a9,c⟩:=i;simp at a;subst a;simp[SV.B]at b
  | some z=>
   refine⟨i,z,rfl,a,?_⟩;unfold BK;rw[hi];obtain⟨a1,a2,a3,a4,a5,d,e,f,a9,c⟩:=i;simp at a;subst a;rfl
theorem VP{e:TypeId}{out:C5}{evs:Operand->SV}(g:o.op=.alloc e)(f:DB P evs h k o.op=some out)(R:CF h c)(j:c.ρ k=none):DW P ev o h k c out:=by
 rw[g]at f;simp only[DB]at f;split at f<;>try cases f
 rename_i a;simp at a;obtain⟨i,z,hi,l,d⟩:=CB a.1;have b:=V.cells (c:=c) (C3 c z) (by rw[<-d];exact a.1);rw[<-d]at b;refine Kz (vs:=z.cells) (e:=e) (u:=.pointer (some ⟨c.w.heap.size,0,none⟩)) R j ?_ b.1 b.2 (λc' h1 _=>by rw[V];exact⟨_,0,h1,rfl⟩) Ty.row;simp[execOp,g,Instr.alloc,Ff hi l,newVar,newRow]
theorem Yu{e:TypeId}{x:Operand}{out:C5}{evs:Operand->SV}(f:o.op=.box e x)(d:DB P evs h k o.op=some out)(R:CF h c)(g:c.ρ k=none)
 (H:∀x∈o.op.operands,V c (evs x) (ev x)):DW P ev o h k c out:=by
 rw[f]at d H;simp only[DB]at d;split at d<;>try cases d
 rename_i a;have b:=V.cells (H x (by simp[Op.operands])) a;refine Kz (vs:=(ev x).cells) (e:=e) (u:=.pointer (some ⟨c.w.heap.size,0,none⟩)) R g ?_ b.1 b.2 (λc' h1 _=>by rw[V];exact⟨_,0,h1,rfl⟩) Ty.row;simp[execOp,f,Instr.box,newVar,newRow]
theorem R7{x:Operand}{out:C5}{evs:Operand->SV}(a:o.op=.move x\/o.op=.assign x)(b:DB P evs h k o.op=some out)(R:CF h c)
 (H:∀x∈o.op.operands,V c (evs x) (ev x)):DW P ev o h k c out:=by
 rcases a with a|a <;>
 . rw[a]at b H;simp only[DB,E8,qk]at b;subst b;exact BG R (ev x) (by simp[execOp,a]) (H x (by simp[Op.operands]))
theorem XR{x a b:Operand}{out:C5}{evs:Operand->SV}(f:o.op=.pick x a b)(e:DB P evs h k o.op=some out)(R:CF h c)
 (H:∀x∈o.op.operands,V c (evs x) (ev x)):DW P ev o h k c out:=by
 rw[f]at e H;simp only[DB]at e;split at e<;>try cases e
 rename_i t ht;have g:=H x (by simp[Op.operands]);rw[ht]at g;have d:=Hb g;cases t;exact BG R (ev b) (by simp[execOp,f,d,asBool]) (by simpa using H b (by simp[Op.operands]));exact BG R (ev a) (by simp[execOp,f,d,asBool]) (by simpa using H a (by simp[Op.operands]))
theorem MK(off:Nat):∀(xs:List Value)(k:Nat)(cs:Array Value),off+k+xs.length<=cs.size->
 ((xs.zipIdx k).foldl (λcs (p:Value×Nat)=>cs.setIfInBounds (off+p.2) p.1) cs).toList=cs.toList.take (off+k)++xs++cs.toList.drop (off+k+xs.length)
 | [],k,cs,_=>by simp
 | x::xs,k,cs,hl=>by
  simp only[qJ]at hl;rw[List.zipIdx_cons,J5,MK off xs (k+1) _ (by simp;omega)];have:=list_seg_step cs.toList (off+k) x xs (by simp;omega);simp only[qJ,Array.toList_setIfInBounds]at *;rw[show off+(k+1)=off+k+1 by omega];exact this
theorem PE(off:Nat)(v:Value)(cs:Array Value)(hl:off+v.cells.size<=cs.size):
 (v.cells.zipIdx.foldl (λcs (c,j)=>cs.setIfInBounds (off+j) c) cs).toList=cs.toList.take off++v.cells.toList++cs.toList.drop (off+v.cells.size):=by
 have:=MK off v.cells.toList 0 cs (by simpa using hl);rw[<-Array.foldl_toList];simpa using this
theorem Gk{cs xs r:List SV}{off:Nat}(h:Gj cs off xs=some r):off+xs.length<=cs.length/\r=cs.take off++xs++cs.drop (off+xs.length):=by
 unfold Gj at h;split at h;rename_i hl;cases h;exact⟨hl,rfl⟩;cases h
theorem OP{cs xs:List SV}{vs us:List Value}(off:Nat)(h:Ag (V c) cs vs)(g:Ag (V c) xs us):
 Ag (V c) (cs.take off++xs++cs.drop (off+xs.length)) (vs.take off++us++vs.drop (off+us.length)):=by
 rw[g.length];exact Ag.append (Ag.append (h.take off) g) (h.drop _)
theorem OO{vs us:List Value}(off n:Nat)(h:∀x∈vs,x.oneCell'=true)(g:∀x∈us,x.oneCell'=true):∀x∈vs.take off++us++vs.drop n,x.oneCell'=true:=by
 intro x a;simp only[qd]at a;rcases a with(a|a)|a;exact h x (qS a);exact g x a;exact h x (JJ a)
theorem Nf{a place':Nat->Option (Nat×Nat)}(hp:∀i p,a i=some p->place' i=some p):
 ∀(ps:List (Nat×SV))(l:List (Nat×Value))(m:List SV)(cells:Array Value)(cs:List SV),Ag (λp q=>p.1=q.1/\V c p.2 q.2) ps l->Ag (V c) m cells.toList->
  (∀x∈cells.toList,x.oneCell'=true)->Ks a m ps=some cs->∃r,Instr.fill place' cells l=some r/\Ag (V c) cs r.toList/\∀x∈r.toList,x.oneCell'=true
 | [],l,m,cells,cs,e,hz,h1,hf=>by
  rw[e.nil_left];simp only[Ks,qk]at hf;subst hf;exact⟨cells,rfl,hz,h1⟩
 | (i,s)::ps,[],_,_,_,e,_,_,_=>e.elim
 | (i, s) :: ps, (j, v) :: l, m, cells, cs, e, hz, h1, hf => by
  obtain⟨⟨rfl,z⟩,e⟩:=e;simp only[Ks]at hf;cases d:a i with
  | none=>simp[d]at hf
  | some p=>
   obtain⟨off,size⟩:=p;simp only[d]at hf;split at hf;rename_i y;simp only[qo,beq_iff_eq]at y;cases f:Gj m off s.cells with
   | none=>simp[f]at hf
   | some zs' =>
    simp only[f]at hf;obtain⟨hle,rfl⟩:=Gk f;obtain⟨g,n⟩:=z.cells y.1;have b:=g.length;have k:=hz.length;have w:v.cells.size=size:=by simp only[vl]at b;omega
    have h:=PE off v cells (by simp only[vl]at b k;omega);obtain⟨r,o,t,u⟩:=Nf hp ps l _ (v.cells.zipIdx.foldl (λcs (c,j)=>cs.setIfInBounds (off+j) c) cells) cs e
     (by rw[h];have:=OP off hz g;simpa using this) (by rw[h];exact OO off _ h1 n) hf
    refine⟨r,?_,t,u⟩;simp only[Instr.fill,hp i _ d];have hn:off+v.cells.size<=cells.size:=by simp only[vl]at b k;omega
    rw[if_neg (by simp[w];omega)];exact o
   cases hf
theorem PD{a:Nat->Option (Nat×Nat)}:∀{b:List (Nat×Value)} {cells r:Array Value},Instr.fill a cells b=some r->r.size=cells.size
 | [],cells,r,h=>by simp only[Instr.fill,qk]at h;rw[h]
 | (i,v)::b,cells,r,h=>by
  simp only[Instr.fill]at h;split at h;cases h;split at h;cases h;rename_i off size heq hc;rw[PD h];have hl:off+v.cells.size<=cells.size:=by simp at hc;omega
  have:=congrArg List.length (PE off v cells hl);simp only[vl,qq,vD,vf]at this;rw[this];omega
theorem PW{evs:Operand->SV}(ps:Array (Nat×Operand))(H:∀p∈ps.toList,V c (evs p.2) (ev p.2)):
 Ag (λ(p:Nat×SV)(q:Nat×Value)=>p.1=q.1/\V c p.2 q.2) (ps.toList.map λp=>(p.1,evs p.2)) (ps.map λ(i,x)=>(i,ev x)).toList:=by
 simp only[Array.toList_map];refine Ag.of_get (by simp) λi a b h1 h2=>?_;simp only[qX,qN]at h1 h2;obtain⟨p,hp,rfl⟩:=h1;obtain⟨q,d,rfl⟩:=h2;rw[hp]at d;cases d;exact⟨rfl,H p (U1 hp)⟩
theorem PV{t:TypeId}{ps:Array (Nat×Operand)}{p:Nat×Operand}(h:p∈ps.toList):p.2∈(Op.build t ps).operands:=by
 simp[Op.operands];exact⟨p.1,by simpa using h⟩
theorem Iv{t:TypeId}{l:Nat}{ps:Array (Nat×Operand)}{p:Nat×Operand}(h:p∈ps.toList):p.2∈(Op.buildSlice t l ps).operands:=by
 simp[Op.operands];exact⟨p.1,by simpa using h⟩
theorem VR{t:TypeId}{ps:Array (Nat×Operand)}{out:C5}{evs:Operand->SV}(ho:o.op=.build t ps)(hs:DB P evs h k o.op=some out)(R:CF h c)
 (H:∀x∈o.op.operands,V c (evs x) (ev x)):DW P ev o h k c out:=by
 rw[ho]at hs H;simp only[DB]at hs;cases hz:BK P t<;>simp only[hz]at hs<;>try cases hs
 rename_i zs;cases hpl:Bf P t with
 | none=>simp[hpl]at hs
 | some pl =>
  simp only[hpl]at hs;cases hf:Ks (pl[·]?) zs (ps.toList.map λp=>(p.1,evs p.2))with
  | none=>simp[hf]at hs
  | some cs =>
   simp only[hf,E8,qK,qk]at hs;subst hs;obtain⟨i,z,hi,hzz,hze⟩:=CB (P:=P) (t:=t) (by rw[hz];rfl);have hvz:=C3 c z;rw[<-hze,hz]at hvz;have hcs:=hvz.cells rfl;unfold Bf at hpl;rw[hi]at hpl;obtain⟨place',hp',hb⟩:∃place':Nat->Option (Nat×Nat),(∀i p,pl[i]? = some p->place' i=some p)/\
    ∀q:List (Nat×Value),P.built t q=Instr.fill place' z.cells q:=by
    cases hu:P.underlying t with
    | none=>simp[hu]at hpl
    | some d =>
     cases d<;>simp only[hu]at hpl<;>try cases hpl
     case array n e=>
      cases hie:P.info? e with
      | none=>simp[hie]at hpl
      | some ie=>
       simp only[hie,qO,qk]at hpl;subst hpl;refine⟨λi=>some (i*ie.size,ie.size),λi p hp=>?_,λq=>by simp[Program.built,hi,hu,hzz,hie]⟩;simp only[qX,qN]at hp;obtain⟨a,ha,rfl⟩:=hp;obtain⟨hi',rfl⟩:=qh.1 ha;simp
     case struct fs=>
      exact⟨(pl.toArray[·]?),λi p hp=>by simpa using hp,λq=>by simp[Program.built,hi,hu,hzz,hpl]⟩
   obtain⟨r,hr1,hr2,hr3⟩:=Nf (c:=c) hp' _ _ zs z.cells cs (PW ps λp hp=>H p.2 (PV hp)) (by simpa[SV.cells]using hcs.1) hcs.2 hf;refine BG R (.agg r) ?_ (by rw[V];exact⟨r.toList,by simp,BP.2 hr2,hr3⟩);have hrun:=run_build (P:=P) c.w t (ps.map λ(i,x)=>(i,ev x)) r (by rw[hb];exact hr1);simp[execOp,ho,hrun]
end
section
variable{P:Program}{ev:Operand->Value}{o:Oper}{h:Hp}{k:Nat}{c:Cx}
theorem FH{cs r:List SV}{off n:Nat}(e:Bz cs off n=some r):off+n<=cs.length/\r=(cs.drop off).take n:=by
 unfold Bz at e;split at e;rename_i hl;cases e;exact⟨hl,rfl⟩;cases e
theorem FY(b off n:Nat):(⟨b,off,none⟩:Addr).add n=⟨b,off+n,none⟩:=by
 unfold Addr.add;split<;>simp_all
theorem C4{a:Addr}(c:a.spot=none)(n:Nat):a.add n=⟨a.block,a.off+n,none⟩:=by
 obtain⟨b,off,s⟩:=a;simp at c;subst c;exact FY b off n
theorem FG{t:TypeId}{b:Bool}(ht:Gl P t=some b)(w:World):(isAgg t).run P w=.ok b w:=by
 unfold Gl at ht;cases a:P.underlying t with
 | none=>simp[a]at ht
 | some d=>cases d<;>simp[a]at ht<;>simp[isAgg,AN a,ht]
theorem OX{t:TypeId}{b:Bool}(ht:Gl P t=some b):∃i,P.info? t=some i/\Br P t=i.size:=by
 unfold Gl at ht;cases a:P.underlying t with
 | none=>simp[a]at ht
 | some d=>obtain⟨i,hi⟩:=KP a;exact⟨i,hi,by simp[Br,Program.cellsOf,hi]⟩
theorem Ms{a:Option Bool}{cs:List SV}{us:List Value}{v:SV}(e:Sk a cs=some v)(hc:Ag (V c) cs us)(h1:∀x∈us,x.oneCell'=true):
 (a=some true/\V c v (.agg us.toArray))\/(a=some false/\∃u,us=[u]/\V c v u):=by
 cases a with
 | none=>simp[Sk]at e
 | some b =>
  cases b with
  | true=>
   simp only[Sk,qk]at e;subst e;exact .inl ⟨rfl,by rw[V];exact⟨us,rfl,BP.2 hc,h1⟩⟩
  | false =>
   simp only[Sk]at e
   match cs,e,hc with
   | [x],e,hc=>
    simp at e;subst e;obtain⟨u,rfl,d⟩:=hc.single;exact .inr ⟨rfl,u,rfl,d⟩
   | [],e,_=>simp at e
   | _::_::_,e,_=>simp at e
theorem Em{t:TypeId}{w:World}{a:Addr}{us:List Value}{d:Bool}(f:a.spot=none)(ht:Gl P t=some d)(hl:us.length=Br P t)
 (c:∀i x,us[i]? = some x->w.cell? ⟨a.block,a.off+i,none⟩=some x):
 (d=true->(loadVar t a).run P w=.ok (.agg us.toArray) w)/\(d=false->∀u,us=[u]->(loadVar t a).run P w=.ok u w):=by
 obtain⟨i,hi,h⟩:=OX ht;refine⟨λe=>?_,λe u l=>?_⟩;subst e;have k:=run_loadCells_list (P:=P) w a us (λj v m=>by rw[C4 f];exact c j v m);rw[hl,h]at k;simp[loadVar,FG ht,sizeOf,typeInfo,hi,k];subst e;subst l;have h0:=c 0 u rfl;have g:(⟨a.block,a.off+0,none⟩:Addr)=a:=by obtain⟨b,off,s⟩:=a;simp at f;subst f;rfl
 rw[g]at h0;simp[loadVar,FG ht,h0]
theorem EJ.cell{o:Nat}{cs:List SV}{ty:Option TypeId}(H:EJ c o (.cells cs ty)):∃b st vs,c.ρ o=some (b,st)/\Ag (V c) cs vs/\(∀x∈vs,x.oneCell'=true)/\
 ∀i x,vs[i]? = some x->c.w.cell? ⟨b,st+i,none⟩=some x:=by
 obtain⟨b,st,arr,e,vs,h1,h2,a,d,f,_⟩:=H;exact⟨b,st,vs,h1,d,f,λi x g=>by simp[World.cell?,h2,a i x g]⟩
theorem PP{t:TypeId}{s v:SV}{u:Value}(R:CF h c)(j:K7 P h t s=some v)(k:V c s u):
 ∃a r,u=.pointer (some a)/\(loadVar t a).run P c.w=.ok r c.w/\V c v r:=by
 unfold K7 at j;split at j;rename_i o off;split at j;rename_i cs ty z;rw[V]at k;obtain⟨b,st,hρ,rfl⟩:=k;obtain⟨b',st',vs,hρ',hc,h1,n⟩:=(R.obj _ _ z).cell;rw[hρ]at hρ';cases hρ';cases ht:Bz cs off (Br P t)with
 | none=>simp[ht]at j
 | some r =>
  simp only[ht,qK]at j;obtain⟨y,rfl⟩:=FH ht;have m:=(hc.drop off).take (Br P t);have l:∀x∈(vs.drop off).take (Br P t),x.oneCell'=true:=λx e=>h1 x (JJ (qS e));have f:((vs.drop off).take (Br P t)).length=Br P t:=by have:=hc.length;simp;omega
  have d:∀i x,((vs.drop off).take (Br P t))[i]? = some x->c.w.cell? ⟨b,st+off+i,none⟩=some x:=λi x e=>by
   rw[JY]at e;split at e;rw[Km]at e;rw[qu];exact n _ _ e;cases e
  rcases Ms j m l with⟨g,k⟩|⟨g,x,e,k⟩
  exact⟨_,_,rfl,(Em (a:=⟨b,st+off,none⟩) rfl g f d).1 rfl,k⟩;exact⟨_,_,rfl,(Em (a:=⟨b,st+off,none⟩) rfl g f d).2 rfl x e,k⟩
 cases j;rename_i cs;rw[V]at k;obtain⟨a,vs,rfl,q,hc,p⟩:=k;rw[BP]at hc;cases ht:Bz cs 0 (Br P t)with
 | none=>simp[ht]at j
 | some r =>
  simp only[ht,qK]at j;obtain⟨y,rfl⟩:=FH ht;simp only[vt]at j;have m:=hc.take (Br P t);have l:∀x∈vs.take (Br P t),x.oneCell'=true:=λx e=>q.one x (qS e);have f:(vs.take (Br P t)).length=Br P t:=by have:=hc.length;simp;omega
  have d:∀i x,(vs.take (Br P t))[i]? = some x->c.w.cell? ⟨a.block,a.off+i,none⟩=some x:=λi x e=>by
   rw[JY]at e;split at e;exact q.cell _ _ e;cases e
  rcases Ms j m l with⟨g,k⟩|⟨g,x,e,k⟩
  exact⟨_,_,rfl,(Em p g f d).1 rfl,k⟩;exact⟨_,_,rfl,(Em p g f d).2 rfl x e,k⟩
 cases j
theorem XQ{t:TypeId}{x:Operand}{out:C5}{evs:Operand->SV}(d:o.op=.load t x)(b:DB P evs h k o.op=some out)(R:CF h c)
 (H:∀x∈o.op.operands,V c (evs x) (ev x)):DW P ev o h k c out:=by
 rw[d]at b H;simp only[DB]at b;cases hl:K7 P h t (evs x)with
 | none=>simp[hl]at b
 | some v=>
  simp only[hl,E8,qK,qk]at b;subst b;obtain⟨a,r,f,e,g⟩:=PP R hl (H x (by simp[Op.operands]));exact BG R r (by simp[execOp,d,f,Instr.loadAt,Instr.sureAddr,e]) g
theorem Fi(w:World)(g:Nat)(cs:Array Value){b:Nat}(hb:b≠g):(w.setRow g cs).heap[b]? = w.heap[b]?:=by
 simp[World.setRow,Vx,Ne.symm hb]
theorem GN(w:World)(g:Nat)(cs:Array Value):(w.setRow g cs).heap.size=w.heap.size:=by simp[World.setRow]
theorem CF.write{w':World}{o b st:Nat}{x y:Bb}(R:CF h c)(r:h o=some x)(p:c.ρ o=some (b,st))
 (l:w'.heap.size=c.w.heap.size) (d:∀a,a≠b->w'.heap[a]? = c.w.heap[a]?) (k:rm c.w b<=rm w' b) (u:w'.os=c.w.os) (n:w'.output=c.w.output)
 (J:EH c { c with w:=w' }->EJ { c with w:=w' } o y) (A:x.lst=false:=by rfl) (B:y.lst=false:=by rfl) (v:Td c.w w':=by exact⟨rfl,qa _⟩):CF (h_ h o (some y)) { c with w:=w' }/\EH c { c with w:=w' }:=by
 have E:EH c { c with w:=w' }:=by
  refine⟨λ_ _ e=>e,by simp[l],λa hb' hn=>⟨hn,?_⟩,λa=>?_,u,n,v⟩;refine d a ?_;rintro rfl;exact hn (R.ownI ⟨o,x,st,r,p⟩);by_cases e:a=b;subst e;exact k;simp[rm,d a e]
 have s:∀z:Bb,z.lst=false->∀a,BV c o z a->a=b:=λz s a H=>by
  rcases H with⟨st',H⟩|⟨H,_⟩
  rw[p]at H;cases H;rfl;rw[s]at H;cases H
 have f:∀j z,h_ h o (some y) j=some z->∃z0,h j=some z0/\∀a,BV { c with w:=w' } j z a->BV c j z0 a:=λj z e=>by
  simp only[h_]at e;split at e;subst_vars;cases e;exact⟨x,r,λa H=>by rw[s y B a H];exact .inl ⟨st,p⟩⟩;exact⟨z,e,λa H=>H⟩
 refine⟨⟨λj z e=>?_,λi j z L b1 g m F G=>?_,λa=>?_⟩,E⟩;simp only[h_]at e;split at e;subst_vars;cases e;exact J E;rename_i q;refine(R.obj j z e).mono E λD e'=>d D ?_;rintro rfl;exact q (R.inj2 j o z x D e r e' (.inl ⟨st,p⟩));obtain⟨z0,t,C⟩:=f i z g;obtain⟨M,I,K⟩:=f j L m;exact R.inj2 i j z0 M b1 t I (C _ F) (K _ G);rw[R.own2 a];constructor;rintro⟨j,z,g,m⟩;by_cases q:j=o;subst q;rw[r]at g;cases g;exact⟨j,y,by simp[h_],by rw[s x A a m];exact .inl ⟨st,p⟩⟩;exact⟨j,z,by simp[h_,q,g],m⟩;rintro⟨j,z,g,m⟩;obtain⟨z0,t,C⟩:=f j z g;exact⟨j,z0,t,C _ m⟩
theorem Th{A vs us:List Value}{st off:Nat}(c:∀(i:Nat)(x:Value),vs[i]? = some x->A[st+i]? = some x)(hle:off+us.length<=vs.length)(hne:us.length≠0):
 st+off+us.length<=A.length/\∀(i:Nat)(x:Value),(vs.take off++us++vs.drop (off+us.length))[i]? = some x->(A.take (st+off)++us++A.drop (st+off+us.length))[st+i]? = some x:=by
 have b:=c (vs.length-1) vs[vs.length-1] (by simp);have hlen:=(qh.1 b).1;refine⟨by omega,λi x a=>?_⟩;have d:(A.take (st+off)).length=st+off:=by simp;omega
 have e:(vs.take off).length=off:=by simp;omega
 simp only[qj]at a ⊢;by_cases h1:i<off;rw[qZ (by omega)]at a ⊢;rw[JY,if_pos (by omega)]at a ⊢;exact c i x a;rw[qT (by omega)]at a ⊢;rw[d,e]at *;by_cases h2:i-off<us.length;rw[qZ (by omega)]at a ⊢;rw[show st+i-(st+off)=i-off by omega];exact a;rw[qT (by omega)]at a ⊢;rw[Km]at a ⊢;have:=c _ _ a;rw[<-this];congr 1;omega
theorem Ja{o off:Nat}{cs xs:List SV}{ty:Option TypeId}{us:List Value}{b st:Nat}(R:CF h c)(n:h o=some (.cells cs ty))(k:c.ρ o=some (b,st))
 (hle:off+xs.length<=cs.length) (hne:xs.length≠0) (f:Ag (V c) xs us) (h1:∀x∈us,x.oneCell'=true):
 ∃w',(storeCells ⟨b,st+off,none⟩ us).run P c.w=.ok () w'/\CF (h_ h o (some (.cells (cs.take off++xs++cs.drop (off+xs.length)) ty))) { c with w:=w' }/\EH c { c with w:=w' }:=by
 obtain⟨p,st',arr,e,vs,l,g,g3,m,q,g6⟩:=R.obj _ _ n;rw[k]at l;cases l;have hl:=f.length;have hl2:=m.length;obtain⟨s1,s2⟩:=Th (A:=arr.toList) (st:=st) (off:=off) (us:=us) (λi x f=>by simpa using g3 i x f) (by omega) (by omega);have d:=run_storeCells_at (P:=P) b (st+off) e us 0 arr c.w g (by simpa using s1) h1;simp only[UO]at d;refine⟨_,d,?_⟩;have a:=setRow_heap c.w b arr (arr.toList.take (st+off)++us++arr.toList.drop (st+off+us.length)).toArray e (0,0) g;refine R.write n k (GN _ _ _) (λp j=>Fi _ _ _ j) ?_ rfl rfl (λE=>?_);simp only[rm,g,a];simp at s1 ⊢;omega;refine⟨b,st,_,e,vs.take off++us++vs.drop (off+us.length),k,a,λi x f=>by simpa using s2 i x f,?_,OO _ _ q h1,g6⟩;exact V2.mono E (OP off m f)
theorem VW{t:TypeId}{x y:Operand}{out:C5}{evs:Operand->SV}(r:o.op=.store t x y)(d:DB P evs h k o.op=some out)(R:CF h c)
 (H:∀x∈o.op.operands,V c (evs x) (ev x)):DW P ev o h k c out:=by
 rw[r]at d H;simp only[DB,QU]at d;have s:=H x (by simp[Op.operands]);have z:=H y (by simp[Op.operands]);split at d<;>try cases d
 rename_i j off v;split at d<;>try cases d
 rename_i cs ty g;split at d<;>try cases d
 rename_i a;simp only[qo,beq_iff_eq,bne_iff_ne,ne_eq]at a;cases e:Gj cs off (evs y).cells with
 | none=>simp[e]at d
 | some cs' =>
  simp only[e,qk]at d;subst d;obtain⟨n,rfl⟩:=Gk e;rw[v,V]at s;obtain⟨b,st,hρ,q⟩:=s;obtain⟨f,m⟩:=z.cells a.1.1;obtain⟨w',l,u,E⟩:=Ja (P:=P) R g hρ n (by omega) f m;obtain⟨i,hi⟩:∃i,P.info? t=some i:=by
   cases hi:P.info? t with
   | none=>have:=a.2;simp[Br,Program.cellsOf,hi]at this
   | some i=>exact⟨i,rfl⟩
  have p:(ev y).cells.size=i.size:=by
   have:=f.length;have h2:=a.1.2;simp[Br,Program.cellsOf,hi]at h2;simp at this;omega
  refine⟨undef,{ c with w:=w' },.inr ⟨rfl,?_⟩,by simp[V,undef,VL],u,E,λ_ _=>rfl⟩;simp[execOp,r,q,Instr.storeAt,Instr.sureAddr,storeVar,sizeOf,typeInfo,hi,p,l]
theorem QR{x:Operand}{out:C5}{evs:Operand->SV}(l:o.op=.nilCheck x)(g:DB P evs h k o.op=some out)(R:CF h c)
 (H:∀x∈o.op.operands,V c (evs x) (ev x)):DW P ev o h k c out:=by
 rw[l]at g H;simp only[DB]at g;have d:=H x (by simp[Op.operands]);split at g<;>try cases g
 rename_i j off i;rw[i]at d;have e:=d;rw[V]at d;obtain⟨b,st,hρ,f⟩:=d;exact BG R (ev x) (by simp[execOp,l,f]) e;rename_i cs i;rw[i]at d;have e:=d;rw[V]at d;obtain⟨a,vs,f,_⟩:=d;exact BG R (ev x) (by simp[execOp,l,f]) e
theorem Ou{t:TypeId}{x:Operand}{i:Nat}{out:C5}{evs:Operand->SV}(D:o.op=.fieldAddr t x i)(e:DB P evs h k o.op=some out)(R:CF h c)
 (H:∀x∈o.op.operands,V c (evs x) (ev x)):DW P ev o h k c out:=by
 rw[D]at e H;simp only[DB,Hl]at e;have s:=H x (by simp[Op.operands]);cases g:JH P t i with
 | none=>simp[g]at e
 | some q=>
  obtain⟨off,C⟩:=q;simp only[g]at e;by_cases B:Br P C=0;simp[B]at e
  . simp only[B,if_false]at e;obtain⟨v,f,y,m,rfl,rfl⟩:∃v f,P.underlying t=some (.struct v)/\v[i]? = some f/\f.offset=off/\f.type=C:=by
     unfold JH at g;cases y:P.underlying t with
     | none=>simp[y]at g
     | some d=>
      cases d<;>simp only[y]at g<;>try cases g
      rename_i v;simp only[qN]at g;obtain⟨f,m,F⟩:=g;cases F;exact⟨v,f,rfl,m,rfl,rfl⟩
    obtain⟨u,hi,hsz⟩:∃u,P.info? f.type=some u/\Br P f.type=u.size:=by
     cases hi:P.info? f.type with
     | none=>simp[Br,Program.cellsOf,hi]at B
     | some u=>exact⟨u,rfl,by simp[Br,Program.cellsOf,hi]⟩
    have z:∀a:Addr,(fieldPlace a f).run P c.w=.ok (a.add f.offset) c.w:=λa=>by
     simp[fieldPlace,sizeOf,typeInfo,hi,show ¬u.size=0 by omega]
    have l:∀a:Addr,ev x=.pointer (some a)->(execOp ev o).run P c.w=.ok (.value (.pointer (some (a.add f.offset)))) c.w:=λa E=>by
     simp[execOp,D,Instr.fieldAt,AN y,m,E,Instr.sureAddr,z]
    split at e<;>try (simp at e;done)
    rename_i j a r;simp only[E8,qK,qk]at e;subst e;rw[r,V]at s;obtain⟨b,st,hρ,p⟩:=s;refine BG R _ (l _ p) ?_;rw[FY,V];exact⟨b,st,hρ,by rw[qu]⟩;rename_i cs r;simp only[E8,qK,qk]at e;subst e;rw[r,V]at s;obtain⟨a,vs,p,n,hc,A⟩:=s;refine BG R _ (l _ p) ?_;rw[C4 A,V];refine⟨_,vs.drop f.offset,rfl,⟨λ_=>rfl,λG=>n.free (by rintro rfl;simp at G),λj x r=>?_,λx s=>n.one x (JJ s)⟩,BP.2 ((BP.1 hc).drop _),rfl⟩;rw[Km]at r;simp only[qu];exact n.cell _ _ r
theorem RP{z:Nat}{es:List SV}{vs:List Value}{i:Nat}{e:SV}(hE:VE c z es vs)(hi:es[i]? = some e):
 ∃u,V c e u/\e.B=true/\u.cells.size=z/\(vs.drop (i*z)).take z=u.cells.toList/\i*z+z<=vs.length:=by
 induction es generalizing i vs with
 | nil=>simp at hi
 | cons e' es ih =>
  rw[VE]at hE;obtain⟨u,r,rfl,hz,hs,hv,hr⟩:=hE;cases i with
  | zero=>
   simp at hi;subst hi;exact⟨u,hv,hs,hz,by simp[<-hz],by simp[<-hz]⟩
  | succ i=>
   simp at hi;obtain⟨u',h1,h1',h2,h3,h4⟩:=ih hr hi;refine⟨u',h1,h1',h2,?_,?_⟩;rw[<-h3,Nat.succ_mul,Nat.add_comm,<-vF,List.drop_left' (by simp[hz])];simp[Nat.succ_mul];omega
theorem HM.sub{a:Addr}{vs:List Value}(b:HM c a vs)(d n:Nat):HM c ⟨a.block,a.off+d,none⟩ ((vs.drop d).take n):=by
 refine⟨λ_=>rfl,λf=>b.free (by rintro rfl;simp at f),λj x e=>?_,λx g=>b.one x (JJ (qS g))⟩;rw[JY]at e;split at e;rw[Km]at e;simp only[qu];exact b.cell _ _ e;cases e
theorem Ay{t e:TypeId}(a:BA P t=some e):P.underlying t=some (.slice e):=by
 unfold BA at a;split at a;rename_i e' b;cases a;exact b;cases a
theorem MZ{t:TypeId}{n:Nat}{e:TypeId}(a:Ka P t=some (n,e)):P.underlying t=some (.array n e):=by
 unfold Ka at a;split at a;rename_i e' he b;cases a;exact b;cases a
theorem Ep{t b e:TypeId}(a:Mk P t=some (b,e)):P.underlying t=some (.map b e):=by
 unfold Mk at a;split at a;rename_i e' he c;cases a;exact c;cases a
theorem Fp{t:TypeId}(a:Fo P t=true):P.underlying t=some .string:=by
 unfold Fo at a;split at a;rename_i b;exact b;cases a
theorem Dy{e:TypeId}(a:Br P e≠0):∃ii,P.info? e=some ii/\Br P e=ii.size:=by
 cases hi:P.info? e with
 | none=>simp[Br,Program.cellsOf,hi]at a
 | some ii=>exact⟨ii,rfl,by simp[Br,Program.cellsOf,hi]⟩
theorem Ov{t:TypeId}{x y:Operand}{out:C5}{evs:Operand->SV}(G:o.op=.indexAddr t x y)(d:DB P evs h k o.op=some out)(R:CF h c)
 (H:∀x∈o.op.operands,V c (evs x) (ev x)):DW P ev o h k c out:=by
 rw[G]at d H;simp only[DB,Ho]at d;have i:=H x (by simp[Op.operands]);have O:=H y (by simp[Op.operands]);split at d<;>try cases d
 rename_i kk n hn;rw[hn]at O;have D:=DF O;cases B:BA P t with
 | some e=>
  have I:=Ay B;simp only[B]at d;by_cases F:Br P e=0;simp[F]at d;obtain⟨X,hi,p⟩:=Dy F;simp only[F,if_false]at d;split at d<;>try (simp at d;done)
  rename_i j off M len full A;by_cases hc:M=Br P e/\0<=n/\n<len;simp only[hc,and_self,if_true,E8,qK,qk]at d;subst d;rw[A,V]at i;obtain⟨b,st,cap,hρ,f,_⟩:=i;obtain⟨l,g,J⟩:=hc;refine BG R (.pointer (some ⟨b,st+off+n.toNat*Br P e,none⟩)) ?_ ?_;simp[execOp,G,Instr.indexAt,D,asIntOf,AN I,f,g,J,sizeOf,typeInfo,hi,FY,p];rw[V];exact⟨b,st,hρ,by rw[qu]⟩;simp[hc]at d;rename_i M es full A;by_cases hc:M=Br P e/\0<=n;simp only[hc,and_self,if_true]at d;obtain⟨l,g⟩:=hc;cases E:es[n.toNat]? with
  | none=>simp[E]at d
  | some v=>
   simp only[E,qO,E8,qK,qk]at d;subst d;rw[A,V]at i;rcases i with⟨i,_⟩|⟨a,cap,vs,f,_,_,m,N⟩
   subst i;simp at E;subst l;have C:a.spot=none:=m.spot (λQ=>by have h1:=Ps N;have h2:=(qh.1 E).1;rw[Q,vI]at h1;have h3:0<es.length*Br P e:=Nat.mul_pos (by omega) (by omega);omega);obtain⟨u,S,T,g3,U,g5⟩:=RP N E;have K:n<es.length:=by have:=(qh.1 E).1;omega
   refine BG R (.pointer (some ⟨a.block,a.off+n.toNat*Br P e,none⟩)) ?_ ?_;simp[execOp,G,Instr.indexAt,D,asIntOf,AN I,f,g,K,sizeOf,typeInfo,hi,C4 C,p];rw[V];exact⟨_,u.cells.toList,rfl,by rw[<-U];exact m.sub _ _,BP.2 (S.cells T).1,rfl⟩
  simp[hc]at d
 | none =>
  simp only[B]at d;cases z:Ka P t with
  | none=>simp[z]at d
  | some q=>
   obtain⟨len,e⟩:=q;have I:=MZ z;simp only[z]at d;by_cases hc:0<=n/\n<(len:Int)/\Br P e≠0
   . rw[if_pos hc]at d;obtain⟨l,g,F⟩:=hc;obtain⟨X,hi,p⟩:=Dy F;have r:∀a:Addr,ev x=.pointer (some a)->(execOp ev o).run P c.w=.ok (.value (.pointer (some (a.add (n.toNat*Br P e))))) c.w:=λa W=>by
      simp[execOp,G,Instr.indexAt,D,asIntOf,AN I,W,l,g,sizeOf,typeInfo,hi,p,Instr.sureAddr]
     split at d<;>try (simp at d;done)
     rename_i j a A;simp only[E8,qK,qk]at d;subst d;rw[A,V]at i;obtain⟨b,st,hρ,f⟩:=i;refine BG R _ (r _ f) ?_;rw[FY,V];exact⟨b,st,hρ,by rw[qu]⟩;rename_i cs A;simp only[E8,qK,qk]at d;subst d;rw[A,V]at i;obtain⟨a,vs,f,m,hc,L⟩:=i;refine BG R _ (r _ f) ?_;have s:=m.sub (n.toNat*Br P e) (vs.length);rw[qv (by simp)]at s;rw[C4 L,V];exact⟨_,_,rfl,s,BP.2 ((BP.1 hc).drop _),rfl⟩
   rw[if_neg hc]at d;simp at d
theorem Gn{cs:List SV}{v:Value}(a:V c (.agg cs) v):∃vs,v=.agg vs.toArray/\Ag (V c) cs vs/\∀x∈vs,x.oneCell'=true:=by
 rw[V]at a;obtain⟨vs,e,hl,h1⟩:=a;exact⟨vs,e,BP.1 hl,h1⟩
theorem Rj{t:TypeId}{cs:List SV}{vs:List Value}{off:Nat}{v:SV}(f:(Bz cs off (Br P t)).bind (Sk (Gl P t))=some v)(hc:Ag (V c) cs vs)
 (h1:∀x∈vs,x.oneCell'=true) (w:World):∃r,(part t vs.toArray off).run P w=.ok r w/\V c v r:=by
 cases ht:Bz cs off (Br P t)with
 | none=>simp[ht]at f
 | some r=>
  simp only[ht,qK]at f;obtain⟨hle,rfl⟩:=FH ht;have hl:=hc.length;have e:=(hc.drop off).take (Br P t);have d:∀x∈(vs.drop off).take (Br P t),x.oneCell'=true:=λx i=>h1 x (JJ (qS i));rcases Ms f e d with⟨a,h⟩|⟨a,x,i,h⟩
  obtain⟨ii,hi,g⟩:=OX a;refine⟨_,?_,h⟩;simp[part,FG a,sizeOf,typeInfo,hi,<-g];refine⟨x,?_,h⟩;have b:vs[off]? = some x:=by
   have:((vs.drop off).take (Br P t))[0]? = some x:=by rw[i];rfl
   rw[JY]at this;split at this;rw[Km]at this;simpa using this;cases this
  simp[part,FG a,b]
theorem VT{t:TypeId}{x y:Operand}{out:C5}{evs:Operand->SV}(p:o.op=.index t x y)(a:DB P evs h k o.op=some out)(R:CF h c)
 (H:∀x∈o.op.operands,V c (evs x) (ev x)):DW P ev o h k c out:=by
 rw[p]at a H;simp only[DB]at a;have j:=H x (by simp[Op.operands]);have l:=H y (by simp[Op.operands]);split at a<;>try cases a
 . rename_i s i n h1 h2;rw[h1]at j;rw[h2]at l;have z:=Mm j;have f:=DF l;split at a<;>try cases a
   rename_i hc;cases hb:s[n.toNat]? with
   | none=>simp[hb]at a
   | some b=>
    simp only[hb,E8,qK,qk]at a;subst a;refine BG R (.int .u8 b.toNat) ?_ (by simp[V]);simp[execOp,p,Instr.index,f,asIntOf,AN (Fp hc.1),z,hc.2,hb]
 . rename_i cs i n h1 h2;rw[h1]at j;rw[h2]at l;have f:=DF l;obtain⟨vs,A,m,g⟩:=Gn j;cases d:Ka P t with
   | none=>simp[d]at a
   | some q =>
    obtain⟨len,e⟩:=q;simp only[d]at a;split at a<;>try cases a
    rename_i hc;cases hp:(Bz cs (n.toNat*Br P e) (Br P e)).bind (Sk (Gl P e))with
    | none=>simp[hp]at a
    | some v =>
     simp only[hp,E8,qK,qk]at a;subst a;obtain⟨r,B,C⟩:=Rj (c:=c) hp m g c.w;obtain⟨b,hb⟩:∃b,Gl P e=some b:=by
      cases hb:Gl P e with
      | none=>
       cases ht:Bz cs (n.toNat*Br P e) (Br P e)<;>simp[ht,hb,Sk]at hp
      | some b=>exact⟨b,rfl⟩
     obtain⟨ii,hi,u⟩:=OX hb;rw[u]at B;exact BG R r (by simp[execOp,p,Instr.index,f,asIntOf,AN (MZ d),A,hc,sizeOf,typeInfo,hi,B]) C
end
section
variable{P:Program}{ev:Operand->Value}{o:Oper}{h:Hp}{k:Nat}{c:Cx}
theorem Nr{op:BinOp}{i:IntKind}{a b:Int}{v:SV}{t:TypeId}(hs:Lk op i a b=some v)(h1:op≠.shl)(h2:op≠.shr)(w:World):
 ∃r,(binOp op t (.int i a) (.int i b)).run P w=.ok r w/\V c v r:=by
 cases op<;>simp only[Lk]at hs<;>try (first|(cases hs;done)|exact absurd rfl h1|exact absurd rfl h2)
 case quo=>
  split at hs<;>try cases hs
  rename_i hb;exact⟨_,by simp[binOp,Op.intDiv,hb];rfl,by rw[V]⟩
 case rem=>
  split at hs<;>try cases hs
  rename_i hb;exact⟨_,by simp[binOp,Op.intDiv,hb];rfl,by rw[V]⟩
 case and=>cases hs;exact⟨.int i (i.wrap (BitVec.ofInt i.bits a &&& BitVec.ofInt i.bits b).toNat),by simp[binOp,Op.intBits],by rw[V]⟩
 case or=>cases hs;exact⟨.int i (i.wrap (BitVec.ofInt i.bits a ||| BitVec.ofInt i.bits b).toNat),by simp[binOp,Op.intBits],by rw[V]⟩
 case xor=>cases hs;exact⟨.int i (i.wrap (BitVec.ofInt i.bits a ^^^ BitVec.ofInt i.bits b).toNat),by simp[binOp,Op.intBits],by rw[V]⟩
 all_goals
  simp only[qk]at hs;subst hs;exact⟨_,by simp[binOp,Op.intArith,Op.intCmp];rfl,by rw[V]⟩
theorem Tk{op:BinOp}{a b:ByteArray}{v:SV}{t:TypeId}(hs:QV op a b=some v)(w:World):
 ∃r,(binOp op t (.string a) (.string b)).run P w=.ok r w/\V c v r:=by
 cases op<;>simp only[QV]at hs<;>try (cases hs;done)
 case add=>
  split at hs<;>try cases hs
  rename_i hb;refine⟨.string (a++b),?_,by rw[V]⟩;simp[binOp,Op.stringOp];have:IntKind.i64.max=9223372036854775807:=by decide
  omega
 case gtr=>cases hs;exact⟨.bool !(Op.bytesLess a.toList b.toList||a.toList==b.toList),by simp[binOp,Op.stringOp],by rw[V]⟩
 all_goals
  simp only[qk]at hs;subst hs;exact⟨_,by simp[binOp,Op.stringOp];rfl,by rw[V]⟩
theorem I4{c:BinOp}{t:TypeId}{x y:Operand}{a b:Value}(d:a≠.nilIface)(hg:∀u,a≠.agg u)(w:World):
 (eqGuard c t x y a b).run P w=.ok () w:=by
 cases a<;>simp at d hg<;>cases c<;>simp[eqGuard]
theorem Ha(d:Nat){t:TypeId}(a b:Bool)(c:P.underlying t=some .bool)(w:World):(Op.equalIn (d+1) t (.bool a) (.bool b)).run P w=.ok (a==b) w:=by
 simp[Op.equalIn,AN c]
theorem Lt(d:Nat){t e:TypeId}(q:Option Addr)(a:P.underlying t=some (.pointer e))(w:World):(Op.equalIn (d+1) t (.pointer q) (.pointer none)).run P w=.ok q.isNone w:=by
 cases q<;>simp[Op.equalIn,AN a]
theorem NO{t:TypeId}(a b:Bool)(c:P.underlying t=some .bool)(w:World):
 (binOp .eql t (.bool a) (.bool b)).run P w=.ok (.bool (a==b)) w/\(binOp .neq t (.bool a) (.bool b)).run P w=.ok (.bool !(a==b)) w:=by
 have:=Ha 9999 a b c w;constructor<;>(simp only[binOp,Op.equal];simp[Op.maxDepth,this])
theorem O3{t e:TypeId}(q:Option Addr)(a:P.underlying t=some (.pointer e))(w:World):
 (binOp .eql t (.pointer q) (.pointer none)).run P w=.ok (.bool q.isNone) w/\(binOp .neq t (.pointer q) (.pointer none)).run P w=.ok (.bool !q.isNone) w:=by
 have:=Lt 9999 q a w;constructor<;>(simp only[binOp,Op.equal];simp[Op.maxDepth,this])
theorem IT{t:TypeId}(hb:OT P t=true):P.underlying t=some .bool:=by
 unfold OT at hb;split at hb;rename_i a;exact a;cases hb
theorem Pk{t:TypeId}(hb:XZ P t=true):∃e,P.underlying t=some (.pointer e):=by
 unfold XZ at hb;split at hb;rename_i e a;exact⟨e,a⟩;cases hb
theorem Yd{x:SV}{u:Value}{f:Bool}(d:V c x u)(g:(match x with|.nilp=>some (SV.bool true)|.ptr .. | .q _=>some (.bool false)|_=>none)=some (.bool f)):
 ∃q:Option Addr,u=.pointer q/\q.isNone=f:=by
 cases x<;>simp at g<;>subst g<;>rw[V]at d;exact⟨none,d,rfl⟩;obtain⟨b,st,_,e⟩:=d;exact⟨_,e,rfl⟩;obtain⟨a,vs,e,_⟩:=d;exact⟨_,e,rfl⟩
theorem W4{x:SV}{u:Value}{f:Bool}(d:V c x u)(g:(match x with|.nilp=>some (SV.bool false)|.ptr .. | .q _=>some (.bool true)|_=>none)=some (.bool f)):
 ∃q:Option Addr,u=.pointer q/\(!q.isNone)=f:=by
 cases x<;>simp at g<;>subst g<;>rw[V]at d;exact⟨none,d,rfl⟩;obtain⟨b,st,_,e⟩:=d;exact⟨_,e,rfl⟩;obtain⟨a,vs,e,_⟩:=d;exact⟨_,e,rfl⟩
theorem VQ{B:BinOp}{t t2:TypeId}{x y:Operand}{out:C5}{evs:Operand->SV}(C:o.op=.binOp B t x y t2)(p:DB P evs h k o.op=some out)(R:CF h c)
 (H:∀x∈o.op.operands,V c (evs x) (ev x)):DW P ev o h k c out:=by
 rw[C]at p H;simp only[DB]at p;have g:=H x (by simp[Op.operands]);have d:=H y (by simp[Op.operands]);cases hb:X7 (OT P t) (XZ P t) B (evs x) (evs y)with
 | none=>simp[hb]at p
 | some v =>
  simp only[hb,E8,qK,qk]at p;subst p;have fin:∀a b:Value,ev x=a->ev y=b->a≠.nilIface->(∀u,a≠.agg u)->
   (∃r,(binOp B t a b).run P c.w=.ok r c.w/\V c v r)->DW P ev o h k c { val:=v }:=λa b D s h1 h2 ⟨r,E,F⟩=>
   BG R r (by simp[execOp,C,D,s,I4 (P:=P) h1 h2,E]) F
  unfold X7 at hb;split at hb
  . rename_i i a j b l f;rw[l]at g;rw[f]at d;split at hb<;>try cases hb
    rename_i hc;refine fin _ _ (DF g) (DF d) (by simp) (by simp) ⟨.int i (i.wrap (a*2 ^ (min b.toNat i.bits))),?_,by rw[V]⟩;simp[binOp,Op.shift,show ¬b<0 by omega]
  . rename_i i a j b l f;rw[l]at g;rw[f]at d;split at hb<;>try cases hb
    rename_i hc;refine fin _ _ (DF g) (DF d) (by simp) (by simp) ⟨.int i (a.fdiv (2 ^ (min b.toNat i.bits))),?_,by rw[V]⟩;simp[binOp,Op.shift,show ¬b<0 by omega]
  . rename_i i a j b G I l f;rw[l]at g;rw[f]at d;split at hb<;>try cases hb
    rename_i hc;subst hc;exact fin _ _ (DF g) (DF d) (by simp) (by simp) (Nr hb G I c.w)
  rename_i op' a b l f;rw[l]at g;rw[f]at d;exact fin _ _ (Mm g) (Mm d) (by simp) (by simp) (Tk hb c.w)
  . rename_i a b l f;rw[l]at g;rw[f]at d;split at hb<;>try cases hb
    rename_i hc;exact fin _ _ (by simpa[V]using g) (by simpa[V]using d) (by simp) (by simp) ⟨_,(NO a b (IT hc) c.w).1,by rw[V]⟩
  . rename_i a b l f;rw[l]at g;rw[f]at d;split at hb<;>try cases hb
    rename_i hc;exact fin _ _ (by simpa[V]using g) (by simpa[V]using d) (by simp) (by simp) ⟨_,(NO a b (IT hc) c.w).2,by rw[V]⟩
  . rename_i f;rw[f]at d;split at hb<;>try cases hb
    rename_i hc;obtain⟨e,A⟩:=Pk hc;obtain⟨n,rfl⟩:∃n,v=.bool n:=by revert hb;split<;>intro hb<;>cases hb<;>exact⟨_,rfl⟩
    obtain⟨q,z,m⟩:=Yd g hb;exact fin _ _ z (by simpa[V]using d) (by simp) (by simp) ⟨_,(O3 q A c.w).1,by rw[V,m]⟩
  . rename_i f;rw[f]at d;split at hb<;>try cases hb
    rename_i hc;obtain⟨e,A⟩:=Pk hc;obtain⟨n,rfl⟩:∃n,v=.bool n:=by revert hb;split<;>intro hb<;>cases hb<;>exact⟨_,rfl⟩
    obtain⟨q,z,m⟩:=W4 g hb;exact fin _ _ z (by simpa[V]using d) (by simp) (by simp) ⟨_,(O3 q A c.w).2,by rw[V,m]⟩
  cases hb
theorem XS{g:UnOp}{t:TypeId}{x:Operand}{out:C5}{evs:Operand->SV}(f:o.op=.unOp g t x)(a:DB P evs h k o.op=some out)(R:CF h c)
 (H:∀x∈o.op.operands,V c (evs x) (ev x)):DW P ev o h k c out:=by
 rw[f]at a H;simp only[DB]at a;have d:=H x (by simp[Op.operands]);split at a<;>try cases a
 rename_i b e;rw[e]at d;exact BG R (.bool !b) (by simp[execOp,f,Hb d,Op.unary]) (by rw[V]);rename_i i n e;rw[e]at d;exact BG R (.int i (i.wrap (0-n))) (by simp[execOp,f,DF d,Op.unary,Op.intArith]) (by rw[V])
theorem Gw{t:TypeId}{i:IntKind}(hb:L6 P t=some i):P.underlying t=some (.int i):=by
 unfold L6 at hb;split at hb;rename_i a;cases hb;exact a;cases hb
theorem Ry{t t2:TypeId}{x:Operand}{out:C5}{evs:Operand->SV}(b:o.op=.convert t t2 x)(a:DB P evs h k o.op=some out)(R:CF h c)
 (H:∀x∈o.op.operands,V c (evs x) (ev x)):DW P ev o h k c out:=by
 rw[b]at a H;simp only[DB]at a;have d:=H x (by simp[Op.operands]);split at a<;>try cases a
 rename_i i j i' n e f g;rw[g]at d;exact BG R (.int j (j.wrap n)) (by simp[execOp,b,DF d,convert,AN (Gw e),AN (Gw f),Conv.intToInt]) (by rw[V])
theorem HX{evs:Operand->SV}(xs:Array Operand)(H:∀x∈xs.toList,V c (evs x) (ev x)):Ag (V c) (xs.toList.map evs) (xs.map ev).toList:=by
 simp only[Array.toList_map];refine Ag.of_get (by simp) λi a b h1 h2=>?_;simp only[qX,qN]at h1 h2;obtain⟨p,hp,rfl⟩:=h1;obtain⟨q,d,rfl⟩:=h2;rw[hp]at d;cases d;exact H p (U1 hp)
theorem QQ{f:Fn}{a b:Array Operand}{out:C5}{evs:Operand->SV}(g:o.op=.makeFunc f a b)(e:DB P evs h k o.op=some out)(R:CF h c)
 (H:∀x∈o.op.operands,V c (evs x) (ev x)):DW P ev o h k c out:=by
 rw[g]at e H;simp only[DB,E8,qk]at e;subst e;refine BG R (.func f (a.map ev) (b.map ev)) (by simp[execOp,g,Instr.makeFunc]) ?_;rw[V];exact⟨(a.map ev).toList,(b.map ev).toList,by rw[Array.toArray_toList,Array.toArray_toList],BP.2 (HX a λx d=>H x (by simp[Op.operands]at d ⊢;exact .inl d)),BP.2 (HX b λx d=>H x (by simp[Op.operands]at d ⊢;exact .inr d))⟩
theorem Rz{x:Operand}{i:Nat}{out:C5}{evs:Operand->SV}(f:o.op=.extract x i)(a:DB P evs h k o.op=some out)(R:CF h c)
 (H:∀x∈o.op.operands,V c (evs x) (ev x)):DW P ev o h k c out:=by
 rw[f]at a H;simp only[DB]at a;have g:=H x (by simp[Op.operands]);split at a<;>try cases a
 rename_i vs j;cases d:vs[i]? with
 | none=>simp[d]at a
 | some v=>
  simp only[d,E8,qK,qk]at a;subst a;rw[j,V]at g;obtain⟨us,l,hl⟩:=g;obtain⟨u,b,e⟩:=(BP.1 hl).get d;exact BG R u (by simp[execOp,f,l,Instr.extract,b]) e
theorem R6{t:TypeId}{r:Option Operand}{out:C5}{evs:Operand->SV}(e:o.op=.makeMap t r)(a:DB P evs h k o.op=some out)(R:CF h c)(d:c.ρ k=none):
 DW P ev o h k c out:=by
 rw[e]at a;simp only[DB]at a;split at a<;>try cases a
 rename_i hc;simp only[qo,Option.isNone_iff_eq_none]at hc;obtain⟨rfl,hc⟩:=hc;have E:=c.CZ k (.map #[] 0) d;refine⟨.map (some c.w.heap.size),c.alloc k (.map #[] 0),.inl ?_,by rw[V];exact⟨_,by simp[Cx.alloc],rfl⟩,R.alloc d ⟨c.w.heap.size,#[],0,by simp[Cx.alloc],by simp[Cx.alloc,Bu],trivial,by simp[IZ]⟩,E,λj b=>?_⟩;simp[execOp,e,Instr.makeMap,Cx.alloc];simp at b;simp[Cx.alloc,b]
theorem Gy{z:SV}{b:Value}(e:V c z b)(d:z.B=true)(n:Nat):
 Ag (V c) (List.replicate n z.cells).flatten (List.replicate n b.cells.toList).flatten/\∀x∈(List.replicate n b.cells.toList).flatten,x.oneCell'=true:=by
 obtain⟨h1,h2⟩:=e.cells d;refine⟨Ag.flatten (Ag.replicate h1 n),λx a=>?_⟩;simp only[List.mem_flatten,List.mem_replicate]at a;obtain⟨l,⟨_,rfl⟩,a⟩:=a;exact h2 x a
theorem EX(a:Array Value)(b:a.size≠0):∀n,((Array.range (n*a.size)).map λi=>a[i % a.size]!).toList=(List.replicate n a.toList).flatten
 | 0=>by simp
 | n+1=>by
  have c:=EX a b n;simp only[Array.toList_map,Array.toList_range]at *;rw[Nat.succ_mul,List.range_add,qc,c,List.replicate_succ',List.flatten_append];congr 1;simp only[List.map_map,List.flatten_cons,List.flatten_nil,JP];apply List.ext_getElem?;intro i;by_cases hi:i<a.size;simp[hi,Nat.add_mod,Nat.mod_eq_of_lt hi,getElem!_pos];simp[hi]
theorem OM{t:TypeId}{len:Nat}{ps:Array (Nat×Operand)}{out:C5}{evs:Operand->SV}(E:o.op=.buildSlice t len ps)(d:DB P evs h k o.op=some out)(R:CF h c)(I:c.ρ k=none)
 (H:∀x∈o.op.operands,V c (evs x) (ev x)):DW P ev o h k c out:=by
 rw[E]at d H;simp only[DB]at d;split at d<;>try cases d
 rename_i e A;split at d<;>try cases d
 rename_i hc;obtain⟨hn,j,hlen⟩:=hc;obtain⟨n,B⟩:=hn;obtain⟨i,z,hi,D,C⟩:=CB j;have m:=C3 c z;rw[<-C]at m;obtain⟨zr,J⟩:=Gy m j len;have a:z.cells.size=Br P e:=by have:=(m.cells j).1.length;simp at this;omega
 have l:Br P e=i.size:=by simp[Br,Program.cellsOf,hi]
 have b:=EX z.cells (by rw[a];intro h0;simp[h0]at n) len;cases s:Ks (λi=>some (i*Br P e,Br P e)) (List.replicate len (BK P e).cells).flatten (ps.toList.map λp=>(p.1,evs p.2))with
 | none=>simp[s]at d
 | some cs =>
  simp only[s,qK,qk]at d;subst d;obtain⟨r,f,v,y⟩:=Nf (c:=c) (place':=λi=>some (i*Br P e,Br P e)) (λi p hp=>hp) _ _ _ ((Array.range (len*z.cells.size)).map λi=>z.cells[i % z.cells.size]!) cs
   (PW ps λp hp=>H p.2 (Iv hp)) (by rw[b];exact zr) (by rw[b];exact J) s
  have q:=run_buildSlice (P:=P) c.w t e len (ps.map λ(i,x)=>(i,ev x)) r i z (Ay A) hi D (by rw[l]at B;omega) (by rw[<-l];exact n) (by rw[<-l,<-a];rw[<-a]at f;exact f);have g:r.size=len*Br P e:=by
   have h1:=PD f;rw[h1];simp[a]
  refine Kz (vs:=r) (e:=e) (u:=.slice (some ⟨c.w.heap.size,0,none⟩) len len) R I (by simp[execOp,E,q]) v y
   (λc' F G=>by rw[V];exact⟨_,0,len,F,rfl,qa _,λ_=>rfl,by rw[G,g];simp⟩)
theorem Qw{s:Option SV}{v:Option Value}{d:Option Int}{n:Int}(hb:V3 s d=some n)(e:∀x,s=some x->∃u,v=some u/\V c x u)(hn:s=none->v=none):
 (s=none/\v=none/\d=some n)\/∃i,v=some (.int i n):=by
 unfold V3 at hb;split at hb;exact .inl ⟨rfl,hn rfl,hb⟩;rename_i d' i m;obtain⟨u,b,a⟩:=e _ rfl;cases hb;exact .inr ⟨i,by rw[b,DF a]⟩;cases hb
theorem EA{i:IntKind}{n:Int}{y:Nat}{code:BoundsCode}(h0:0<=n)(h1:n<=y)(w:World):(Instr.sliceBound (.int i n) y code).run P w=.ok n.toNat w:=by
 simp[Instr.sliceBound,asIntOf,h0,h1]
theorem HZ{isS:Bool}{len cap l m:Nat}{lo hi:Option Value}(b:(lo=none/\l=0)\/∃i,lo=some (.int i l))(a:(hi=none/\m=len)\/∃i,hi=some (.int i m))
 (h1:l<=m) (h2:m<=len) (h3:len<=cap) (w:World):(Instr.sliceBounds isS len cap lo hi none).run P w=.ok (l,m,cap) w:=by
 have hb:=λ(code:BoundsCode)(i:IntKind)=>EA (P:=P) (i:=i) (n:=(l:Int)) (y:=m) (code:=code) (by omega) (by omega) w;have F8:=λ(code:BoundsCode)(i:IntKind)=>EA (P:=P) (i:=i) (n:=(m:Int)) (y:=cap) (code:=code) (by omega) (by omega) w;simp only[Int.toNat_natCast]at hb F8;rcases b with⟨rfl,hl⟩|⟨i,rfl⟩<;>rcases a with⟨rfl,c⟩|⟨j,rfl⟩
 simp[Instr.sliceBounds,hl,c];simp[Instr.sliceBounds,hl,F8];subst c;simp[Instr.sliceBounds,hb];simp[Instr.sliceBounds,hb,F8]
theorem I3{isS:Bool}{len cap l m x:Nat}{lo hi:Option Value}{k3:IntKind}(b:(lo=none/\l=0)\/∃i,lo=some (.int i l))(a:∃i,hi=some (.int i m))
 (h1:l<=m) (h2:m<=x) (h3:x<=cap) (w:World):(Instr.sliceBounds isS len cap lo hi (some (.int k3 x))).run P w=.ok (l,m,x) w:=by
 obtain⟨j,rfl⟩:=a;have hb:=λ(code:BoundsCode)(i:IntKind)=>EA (P:=P) (i:=i) (n:=(l:Int)) (y:=m) (code:=code) (by omega) (by omega) w;have F8:=λ(code:BoundsCode)(i:IntKind)=>EA (P:=P) (i:=i) (n:=(m:Int)) (y:=x) (code:=code) (by omega) (by omega) w;have KL:=λ(code:BoundsCode)(i:IntKind)=>EA (P:=P) (i:=i) (n:=(x:Int)) (y:=cap) (code:=code) (by omega) (by omega) w;simp only[Int.toNat_natCast]at hb F8 KL;rcases b with⟨rfl,hl⟩|⟨i,rfl⟩
 simp[Instr.sliceBounds,hl,F8,KL];simp[Instr.sliceBounds,hb,F8,KL]
end
section
variable{P:Program}{ev:Operand->Value}{o:Oper}{h:Hp}{k:Nat}{c:Cx}
theorem F5{evs:Operand->SV}(x:Option Operand)(H:∀y,x=some y->V c (evs y) (ev y)):
 (∀s,x.map evs=some s->∃u,x.map ev=some u/\V c s u)/\(x.map evs=none->x.map ev=none):=by
 cases x with
 | none=>simp
 | some y=>simpa using H y rfl
theorem YT{z:Nat}{es:List SV}{vs:List Value}(hE:VE c z es vs)(l m:Nat)(hm:m<=es.length)(hl:l<=m):
 VE c z ((es.take m).drop l) ((vs.drop (l*z)).take ((m-l)*z)):=by
 induction es generalizing vs l m with
 | nil=>simp at hm;subst hm;simp at hl;subst hl;rw[VE]at hE;subst hE;simp[VE]
 | cons e es ih =>
  have hE':=hE;rw[VE]at hE;obtain⟨u,r,rfl,hz,hs,hv,hr⟩:=hE;cases m with
  | zero=>simp at hl;subst hl;simp[VE]
  | succ m =>
   simp only[qJ]at hm;cases l with
   | zero=>
    have:=ih hr 0 m (by omega) (by omega);simp only[Nat.zero_mul,vt,vc,YP]at *;rw[VE];refine⟨u,r.take (m*z),?_,hz,hs,hv,this⟩;rw[Nat.succ_mul,Nat.add_comm,List.take_append,qv (by simp[hz])];congr 2;simp[hz]
   | succ l=>
    have:=ih hr l m (by omega) (by omega);simp only[YP,vi];rw[Nat.succ_mul,Nat.add_comm (l*z),<-vF,List.drop_left' (by simp[hz]),show m+1-(l+1)=m-l by omega];exact this
theorem FO{t e:TypeId}(d:P.underlying t=some (.slice e)){z:Nat}(f:∃c,P.info? e=some c/\c.size=z)(a:Option Addr)(len cap l m x:Nat){lo hi mx:Option Value}{w:World}
 (hb:(Instr.sliceBounds true len cap lo hi mx).run P w=.ok (l,m,x) w):
 (Instr.sliceAt t (.slice a len cap) lo hi mx).run P w=.ok (.slice (if x=l then a else a.map (·.add (l*z))) (m-l) (x-l)) w:=by
 obtain⟨c,b,rfl⟩:=f;simp[Instr.sliceAt,AN d,Instr.slice,hb,sizeOf,typeInfo,b]
theorem atc{α:Type}{c:Cx}{F:World->α->Prop}{G:α->Prop}(H:∃r,(∀w,F w r)/\G r):∃r,F c.w r/\G r:=let⟨r,h,g⟩:=H;⟨r,h c.w,g⟩
theorem Jf{t e:TypeId}(s:P.underlying t=some (.slice e)){z l m:Nat}{es:List SV}{full f:Bool}{u:Value}{lo hi mx:Option Value}(v:V c (.i z es full) u)
 (h:∃ii,P.info? e=some ii/\ii.size=Br P e) (A:es=[]\/Br P e=z) (hl:l<=m) (i:m<=es.length)
 (hb:∀cap,es.length<=cap->(full=true->cap=es.length)->∃x,m<=x/\x<=cap/\(f=true->x=m)/\∀w,(Instr.sliceBounds true es.length cap lo hi mx).run P w=.ok (l,m,x) w):
 ∃r,(∀w,(Instr.sliceAt t u lo hi mx).run P w=.ok r w)/\V c (.i z ((es.take m).drop l) f) r:=by
 rw[V]at v;rcases v with⟨rfl,rfl⟩|⟨a,cap,vs,rfl,g,d,j,q⟩
 obtain⟨x,h1,h2,p,n⟩:=hb 0 (qa _) (λ_=>rfl);have o:x=0:=by omega
 simp at i;subst i;simp at hl;subst hl;subst o;exact⟨_,λw=>FO s h none 0 0 0 0 0 (n w),by rw[V];exact .inl ⟨by simp,by simp⟩⟩;obtain⟨x,h1,h2,p,n⟩:=hb cap g d;refine⟨_,λw=>FO s h (some a) es.length cap l m x (n w),?_⟩;rw[V];have b:((es.take m).drop l).length=m-l:=by simp;omega
 refine .inr ⟨if x=l then a else a.add (l*Br P e),x-l,(vs.drop (l*z)).take ((m-l)*z),?_,by rw[b];omega,λy=>by rw[b,p y],?_,YT q l m i hl⟩;rw[b];split<;>rfl;split;rename_i hxl;have:m-l=0:=by omega
 rw[this];simp;exact⟨by simp,by simp,by simp,by simp⟩;rcases A with rfl|rfl;simp at i;subst i;simp at hl;subst hl;simp[Addr.add];exact⟨by simp,by simp,by simp,by simp⟩;by_cases k:vs=[];have h0:=Ps q;have h1:l*Br P e<=es.length*Br P e:=YR _ (by omega);rw[k]at h0 ⊢;rw[vI]at h0;simp;exact⟨by simp,by simp,by simp,by simp⟩;rw[C4 (j.spot k)];exact j.sub _ _
theorem Rw{t e:TypeId}(p:P.underlying t=some (.slice e)){j off z l m len:Nat}{full f:Bool}{u:Value}{lo hi mx:Option Value}(n:V c (.sl j off z len full) u)
 (i:∃ii,P.info? e=some ii/\ii.size=Br P e) (q:Br P e=z) (hl:l<=m) (_hm:m<=len)
 (hb:∀cap,len<=cap->(full=true->cap=len)->∃x,m<=x/\x<=cap/\(f=true->x=m)/\(Instr.sliceBounds true len cap lo hi mx).run P c.w=.ok (l,m,x) c.w):
 ∃r,(Instr.sliceAt t u lo hi mx).run P c.w=.ok r c.w/\V c (if l=m/\l≠0 then .i z [] f else .sl j (off+l*z) z (m-l) f) r:=by
 rw[V]at n;obtain⟨b,st,cap,hρ,rfl,d,a,hroom⟩:=n;obtain⟨x,h1,h2,k,o⟩:=hb cap d a;refine⟨_,FO p i _ len cap l m x o,?_⟩;rw[q];split;rename_i hc;rw[V];refine .inr ⟨if x=l then⟨b,st+off,none⟩else(⟨b,st+off,none⟩:Addr).add (l*z),x-l,[],?_,by simp,λg=>by simp;have:=k g;omega,?_,by rw[VE]⟩;rw[show m-l=0 by omega];split<;>rfl;split;exact⟨by simp,by simp,by simp,by simp⟩;rw[FY];exact⟨by simp,by simp,by simp,by simp⟩;rename_i hc;rw[V];refine⟨b,st,x-l,hρ,?_,by omega,λg=>by rw[k g],?_⟩;split;rename_i hxl;have:l=0:=by omega
 subst this;simp;simp[FY,qu];have:l*z+(x-l)*z=x*z:=by rw[<-UI];congr 1;omega
 have h5:x*z<=cap*z:=YR _ h2;omega
theorem VV{t:TypeId}{x:Operand}{lo hi mx:Option Operand}{out:C5}{evs:Operand->SV}(ho:o.op=.slice t x lo hi mx)(hs:DB P evs h k o.op=some out)(R:CF h c)
 (H:∀x∈o.op.operands,V c (evs x) (ev x)):DW P ev o h k c out:=by
 rw[ho]at hs H;simp only[DB]at hs;have M:=H x (by simp[Op.operands]);have S:=F5 (c:=c) (ev:=ev) (evs:=evs) lo λy e=>H y (by subst e;simp[Op.operands]);have Q:=F5 (c:=c) (ev:=ev) (evs:=evs) hi λy e=>H y (by subst e;simp[Op.operands]);have hmx:=F5 (c:=c) (ev:=ev) (evs:=evs) mx λy e=>H y (by subst e;simp[Op.operands]);cases hb:KY P t (evs x) (lo.map evs) (hi.map evs) (mx.map evs)with
 | none=>simp[hb]at hs
 | some v =>
  simp only[hb,E8,qK,qk]at hs;subst hs;suffices O:∃r,(Instr.sliceAt t (ev x) (lo.map ev) (hi.map ev) (mx.map ev)).run P c.w=.ok r c.w/\V c v r by
   obtain⟨r,hr,hv⟩:=O;exact BG R r (by simp[execOp,ho,hr]) hv
  have A:∀{s:Option SV} {vv:Option Value} {d:Option Int} {n:Int} {N:Nat},V3 s d=some n->0<=n->((∀x,s=some x->∃u,vv=some u/\V c x u)/\(s=none->vv=none))->d=some (N:Int)->
   (vv=none/\n.toNat=N)\/∃i,vv=some (.int i n.toNat):=λhb h0 hv hd=>by
   rcases Qw hb hv.1 hv.2 with⟨_,e,e2⟩|⟨i,e⟩
   rw[hd]at e2;cases e2;exact .inl ⟨e,by simp⟩;exact .inr ⟨i,by rw[e];congr 2;omega⟩
  unfold KY at hb;split at hb
  . rename_i s K;rw[K]at M;have hx':=Mm M;split at hb<;>try cases hb
    rename_i hc;simp only[vJ,UW,not_or,XH,Option.isSome_map]at hc;have hmn:mx=none:=by cases mx<;>simp at hc ⊢
    subst hmn;split at hb<;>try cases hb
    rename_i l m hl hm;split at hb<;>try cases hb
    rename_i B;have T:=Fp hc.1;have b:=A hl B.1 S (by rfl:some (0:Int)=some ((0:Nat):Int));have a:=A hm (by omega) Q rfl;have hrun:=HZ (P:=P) (isS:=false) (len:=s.size) (cap:=s.size) b a (by omega) (by omega) (qa _) c.w;refine⟨.string (s.extract l.toNat m.toNat),?_,by rw[V]⟩;simp[Instr.sliceAt,AN T,Instr.slice,hx',hrun]
  . rename_i z es full K;rw[K]at M;cases g:BA P t with
    | none=>simp[g]at hb
    | some e =>
     have T:=Ay g;simp only[g,Option.any_some]at hb;split at hb<;>try cases hb
     rename_i J;simp only[UW,XH,qo,bne_iff_ne,ne_eq,vJ,beq_iff_eq,List.isEmpty_iff]at J;obtain⟨Y,J⟩:=J;obtain⟨ii,E,G⟩:=Dy Y;split at hb<;>try cases hb
     rename_i l m hl hm;split at hb<;>try cases hb
     rename_i B;have b:=A hl B.1 S (by rfl:some (0:Int)=some ((0:Nat):Int));have a:=A hm (by omega) Q rfl;cases mx with
     | none=>
      simp only[vH,qk]at hb;subst hb;refine atc (Jf T M ⟨ii,E,G.symm⟩ J (by omega) (by omega) λcap h1 h2=>⟨cap,by omega,qa _,λL=>?_,λw=>HZ b a (by omega) (by omega) h1 w⟩);simp at L;have:=h2 L.1;omega
     | some mo=>
      have F:=hmx.1 _ rfl;simp only[qO]at hb F;split at hb<;>try cases hb
      rename_i p;cases p
      . rename_i i x p;simp only[qk]at p;obtain⟨uu,U,I⟩:=F;cases U;rw[p]at I;have W:=DF I;split at hb<;>try cases hb
        rename_i C;simp only[qo,decide_eq_true_eq]at C;have q:∃i,Option.map ev hi=some (.int i m.toNat):=by
         rcases a with⟨K,_⟩|h;cases hi<;>simp at K C;exact h
        have X:(x:Int)=(x.toNat:Int):=by omega
        refine atc (Jf T M ⟨ii,E,G.symm⟩ J (by omega) (by omega) λcap h1 h2=>⟨x.toNat,by omega,by omega,λL=>?_,λw=>?_⟩);simp at L;omega;rw[qO,W,X];exact I3 b q (by omega) (by omega) (by omega) w
  . rename_i j off z len full K;rw[K]at M;cases g:BA P t with
    | none=>simp[g]at hb
    | some e =>
     have T:=Ay g;simp only[g,Option.any_some]at hb;split at hb<;>try cases hb
     rename_i J;simp only[UW,XH,qo,bne_iff_ne,ne_eq,beq_iff_eq]at J;obtain⟨Y,J⟩:=J;obtain⟨ii,E,G⟩:=Dy Y;split at hb<;>try cases hb
     rename_i l m hl hm;split at hb<;>try cases hb
     rename_i B;have b:=A hl B.1 S (by rfl:some (0:Int)=some ((0:Nat):Int));have a:=A hm (by omega) Q rfl;have Z:(l=m/\l≠0)↔(l.toNat=m.toNat/\l.toNat≠0):=by omega
     have hml:(m-l).toNat=m.toNat-l.toNat:=by omega
     cases mx with
     | none =>
      simp only[vH,Z,hml]at hb;have:=Rw (f:=full&&m==len) (lo:=lo.map ev) (hi:=hi.map ev) (mx:=none) (l:=l.toNat) (m:=m.toNat) T M ⟨ii,E,G.symm⟩ J (by omega) (by omega)
       λcap h1 h2=>⟨cap,by omega,qa _,λL=>by simp at L;have:=h2 L.1;omega,HZ b a (by omega) (by omega) h1 c.w⟩
      split at hb<;>(rename_i D;simp only[qk]at hb;subst hb;first|(rw[if_pos D]at this;exact this)|(rw[if_neg D]at this;exact this))
     | some mo=>
      have F:=hmx.1 _ rfl;simp only[qO,Z,hml]at hb F;split at hb<;>try cases hb
      rename_i p;cases p
      . rename_i i x p;simp only[qk]at p;obtain⟨uu,U,I⟩:=F;cases U;rw[p]at I;have W:=DF I;split at hb<;>try cases hb
        rename_i C;simp only[qo,decide_eq_true_eq]at C;have q:∃i,Option.map ev hi=some (.int i m.toNat):=by
         rcases a with⟨K,_⟩|h;cases hi<;>simp at K C;exact h
        have X:(x:Int)=(x.toNat:Int):=by omega
        have:=Rw (f:=x==m) (lo:=lo.map ev) (hi:=hi.map ev) (mx:=some (ev mo)) (l:=l.toNat) (m:=m.toNat) T M ⟨ii,E,G.symm⟩ J (by omega) (by omega)
         λcap h1 h2=>⟨x.toNat,by omega,by omega,λL=>by simp at L;omega,by rw[W,X];exact I3 b q (by omega) (by omega) (by omega) c.w⟩
        split at hb<;>(rename_i D;simp only[qk]at hb;subst hb;first|(rw[if_pos D]at this;exact this)|(rw[if_neg D]at this;exact this))
  cases hb
end
section
variable{P:Program}{ev:Operand->Value}{o:Oper}{h:Hp}{k:Nat}{c:Cx}
theorem Ku{s:SV}{u:Value}{xs:List SV}{n:Nat}(R:CF h c)(hf:flat h s=some xs)(hn:GW s=some n)(hv:V c s u):
 ∃a cap vs,u=.slice a n cap/\n<=cap/\Ag (V c) xs vs/\(∀x∈vs,x.oneCell'=true)/\(∀z,LT z s=true->vs.length=n*z)/\
  (match a with|some a=>(vs≠[]->a.spot=none)/\∀i x,vs[i]? = some x->c.w.cell? ⟨a.block,a.off+i,none⟩=some x|none=>n=0/\cap=0/\vs=[]):=by
 unfold flat at hf;split at hf;rename_i z es full;simp only[qk]at hf;simp only[GW,qk]at hn;subst hf;subst hn;rw[V]at hv;rcases hv with⟨rfl,rfl⟩|⟨a,cap,vs,rfl,hcap,_,hst,hE⟩
 exact⟨none,0,[],rfl,by simp,by simp[Ag],by simp,by simp,rfl,rfl,rfl⟩;obtain⟨us,h1,h2,h3,rfl⟩:=J1.1 hE;refine⟨some a,cap,_,rfl,hcap,?_,hst.one,λz' hz=>?_,hst.spot,hst.cell⟩;clear hst hE h2 hcap;rename_i hfl;clear hfl
 induction es generalizing us with
 | nil=>rw[h1.nil_left];trivial
 | cons e es ih =>
  match us,h1 with
  | u::us,h1=>
   simp only[QZ];exact Ag.append (h1.1.cells (h3 e (by simp))).1 (ih us h1.2 λx hx=>h3 x (by simp[hx]))
  | [],h1=>exact h1.elim
 have hl:=h1.length;simp only[LT,vJ,List.isEmpty_iff,beq_iff_eq]at hz;have gen:∀us:List Value,(∀u∈us,u.cells.size=z)->(us.flatMap (·.cells.toList)).length=us.length*z:=by
  intro us
  induction us with
  | nil=>simp
  | cons u us ih=>intro h;simp only[QZ,qq,qJ,Nat.succ_mul,vl];rw[ih λx hx=>h x (by simp[hx]),h u (by simp)];omega
 rw[gen us h2];rcases hz with rfl|rfl;simp at hl;simp[<-hl];rw[hl];rename_i o' off z len full;simp only[GW,qk]at hn;subst hn;split at hf;rename_i cs ty ho;rw[V]at hv;obtain⟨b,st,cap,hρ,rfl,hcap,_,_⟩:=hv;obtain⟨b',st',vs,hρ',hc,h1,hcell⟩:=(R.obj _ _ ho).cell;rw[hρ]at hρ';cases hρ';obtain⟨hle,rfl⟩:=FH hf;refine⟨_,cap,(vs.drop off).take (len*z),rfl,hcap,(hc.drop off).take _,λx hx=>h1 x (JJ (qS hx)),λz' hz=>?_,λ_=>rfl,λi x hx=>?_⟩;simp only[LT,beq_iff_eq]at hz;subst hz;have:=hc.length;simp;omega;rw[JY]at hx;split at hx;rw[Km]at hx;simp only[qu];exact hcell _ _ hx;cases hx;cases hf;cases hf
theorem MD{α:Type}{a:Array α}{x:α}(h:a.toList=[x]):a = #[x]:=by apply Array.ext';simpa using h
theorem Jw{α:Type}{a:Array α}{x y:α}(h:a.toList=[x,y]):a = #[x,y]:=by apply Array.ext';simpa using h
theorem Ma{α:Type}{a:Option α}(h:a.isSome=true):∃x,a=some x:=X6.1 h
theorem BY{b:Builtin}{a:Array TypeId}{args:Array Operand}(c:o.op=.call { callee:=.builtin b,args:=args,argTypes:=a })(w w':World)(r:Value)
 (d:∀cs,(builtin b a o.type cs (args.map ev)).run P w=.ok (.value r) w'):(execOp ev o).run P w=.ok (.value r) w':=by
 simp only[execOp,c,resolve];simp only[Sem.run_bind,Sem.run_pure,Result.andThen_ok,invoke];exact d _
theorem Wg{p:Array TypeId}{args:Array Operand}{out:C5}{evs:Operand->SV}(C:o.op=.call { callee:=.builtin .len,args:=args,argTypes:=p })
 (d:Al P h k .len p.toList (args.toList.map evs)=some out) (R:CF h c) (H:Ag (V c) (args.toList.map evs) (args.map ev).toList):DW P ev o h k c out:=by
 generalize hA:args.toList.map evs=A at d H;generalize B:args.map ev=U at H;have f:=λ(w w':World)(r:Value)=>BY (P:=P) (ev:=ev) C w w' r;rw[B]at f;simp only[Al]at d;split at d<;>try (first|contradiction|(cases d;done))
 rename_i t x _ q;obtain⟨u,D,g⟩:=H.single;have j:=MD q;have v:=MD D;subst j;subst v;have fin:∀n:Nat,(∀w,w.heap=c.w.heap->(Builtin.len_ #[t] o.type #[u]).run P w=.ok (.int .i64 n) w)->DW P ev o h k c { val:=.int .i64 n }:=λn hn=>
  BG R (.int .i64 n) (f _ _ _ (λcs=>by simp[builtin,hn _ rfl])) (by rw[V])
 split at d
 . rename_i s;split at d<;>try cases d
   rename_i ht;exact fin _ λw _=>by simp[Builtin.len_,AN (Fp ht),Mm g,goInt]
 . rename_i z es full;split at d<;>try cases d
   rename_i ht;obtain⟨e,i⟩:=Ma ht;rw[V]at g;rcases g with⟨rfl,rfl⟩|⟨a,cap,vs,rfl,_⟩
   exact fin _ λw _=>by simp[Builtin.len_,AN (Ay i),goInt]
   exact fin _ λw _=>by simp[Builtin.len_,AN (Ay i),goInt]
 . rename_i E off z len full;split at d<;>try cases d
   rename_i ht;obtain⟨e,i⟩:=Ma ht;rw[V]at g;obtain⟨b,st,cap,_,rfl,_⟩:=g;exact fin _ λw _=>by simp[Builtin.len_,AN (Ay i),goInt]
 . rename_i E;split at d<;>try cases d
   rename_i es l;split at d<;>try cases d
   rename_i ht;obtain⟨⟨kt,e⟩,i⟩:=Ma ht;rw[V]at g;obtain⟨b,hρ,rfl⟩:=g;obtain⟨b',ents,clock,m,y,g3,_⟩:=R.obj _ _ l;rw[hρ]at m;cases m;have hl:=g3.length;have:=fin es.length λw hw=>by simp[Builtin.len_,AN (Ep i),goInt,getObj,Sem.run,hw,y,hl]
   exact this
 cases d
theorem We{m:Array TypeId}{args:Array Operand}{out:C5}{evs:Operand->SV}(v:o.op=.call { callee:=.builtin .cap,args:=args,argTypes:=m })
 (d:Al P h k .cap m.toList (args.toList.map evs)=some out) (R:CF h c) (H:Ag (V c) (args.toList.map evs) (args.map ev).toList):DW P ev o h k c out:=by
 generalize hA:args.toList.map evs=A at d H;generalize s:args.map ev=U at H;have f:=λ(w w':World)(r:Value)=>BY (P:=P) (ev:=ev) v w w' r;rw[s]at f;simp only[Al]at d;split at d<;>try (first|contradiction|(cases d;done))
 rename_i t x _ p;obtain⟨u,y,i⟩:=H.single;have j:=MD p;have q:=MD y;subst j;subst q;have fin:∀n:Nat,(Builtin.cap_ #[t] o.type #[u]).run P c.w=.ok (.int .i64 n) c.w->DW P ev o h k c { val:=.int .i64 n }:=λn hn=>
  BG R (.int .i64 n) (f _ _ _ (λcs=>by simp[builtin,hn])) (by rw[V])
 split at d
 . rename_i z es;split at d<;>try cases d
   rename_i ht;obtain⟨e,g⟩:=Ma ht;rw[V]at i;rcases i with⟨rfl,rfl⟩|⟨a,cap,vs,rfl,_,l,_⟩
   exact fin _ (by simp[Builtin.cap_,AN (Ay g),goInt]);exact fin _ (by simp[Builtin.cap_,AN (Ay g),goInt,l rfl])
 . rename_i o' off z len;split at d<;>try cases d
   rename_i ht;obtain⟨e,g⟩:=Ma ht;rw[V]at i;obtain⟨b,st,cap,_,rfl,_,l,_⟩:=i;exact fin _ (by simp[Builtin.cap_,AN (Ay g),goInt,l rfl])
 cases d
theorem Wi{g:Array TypeId}{args:Array Operand}{out:C5}{evs:Operand->SV}(p:o.op=.call { callee:=.builtin .min,args:=args,argTypes:=g })
 (d:Al P h k .min g.toList (args.toList.map evs)=some out) (R:CF h c) (H:Ag (V c) (args.toList.map evs) (args.map ev).toList):DW P ev o h k c out:=by
 generalize hA:args.toList.map evs=A at d H;generalize n:args.map ev=U at H;have e:=λ(w w':World)(r:Value)=>BY (P:=P) (ev:=ev) p w w' r;rw[n]at e;have m:Al P h k .min g.toList A=(W3 A).bind E8:=by unfold Al;split<;>simp_all
 rw[m]at d;unfold W3 at d;split at d
 . rename_i i a j b;split at d<;>try (simp at d;done)
   rename_i f;simp only[E8,qK,qk]at d;subst d;subst f
   match hU':U.toList,H with
   | [u,v],H=>
    have l:=Jw hU';subst l;have h1:=DF H.1;have h2:=DF H.2.1;subst h1;subst h2;exact BG R (.int i (if b<a then b else a)) (e _ _ _ (λcs=>by simp[builtin,Builtin.min_,Builtin.min2])) (by rw[V])
   | [],H=>exact H.elim
   | [_],H=>exact H.2.elim
   | _::_::_::_,H=>exact H.2.2.elim
 simp at d
theorem Wh{g:Array TypeId}{args:Array Operand}{out:C5}{evs:Operand->SV}(p:o.op=.call { callee:=.builtin .max,args:=args,argTypes:=g })
 (d:Al P h k .max g.toList (args.toList.map evs)=some out) (R:CF h c) (H:Ag (V c) (args.toList.map evs) (args.map ev).toList):DW P ev o h k c out:=by
 generalize hA:args.toList.map evs=A at d H;generalize n:args.map ev=U at H;have e:=λ(w w':World)(r:Value)=>BY (P:=P) (ev:=ev) p w w' r;rw[n]at e;have m:Al P h k .max g.toList A=(Wy A).bind E8:=by unfold Al;split<;>simp_all
 rw[m]at d;unfold Wy at d;split at d
 . rename_i i a j b;split at d<;>try (simp at d;done)
   rename_i f;simp only[E8,qK,qk]at d;subst d;subst f
   match hU':U.toList,H with
   | [u,v],H=>
    have l:=Jw hU';subst l;have h1:=DF H.1;have h2:=DF H.2.1;subst h1;subst h2;exact BG R (.int i (if b>a then b else a)) (e _ _ _ (λcs=>by simp[builtin,Builtin.max_,Builtin.max2])) (by rw[V])
   | [],H=>exact H.elim
   | [_],H=>exact H.2.elim
   | _::_::_::_,H=>exact H.2.2.elim
 simp at d
end
end Go.Proofs.YtgakninlhfkkmaaGreat.Sh
