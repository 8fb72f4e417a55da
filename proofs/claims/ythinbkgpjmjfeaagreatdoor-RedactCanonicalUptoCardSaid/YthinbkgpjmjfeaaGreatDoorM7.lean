/- A part of the proof (part 7 of 18). -/
import Derived.Test.YthinbkgpjmjfeaaGreatDoorM6
import Derived.Lib.ConvBytes
import Derived.Lib.UnsafeStr
import Derived.Lib.Builder
import Derived.Laws.Externs
import Derived.BigFrame
import Derived.WalkKit
import Derived.Lib.Overlaps
import Derived.Lib.AppendZerosOnto
import Derived.Test.YthinbkgpjmjfeaaGreatDoorRows
import Derived.ProofKit
import Derived.OpenShut
import Derived.JoinedCond
import Derived.ReadAgain
import Derived.ChangeReads
namespace Go.Proofs.YthinbkgpjmjfeaaGreatDoor.Sh
open Go.Proofs.Tryz
open Proofs
section
variable{P:Program}{E:BU}{evs:Operand->SV}{o:Oper}{h:Hp}{n:Nat}{K:SV->Hp->Nat->Prop}
abbrev EJ(b:UInt8):SV:=.int .u8 b.toNat
theorem Vm{j dst e:TypeId}{x:Operand}{s:ByteArray}(r:o.op=.convert j dst x)(A:Dj P j=true)(hd:Ax P dst=some e)(y:Ob P e=some .u8)(g:evs x=.str s)
 (hk:K (.x 1 (s.data.toList.map EJ) false) h n):Ff E P evs o h n K:=by
 refine⟨by rw[r];simp,λc ev _ _ R F hv=>?_⟩;have d:=hv x;rw[g]at d;have d:=KT d;have m:=Lib.run_convert_string_bytes (P:=P) c.w j dst e s (Ed A) (Az hd) (H8 y);have p:=Lib.bytesWorld_size c.w e s;have X:DF c { c with w:=Lib.bytesWorld c.w e s }:=by
  refine⟨λ_ _ e=>e,by simp[p],λb hb z=>⟨z,Lib.bytesWorld_at_old c.w e s b hb⟩,λb=>?_,?_,?_,?_,?_⟩;unfold rm;rcases vk b c.w.heap.size with g|g;simp only[Lib.bytesWorld_at_old c.w e s b g];exact IO _;simp[vo g];simp only[Lib.bytesWorld,World.freeze];split<;>rfl;simp only[Lib.bytesWorld,World.freeze];split<;>rfl;simp only[Lib.bytesWorld,World.freeze];split<;>rfl;simp only[Lib.bytesWorld,World.freeze];split<;>first|exact IO _|exact vP _
 have k:s.size<=grownCap c.w s.size 0 e:=by unfold grownCap;exact Nat.le_add_right _ _
 have f:s.data.toList.length=s.size:=by rw[wa];rfl
 refine⟨.slice (some ⟨c.w.heap.size,0,none⟩) s.size (grownCap c.w s.size 0 e),.x 1 (s.data.toList.map EJ) false,h,n,{ c with w:=Lib.bytesWorld c.w e s },by simp only[execOp,r,d,Sem.run_bind,m,Result.andThen_ok,Sem.run_pure],?_,⟨λo x e=>(R.obj o x e).mono X λb hb=>?_,R.inj2,R.own2⟩,F,⟨X,IO _,λ_ _=>rfl⟩,hk⟩;rw[V];refine .inr ⟨⟨c.w.heap.size,0,none⟩,grownCap c.w s.size 0 e,s.data.toList.map (λb=>Value.int .u8 b.toNat),by simp[f],by simp[f];exact k,by simp,⟨λ_=>rfl,λ_ hb=>?_,λi x hi=>?_,λx g=>?_⟩,?_⟩;obtain⟨B,x,t,v⟩:=(R.own2 _).1 hb;exact Nat.lt_irrefl _ ((R.obj B x t).hold_lt v);rw[vj,qQ]at hi;obtain⟨b,hb,rfl⟩:=hi;have hil:=(qu.1 hb).1;have:=Lib.bytesWorld_cell c.w e s i nN;rw[List.getD_eq_getElem?_getD,hb]at this;simpa using this;obtain⟨b,_,rfl⟩:=qb.1 g;rfl;rw[Js];refine⟨s.data.toList.map (λb=>Value.int .u8 b.toNat),AT.map (R:=λa b=>a=b) (λa b e=>by subst e;simp[V]) ?_,?_,?_,?_⟩;have:∀l:List UInt8,AT (λa b=>a=b) l l:=λl=>by induction l with|nil=>trivial|cons a l ih=>exact⟨rfl,ih⟩
 exact this _;intro u q;obtain⟨b,_,rfl⟩:=qb.1 q;rfl;intro u q;obtain⟨b,_,rfl⟩:=qb.1 q;rfl;have:∀l:List UInt8,l.map (λb=>Value.int .u8 b.toNat)=(l.map (λb=>Value.int .u8 b.toNat)).flatMap (·.cells.toList):=λl=>by induction l with|nil=>rfl|cons a l ih=>rw[qg,qV,<-ih];rfl
 exact this _;exact Lib.bytesWorld_at_old c.w _ s b ((R.obj o x e).hold_lt hb)
theorem Jk{x:Operand}{e:Array TypeId}{j off z len:Nat}{full:Bool}(d:o.op=.call { callee:=.builtin .unsafeSliceData,args:=#[x],argTypes:=e })(g:evs x=.sl j off z len full)(hl:len≠0)
 (hk:K (.ptr j off) h n):Ff E P evs o h n K:=by
 refine⟨by rw[d];simp,λc ev _ _ R F hv=>?_⟩;have a:=hv x;rw[g,V]at a;obtain⟨b,st,cap,hρ,f,hcap,_⟩:=a;refine⟨.pointer (some ⟨b,st+off,none⟩),.ptr j off,h,n,c,?_,by rw[V];exact⟨b,st,hρ,rfl⟩,R,F,wD n c,hk⟩;refine CV (P:=P) (ev:=ev) d _ _ _ λcs=>?_;have hr:=Lib.run_unsafeSliceData_row (P:=P) c.w e o.type ⟨b,st+off,none⟩ len cap nN;simp only[BigFrame.builtin_unsafeSliceData,Sem.run_bind,Sem.run_pure];simp only[List.map_toArray,qg,vW,f]at hr ⊢;rw[hr];rfl
theorem Hz{x y:Operand}{L it e:TypeId}{j:Nat}{bs:List UInt8}(O:o.op=.call { callee:=.builtin .unsafeString,args:=#[x,y],argTypes:=#[L,it] })(C:P.underlying L=some (.pointer e))(W:P.cellsOf e=1)
 (hx:evs x=.ptr j 0) (hy:evs y=.int .i64 bs.length) (s:h j=some (.cells (bs.map EJ) (some e))) (l:bs≠[]) (u:bs.length<=9223372036854775807)
 (hk:K (.str ⟨bs.toArray⟩) (h_ h j none) n):Ff E P evs o h n K:=by
 refine⟨by rw[O];simp,λc ev _ _ R F hv=>?_⟩;have p:=hv x;rw[hx,V]at p;obtain⟨b,st,hρ,Z⟩:=p;have a:=hv y;rw[hy]at a;have a:=Dl a;obtain⟨b',st',arr,Q,vs,g1,r,g3,M,g5,g6⟩:=R.obj _ _ s;rw[hρ]at g1;cases g1;obtain⟨G,rfl⟩:=g6 e rfl;subst G;have Y:=M.length;rw[qj]at Y;have hblt:=(qe.1 r).1;have H:bs.length<=arr.size:=by
  rcases Nat.eq_zero_or_pos bs.length with h0|h0;omega;have g:vs[bs.length-1]? = some vs[bs.length-1]:=qm nN;have:=(qe.1 (g3 _ _ g)).1;omega
 have d:∀i x,bs[i]? = some x->c.w.cell? ((⟨b,0,none⟩:Addr).add i)=some (.int .u8 x.toNat):=λi x hi=>by
  have h1:(bs.map EJ)[i]? = some (EJ x):=by rw[vj,hi];rfl
  obtain⟨v,I,J⟩:=M.get h1;have:=Dl J;subst this;have U:=g3 i _ I;rw[DV rfl];simp only[World.cell?,r];simpa using U
 have hr:=Lib.run_unsafeString_row (P:=P) c.w L it o.type Q C W b arr.size (by simp[World.shape?,r]) bs l H u d;have f:∀k,k≠b->(c.w.freeze ⟨b,0,none⟩ bs.length).heap[k]? = c.w.heap[k]?:=λk hk=>by
  unfold World.freeze;split;rfl;simp only[wi];rw[nR (Ne.symm hk)]
 have z:(c.w.freeze ⟨b,0,none⟩ bs.length).heap.size=c.w.heap.size:=by unfold World.freeze;split<;>simp
 have m:c.own b:=R.ownI ⟨j,_,0,s,hρ⟩;have t:=R.kill j s;have D:∀k,rm c.w k<=rm (c.w.freeze ⟨b,0,none⟩ bs.length) k:=λk=>by
  by_cases hk:k=b;subst hk;have h0:¬bs.length=0:=by simpa using l
  unfold rm World.freeze;rw[nR h0];simp only[wi,if_true,r,vK];exact IO _;unfold rm;rw[f k hk];exact IO _
 have A:∀k,¬c.own k->¬(c.kill j).own k:=λk hk h2=>by
  obtain⟨o',x',q,T⟩:=(t.own2 k).1 h2;simp only[h_]at q;split at q;cases q;exact hk ((R.own2 k).2 ⟨o',x',q,T⟩)
 have X:DF c { (c.kill j)with w:=c.w.freeze ⟨b,0,none⟩ bs.length }:=
  ⟨λ_ _ e=>e,by simp[z],λk hk N=>⟨A k N,f k (by rintro rfl;exact N m)⟩,D,by unfold World.freeze;split<;>rfl,by unfold World.freeze;split<;>rfl,⟨by unfold World.freeze;split<;>rfl,by unfold World.freeze;split<;>exact IO _⟩⟩
 refine⟨.string ⟨bs.toArray⟩,.str ⟨bs.toArray⟩,h_ h j none,n,{ (c.kill j)with w:=c.w.freeze ⟨b,0,none⟩ bs.length },?_,by rw[V],⟨λo x e=>?_,t.inj2,t.own2⟩,F,⟨X,IO _,λ_ _=>rfl⟩,hk⟩;refine CV (P:=P) (ev:=ev) O _ _ _ λcs=>?_;simp only[BigFrame.builtin_unsafeString,Sem.run_bind,Sem.run_pure];simp only[List.map_toArray,qg,vW,Z,a,ww]at hr ⊢;rw[hr];rfl;simp only[h_]at e;split at e;cases e;rename_i B;refine(R.obj o x e).mono0 X.to0 λk hk=>f k ?_;intro S;rw[S]at hk;exact B (R.inj2 o j x _ b e s hk (.inl ⟨0,hρ⟩))
end
set_option maxRecDepth 100000 in
theorem Zx(b:Nat)(w:World)(h0:w.cell? ⟨b,2,none⟩=some (.pointer (some ⟨b,2,none⟩))):
 Calls prog 123 #[.pointer (some ⟨b,2,none⟩)] w λe w'=>e=.returned (.tuple #[])/\w'=w:=by
 obtain⟨j,a,_⟩:=qQ.1 (show(prog.info? 121).map (·.size)=some 2 by kernel_rfl)
 go_enter func123,Tryz.ntmps123
 go_wp2
 rw[Lib.run_neq_ptr_same w _ Tryz.underlying118 a]
 go_wp2
 go_end0
 exact⟨rfl,rfl⟩
theorem iL(m:Nat):liesAt prog prog.depth 378 (m+1) 2 121 1=true:=by kernel_rfl
theorem Wq:prog.cellsOf 378=7:=by kernel_rfl
set_option maxRecDepth 100000 in
theorem Wh(b k:Nat)(w:World)(h0:w.cell? ⟨b,2,none⟩=some (.pointer none))(c:w.shape? b=some (378,k))(hk:7<=k)(hfz:w.frozen? ⟨b,2,none⟩=false):
 Calls prog 123 #[.pointer (some ⟨b,2,none⟩)] w λe w'=>e=.returned (.tuple #[])/\w'=w.setCell ⟨b,2,none⟩ (.pointer (some ⟨b,2,none⟩)):=by
 obtain⟨j,f,d⟩:=qQ.1 (show(prog.info? 121).map (·.size)=some 2 by kernel_rfl);obtain⟨m,hm⟩:∃m,k / prog.cellsOf 378=m+1:=⟨k / 7-1,by rw[Wq];omega⟩
 have a:=iL m;rw[<-hm]at a
 go_enter func123,Tryz.ntmps123
 go_wp2
 rw[Lib.run_to_unsafe w ⟨b,2,none⟩ Tryz.underlying118 Tryz.underlying256 f (by rw[d];decide) c (by simp;omega)];simp only[Result.andThen];rw[Oper.upon_value]
 go_wp2
 rw[run_callFunc_extern func179 nQ nQ nQ (e:=Extern.AbiNoEscape.same) nQ];rw[Lib.run_noEscape];simp only[Result.andThen];rw[Oper.upon_value]
 go_wp2
 rw[Lib.run_from_unsafe w ⟨b,2,none⟩ Tryz.underlying256 Tryz.underlying118 f c a];simp only[Result.andThen];rw[Oper.upon_value]
 go_wp2
 go_end0
 exact⟨rfl,rfl⟩
theorem bu:K3 prog 123=true:=by unfold K3;rw[func123];kernel_rfl
theorem lY{H:Hp}{n q:Nat}{a b p o:SV}{r:List SV}(B:H q=some (.cells (a::b::p::o::r) (some 378)))(hp:p=.nilp\/p=.ptr q 2)(hr:r.length=3):
 BF prog 123 [.ptr q 2] H n (λv h' n'=>v=.tup []/\h'=h_ H q (some (.cells (a::b::.ptr q 2::o::r) (some 378)))/\n'=n):=by
 refine⟨bu,λc vs _ R F A=>?_⟩;obtain⟨u,rfl,hv⟩:=A.single;rw[V]at hv;obtain⟨b0,st,hρ,rfl⟩:=hv;obtain⟨b',st',arr,e,us,g1,z,g3,G,g5,g6⟩:=R.obj q _ B;rw[hρ]at g1;cases g1;obtain⟨C,rfl⟩:=g6 378 rfl;subst C;obtain⟨J,E,l⟩:=G.get (i:=2) (a:=p) rfl;have h2:=g3 2 _ E;have f:c.w.cell? ⟨b0,2,none⟩=some J:=by simp only[World.cell?,z];simpa using h2
 have y:=G.length;simp only[qo,hr]at y;have D:7<=arr.size:=by
  have s:us[6]? = some us[6]:=qm nN;have:=(qe.1 (g3 _ _ s)).1;omega
 have t:V c (.ptr q 2) (.pointer (some ⟨b0,2,none⟩)):=by rw[V];exact⟨b0,0,hρ,by simp⟩
 simp only[qW];rcases hp with rfl|rfl;rw[V]at l;subst l;obtain⟨w',m,I,X⟩:=Hu (P:=prog) (off:=2) (xs:=[.ptr q 2]) (us:=[.pointer (some ⟨b0,2,none⟩)]) R B hρ nO nO ⟨t,trivial⟩ (by simp[Value.oneCell']);have d:=run_storeCells_cells (P:=prog) b0 2 [.pointer (some ⟨b0,2,none⟩)] 0 c.w (by intro j x;simp at x;subst x;simp[f]) (by intro j x;simp at x;subst x;simp[World.frozen?,z]) (by simp[Value.oneCell']);simp only[qW,ww]at m d;rw[m]at d;simp only[Result.ok.injEq,true_and]at d;refine(Wh b0 arr.size c.w f (by simp[World.shape?,z]) D (by simp[World.frozen?,z])).mono ?_;rintro e K ⟨rfl,rfl⟩;have hw:w'=c.w.setCell ⟨b0,2,none⟩ (.pointer (some ⟨b0,2,none⟩)):=by rw[d];rfl
 subst hw;exact⟨.tuple #[],.tup [],_,n,{ c with w:=c.w.setCell ⟨b0,2,none⟩ (.pointer (some ⟨b0,2,none⟩)) },rfl,⟨rfl,rfl,rfl⟩,rfl,by simp[V,VL],by simpa using I,F,⟨X,IO _,λ_ _=>rfl⟩⟩;rw[V]at l;obtain⟨b1,st1,hρ1,rfl⟩:=l;rw[hρ]at hρ1;cases hρ1;have g:h_ H q (some (.cells (a::b::.ptr q 2::o::r) (some 378)))=H:=by
  funext k;by_cases hk:k=q;subst hk;rw[Ns,B];simp[h_,hk]
 refine(Zx b0 c.w (by simpa using f)).mono ?_;rintro e K ⟨rfl,rfl⟩;exact⟨.tuple #[],.tup [],_,n,c,rfl,⟨rfl,g.symm,rfl⟩,rfl,by simp[V,VL],R,F,wD n c⟩
set_option maxRecDepth 10000
set_option maxHeartbeats 4000000
def FK(ob:Option Nat)(bs:List UInt8):SV:=AQ 1 ob (bs.map EJ)
theorem j5{H:Hp}{k p:Nat}{ob:Option Nat}{bs:List UInt8}{x:UInt8}(h0:ob=none->bs=[])(h1:H k=some (.cells [EJ x]))(h2:∀j,ob=some j->H j=some (.cells (bs.map EJ) (some 5)))(hroom:bs.length+1<=1073741824):
 Af prog H p .append [119,119] [FK ob bs,.sl k 0 1 1 true]=some { val:=.sl p 0 1 (bs.length+1) false,upd:=ob.map λj=>(j,none),new:=some (.cells ((bs++[x]).map EJ) (some 5)) }:=by
 have d:Ax prog 119=some 5:=by simp[go_sem]
 have e:Bd prog 5=1:=by simp[go_sem]
 have f:(BO prog 5).B=true:=by simp[go_sem]
 have g:(BO prog 5).cells.length=1:=by simp[go_sem]
 have h:Ce prog 5<=65536:=by simp[go_sem]
 have b:HE 5=some 5:=by rfl
 have a:flat H (.sl k 0 1 1 true)=some [EJ x]:=by simp[flat,h1,CP]
 have hr:Ex (bs.length+1) (Ce prog 5)=true:=by simp only[Ex,qh,decide_eq_true_eq];exact⟨by omega,h⟩
 simp only[Af,d,Option.isSome_some,if_true,FP,Ie,a,e,f,g];cases ob with
 | none=>
  have:=h0 rfl;subst this;simp[FK,AQ,OR,b];simpa using hr
 | some j=>
  have c:=h2 j rfl;have i:flat H (.sl j 0 1 bs.length false)=some (bs.map EJ):=by simp[flat,c,CP];exact qD nO
  have ht:H9 H 5 j 0=some 5:=by simp[H9,b,fD,c]
  simp[FK,AQ,OR,i,hr,ht]
theorem lX{G:Hp}{n q:Nat}{a at_ p pr l e:SV}{ob:Option Nat}{bs:List UInt8}{x:UInt8}(t:G q=some (.cells [a,at_,p,FK ob bs,pr,l,e] (some 378)))(hp:p=.nilp\/p=.ptr q 2)
 (h0:ob=none->bs=[]) (h2:∀j,ob=some j->j≠q/\G j=some (.cells (bs.map EJ) (some 5))) (d:bs.length+1<=1073741824):
 BF prog 321 [.ptr q 2,EJ x] G n (λ_ h' n'=>∃j,(∀o y,o≠q->ob≠some o->G o=some y->h' o=some y)/\h' q=some (.cells [a,at_,.ptr q 2,FK (some j) (bs++[x]),pr,l,e] (some 378))/\
  h' j=some (.cells ((bs++[x]).map EJ) (some 5))/\n<=j/\j<n'):=by
 refine E8 func321 rfl λk=>?_;have hqn:q<n:=(k q _ t).1;have i:∀j,ob=some j->j<n:=λj e=>(k j _ (h2 j e).2).1;refine Ai 0 [(0,.ptr q 2),(1,EJ x)] G n ?_ (λm hm=>?_);simp[go_sem,Or];subst hm;refine Ai 0 [(0,.ptr q 2),(1,EJ x)] (h_ G q (some (.cells [a,at_,.ptr q 2,FK ob bs,pr,l,e] (some 378)))) n ?_ (λm hm=>?_);simp[go_sem];refine qI (lY t hp rfl) ?_;rintro v H' n' ⟨rfl,rfl,rfl⟩;simp[go_sem,Or];subst hm;refine AJ ?_;have c:q≠n:=by omega
 have b:q≠n+1:=by omega
 simp[go_sem,AC];have g:∀p,Af prog (h_ (h_ G q (some (.cells [a,at_,.ptr q 2,FK ob bs,pr,l,e] (some 378)))) n (some (.cells [EJ x]))) p .append [119,119] [FK ob bs,.sl n 0 1 1 true]=_:=λp=>
  j5 h0 (AC _ _ _) (λj e=>by rw[AB _ _ (by have:=i j e;omega),AB _ _ (h2 j e).1];exact(h2 j e).2) d
 have h:FK (some (n+1)) (bs++[x])=.sl (n+1) 0 1 (bs.length+1) false:=by simp[FK,AQ]
 cases ob with
 | none=>
  simp[go_sem,g,AC,AB,c,b];refine .inl ⟨λo y h1 f=>?_,n+1,by rw[AC,h],by rw[AB _ _ (Ne.symm b),AC],by omega,by omega⟩;have:=(k o y f).1;rw[AB _ _ h1,AB _ _ nN,AB _ _ nN,AB _ _ h1];exact f
 | some j=>
  have r:=(h2 j rfl).1;have hjl:=i j rfl;have s:q≠j:=Ne.symm r;simp[go_sem,g,AC,AB,c,b,s];refine .inl ⟨λo y h1 h2 f=>?_,n+1,by rw[AC,h],by rw[AB _ _ (Ne.symm b),AC],by omega,by omega⟩;have:=(k o y f).1;rw[AB _ _ h1,AB _ _ nN,AB _ _ (Ne.symm h2),AB _ _ nN,AB _ _ h1];exact f
theorem dD:prog.cellsOf 5=1:=by kernel_rfl
theorem gg{G:Hp}{n q:Nat}{a at_ p pr d e:SV}{ob:Option Nat}{bs:List UInt8}(b:G q=some (.cells [a,at_,p,FK ob bs,pr,d,e] (some 378)))(h0:ob=none->bs=[]):
 BF prog 328 [.ptr q 2] G n (λv h' n'=>v=AA bs.length/\h'=G/\n'=n):=by
 refine E8 func328 rfl λc=>?_;have hqn:q<n:=(c q _ b).1;refine AJ ?_;cases ob with
 | none=>
  have:=h0 rfl;subst this;simp[go_sem,b,FK,AQ];exact An c rfl rfl
 | some j=>
  simp[go_sem,b,FK,AQ];exact An c rfl rfl
def i7:Tr:=.pure 0 (.pure 1 (.pure 2 (.pure 5 (.pure 6 (.pure 7 (.two 3 8 (.two 4 8 (.one 8 (.one 9 (.one 10 (.one 11 .nil)))) (.two 4 9 (.one 9 (.one 10 (.one 11 .nil))) (.one 4 (.one 10 (.one 11 .nil))))) (.two 3 9 (.two 4 9 (.one 9 (.one 10 (.one 11 .nil))) (.one 4 (.one 10 (.one 11 .nil)))) (.one 3 (.one 4 (.one 10 (.one 11 .nil)))))))))))
theorem lZ{G:Hp}{n q j:Nat}{a at_ p pr t e:SV}{bs:List UInt8}(c:G q=some (.cells [a,at_,p,FK (some j) bs,pr,t,e] (some 378)))(r:G j=some (.cells (bs.map EJ) (some 5)))(_hjq:j≠q)(b:bs≠[])(hlen:bs.length<=1073741824):
 BF prog 64 [.ptr q 2] G n (λv h' n'=>v=.str ⟨bs.toArray⟩/\h'=h_ G j none/\n'=n):=by
 refine E8 func64 rfl λs=>?_;have hqn:q<n:=(s q _ c).1;have g:bs.length≠0:=by simpa using b
 refine Ai 0 [(0,.ptr q 2)] G n ?_ (λm hm=>?_);simp[go_sem,Or];subst hm;refine AR 0 (α:=Unit) (λ_=>[(2,.str ⟨bs.toArray⟩)]) (λ_=>h_ G j none) (λ_ m=>n=m) (CJ i7 rfl nQ nQ ?_) (λ_ m hm=>?_)
 . have hb:FK (some j) bs=.sl j 0 1 bs.length false:=by simp[FK,AQ]
   rw[hb]at c;simp[go_sem,i7,c];have i:∀{E:BU} {evs:Operand->SV} {o:Oper} {n:Nat} {K:SV->Hp->Nat->Prop} {x:Operand} {u:Array TypeId},o.op=.call { callee:=.builtin .unsafeSliceData,args:=#[x],argTypes:=u }->evs x=.sl j 0 1 bs.length false->K (.ptr j 0) G n->Ff E prog evs o G n K:=λd f k=>Jk d f g k;have l:∀{E:BU} {evs:Operand->SV} {o:Oper} {n:Nat} {K:SV->Hp->Nat->Prop} {x y:Operand} {it:TypeId},o.op=.call { callee:=.builtin .unsafeString,args:=#[x,y],argTypes:=#[199,it] }->evs x=.ptr j 0->evs y=AA bs.length->K (.str ⟨bs.toArray⟩) (h_ G j none) n->Ff E prog evs o G n K:=λd f h k=>Hz d Tryz.underlying199 dD f h r b nN k;refine⟨⟨?_,?_,?_⟩,⟨?_,?_⟩,?_⟩
   all_goals
    refine i rfl rfl ?_;simp[go_sem,c];refine l rfl rfl rfl ?_;simp[go_sem,Or]
 subst hm;refine AJ ?_;simp[go_sem];refine .inl ⟨rfl,rfl,rfl⟩
theorem la{G:Hp}{n q:Nat}{a at_ p b pr c e:SV}(d:G q=some (.cells [a,at_,p,b,pr,c,e] (some 378))):
 BF prog 329 [.ptr q 2] G n (λv h' n'=>v=.tup []/\h'=h_ G q (some (.cells [a,at_,.nilp,.x 0 [] true,pr,c,e] (some 378)))/\n'=n):=by
 refine E8 func329 rfl λho=>?_;refine AJ ?_;simp[go_sem,d,AC,AZ];refine .inl ⟨rfl,rfl,rfl⟩
theorem Pb{E:BU}{N:Nat}{a:Code}{Q:Ca}{sa:SA}{h:Hp}{n:Nat}(H:HQ h n->SP E N a Q sa h n):SP E N a Q sa h n:=
 λhd c b I R F A=>H (λo x e=>E5 F (R.obj o x e)) hd c b I R F A
structure jV(G:Hp)(q B:Nat)(s:ByteArray)(at_:Int)(bs:List UInt8)(ps:List CH)(pl e:Int)(p:SV)(ob op:Option Nat):Prop where
 le:B<=q
 cells:G q=some (.cells [.str s,AA at_,p,FK ob bs,AQ 3 op (ps.map CH.h),AA pl,AA e] (some 378))
 p:p=.nilp\/p=.ptr q 2
 b0:ob=none->bs=[]
 b1:∀j,ob=some j->B<=j/\j≠q/\bs≠[]/\G j=some (.cells (bs.map EJ) (some 5))
 o0:op=none->ps=[]
 o1:∀j,op=some j->B<=j/\j≠q/\ob≠some j/\G j=some (.cells ((ps.map CH.h).flatMap SV.cells))
def V3(G:Hp)(q B:Nat)(s:ByteArray)(at_:Int)(bs:List UInt8)(ps:List CH)(pl e:Int):Prop:=∃p ob op,jV G q B s at_ bs ps pl e p ob op
def bK(q B:Nat)(s:ByteArray)(G:Hp)(n:Nat)(R:Int->List UInt8->List CH->Int->Int->Prop):SV->Hp->Nat->Prop:=λ_ h' n'=>
 ∃at_ bs ps pl e,R at_ bs ps pl e/\V3 h' q B s at_ bs ps pl e/\(∀o y,o<B->G o=some y->h' o=some y)/\n<=n'
theorem CH.len(p:CH):p.h.cells.length=3:=rfl
theorem CH.size(ps:List CH):∀e∈ps.map CH.h,e.B=true/\e.cells.length=3:=λe a=>by obtain⟨x,_,rfl⟩:=qb.1 a;exact⟨rfl,rfl⟩
theorem fm{X:Hp}{k p:Nat}{op:Option Nat}{ps:List CH}{x:CH}(h0:op=none->ps=[])(h1:X k=some (.cells x.h.cells))(h2:∀j,op=some j->X j=some (.cells ((ps.map CH.h).flatMap SV.cells)))(a:ps.length+1<=1073741824):
 Af prog X p .append [352,352] [AQ 3 op (ps.map CH.h),.sl k 0 3 1 true]=some { val:=.sl p 0 3 (ps.length+1) false,upd:=op.map λj=>(j,none),new:=some (.cells ((ps.map CH.h).flatMap SV.cells++x.h.cells)) }:=by
 have b:BG 0 ((op.getD 0)+1) 3 op (ps.map CH.h):=⟨λe=>by rw[h0 e];rfl,λj e=>by rw[e];simp,CH.size ps⟩
 have:=Hl (P:=prog) (H:=X) (t:=352) (t2:=352) (el:=357) (e:=x.h) nP nP nP nO nP nP nP (by simpa using a) b (CH.len x) h1 h2 p;simpa using this
def jS(G:Hp)(B q n:Nat)(C:Nat->List SV)(es:List SV)(z:Hp×Nat)(m:Nat):Prop:=
 n<=m/\z.1 q=some (.cells (C z.2) (some 378))/\z.1 z.2=some (.cells (es.flatMap SV.cells))/\n<=z.2/\z.2<m/\∀o y,o<B->G o=some y->z.1 o=some y
def fA:Tr:=.pure 0 (.pure 1 (.pure 2 (.pure 3 (.pure 5 (.pure 6 (.pure 7 (.two 4 8 (.one 8 (.one 9 (.one 10 (.one 11 (.one 12 (.one 13 (.one 14 .nil))))))) (.two 4 9 (.one 9 (.one 10 (.one 11 (.one 12 (.one 13 (.one 14 .nil)))))) (.two 4 10 (.one 10 (.one 11 (.one 12 (.one 13 (.one 14 .nil))))) (.one 4 (.one 11 (.one 12 (.one 13 (.one 14 .nil))))))))))))))
theorem jV.upd{G:Hp}{q B:Nat}{s:ByteArray}{at_ l e:Int}{bs:List UInt8}{ps:List CH}{p:SV}{ob op:Option Nat}(S:jV G q B s at_ bs ps l e p ob op)(f i k:Int):
 V3 (h_ G q (some (.cells [.str s,AA f,p,FK ob bs,AQ 3 op (ps.map CH.h),AA i,AA k] (some 378)))) q B s f bs ps i k:=
 ⟨p,ob,op,S.le,AC _ _ _,S.p,S.b0,λj g=>by obtain⟨a,b,c,d⟩:=S.b1 j g;exact⟨a,b,c,by rw[AB _ _ b];exact d⟩,S.o0,λj g=>by obtain⟨a,b,c,d⟩:=S.o1 j g;exact⟨a,b,c,by rw[AB _ _ b];exact d⟩⟩
theorem bW{G:Hp}{n q B:Nat}{s:ByteArray}{at_ c e:Int}{bs:List UInt8}{ps:List CH}(S:V3 G q B s at_ bs ps c e)(h:HQ G n)(hb:bs.length<=1048576)(x:UInt8):
 BF prog 321 [.ptr q 2,EJ x] G n (bK q B s G n λa b f d l=>a=at_/\b=bs++[x]/\f=ps/\d=c/\l=e):=by
 obtain⟨p,ob,op,S⟩:=S;have hqn:=(h q _ S.cells).1;have hle:=S.le;refine(lX (x:=x) S.cells S.p S.b0 (λj g=>⟨(S.b1 j g).2.1,(S.b1 j g).2.2.2⟩) nN).mono ?_;rintro v h' n' ⟨j,g1,m,g3,g4,g5⟩;refine⟨at_,bs++[x],ps,c,e,⟨rfl,rfl,rfl,rfl,rfl⟩,⟨.ptr q 2,some j,op,S.le,m,.inr rfl,by simp,λi hi=>?_,S.o0,λi hi=>?_⟩,λo y h1 h2=>g1 o y nN (λg=>?_) h2,by omega⟩;cases hi;exact⟨by omega,by omega,by simp,g3⟩;obtain⟨r,k,i3,i4⟩:=S.o1 i hi;have:=(h i _ i4).1;exact⟨r,k,λg=>by cases g;omega,g1 i _ k i3 i4⟩;have:=(S.b1 o g).1;omega
def iv:Tr:=.pure 0 (.pure 1 (.pure 2 (.pure 4 (.pure 5 (.pure 6 (.two 3 7 (.one 7 (.one 8 (.one 9 (.pure 10 .nil)))) (.one 3 (.one 8 (.one 9 (.pure 10 .nil))))))))))
def bC:Tr:=.pure 0 (.pure 1 (.pure 2 (.pure 3 (.pure 5 (.pure 6 (.pure 7 (.two 4 8 (.one 8 (.pure 9 (.one 10 (.one 11 .nil)))) (.pure 9 (.one 4 (.one 10 (.one 11 .nil)))))))))))
def iw:Tr:=.pure 0 (.pure 1 (.pure 2 (.pure 4 (.pure 5 (.pure 6 (.two 3 7 (.one 7 (.one 8 (.one 9 (.pure 10 (.pure 11 (.pure 12 (.pure 13 (.pure 14 (.one 15 (.pure 16 (.one 17 (.pure 18 (.pure 19 .nil))))))))))))) (.one 3 (.one 8 (.one 9 (.pure 10 (.pure 11 (.pure 12 (.pure 13 (.pure 14 (.one 15 (.pure 16 (.one 17 (.pure 18 (.pure 19 .nil)))))))))))))))))))
def ZI(G:Hp)(q B n:Nat)(s:ByteArray)(R:Int->List UInt8->List CH->Int->Int->Prop)(z:Hp)(m:Nat):Prop:=n<=m/\∃at_ bs ps pl e,R at_ bs ps pl e/\V3 z q B s at_ bs ps pl e/\∀o y,o<B->G o=some y->z o=some y
theorem bK.st{q B:Nat}{s:ByteArray}{G:Hp}{n0 n:Nat}{R:Int->List UInt8->List CH->Int->Int->Prop}{v:SV}{h':Hp}{n':Nat}(H:bK q B s G n R v h' n')(hn:n0<=n):ZI G q B n0 s R h' n':=by
 obtain⟨a1,a2,a3,a4,a5,h1,h2,a,h4⟩:=H;exact⟨by omega,a1,a2,a3,a4,a5,h1,h2,a⟩
def Y4:Tr:=.pure 0 (.pure 1 (.pure 2 (.pure 4 (.pure 5 (.pure 6 (.two 3 7 (.one 7 (.one 8 (.pure 9 (.pure 10 (.pure 11 (.pure 12 (.pure 13 (.one 14 (.pure 15 (.pure 16 .nil)))))))))) (.two 3 8 (.one 8 (.pure 9 (.pure 10 (.pure 11 (.pure 12 (.pure 13 (.one 14 (.pure 15 (.pure 16 .nil))))))))) (.one 3 (.pure 9 (.pure 10 (.pure 11 (.pure 12 (.pure 13 (.one 14 (.pure 15 (.pure 16 .nil))))))))))))))))
def iz:Tr:=.pure 0 (.pure 1 (.pure 2 (.pure 4 (.pure 5 (.pure 6 (.two 3 7 (.one 7 (.one 8 (.pure 9 .nil))) (.one 3 (.one 8 (.pure 9 .nil)))))))))
def i6:Tr:=.pure 0 (.pure 1 (.pure 2 (.pure 3 (.pure 4 (.pure 5 (.pure 7 (.pure 8 (.pure 9 (.two 6 10 (.one 10 (.one 11 (.one 12 .nil))) (.one 6 (.one 11 (.one 12 .nil))))))))))))
def SnR(s:ByteArray)(z:Int×Int):Int->List UInt8->List CH->Int->Int->Prop:=λat_ bs ps _ e=>
 at_=z.1/\e=z.2/\0<=at_/\at_<=s.size/\(e=0->(bs.length:Int)<=at_/\(ps.length:Int)<=2*at_)/\(bs.length:Int)<=at_+1/\(ps.length:Int)<=2*at_+2
def jW(s:ByteArray)(z:Hp×Int×Int):Nat:=2*(s.size-z.2.1).toNat+(if z.2.2=0 then 1 else 0)
theorem lH(b:Int):PC 308 [Je b] (.bool (decide (b<32)||decide (b=127))):=by
 intro h n;refine gq func308 rfl λa=>?_;by_cases c:b<32;simp[go_sem,c];exact An a rfl rfl;simp[go_sem,c];exact An a rfl (by by_cases d:b=127<;>simp[d])
def iy:Tr:=.pure 0 (.pure 1 (.pure 2 (.pure 4 (.one 3 (.pure 5 .nil)))))
theorem lC(p:CH)(k:Int):PC 284 [p.h,.q [AA k]] (.bool (decide (k<p.level))):=by
 intro h n;refine gq func284 rfl λa=>?_;simp[go_sem,CH.h,AC];exact Bq a (AY a (IO _) AE) rfl rfl
def Vx:Tr:=.pure 0 (.pure 1 (.pure 2 (.pure 3 (.pure 4 (.pure 5 (.pure 6 (.pure 7 (.pure 8 (.pure 9 (.pure 10 (.pure 11 (.pure 12 (.pure 13 .nil)))))))))))))
def iq:Tr:=.pure 0 (.pure 1 (.pure 3 (.pure 4 (.pure 5 (.pure 6 (.one 2 (.one 7 (.pure 8 (.pure 9 (.pure 10 (.pure 11 (.pure 12 .nil))))))))))))
def ir:Tr:=.pure 0 (.pure 1 (.pure 3 (.pure 4 (.one 2 (.one 5 (.pure 6 .nil))))))
def ChQ(l:List Al)(id:Int)(h:Hp)(n:Nat):SV->Hp->Nat->Prop:=λv h' n'=>∃k,v=.fn (.func 248) [] [.q [AW l],.ptr k 0]/\n<=k/\k<n'/\h' k=some (.cells [AA id])/\∀o y,h o=some y->h' o=some y
theorem lU(l:List Al)(id:Int){h:Hp}{n:Nat}:BF prog 188 [AW l,AA id] h n (ChQ l id h n):=by
 refine E8 func188 rfl λb=>?_;have a:=b.lt;refine A6 1 [(2,.q [AW l]),(3,.ptr (n+1) 0)] (h_ h (n+1) (some (.cells [AA id]))) (λm=>n+1<m) ?_ (λm hm=>?_);simp[go_sem,Or];refine⟨Ak (by simp[h_];exact Ac a (IO _)) (by simp[h_]),λj y=>?_⟩;have:=a j y;simp only[h_];grind;refine AJ ?_;simp[go_sem];exact .inl ⟨n+1,rfl,by omega,hm,AC _ _ _,AV (λj z e=>by have:=a j z e;omega) AE⟩
section
variable{E:BU}{yl N:Nat}{J:Nat->Hp->Nat->Prop}{Jx:Hp->Nat->Prop}{D:Nat->Prop}
def jT(l:List Al)(a:List (Int×Int)):Prop:=∀p∈a,0<=p.2/\p.2<l.length
end
theorem lx{E:BU}{f:FuncId}{fn:Func}{code:Code}{args:List SV}{h:Hp}{n:Nat}{K:SV->Hp->Nat->Prop}(a:prog.funcs[f]? = some fn)(hb:fn.body=some code)
 (c:(fn.name != "runtime.NumGoroutine")=true) (hd:Code.dok fn.ntmps code=true) (b:args.length<=fn.ntmps)
 (H:HQ h n->∀B,SP (E.call true B) fn.ntmps code (N7 prog fn n K) (D1 0 args) h n):Ab E prog f args h n K:=
 Jr a hb c hd b λ_ d B=>H d B
structure AO.sizedT(s:AO):Prop extends AO.D s where
 tpl:∀x∈s.L,∀y∈x.levels,y.template.size<=1048576
 com:∀x∈s.C,x.O.size<=1048576/\x.J.size<=1048576
 var:∀x∈s.vars,x.name.size<=1048576/\x.value.size<=1048576
structure AH.sizedT(B N:Nat)(d:AH):Prop where
 W:lim AF.D B N d.W
 T0 : d.T0.D
 V:d.V.length<=1048576
 authors:∀r∈d.V,r.O.size<=1048576
 S:d.S.sizedT
def U1:Unit->Nat->Option A7:=λ_ _=>none
section
variable{P:Program}{E:BU}{evs:Operand->SV}{o:Oper}{h:Hp}{n:Nat}{K:SV->Hp->Nat->Prop}
def D7(P:Program)(kt:TypeId)(cs:List SV):List (SV×SV)->Nat->Option (Option (Nat×SV))
 | [],_=>some none
 | e :: es, i => match e.1 with
  | .agg ds=>match CM P cs ds (BY P kt)with
   | some true=>some (some (i,e.2))
   | some false=>D7 P kt cs es (i+1)
   | none=>none
  | _=>none
structure cS(P:Program)(kt:TypeId):Prop where
 ht:P.underlying kt=some (.struct (P.fieldsOf kt))
 hp:P.stoodInHeld kt=false
theorem Oq{c:Cx}{a:TypeId}(hk:cS P a){d e:List SV}{v u:Value}{b:Bool}(hv:V c (.agg d) v)(j:V c (.agg e) u)(hb:CM P d e (BY P a)=some b)(w:World):(Op.equal a v u).run P w=.ok b w:=by
 obtain⟨vs,f,h1,h2⟩:=Gg hv;obtain⟨us,g,h,i⟩:=Gg j;have hr:=IJ h1 h h2 i 9998 w _ _ hb;rw[f,g];show(Op.equalIn 10000 a _ _).run P w=_;rw[run_equalIn_struct w 9999 a _ _ hk.ht hk.hp];exact hr
theorem JJ{c:Cx}{b:TypeId}(hk:cS P b){g:List SV}{v:Value}(hv:V c (.agg g) v)(w:World):
 ∀(es:List (SV×SV))(a:List MapEntry)(i:Nat)(r:Option (Nat×SV)),AT (λ(p:SV×SV)(e:MapEntry)=>V c p.1 e.key/\V c p.2 e.val) es a->D7 P b g es i=some r->
  (r=none/\(Instr.findAsking b v a i).run P w=.ok none w)\/∃j x y e d,r=some (i+j,x)/\(Instr.findAsking b v a i).run P w=.ok (some (i+j,y)) w/\V c x y/\a[j]? = some e/\V c (.agg d) e.key/\CM P g d (BY P b)=some true
 | [],a,i,r,h,hf=>by
  simp only[D7,ql]at hf;subst hf;rw[h.nil_left];exact .inl ⟨rfl,by simp[Instr.findAsking]⟩
 | p::es,[],i,r,h,_=>h.elim
 | p::es,e::a,i,r,h,hf=>by
  obtain⟨⟨h1,h2⟩,o⟩:=h;simp only[D7]at hf;split at hf<;>try cases hf
  rename_i d l;rw[l]at h1;split at hf;rename_i f;cases hf;have:=Oq hk hv h1 f w;exact .inr ⟨0,p.2,e.val,e,d,rfl,by simp[Instr.findAsking,this],h2,rfl,h1,f⟩;rename_i f;have:=Oq hk hv h1 f w;rcases JJ hk hv w es a (i+1) r o hf with⟨rfl,hg⟩|⟨j,x,y,n,k,rfl,hg,m,q,s⟩
  exact .inl ⟨rfl,by simp[Instr.findAsking,this,hg]⟩;exact .inr ⟨j+1,x,y,n,k,by congr 2;omega,by rw[show i+(j+1)=i+1+j by omega];simp[Instr.findAsking,this,hg],m,by simpa using q,s⟩;cases hf
end
section
variable{E:BU}{evs:Operand->SV}{o:Oper}{h:Hp}{n:Nat}{K:SV->Hp->Nat->Prop}
end
section
variable{E:BU}{evs:Operand->SV}{o:Oper}{h:Hp}{n:Nat}{K:SV->Hp->Nat->Prop}
theorem Nm{f:TypeId}{b:List SV}:∀(es:List (SV×SV))(i:Nat)(j:Nat)(x:SV),D7 prog f b es i=some (some (i+j,x))->∃a v,es[j]? = some (.agg a,v)/\CM prog b a (BY prog f)=some true
 | [],i,j,x,h=>by simp[D7]at h
 | p::es,i,j,x,h=>by
  simp only[D7]at h;split at h<;>try cases h
  rename_i a d;split at h;rename_i g;simp only[ql,Prod.mk.injEq]at h;have:j=0:=by omega
  subst this;exact⟨a,p.2,by simp[<-d],g⟩
  . cases j with
    | zero =>
     exfalso;have e:∀(es:List (SV×SV))(i k:Nat)(x:SV),D7 prog f b es i=some (some (k,x))->i<=k:=by
      intro es
      induction es with
      | nil=>intro i k x h;simp[D7]at h
      | cons p es ih=>
       intro i k x h;simp only[D7]at h;split at h<;>try cases h
       split at h;simp only[ql,Prod.mk.injEq]at h;omega;have:=ih _ _ _ h;omega;cases h
     have:=e _ _ _ _ h;omega
    | succ j=>
     obtain⟨c,v,h1,h2⟩:=Nm es (i+1) j x (by rw[show i+1+j=i+(j+1)by omega];exact h);exact⟨c,v,by simpa using h1,h2⟩
  cases h
end
section
variable{E:BU}{evs:Operand->SV}{o:Oper}{h:Hp}{n:Nat}{K:SV->Hp->Nat->Prop}
def UT(p:SV×SV):Prop:=∃a b:Int,p.1=.agg [.int .i64 a,.int .i64 b]
end
section
variable{P:Program}{E:BU}{evs:Operand->SV}{o:Oper}{h:Hp}{n:Nat}{K:SV->Hp->Nat->Prop}
variable{N:Nat}{ops:Array Oper}
end
section
variable{E:BU}{evs:Operand->SV}{o:Oper}{h:Hp}{n:Nat}{K:SV->Hp->Nat->Prop}
end
section
variable{g:FuncId}{a b:List SV}{p:Int->Bool}
end
def z0:AF:=⟨[],0,0,[],[]⟩
def hI(i:Int):AF:=⟨[],i,0,[],[]⟩
section
variable{σ:Type}
end
section
variable{σ:Type}
end
def good(T:Int->Prop):Nat->List AD->Prop
 | 0,_=>True
 | N+1,l=>∀x∈l,(x.l≠7->x.R=[])/\(x.l=6->T x.id)/\good T N x.W/\∀r∈x.R,∀c∈r.cells,T c.id/\good T N c.W
section
variable{σ:Type}
end
theorem Hk{F:Nat->Int}{n:Nat}(h:CK F n=0):∀k,k<n->F k=0:=λk hk=>by
 induction n with
 | zero=>omega
 | succ n ih=>
  rw[CK]at h;split at h;rename_i h0;by_cases e:k=n;rw[e];exact h;exact ih h0 nN;omega
def ZO(m2:List Int)(h:AF):Prop:=h.D/\UM m2 h
theorem PS:∀(l:List AD),(∀x∈l,x.J.size<=1000)->Bu l<=l.length*1000
 | [],_=>by simp[Bu]
 | x::l,h=>by
  have h1:=PS l λy a=>h y (by simp[a]);have h2:=h x nO;have e:Bu (x::l)=x.J.size+Bu l:=by simp[Bu]
  simp only[qo];omega
theorem Pu{m2:List Int}{B:Nat}:∀{N:Nat} {l:List AD},lim AF.D B N l->MW N l->dg m2 N l->lim (ZO m2) 150000 N l
 | 0,_,h,_,_=>h.elim
 | N+1,l,hl,hf,hk=>by
  obtain⟨_,_,m⟩:=CX.1 hl;obtain⟨f1,f2⟩:=hf;refine CX.2 ⟨by omega,?_,λx b=>?_⟩;have:=PS l λx b=>(f2 x b).1.1;omega;obtain⟨a1,a2,a3,a4⟩:=m x b;obtain⟨⟨b1,b2⟩,f,g⟩:=f2 x b;obtain⟨c1,i,j,_,k⟩:=hk x b;refine⟨⟨a1,i.toUM⟩,Pu a2 f j,by omega,λr hr=>?_⟩;obtain⟨n,u2,d⟩:=a4 r hr;obtain⟨v1,o⟩:=g r hr;obtain⟨p,e⟩:=k r hr;exact⟨⟨n,p.1.toUM⟩,by omega,λc a=>⟨⟨(d c a).1,(e c a).1.toUM⟩,Pu (d c a).2 (o c a) (e c a).2⟩⟩
section
variable{hp:AF->Prop}{σ:Type}{f:σ->Ef->AF×Bool×σ}{K N:Nat}
end
theorem Tx{m2:List Int}{h:AF}(H:ZO m2 h):∀u∈h.all,u∈0::m2:=λu b=>by
 have k:=H.2;simp only[AF.all,qd,qf,qb]at b ⊢;rcases b with rfl|⟨x,a,rfl⟩|⟨x,a,rfl⟩
 rcases k.I with e|e;exact .inl e;exact .inr e;exact .inr (k.Y x a);exact .inr (k.Z x a)
theorem Wz{m2:List Int}{K N:Nat}{W:AH}(hm:m2.length<=1000)(c:K<=1048576)(h:lim (ZO m2) K N W.W)(b:ZO m2 W.T0)(hr:W.V.length<=1048576)(d:W.S.D):
 W.D/\W.normal.D/\(BD [] (AD.U (Ae W.W)++W.T0.all)).length<=1048576:=by
 have h1:=h.D (λx g=>g.1) c;have h2:=(G7 h).D (λx g=>g.1) c;refine⟨⟨h1.1,h1.2,b.1,hr,d⟩,⟨h2.1,h2.2,b.1,?_,d⟩,?_⟩;exact qy (vA _ _) hr;refine qy (Ze (L:=0::m2) λu a=>?_) (by simp only[qo];omega);rcases qf.1 a with a|a;exact TG (λh g=>Tx g) (G7 h) u a;exact Tx b u a
theorem MK{l:List CI}(h:FX l=0):l.length<=256:=by
 unfold FX at h;have hl:¬(256:Int)<l.length:=λg=>by simp[BH,g]at h
 omega
def bT(w:World):Cx:=⟨λ_=>none,λ_=>False,w,λ_=>none⟩
def BB:Nat:=1048576
section
variable{H:Type}(enc:TypeId×Value->H)(P:Program)(w:World)(base:Nat)(spare:Nat->Bool)(BT:Bool)
variable{α β:Type}
def Rd(k:Nat)(e:TypeId)(F:α->List SV)(z:Nat)(ok:α->Prop)(μ:α->Nat):Prop:=
 ∀cs x,DataW.trod enc P w base spare BT k e cs=some x->Rows.uptoBulk x.1<=BB->∃a,VL (bT w) (F a) cs/\cs.length=z/\(∀v∈cs,v.oneCell'=true)/\ok a/\μ a+1<=Rows.uptoBulk x.1
def DA(n:Nat)(L:Nat)(fs:List Field)(o:Nat)(F:α->List SV)(ok:α->Prop)(μ:α->Nat):Prop:=
 ∀(cs:List Value)(xs:List (DataW H×List MemPlace)),cs.length=L->xs.length=fs.length->(∀(i:Nat)(f:Field),fs[i]? = some f->DataW.trod enc P w base spare BT n f.type ((cs.drop f.offset).take (P.cellsOf f.type))=xs[i]?)->
  Rows.uptoBulkAll (xs.map (·.1))<=BB->∃b,VL (bT w) (F b) (cs.drop o)/\(∀v∈cs.drop o,v.oneCell'=true)/\ok b/\μ b<=Rows.uptoBulkAll (xs.map (·.1))
variable{enc P w base spare BT}
theorem cZ{c:Cx}{a b:List SV}{x y:List Value}(h:VL c a x)(g:VL c b y):VL c (a++b) (x++y):=BE.2 (wl (BE.1 h) (BE.1 g))
theorem DA.nil{n L:Nat}:DA enc P w base spare BT n L [] L (λ_:Unit=>[]) (λ_=>True) (λ_=>0):=λa xs h1 h2 _ _=>by
 have:a.drop L=[]:=List.drop_eq_nil_of_le nN;exact⟨(),by rw[this,VL],by rw[this];simp,trivial,qi _⟩
theorem DA.cons{n L:Nat}{f:Field}{l:List Field}{o z:Nat}{g:α->List SV}{h:β->List SV}{c:α->Prop}{d:β->Prop}{μ1:α->Nat}{μ2:β->Nat}(h1:Rd enc P w base spare BT n f.type g z c μ1)(A:P.cellsOf f.type=z)(y:f.offset=o)
 (h2:DA enc P w base spare BT n L l (o+z) h d μ2):DA enc P w base spare BT n L (f::l) o (λp:α×β=>g p.1++h p.2) (λp=>c p.1/\d p.2) (λp=>μ1 p.1+μ2 p.2):=λe xs g1 m g3 t=>by
 cases xs with
 | nil=>simp at m
 | cons x xs=>
  simp only[qg,Rows.uptoBulkAll]at t;have j:=g3 0 f rfl;rw[y,A]at j;obtain⟨a,a1,a2,a3,a4,a5⟩:=h1 _ x (by simpa using j) nN;obtain⟨b,b1,q,r,b4⟩:=h2 e xs g1 (by simpa using m) (λi s u=>by have:=g3 (i+1) s (by simpa using u);simpa using this) nN;have k:e.drop o=(e.drop o).take z++e.drop (o+z):=by rw[<-List.drop_drop,vy]
  refine⟨(a,b),?_,?_,⟨a4,r⟩,?_⟩;rw[k];exact cZ a1 b1;rw[k];intro v hv;rcases qf.1 hv with hv|hv;exact a3 v hv;exact q v hv;simp only[qg,Rows.uptoBulkAll];omega
theorem DA.rd{n L:Nat}{T:TypeId}{c:Array Field}{F:α->List SV}{ok:α->Prop}{μ:α->Nat}(ht:P.underlying T=some (.struct c))(hz:P.cellsOf T=L)(h:DA enc P w base spare BT n L c.toList 0 F ok μ):Rd enc P w base spare BT (n+1) T F L ok μ:=λj x l hb=>by
 obtain⟨xs,m,hm,rfl,hl,a,k⟩:=DataW.trod_struct ht l;obtain rfl:n=m:=by omega
 simp only[Rows.uptoBulk]at hb ⊢;obtain⟨b,b1,d,g,b4⟩:=h j xs nN (by simpa using a) (λi f e=>k i f (by simpa using e)) nN;exact⟨b,by simpa using b1,by omega,by simpa using d,g,by omega⟩
theorem Rd.map{k e z:Nat}{F:α->List SV}{ok:α->Prop}{μ:α->Nat}(h:Rd enc P w base spare BT k e F z ok μ)(g:α->β){d:β->List SV}{b:β->Prop}{μ':β->Nat}(i:∀a,d (g a)=F a)(c:∀a,ok a->b (g a))(l:∀a,μ' (g a)<=μ a):Rd enc P w base spare BT k e d z b μ':=λf x j hb=>by
 obtain⟨a,a1,a2,a3,a4,a5⟩:=h f x j hb;exact⟨g a,by rw[i];exact a1,a2,a3,c a a4,by have:=l a;omega⟩
theorem NH{c:Cx}{s:SV}{v:Value}(h:V c s v):VL c [s] [v]:=BE.2 ⟨h,trivial⟩
theorem dw{k:Nat}{T:TypeId}(ht:P.underlying T=some (.int .i64)):Rd enc P w base spare BT k T (λn:Int=>[AA n]) 1 (λ_=>True) (λ_=>0):=λcs x a _=>by
 obtain⟨n,rfl,rfl,_⟩:=DataW.trod_int ht a;exact⟨n,NH (by rw[V]),rfl,by simp[Value.oneCell'],trivial,by simp[Rows.uptoBulk]⟩
theorem ah{k:Nat}{T:TypeId}(ht:P.underlying T=some .bool):Rd enc P w base spare BT k T (λn:Bool=>[.bool n]) 1 (λ_=>True) (λ_=>0):=λcs x a _=>by
 obtain⟨n,rfl,rfl⟩:=DataW.trod_bool ht a;exact⟨n,NH (by rw[V]),rfl,by simp[Value.oneCell'],trivial,by simp[Rows.uptoBulk]⟩
theorem dx{k:Nat}{T:TypeId}(ht:P.underlying T=some .string):Rd enc P w base spare BT k T (λs:ByteArray=>[.str s]) 1 (λs=>s.size<=BB) (λs=>s.size):=λcs x a hb=>by
 obtain⟨s,rfl,rfl,_⟩:=DataW.trod_string ht a;have e:s.data.toList.length=s.size:=by rw[wa];rfl
 simp only[Rows.uptoBulk]at hb ⊢;exact⟨s,NH (by rw[V]),rfl,by simp[Value.oneCell'],by omega,by omega⟩
def Mb(μ:α->Nat)(l:List α):Nat:=(l.map λa=>μ a+1).sum
theorem Dc(μ:α->Nat):∀l:List α,l.length<=Mb μ l
 | []=>by simp
 | a::l=>by have:=Dc μ l;simp only[Mb,qg,wp,qo]at this ⊢;omega
theorem Ui{k z:Nat}{e:TypeId}{F:α->List SV}{f:α->SV}{ok:α->Prop}{μ:α->Nat}(C:∀a,f a=.agg (F a))(G:∀a,(f a).B=true)(x:Rd enc P w base spare BT k e F z ok μ)(o:P.cellsOf e=z)(p:0<z)(a:Addr):
 ∀(ys:List (DataW H×List MemPlace))(i:Nat),(∀j,j<ys.length->(w.cells? base (a.add ((i+j)*P.cellsOf e)) (P.cellsOf e)).bind (DataW.trod enc P w base spare BT k e)=ys[j]?)->Rows.uptoBulkAll (ys.map (·.1))<=BB->
  ∃l:List α,∃us:List Value,l.length=ys.length/\AT (V (bT w)) (l.map f) us/\(∀u∈us,u.cells.size=z)/\(∀v∈us.flatMap (·.cells.toList),v.oneCell'=true)/\(∀j v,(us.flatMap (·.cells.toList))[j]? = some v->w.cell? (a.add (i*z+j))=some v)/\(∀a∈l,ok a)/\Mb μ l<=Rows.uptoBulkAll (ys.map (·.1))
 | [],i,_,_=>⟨[],[],rfl,trivial,by simp,by simp,by simp,by simp,by simp[Mb]⟩
 | y::ys,i,hy,hb=>by
  simp only[qg,Rows.uptoBulkAll]at hb;have h0:=hy 0 nO;simp only[vY,ww]at h0;obtain⟨c,h,I⟩:=Option.bind_eq_some_iff.1 h0;obtain⟨_,hcl,g⟩:=World.cells?_some h;obtain⟨b,b1,r,s,E,b5⟩:=x c y I nN;obtain⟨l,us,J,K,L,M,N,O,Q⟩:=Ui C G x o p a ys (i+1) (λj D=>by have:=hy (j+1) (by simp;omega);rw[show i+1+j=i+(j+1)by omega];simpa using this) nN;have A:(Value.agg c.toArray).cells.toList=c:=by simp[Value.cells]
  refine⟨b::l,.agg c.toArray::us,by simp[J],⟨?_,K⟩,?_,?_,?_,?_,?_⟩;show V (bT w) (f b) (.agg c.toArray);rw[C,V];exact⟨c,rfl,b1,s⟩;intro u n;rcases qd.1 n with rfl|n;simpa[Value.cells]using r;exact L u n;intro v hv;rw[qV,A]at hv;rcases qf.1 hv with hv|hv;exact s v hv;exact M v hv;intro j v hv;rw[qV,A]at hv;by_cases D:j<z;rw[we nN]at hv;have:=g j (by rw[o];exact D);rw[o,hv]at this;have e:(a.add (i*z)).add j=a.add (i*z+j):=by
   unfold Addr.add;by_cases d:i*z=0;simp[d];by_cases t:j=0;simp[d,t];simp[d,t,qw]
  rw[e]at this;exact this;rw[vM nN]at hv;have:=N (j-c.length) v hv;rw[show(i+1)*z+(j-c.length)=i*z+j by rw[r,wd,Nat.one_mul];omega]at this;exact this;intro q m;rcases qd.1 m with rfl|m;exact E;exact O q m;simp only[qg,Rows.uptoBulkAll,Mb,wp]at Q ⊢;omega
theorem Dw{k z:Nat}{e T:TypeId}{F:α->List SV}{f:α->SV}{ok:α->Prop}{μ:α->Nat}(E:∀a,f a=.agg (F a))(u:∀a,(f a).B=true)(ht:P.underlying T=some (.slice e))(I:P.cellsOf e=z)(t:0<z)(C:∀m,m+1=k->Rd enc P w base spare BT m e F z ok μ):
 Rd enc P w base spare BT k T (λl:List α=>[.x z (l.map f) false]) 1 (λl=>(∀a∈l,ok a)/\Mb μ l<=BB) (Mb μ):=λcs x H hb=>by
 rcases DataW.trod_slice ht H with⟨rfl,rfl⟩|⟨a,len,cap,b,rest,n,G,rfl,rfl,_,g,_,c,D,_,_⟩
 exact⟨[],NH (by rw[V];exact .inl ⟨rfl,rfl⟩),rfl,by simp[Value.oneCell'],⟨by simp,by simp[Mb]⟩,by simp[Mb,Rows.uptoBulk]⟩;simp only[Rows.uptoBulk]at hb ⊢;obtain⟨l,us,y,J,K,L,A,M,l7⟩:=Ui E u (C n G.symm) I t a b 0 (λj hj=>by rw[qW];exact D j nN) nN;refine⟨l,NH ?_,rfl,by simp[Value.oneCell'],⟨M,by omega⟩,by omega⟩;rw[V];right;refine⟨a,cap,us.flatMap (·.cells.toList),by rw[qj,y,c],by rw[qj,y,c];exact g,by simp,?_,Js.2 ⟨us,J,K,λs p=>?_,rfl⟩⟩;have d:us.flatMap (·.cells.toList)≠[]->a.spot=none:=λo=>by
  obtain⟨v,r,hv⟩:=List.exists_cons_of_ne_nil o;have:=World.cell?_spot (A 0 v (by rw[hv];rfl));simpa[Addr.add]using this
 refine⟨d,λ_ h=>h,λi v hv=>?_,L⟩;have h1:=A i v hv;have h2:=d (by rintro e;rw[e]at hv;simp at hv);rw[Nat.zero_mul,qW]at h1;have e:a.add i=⟨a.block,a.off+i,none⟩:=by
  unfold Addr.add;split;subst_vars;cases a;simp_all;rfl
 rw[e]at h1;exact h1;obtain⟨q,_,rfl⟩:=qb.1 p;exact u q
end
section
variable{H:Type}{enc:TypeId×Value->H}{w:World}{base:Nat}{spare:Nat->Bool}{BT:Bool}{α:Type}
theorem Rd.zero{e:TypeId}{F:α->List SV}{z:Nat}{ok:α->Prop}{μ:α->Nat}:Rd enc prog w base spare BT 0 e F z ok μ:=λcs x a _=>by simp[DataW.trod]at a
theorem GB(k:Nat):Rd enc prog w base spare BT k 3 (λn:Int=>[AA n]) 1 (λ_=>True) (λ_=>0):=dw Tryz.underlying3
theorem Rl(k:Nat):Rd enc prog w base spare BT k 9 (λs:ByteArray=>[.str s]) 1 (λs=>s.size<=BB) (λs=>s.size):=dx Tryz.underlying9
theorem bx(k:Nat):Rd enc prog w base spare BT k 4 (λb:Bool=>[.bool b]) 1 (λ_=>True) (λ_=>0):=ah Tryz.underlying4
def Fd.F(p:Fd):List SV:=[AA p.key,AA p.value]
theorem my:∀k,Rd enc prog w base spare BT k 164 Fd.F 2 (λ_=>True) (λ_=>0)
 | 0=>Rd.zero
 | k+1=>(DA.rd Tryz.underlying164 nQ (DA.cons (GB k) nQ rfl (DA.cons (GB k) nQ rfl DA.nil))).map (λp=>⟨p.1,p.2.1⟩) (λ_=>rfl) (λ_ _=>trivial) (λ_=>qi _)
def Dx.F(p:Dx):List SV:=[AA p.rev,AA p.move]
theorem mu:∀k,Rd enc prog w base spare BT k 74 Dx.F 2 (λ_=>True) (λ_=>0)
 | 0=>Rd.zero
 | k+1=>(DA.rd Tryz.underlying74 nQ (DA.cons (GB k) nQ rfl (DA.cons (GB k) nQ rfl DA.nil))).map (λp=>⟨p.1,p.2.1⟩) (λ_=>rfl) (λ_ _=>trivial) (λ_=>qi _)
def BC.F(p:BC):List SV:=[AA p.rev,AA p.key,AA p.before,.bool p.had]
theorem dn:∀k,Rd enc prog w base spare BT k 76 BC.F 4 (λ_=>True) (λ_=>0)
 | 0=>Rd.zero
 | k+1=>(DA.rd Tryz.underlying76 nQ (DA.cons (GB k) nQ rfl (DA.cons (GB k) nQ rfl (DA.cons (GB k) nQ rfl (DA.cons (bx k) nQ rfl DA.nil))))).map (λp=>⟨p.1,p.2.1,p.2.2.1,p.2.2.2.1⟩) (λ_=>rfl) (λ_ _=>trivial) (λ_=>qi _)
def CI.F(p:CI):List SV:=[AA p.id,.str p.O,AA p.time]
theorem mz:∀k,Rd enc prog w base spare BT k 68 CI.F 3 (λr=>r.O.size<=BB) (λ_=>0)
 | 0=>Rd.zero
 | k+1=>(DA.rd Tryz.underlying68 nQ (DA.cons (GB k) nQ rfl (DA.cons (Rl k) nQ rfl (DA.cons (GB k) nQ rfl DA.nil)))).map (λp=>(⟨p.1,p.2.1,p.2.2.1⟩:CI)) (λ_=>rfl) (λ_ h=>h.2.1) (λ_=>qi _)
theorem YC(k:Nat):Rd enc prog w base spare BT k 23 (λl:List Fd=>[AU l]) 1 (λl=>l.length<=BB) (λ_=>0):=
 (Dw (f:=Fd.h) (F:=Fd.F) (λ_=>rfl) Fd.E.st Tryz.underlying23 nQ nN (λm _=>my m)).map (λl=>l) (λ_=>rfl) (λl h=>by have:=Dc (λ_=>0) l;have:=h.2;omega) (λ_=>qi _)
theorem iW(k:Nat):Rd enc prog w base spare BT k 24 (λl:List Dx=>[Aa l]) 1 (λl=>l.length<=BB) (λ_=>0):=
 (Dw (f:=Dx.h) (F:=Dx.F) (λ_=>rfl) Dx.E.st Tryz.underlying24 nQ nN (λm _=>mu m)).map (λl=>l) (λ_=>rfl) (λl h=>by have:=Dc (λ_=>0) l;have:=h.2;omega) (λ_=>qi _)
theorem ab(k:Nat):Rd enc prog w base spare BT k 25 (λl:List BC=>[AN l]) 1 (λl=>l.length<=BB) (λ_=>0):=
 (Dw (f:=BC.h) (F:=BC.F) (λ_=>rfl) BC.E.st Tryz.underlying25 nQ nN (λm _=>dn m)).map (λl=>l) (λ_=>rfl) (λl h=>by have:=Dc (λ_=>0) l;have:=h.2;omega) (λ_=>qi _)
theorem iX(k:Nat):Rd enc prog w base spare BT k 30 (λl:List CI=>[Cq l]) 1 (λl=>l.length<=BB/\∀r∈l,r.O.size<=BB) (λ_=>0):=
 (Dw (f:=CI.h) (F:=CI.F) (λ_=>rfl) CI.E.st Tryz.underlying30 nQ nN (λm _=>mz m)).map (λl=>l) (λ_=>rfl) (λl h=>⟨by have:=Dc (λ_=>0) l;have:=h.2;omega,h.1⟩) (λ_=>qi _)
theorem du:∀k,Rd enc prog w base spare BT k 27 (λm:Int×Int×List Dx×List BC=>[AA m.1,AA m.2.1,Aa m.2.2.1,AN m.2.2.2]) 4 (λm=>m.2.2.1.length<=BB/\m.2.2.2.length<=BB) (λ_=>0)
 | 0=>Rd.zero
 | k+1=>(DA.rd Tryz.underlying27 nQ (DA.cons (GB k) nQ rfl (DA.cons (GB k) nQ rfl (DA.cons (iW k) nQ rfl (DA.cons (ab k) nQ rfl DA.nil))))).map (λp=>(p.1,p.2.1,p.2.2.1,p.2.2.2.1)) (λ_=>rfl) (λ_ h=>⟨h.2.2.1,h.2.2.2.1⟩) (λ_=>qi _)
theorem Uh:∀k,Rd enc prog w base spare BT k 29 AF.j 5 AF.D (λ_=>0)
 | 0=>Rd.zero
 | k+1=>(DA.rd Tryz.underlying29 nQ (DA.cons (YC k) nQ rfl (DA.cons (du k) nQ rfl DA.nil))).map (λp=>(⟨p.1,p.2.1.1,p.2.1.2.1,p.2.1.2.2.1,p.2.1.2.2.2⟩:AF)) (λ_=>rfl) (λ_ h=>⟨h.1,h.2.1.1,h.2.1.2⟩) (λ_=>qi _)
def AD.F(x:AD):List SV:=[AA x.l,AA x.code,AA x.id,.str x.J,AU x.H.Q,AA x.H.I,AA x.H.move,Aa x.H.Y,AN x.H.Z,AI x.W,Ap x.R]
def AM.F(x:AM):List SV:=[AU x.H.Q,AA x.H.I,AA x.H.move,Aa x.H.Y,AN x.H.Z,Bf x.cells]
def AG.F(x:AG):List SV:=[AA x.id,AU x.H.Q,AA x.H.I,AA x.H.move,Aa x.H.Y,AN x.H.Z,AI x.W]
def aK(N:Nat)(c:AG):Prop:=c.H.D/\lim AF.D BB N c.W
def dW(N:Nat)(r:AM):Prop:=r.H.D/\r.cells.length<=BB/\∀c∈r.cells,aK N c
theorem PT:∀l:List AD,Bu l<=Mb (λx=>x.J.size) l
 | []=>by simp[Bu]
 | x::l=>by
  have:=PT l;simp only[Bu,Mb,qg,wp]at this ⊢;omega
theorem dm:∀k,Rd enc prog w base spare BT k 22 (λl:List AD=>[AI l]) 1 (λl=>∀N,k<N->lim AF.D BB N l) (Mb λx=>x.J.size):=λk=>by
 induction k using Nat.strongRecOn with
 | ind k ih=>
 have cell:∀m,m<k->Rd enc prog w base spare BT m 173 AG.F 7 (λc=>∀N,m<=N->aK N c) (λ_=>0):=λm hm=>by
  cases m with
  | zero=>exact Rd.zero
  | succ m=>
   exact(DA.rd Tryz.underlying173 nQ (DA.cons (GB m) nQ rfl (DA.cons (Uh m) nQ rfl (DA.cons (ih m nN) nQ rfl DA.nil)))).map (λp=>AG.mk p.1 p.2.1 p.2.2.1) (λ_=>rfl) (λ_ h N a=>⟨h.2.1,h.2.2.1 N nN⟩) (λ_=>qi _)
 have cells:∀m,m<k->Rd enc prog w base spare BT m 169 (λl:List AG=>[Bf l]) 1 (λl=>l.length<=BB/\∀c∈l,∀N,m<=N->aK N c) (λ_=>0):=λm hm=>
  (Dw (f:=AG.h) (F:=AG.F) (ok:=λc=>∀N,m<=N->aK N c) (λc=>vB c) AG.E.st Tryz.underlying169 nQ nN (λq d=>(cell q nN).map (λc=>c) (λ_=>rfl) (λ_ h N a=>h N nN) (λ_=>IO _))).map (λl=>l) (λ_=>rfl) (λl h=>⟨by have:=Dc (λ_=>0) l;have:=h.2;omega,h.1⟩) (λ_=>qi _)
 have row:∀m,m<k->Rd enc prog w base spare BT m 171 AM.F 6 (λr=>∀N,m<=N->dW N r) (λ_=>0):=λm hm=>by
  cases m with
  | zero=>exact Rd.zero
  | succ m=>
   exact(DA.rd Tryz.underlying171 nQ (DA.cons (Uh m) nQ rfl (DA.cons (cells m nN) nQ rfl DA.nil))).map (λp=>AM.mk p.1 p.2.1) (λ_=>rfl) (λ_ h N a=>⟨h.1,h.2.1.1,λc e=>h.2.1.2 c e N nN⟩) (λ_=>qi _)
 have b:∀m,m<k->Rd enc prog w base spare BT m 78 (λl:List AM=>[Ap l]) 1 (λl=>l.length<=BB/\∀c∈l,∀N,m<=N->dW N c) (λ_=>0):=λm hm=>
  (Dw (f:=AM.h) (F:=AM.F) (ok:=λc=>∀N,m<=N->dW N c) (λc=>qR c) AM.E.st Tryz.underlying78 nQ nN (λq d=>(row q nN).map (λc=>c) (λ_=>rfl) (λ_ h N a=>h N nN) (λ_=>IO _))).map (λl=>l) (λ_=>rfl) (λl h=>⟨by have:=Dc (λ_=>0) l;have:=h.2;omega,h.1⟩) (λ_=>qi _)
 have item:∀m,m<k->Rd enc prog w base spare BT m 80 AD.F 11 (λx=>∀N,m<=N->OW AF.D BB N x) (λx=>x.J.size):=λm hm=>by
  cases m with
  | zero=>exact Rd.zero
  | succ m =>
   exact(DA.rd Tryz.underlying80 nQ (DA.cons (GB m) nQ rfl (DA.cons (GB m) nQ rfl (DA.cons (GB m) nQ rfl (DA.cons (Rl m) nQ rfl (DA.cons (Uh m) nQ rfl (DA.cons (ih m nN) nQ rfl (DA.cons (b m nN) nQ rfl DA.nil)))))))).map (λp=>AD.mk p.1 p.2.1 p.2.2.1 p.2.2.2.1 p.2.2.2.2.1 p.2.2.2.2.2.1 p.2.2.2.2.2.2.1) (λ_=>rfl)
    (λ_ h N a=>⟨h.2.2.2.2.1,h.2.2.2.2.2.1 N nN,h.2.2.2.2.2.2.1.1,λr hr=>h.2.2.2.2.2.2.1.2 r hr N nN⟩) (λp=>by show p.2.2.2.1.size<=_;omega)
 exact(Dw (f:=AD.h) (F:=AD.F) (ok:=λx=>∀N,k<=N+1->OW AF.D BB N x) (λc=>qz c) AD.E.st Tryz.underlying22 nQ nN (λq d=>(item q nN).map (λc=>c) (λ_=>rfl) (λ_ h N a=>h N nN) (λ_=>IO _))).map (λl=>l) (λ_=>rfl) (λl h N a=>by
  cases N with
  | zero=>omega
  | succ N=>
   have h1:=Dc (λx:AD=>x.J.size) l;have h2:=PT l;have h3:=h.2;exact CX.2 ⟨by omega,by omega,λx g=>h.1 x g N nN⟩) (λ_=>IO _)
end
section
variable{H:Type}{enc:TypeId×Value->H}{w:World}{base:Nat}{spare:Nat->Bool}{BT:Bool}{α:Type}
def Al.F(s:Al):List SV:=[AA s.id,AA s.l,.str s.name,AA s.base,AA s.next,AU s.Q]
theorem dv:∀k,Rd enc prog w base spare BT k 110 Al.F 6 (λs=>s.Q.length<=BB) (λ_=>0)
 | 0=>Rd.zero
 | k+1=>(DA.rd Tryz.underlying110 nQ (DA.cons (GB k) nQ rfl (DA.cons (GB k) nQ rfl (DA.cons (Rl k) nQ rfl (DA.cons (GB k) nQ rfl (DA.cons (GB k) nQ rfl (DA.cons (YC k) nQ rfl DA.nil))))))).map
  (λp=>(⟨p.1,p.2.1,p.2.2.1,p.2.2.2.1,p.2.2.2.2.1,p.2.2.2.2.2.1⟩:Al)) (λ_=>rfl) (λ_ h=>h.2.2.2.2.2.1) (λ_=>qi _)
def Cv.F(s:Cv):List SV:=[AA s.format,AA s.start,.str s.template,AA s.restart]
theorem dq:∀k,Rd enc prog w base spare BT k 115 Cv.F 4 (λs=>s.template.size<=BB) (λ_=>0)
 | 0=>Rd.zero
 | k+1=>(DA.rd Tryz.underlying115 nQ (DA.cons (GB k) nQ rfl (DA.cons (GB k) nQ rfl (DA.cons (Rl k) nQ rfl (DA.cons (GB k) nQ rfl DA.nil))))).map
  (λp=>(⟨p.1,p.2.1,p.2.2.1,p.2.2.2.1⟩:Cv)) (λ_=>rfl) (λ_ h=>h.2.2.1) (λ_=>qi _)
theorem ac(k:Nat):Rd enc prog w base spare BT k 111 (λl:List Cv=>[DK l]) 1 (λl=>l.length<=BB/\∀r∈l,r.template.size<=BB) (λ_=>0):=
 (Dw (f:=Cv.h) (F:=Cv.F) (λ_=>rfl) Cv.E.st Tryz.underlying111 nQ nN (λm _=>dq m)).map (λl=>l) (λ_=>rfl) (λl h=>⟨by have:=Dc (λ_=>0) l;have:=h.2;omega,h.1⟩) (λ_=>qi _)
def Fb.F(s:Fb):List SV:=[AA s.id,DK s.levels]
theorem mw:∀k,Rd enc prog w base spare BT k 113 Fb.F 2 (λs=>s.levels.length<=BB/\∀r∈s.levels,r.template.size<=BB) (λ_=>0)
 | 0=>Rd.zero
 | k+1=>(DA.rd Tryz.underlying113 nQ (DA.cons (GB k) nQ rfl (DA.cons (ac k) nQ rfl DA.nil))).map (λp=>(⟨p.1,p.2.1⟩:Fb)) (λ_=>rfl) (λ_ h=>h.2.1) (λ_=>qi _)
def AX.F(c:AX):List SV:=[AA c.id,AA c.parent,.str c.O,AA c.time,.str c.J,.bool c.done]
theorem YB:∀k,Rd enc prog w base spare BT k 71 AX.F 6 (λs=>s.O.size<=BB/\s.J.size<=BB) (λ_=>0)
 | 0=>Rd.zero
 | k+1=>(DA.rd Tryz.underlying71 nQ (DA.cons (GB k) nQ rfl (DA.cons (GB k) nQ rfl (DA.cons (Rl k) nQ rfl (DA.cons (GB k) nQ rfl (DA.cons (Rl k) nQ rfl (DA.cons (bx k) nQ rfl DA.nil))))))).map
  (λp=>(⟨p.1,p.2.1,p.2.2.1,p.2.2.2.1,p.2.2.2.2.1,p.2.2.2.2.2.1⟩:AX)) (λ_=>rfl) (λ_ h=>⟨h.2.2.1,h.2.2.2.2.1⟩) (λ_=>qi _)
def Gq.F(c:Gq):List SV:=[.str c.name,.str c.value]
theorem m7:∀k,Rd enc prog w base spare BT k 88 Gq.F 2 (λs=>s.name.size<=BB/\s.value.size<=BB) (λ_=>0)
 | 0=>Rd.zero
 | k+1=>(DA.rd Tryz.underlying88 nQ (DA.cons (Rl k) nQ rfl (DA.cons (Rl k) nQ rfl DA.nil))).map (λp=>(⟨p.1,p.2.1⟩:Gq)) (λ_=>rfl) (λ_ h=>⟨h.1,h.2.1⟩) (λ_=>qi _)
theorem ae(k:Nat):Rd enc prog w base spare BT k 31 (λl:List Al=>[AW l]) 1 (λl=>l.length<=BB/\∀r∈l,r.Q.length<=BB) (λ_=>0):=
 (Dw (f:=Al.h) (F:=Al.F) (λ_=>rfl) Al.E.st Tryz.underlying31 nQ nN (λm _=>dv m)).map (λl=>l) (λ_=>rfl) (λl h=>⟨by have:=Dc (λ_=>0) l;have:=h.2;omega,h.1⟩) (λ_=>qi _)
theorem dt(k:Nat):Rd enc prog w base spare BT k 32 (λl:List Fb=>[CA l]) 1 (λl=>l.length<=BB/\∀s∈l,s.levels.length<=BB/\∀r∈s.levels,r.template.size<=BB) (λ_=>0):=
 (Dw (f:=Fb.h) (F:=Fb.F) (λ_=>rfl) Fb.E.st Tryz.underlying32 nQ nN (λm _=>mw m)).map (λl=>l) (λ_=>rfl) (λl h=>⟨by have:=Dc (λ_=>0) l;have:=h.2;omega,h.1⟩) (λ_=>qi _)
theorem Vg(k:Nat):Rd enc prog w base spare BT k 33 (λl:List AX=>[A8 l]) 1 (λl=>l.length<=BB/\∀s∈l,s.O.size<=BB/\s.J.size<=BB) (λ_=>0):=
 (Dw (f:=AX.h) (F:=AX.F) (λ_=>rfl) AX.E.st Tryz.underlying33 nQ nN (λm _=>YB m)).map (λl=>l) (λ_=>rfl) (λl h=>⟨by have:=Dc (λ_=>0) l;have:=h.2;omega,h.1⟩) (λ_=>qi _)
theorem iY(k:Nat):Rd enc prog w base spare BT k 34 (λl:List Gq=>[CW l]) 1 (λl=>l.length<=BB/\∀s∈l,s.name.size<=BB/\s.value.size<=BB) (λ_=>0):=
 (Dw (f:=Gq.h) (F:=Gq.F) (λ_=>rfl) Gq.E.st Tryz.underlying34 nQ nN (λm _=>m7 m)).map (λl=>l) (λ_=>rfl) (λl h=>⟨by have:=Dc (λ_=>0) l;have:=h.2;omega,h.1⟩) (λ_=>qi _)
theorem Vi:∀k,Rd enc prog w base spare BT k 36 AO.j 4 AO.sizedT (λ_=>0)
 | 0=>Rd.zero
 | k+1=>(DA.rd Tryz.underlying36 nQ (DA.cons (ae k) nQ rfl (DA.cons (dt k) nQ rfl (DA.cons (Vg k) nQ rfl (DA.cons (iY k) nQ rfl DA.nil))))).map
  (λp=>(⟨p.1,p.2.1,p.2.2.1,p.2.2.2.1⟩:AO)) (λ_=>rfl) (λ_ h=>⟨⟨h.1.1,h.2.1.1,h.2.2.1.1,h.2.2.2.1.1,h.1.2,λx a=>(h.2.1.2 x a).1⟩,λx a=>(h.2.1.2 x a).2,h.2.2.1.2,h.2.2.2.1.2⟩) (λ_=>qi _)
def AH.F(d:AH):List SV:=[AI d.W]++d.T0.j++[Cq d.V]++d.S.j
theorem Vh:∀k,Rd enc prog w base spare BT k 38 AH.F 11 (λd=>d.sizedT BB k) (λ_=>0)
 | 0=>Rd.zero
 | k+1=>(DA.rd Tryz.underlying38 nQ (DA.cons (dm k) nQ rfl (DA.cons (Uh k) nQ rfl (DA.cons (iX k) nQ rfl (DA.cons (Vi k) nQ rfl DA.nil))))).map
  (λp=>(⟨p.1,p.2.1,p.2.2.1,p.2.2.2.1⟩:AH)) (λ_=>rfl) (λ_ h=>⟨h.1 _ nN,h.2.1,h.2.2.1.1,h.2.2.1.2,h.2.2.2.1⟩) (λ_=>qi _)
def DC.F(s:DC):List SV:=[AA s.id,AA s.a,AA s.b]
theorem Rd.arg{k e z:Nat}{F:α->List SV}{ok:α->Prop}{μ:α->Nat}(h:Rd enc prog w base spare BT k e F z ok μ){c:Array Field}(ht:prog.underlying e=some (.struct c)){r:Reach}{b0:Nat}{v:Value}(hv:Value.okWide prog w r b0 e v){x:DataW H×List MemPlace}
 (d:DataW.trod enc prog w base spare BT k e v.cells.toList=some x) (hb:Rows.uptoBulk x.1<=BB):∃a,V (bT w) (.agg (F a)) v/\ok a:=by
 simp only[Value.okWide,ht]at hv;obtain⟨b,rfl,_,_⟩:=hv;obtain⟨a,a1,a2,a3,a4,a5⟩:=h _ x d hb;refine⟨a,?_,a4⟩;rw[V];exact⟨b.toList,by simp,by simpa[Value.cells]using a1,by simpa[Value.cells]using a3⟩
end
open Go.ChangeShapes Go.WideShapes Go.ChangeAt Go.RowKit
theorem iC:Kids prog (· < prog.types.size):=kids_rows nQ nQ
theorem gx:∀t e,t<prog.types.size->prog.underlying t=some (.slice e)->0<prog.cellsOf e:=slices_full_of prog nQ
section
variable{H:Type}{enc:TypeId×Value->H}
theorem VQ{W:World}{a:Cx}(x:DF (bT W) a){b:Nat}(h:b<W.heap.size):a.w.heap[b]? = W.heap[b]?:=(x.keep b h (λh=>h)).2
theorem Q2{P:Program}{w w':World}{base:Nat}{d:Nat->Bool}{BT:Bool}(hw:∀b,b<w.heap.size->w'.heap[b]? = w.heap[b]?):∀{f:List TypeId} {vs:List Value} {c:List (DataW H)} {ps:List MemPlace},DataW.TrodAll enc P w base d BT f vs c ps->(∀p∈ps,p.block<w.heap.size)->DataW.TrodAll enc P w' base d BT f vs c ps
 | [],[],[],_,h,_=>h
 | _ :: _, _ :: _, _ :: _, _, ⟨p, q, ⟨n, h1⟩, h2, e⟩, hs => by
  have hp:∀x∈p,w.sameAt w' x:=λx a=>by
   have hb:=hs x (by rw[e];exact qx _ a);cases x with
   | cell b off=>simp only[World.sameAt,World.cell?,hw b hb]
   | map b=>exact hw b hb
  exact⟨p,q,⟨n,DataW.trod_carry n _ _ _ h1 hp⟩,Q2 hw h2 (λx a=>hs x (by rw[e];exact qt _ a)),e⟩
theorem TQ{f:Func}{s:ChangeSpec}{a m c l:Bool}{W g:World}{args:Array Value}{v:Value}{u F:List (DataW H)}{before:List MemPlace}{x:DataW H}
 (z:DataW.Whole enc prog f.params.toList s.vars a W args.toList u F before) (hv:s.vars=[]) (C:∀t∈f.params.toList,t<prog.types.size)
 (B:g.os=W.os) (y:g.output=W.output) (hw:∀b,b<W.heap.size->g.heap[b]? = W.heap[b]?)
 (n:s.fn H (u++F)={ results:=[x],args:=u })
 (h:∀(b:Nat)(k:Nat->Bool)(hd:Bool),DataW.TrodAll enc prog g b k hd f.resultTypes.toList (v.resultList f.resultTypes.size) [x] [])
 (A:∀(j:Nat)(t:TypeId)(r:Value),f.resultTypes[j]? = some t->(v.resultList f.resultTypes.size)[j]? = some r->Value.okWide prog g .any 0 t r):
 s.post enc prog f a m c l W args v g:=by
 have e:=z.lt;have w:=z;obtain⟨p,q,h1,h2,rfl,I,G⟩:=z;rw[hv]at h2;obtain⟨rfl,rfl⟩:=trodVars_none h2;rw[vp]at e I G w;have c1:=Q2 hw h1 e;have E:∀k:Nat->Bool,(∀x∈p,k x.block=true)->DataW.TrodAll enc prog g 0 k true f.params.toList args.toList u p:=λk J=>DataW.TrodAll.respare iC gx C c1 J;have d:∀k:Nat->Bool,DataW.TrodVars enc prog g k s.vars [] []:=λk=>by rw[hv];rfl
 refine⟨u,[],p,[],p,[],w,by rw[n];exact h _ _ _,by rw[n];exact E _ (λx D=>by simpa using e x D),by rw[n];exact d _,?_,λ_=>?_⟩;refine⟨B,y,λi hi=>?_⟩;rw[hw i hi];generalize W.heap[i]? = o;cases o with
 | none=>rfl
 | some b=>cases b<;>simp
 refine⟨A,x::u,[],p,⟨p,[],by simpa using trodAll_append (E _ (λ_ _=>rfl)) (h 0 (λ_=>true) true),d _,by simp,?_,G⟩,λx D _=>D⟩;intro b off hp;have hb:=e _ hp;have:=I b off hp;simp only[World.frozen?]at this ⊢;rw[hw b hb];exact this
theorem m8(W:World):Bk (λ_=>none) (bT W):=⟨λ_ _ h=>(by cases h),λ_ _ _ _ _ h=>(by cases h),λb=>⟨λh=>h.elim,λ⟨_,_,h,_⟩=>(by cases h)⟩⟩
end
end Go.Proofs.YthinbkgpjmjfeaaGreatDoor.Sh
namespace Go.Proofs.YthinbkgpjmjfeaaGreatDoor.Sh
open Go.Proofs.Tryz
open Proofs
set_option maxRecDepth 10000
set_option maxHeartbeats 4000000
structure Za where
 W:Int
 a:Int
 b:Int
def Za.h(r:Za):SV:=.agg [AA r.W,AA r.a,AA r.b]
abbrev Yc(l:List Za):SV:=.x 3 (l.map Za.h) false
abbrev Ys(l:List ByteArray):SV:=.x 1 (l.map SV.str) false
structure IX where
 ranges:List Za
 marker:ByteArray
 o1:Bool
 o2:Bool
 o3:Bool
 o4:Bool
 vars:List ByteArray
def IX.h(r:IX):SV:=.agg [Yc r.ranges,.str r.marker,.bool r.o1,.bool r.o2,.bool r.o3,.bool r.o4,Ys r.vars]
structure Rsz(r:IX):Prop where
 hr:r.ranges.length<=1048576
 hm:r.marker.size<=1048576
 hv:r.vars.length<=1048576
abbrev dcs(d:AH):List SV:=[AI d.W]++d.T0.j++[Cq d.V]++d.S.j
abbrev rcs(r:IX):List SV:=[Yc r.ranges,.str r.marker,.bool r.o1,.bool r.o2,.bool r.o3,.bool r.o4,Ys r.vars]
theorem bg{h:Hp}{n:Nat}(a:HQ h n){x y:Option A7}:∀o z,h o=some z->h_ (h_ h n x) (n+1) y o=some z:=
 λo z e=>by have:=(a o z e).1;rw[AB _ _ nN,AB _ _ nN];exact e
theorem UF{h:Hp}{n:Nat}(a:HQ h n)(j:Nat)(hj:n<=j):h j=none:=by
 cases e:h j with
 | none=>rfl
 | some x=>have:=(a j x e).1;omega
def Qw(p:Nat->Bool):Nat->Bool
 | 0=>false
 | n+1=>Qw p n||p n
theorem LT{p:Nat->Bool}:∀{n:Nat},Qw p n=true↔∃i,i<n/\p i=true
 | 0=>by simp[Qw]
 | n+1=>by
  simp only[Qw,vU,LT (n:=n)];constructor;rintro(⟨i,h1,h2⟩|h);exact⟨i,by omega,h2⟩;exact⟨n,by omega,h⟩;rintro⟨i,h1,h2⟩;by_cases e:i=n;subst e;exact .inr h2;exact .inl ⟨i,by omega,h2⟩
theorem Nu{p:Nat->Bool}{n:Nat}:∀(f k:Nat),n-k=f->(0<=BI p n k↔∃i,k<=i/\i<n/\p i=true)
 | 0,k,hf=>by
  rw[BI.eq_def,dif_neg nN];constructor;intro h;omega;rintro⟨i,h1,h2,_⟩;omega
 | f+1,k,hf=>by
  rw[BI.eq_def,dif_pos nN];by_cases h:p k=true;rw[nS h];exact⟨λ_=>⟨k,IO _,by omega,h⟩,λ_=>by omega⟩;rw[nR h,Nu f (k+1) nN];constructor;rintro⟨i,h1,h2,a⟩;exact⟨i,by omega,h2,a⟩;rintro⟨i,h1,h2,a⟩;have:i≠k:=by rintro rfl;exact h a
  exact⟨i,by omega,h2,a⟩
theorem Zh(p:Nat->Bool)(n:Nat):MT p n=Qw p n:=by
 rw[Bool.eq_iff_iff,LT,MT,decide_eq_true_eq,Nu _ 0 rfl];simp
def HD(eff:Nat->Bool):Nat->Nat
 | 0=>0
 | j+1=>HD eff j+(if eff j=true then 1 else 0)
theorem eU(eff:Nat->Bool){i j:Nat}(h:i<=j):HD eff i<=HD eff j:=by
 induction j with
 | zero => have : i = 0 := by omega
           subst this;exact IO _
 | succ j ih=>
  rcases vk j i with g|g;have:i=j+1:=by omega
  subst this;exact IO _;exact qy (ih g) (Nat.le_add_right _ _)
theorem TW{eff:Nat->Bool}{i j:Nat}(h:i<j)(a:eff i=true):HD eff i<HD eff j:=
 wB (show HD eff i<HD eff (i+1)by simp[HD,a]) (eU eff h)
theorem ak{eff:Nat->Bool}{i j:Nat}(hi:eff i=true)(a:eff j=true)(h:HD eff i=HD eff j):i=j:=by
 rcases Nat.lt_trichotomy i j with g|g|g;have:=TW g hi;omega;exact g;have:=TW g a;omega
theorem TV{eff:Nat->Bool}{k:Nat}:∀{m:Nat},k<HD eff m->∃j,j<m/\eff j=true/\HD eff j=k
 | 0,h=>absurd h (Nat.not_lt_zero _)
 | m+1,h=>by
  rcases vk k (HD eff m)with g|g;obtain⟨j,h1,h2,a⟩:=TV g;exact⟨j,by omega,h2,a⟩;simp only[HD]at h;by_cases e:eff m=true;rw[nS e]at h;exact⟨m,by omega,e,by omega⟩;rw[nR e]at h;omega
def May(ops:Array Oper)(eff:Nat->Bool)(i k:Nat):Prop:=
 (eff i=true->k=HD eff i)/\k<=HD eff ops.size/\(∀j,j<ops.size->eff j=true->k<=HD eff j->Dq ops j i=false)/\(∀j,j<ops.size->eff j=true->HD eff j<k->Dq ops i j=false)
def UC(rs:List CC)(f0:Nat->SV)(i:Nat):Nat->SV:=De (rs.map CC.tw) (λq=>decide (q<i)) 0 f0
structure ZU(E:BU)(P:Program)(N:Nat)(ops:Array Oper)(f0:Nat->SV)(rs:List CC)(eff:Nat->Bool)(hs:Nat->Hp)(ns:Nat->Nat):Prop where
 len:rs.length=ops.size
 stat:ED ops=true
 dok:∀(i:Nat)(o:Oper),ops[i]? = some o->∀d,o.dst=some d->d<N
 row:∀i j,j<i->i<ops.size->eff j=true->eff i=true->HD eff i=HD eff j+1->Dq ops j i=true
 ok:∀(i:Nat)(o:Oper)(r:CC),ops[i]? = some o->rs[i]? = some r->r.dst=o.dst/\
  ((DG ops (UC rs f0 i) o=some false/\r.val=.tup []/\eff i=false)\/
   (DG ops (UC rs f0 i) o=some true/\∀k,May ops eff i k->∀sa:SA,(∀x∈o.op.operands,EV sa x=E6 (UC rs f0 i) x)->
     Fj E P o sa (hs k) (ns k) λv h n=>v=r.val/\h=hs (if eff i=true then k+1 else k)/\n=ns (if eff i=true then k+1 else k)))
def Ri(f:Nat->SV):List Operand->SA
 | []=>[]
 | .tmp t::r=>(t,f t)::Ri f r
 | _::r=>Ri f r
theorem Lk{f:Nat->SV}{t:Nat}:∀(l:List Operand),(look (Ri f l) t=.junk/\.tmp t∉l)\/look (Ri f l) t=f t
 | []=>.inl ⟨rfl,by simp⟩
 | x :: r => by
  have a:=Lk (f:=f) (t:=t) r;cases x with
  | tmp s=>
   simp only[Ri,look];by_cases e:s=t;subst e;simp;simp only[e,if_false];rcases a with⟨h1,h2⟩|h1;exact .inl ⟨h1,by simp[h2,Ne.symm e]⟩;exact .inr h1
  | _=>
   simp only[Ri];rcases a with⟨h1,h2⟩|h1;exact .inl ⟨h1,by simp[h2]⟩;exact .inr h1
theorem aa{f:Nat->SV}{l:List Operand}{x:Operand}(a:x∈l):EV (Ri f l) x=E6 f x:=by
 cases x with
 | tmp t=>
  rcases Lk (f:=f) (t:=t) l with⟨_,h⟩|h;exact absurd a h;exact h
 | _=>rfl
section
variable{E:BU}{P:Program}{N:Nat}{ops:Array Oper}{f0:Nat->SV}{rs:List CC}{eff:Nat->Bool}{hs:Nat->Hp}{ns:Nat->Nat}
structure jQ(E:BU)(N:Nat)(ops:Array Oper)(f0:Nat->SV)(rs:List CC)(eff:Nat->Bool)(hs:Nat->Hp)(ns:Nat->Nat)(n0:Nat)(c0:Cx)(listed:Array Bool)(k:Nat)(c:Cx)(a:Act):Prop where
 size:listed.size=ops.size
 C_:∀(i:Nat)(o:Oper),ops[i]? = some o->listed.getD i false=true->∀e∈o.after,Region.binds .any e=true->listed.getD e.on false=true
 kle:k<=HD eff ops.size
 pre:∀j,j<ops.size->eff j=true->(listed.getD j false=true↔HD eff j<k)
 inv:E.inv c
 rel:Bk (hs k) c
 fr:Sa E N (De (rs.map CC.tw) (λq=>listed.getD q false) 0 f0) c a
 free:Fr (ns k) c
 adv:Fx n0 c0 (ns k) c
theorem Ss(G:ZU E P N ops f0 rs eff hs ns){n0:Nat}{c0 c:Cx}{b:Array Bool}{k:Nat}{a:Act}(A:jQ E N ops f0 rs eff hs ns n0 c0 b k c a){i:Nat}(hi:i∈Region.ready .any ops b)
 {Qr:Exit->Act->World->Prop} {Kr:Act->World->Prop} (hK:∀U H a',jQ E N ops f0 rs eff hs ns n0 c0 (b.setIfInBounds i true) U H a'->Kr a' H.w):wpOpIn E.fc 0 P ops Qr i Kr a c.w:=by
 obtain⟨hun,o,R,T⟩:=mem_ready.1 hi;have J:=(qe.1 R).1;have B:b.getD i false=false:=by rw[C6 (by rw[A.size];exact J)]at hun ⊢;exact hun
 obtain⟨r,hr⟩:∃r,rs[i]? = some r:=⟨rs[i]'(by rw[G.len];exact J),by simp⟩
 obtain⟨M,hok⟩:=G.ok i o r R hr;have W:∀(q:Nat)(w:List (Nat×SV)),(rs.map CC.tw)[q]? = some w->∃L,rs[q]? = some L/\w=L.tw:=λq w l=>by
  simp only[vj,qQ]at l;obtain⟨L,h1,rfl⟩:=l;exact⟨L,h1,rfl⟩
 have oq:∀(q:Nat)(L:CC),rs[q]? = some L->∃oq,ops[q]? = some oq:=λq L l=>⟨ops[q]'(by rw[<-G.len];exact(qu.1 l).1),by simp⟩
 have e1:∀q,b.getD q false=false->Dq ops q i=false:=λq l=>by
  unfold Dq;rw[R];simp only;rw[Array.any_eq_false'];intro e n;rw[qh,beq_iff_eq];rintro⟨hb,rfl⟩;rw[T e n hb]at l;cases l
 have e2:∀q,b.getD q false=true->Dq ops i q=false:=λq l=>by
  unfold Dq;cases z:ops[q]? with
  | none=>rfl
  | some oq=>
   simp only;rw[Array.any_eq_false'];intro e n;rw[qh,beq_iff_eq];rintro⟨hb,rfl⟩;have:=A.C_ q oq z l e n hb;rw[B]at this;cases this
 have D:∀t,t∈o.looksAt ops->De (rs.map CC.tw) (λq=>b.getD q false) 0 f0 t=UC rs f0 i t:=λt ht=>by
  refine Fu λq w _ hw K=>?_;rw[wv]at hw;obtain⟨L,O,rfl⟩:=W q w hw;obtain⟨Z,z⟩:=oq q L O;have hdq:=(G.ok q Z L z O).1;rw[JY,hdq];intro hdt;rcases Nat.lt_trichotomy q i with l|l|l;have hnl:b.getD q false=false:=by cases Q:b.getD q false with|false=>rfl|true=>rw[Q]at K;simp[l]at K
  exact(Oper.apart_spec (Dz G.stat R z l (e1 q hnl))).1 t hdt ht;subst l;rw[B]at K;simp at K;have hl:b.getD q false=true:=by cases Q:b.getD q false with|true=>rfl|false=>rw[Q]at K;simp[Nat.not_lt.2 (Nat.le_of_lt l)]at K
  exact(Oper.apart_spec (Dz G.stat z R l (e2 q hl))).2.2 t hdt ht
 have hD:(λq=>(b.setIfInBounds i true).getD q false)=λq=>b.getD q false||q==i:=by
  funext q;by_cases l:q=i;subst l;simp[A.size,J];have:(q==i)=false:=by simp;exact l
  rw[this,Bool.or_false];simp[vH (Ne.symm l)]
 have insT:∀t,De (rs.map CC.tw) (λq=>b.getD q false||q==i) 0 f0 t=CY (De (rs.map CC.tw) (λq=>b.getD q false) 0 f0) r.tw t:=by
  refine IQ B (qi _) (by simp[hr]) λq w l _ hw hl k hk hk2=>?_;rw[wv]at hw;obtain⟨L,O,rfl⟩:=W q w hw;obtain⟨Z,z⟩:=oq q L O;rw[JY,M]at hk;rw[JY,(G.ok q Z L z O).1]at hk2;exact(Oper.apart_spec (Dz G.stat z R l (e2 q hl))).2.1 k hk hk2
 have S:May ops eff i k:=by
  refine⟨λn=>?_,A.kle,λj hj y hk=>e1 j ?_,λj hj y hk=>e2 j ((A.pre j hj y).2 hk)⟩;have h1:k<=HD eff i:=Nat.le_of_not_lt λg=>by rw[(A.pre i J n).2 g]at B;cases B
  rcases vk k (HD eff i)with g|g;obtain⟨j,h2,h3,h4⟩:=TV (k:=HD eff i-1) (m:=i) (eff:=eff) nN;have h5:=G.row i j h2 J h3 n nN;have h6:b.getD j false=true:=by
   cases Q:b.getD j false with
   | true=>rfl
   | false=>rw[e1 j Q]at h5;cases h5
  have:=(A.pre j nN h3).1 h6;omega;omega;cases Q:b.getD j false with
  | false=>rfl
  | true=>have:=(A.pre j hj y).1 Q;omega
 have F:∀(U:Nat)(H:Cx)(u:Value),U=(if eff i=true then k+1 else k)->V H r.val u->Bk (hs U) H->Fr (ns U) H->Fx (ns k) c (ns U) H->Kr (a.put o.dst u) H.w:=by
  intro U H u C hv R' F' X';refine hK U H _ ⟨by simp[A.size],λj oj X hl e n hb=>?_,?_,λj hj y=>?_,E.ext X'.ext A.inv,R',?_,F',A.adv.trans X'⟩;by_cases I:j=i;subst I;rw[R]at X;cases X;exact getD_set_true (T e n hb);rw[getD_set_ne false (Ne.symm I)]at hl;exact getD_set_true (A.C_ j oj X hl e n hb);by_cases n:eff i=true;rw[nS n]at C;have h1:=S.1 n;have h2:=TW J n;omega;rw[nR n]at C;rw[C];exact A.kle;have hDj:=congrFun hD j;rw[hDj];by_cases I:j=i;subst I;rw[nS y]at C;have:=S.1 y;simp;omega;have:(j==i)=false:=by simp;exact I
  rw[this,Bool.or_false,A.pre j hj y];by_cases n:eff i=true;rw[nS n]at C;have h1:=S.1 n;have:HD eff j≠k:=λe=>I (ak y n (e.trans h1));omega;rw[nR n]at C;rw[C];rw[hD];have:De (rs.map CC.tw) (λq=>b.getD q false||q==i) 0 f0=CY (De (rs.map CC.tw) (λq=>b.getD q false) 0 f0) r.tw:=funext insT;rw[this,<-M];have FE:Sa E N (De (rs.map CC.tw) (λq=>b.getD q false) 0 f0) H a:=⟨A.fr.size,A.fr.defers.mono X'.ext,λt=>wK X'.ext (A.fr.val t)⟩
  exact FE.put (λd hd=>G.dok i o R d (by rw[<-M];exact hd)) hv
 have s:DG ops (De (rs.map CC.tw) (λq=>b.getD q false) 0 f0) o=DG ops (UC rs f0 i) o:=by
  unfold DG;cases hg:o.guard with
  | none=>rfl
  | some p =>
   obtain⟨j,want⟩:=p;simp only;cases hd:(ops[j]?).bind (·.dst)with
   | none=>rfl
   | some d=>
    simp only;rw[D d (by simp[Oper.looksAt,hg,hd])]
 unfold wpOpIn;rw[R];simp only;rcases hok with⟨hg,hv,n⟩|⟨hg,Y⟩
 rw[IM A.fr (s.trans hg)];simp only[qq,if_false];exact⟨λ_ _=>trivial,F k c undef (by rw[n];rfl) (by rw[hv];exact IE) A.rel A.free (wD _ _)⟩;rw[IM A.fr (s.trans hg),nS rfl];have FS:FR E N (Ri (De (rs.map CC.tw) (λq=>b.getD q false) 0 f0) o.op.operands.toList) c a:=⟨A.fr.size,A.fr.defers,λt=>by
  rcases Lk (f:=De (rs.map CC.tw) (λq=>b.getD q false) 0 f0) (t:=t) o.op.operands.toList with⟨h,_⟩|h;rw[h];simp[V];rw[h];exact A.fr.val t⟩
 refine JD (Y k S _ λx Q=>?_) A.inv A.rel A.free FS ?_;rw[aa (by simpa using Q)];cases x with
 | tmp t=>exact D t (by simp only[Oper.looksAt,qf,List.mem_filterMap];exact .inl ⟨.tmp t,by simpa using Q,rfl⟩)
 | _=>rfl
 rintro v h' n' H u ⟨rfl,rfl,rfl⟩ hv R' F' X';exact F _ H u rfl hv R' F' X'
theorem VM(G:ZU E P N ops f0 rs eff hs ns){n0:Nat}{c0:Cx}{Qr:Exit->Act->World->Prop}
 (v:∀h a',Bk (hs (HD eff ops.size)) h->Sa E N (UC rs f0 ops.size) h a'->Fr (ns (HD eff ops.size)) h->Fx n0 c0 (ns (HD eff ops.size)) h->Qr .normal a' h.w):
 ∀(d:Nat)(b:Array Bool)(k:Nat)(c:Cx)(a:Act),jQ E N ops f0 rs eff hs ns n0 c0 b k c a->MR b=d->wpAnyIn E.fc 0 P .any ops Qr d b a c.w:=by
 have done:∀(b:Array Bool)(k:Nat)(c:Cx)(a:Act),jQ E N ops f0 rs eff hs ns n0 c0 b k c a->Region.ready .any ops b=[]->Qr .normal a c.w:=by
  intro b k c a A hr;have f:=NL G.stat A.size hr;have hk:k=HD eff ops.size:=by
   rcases vk k (HD eff ops.size)with g|g;obtain⟨j,h1,h2,h3⟩:=TV g;have:=(A.pre j h1 h2).1 (f j h1);omega;have:=A.kle;omega
  subst hk;have e:De (rs.map CC.tw) (λq=>b.getD q false) 0 f0=UC rs f0 ops.size:=by
   funext t;refine Fu λq w _ hw m=>?_;have p:=(qu.1 hw).1;rw[wv,qj,G.len]at p;rw[f q p]at m;simp[p]at m
  have F:=A.fr;rw[e]at F;exact v c a A.rel F A.free A.adv
 intro d
 induction d with
 | zero=>
  intro b k c a A r;have hr:=K7 A.size r;exact⟨hr,done b k c a A hr⟩
 | succ d ih=>
  intro b k c a A r;refine⟨done b k c a A,λi hi=>?_⟩;obtain⟨n,o,x,_⟩:=mem_ready.1 hi;have l:=(qe.1 x).1;have u:b.getD i false=false:=by rw[C6 (by rw[A.size];exact l)]at n ⊢;exact n
  have hu:=Dk (by rw[A.size];exact l) u;exact Ss G A hi λy h a' s=>ih _ y h a' s nN
theorem WD(hm:P.follows .mixedOrders=true){id:Nat}{Q:Ca}{sa sb:SA}(G:ZU E P N ops (look sa) rs eff hs ns)(hb:look sb=UC rs (look sa) ops.size)(p:Q .normal sb (hs (HD eff ops.size)) (ns (HD eff ops.size))):
 Fc E P N (.region id ops true) Q sa (hs 0) (ns 0):=by
 intro hd c a I R F A;refine wpIn_region_any hm ?_;have hg:∀i,(Array.replicate ops.size false).getD i false=false:=λi=>by
  rw[qM];by_cases hi:i<ops.size<;>simp[hi]
 have b:∀(l:List (List (Nat×SV)))(f:Nat->SV),De l (λq=>(Array.replicate ops.size false).getD q false) 0 f=f:=λl f=>by
  funext t;exact Mz λq w _ g=>by rw[hg]at g;cases g
 have:=VM G (n0:=ns 0) (c0:=c) (Qr:=ZW E N (ns 0) c Q) (λn a' k d e m=>?_) ops.size (Array.replicate ops.size false) 0 c.drew a
  ⟨by simp,λi o _ h=>(by rw[hg]at h;cases h),qi _,λj _ _=>(by rw[hg];simp),E.ext c.zc I,R.drew,(by rw[b];exact⟨A.size,A.defers.mono c.zc,λt=>wK c.zc (A.val t)⟩),λj r=>F j r,⟨c.zc,IO _,λ_ _=>rfl⟩⟩ (by simp[MR])
 exact this;exact⟨sb,_,_,n,p,rfl,k,e,⟨d.size,d.defers,λt=>by rw[hb];exact d.val t⟩,m⟩
end
inductive TB(α:Type) where
 | nil
 | node (x:Option α) (l r:TB α)
section tree
variable{α:Type}
noncomputable def TB.get(t:TB α):Nat->Option α:=
 TB.rec (motive:=λ_=>Nat->Option α) (λ_=>none) (λx _ _ a b n=>Nat.rec (motive:=λ_=>Option α) x (λm _=>cond (Nat.beq (Nat.mod m 2) 0) (a (Nat.div m 2)) (b (Nat.div m 2))) n) t
noncomputable def TB.path(v:Option α)(k:Nat):Nat->TB α:=
 Nat.rec (motive:=λ_=>Nat->TB α) (λ_=>.nil) (λ_ p n=>Nat.rec (motive:=λ_=>TB α) (.node v .nil .nil) (λm _=>cond (Nat.beq (Nat.mod m 2) 0) (.node none (p (Nat.div m 2)) .nil) (.node none .nil (p (Nat.div m 2)))) n) k
noncomputable def TB.set(t:TB α)(n:Nat)(v:Option α):TB α:=
 TB.rec (motive:=λ_=>Nat->TB α) (λn=>TB.path v (Nat.succ n) n) (λx l r a b n=>Nat.rec (motive:=λ_=>TB α) (.node v l r) (λm _=>cond (Nat.beq (Nat.mod m 2) 0) (.node x (a (Nat.div m 2)) r) (.node x l (b (Nat.div m 2)))) n) t n
theorem TB.get_nil(n:Nat):(TB.nil:TB α).get n=none:=rfl
theorem TB.get_zero(x:Option α)(l r:TB α):(TB.node x l r).get 0=x:=rfl
theorem TB.get_succ(x:Option α)(l r:TB α)(m:Nat):(TB.node x l r).get (m+1)=if m % 2=0 then l.get (m / 2)else r.get (m / 2):=by
 show cond (Nat.beq (m % 2) 0) (l.get (m / 2)) (r.get (m / 2))=_;rcases vS m with h|h<;>rw[h]<;>rfl
theorem TB.path_succ(v:Option α)(k m:Nat):TB.path v (k+1) (m+1)=if m % 2=0 then .node none (TB.path v k (m / 2)) .nil else .node none .nil (TB.path v k (m / 2)):=by
 show cond (Nat.beq (m % 2) 0) (TB.node none (TB.path v k (m / 2)) .nil) (.node none .nil (TB.path v k (m / 2)))=_;rcases vS m with h|h<;>rw[h]<;>rfl
theorem TB.set_succ(x:Option α)(l r:TB α)(m:Nat)(v:Option α):(TB.node x l r).set (m+1) v=if m % 2=0 then .node x (l.set (m / 2) v) r else .node x l (r.set (m / 2) v):=by
 show cond (Nat.beq (m % 2) 0) (TB.node x (l.set (m / 2) v) r) (.node x l (r.set (m / 2) v))=_;rcases vS m with h|h<;>rw[h]<;>rfl
theorem TB.get_path(v:Option α):∀(k n m:Nat),n<k->(TB.path v k n).get m=if m=n then v else none
 | k+1,0,m,_=>by cases m<;>simp[show TB.path v (k+1) 0=.node v .nil .nil from rfl,TB.get_zero,TB.get_succ,TB.get_nil]
 | k+1,n+1,0,_=>by rw[TB.path_succ];split<;>simp[TB.get_zero]
 | k+1,n+1,m+1,hk=>by
  have b:=λm=>TB.get_path v k (n / 2) m nN;have e:(m+1=n+1)=(m % 2=n % 2/\m / 2=n / 2):=by rw[eq_iff_iff];omega
  rw[TB.path_succ];rcases vS n with a|a<;>rcases vS m with hm|hm<;>simp[TB.get_succ,TB.get_nil,a,hm,b,e,-Nat.add_right_cancel_iff]
theorem TB.get_set:∀(t:TB α)(n:Nat)(v:Option α)(m:Nat),(t.set n v).get m=if m=n then v else t.get m
 | .nil,n,v,m=>by rw[TB.get_nil];exact TB.get_path v (n+1) n m (ve n)
 | .node x l r,0,v,m=>by cases m<;>simp[show(TB.node x l r).set 0 v=.node v l r from rfl,TB.get_zero,TB.get_succ]
 | .node x l r,n+1,v,0=>by rw[TB.set_succ];split<;>simp[TB.get_zero]
 | .node x l r,n+1,v,m+1=>by
  have e:(m+1=n+1)=(m % 2=n % 2/\m / 2=n / 2):=by rw[eq_iff_iff];omega
  have b:=λm=>TB.get_set l (n / 2) v m;have c:=λm=>TB.get_set r (n / 2) v m;rw[TB.set_succ];rcases vS n with a|a<;>rcases vS m with hm|hm<;>simp[TB.get_succ,a,hm,b,c,e,-Nat.add_right_cancel_iff]
end tree
noncomputable section
inductive EO where
 | obj (x:A7)
 | loop (st:LoopState) (pe:Option Code)
abbrev M8:=Nat->LoopState->Option Code->Loop
def fU(Rs:M8)(o:Nat):EO->A7
 | .obj x=>x
 | .loop st pe=>.loop (Rs o st pe)
def CB(Rs:M8)(h:TB EO):Hp:=λo=>(h.get o).map (fU Rs o)
def Ib(h:TB EO):Hp:=λo=>match h.get o with|some (.obj x)=>some x|_=>none
def Ji(h:TB EO)(o:Nat):Bool:=match h.get o with|some (.loop _ _)=>false|_=>true
def EM(h:TB EO)(n:Nat)(x:Option EO):TB EO:=TB.set h n x
section heap
variable{Rs:M8}{h:TB EO}
theorem dP{o:Nat}(g:Ji h o=true):Ib h o=CB Rs h o:=by
 unfold Ji at g;unfold Ib CB;cases e:h.get o with
 | none=>rfl
 | some x=>cases x with|obj x=>rfl|loop st pe=>rw[e]at g;cases g
theorem XV{o:Nat}{x:A7}(g:Ib h o=some x):CB Rs h o=some x:=by
 unfold Ib at g;unfold CB;cases e:h.get o with
 | none=>rw[e]at g;cases g
 | some y=>cases y with|obj y=>rw[e]at g;exact g|loop st pe=>rw[e]at g;cases g
theorem ET{n:Nat}{x:Option EO}:CB Rs (EM h n x)=h_ (CB Rs h) n (x.map (fU Rs n)):=by
 funext o;unfold CB h_ EM;rw[TB.get_set];by_cases e:o=n;subst e;simp;simp[e]
theorem JX{o:Nat}{st:LoopState}{a:Option Code}(g:h.get o=some (.loop st a)):CB Rs h o=some (.loop (Rs o st a)):=by
 unfold CB;rw[g];rfl
def Zi(h:TB EO)(n:Nat)(out:CS):TB EO:=
 match out.upd with
 | some (j,x)=>match out.new with
  | some y=>EM (EM h j (x.map .obj)) n (some (.obj y))
  | none=>EM h j (x.map .obj)
 | none=>match out.new with
  | some y=>EM h n (some (.obj y))
  | none=>h
theorem T4{n:Nat}{out:CS}:CB Rs (Zi h n out)=out.app (CB Rs h) n:=by
 have e:∀(j:Nat)(x:Option A7),(x.map EO.obj).map (fU Rs j)=x:=λj x=>by cases x<;>rfl
 unfold Zi CS.app;obtain⟨val,upd,new⟩:=out;cases upd with
 | none=>cases new<;>simp[ET,fU]
 | some p=>cases new<;>simp[ET,e,fU]
end heap
def BR(t:TB SV)(i:Nat):SV:=match t.get i with|some v=>v|none=>.junk
def lu{β:Type}:SV->β->β
 | .int _ (.ofNat m),a=>bif Nat.beq m 0 then a else a
 | .int _ (.negSucc m),a=>bif Nat.beq m 0 then a else a
 | .bool b,a=>bif b then a else a
 | _,a=>a
theorem XH{β:Type}(v:SV)(a:β):lu v a=a:=by
 unfold lu;split<;>simp[]
def K5(t:TB SV):Option Tmp->SV->TB SV
 | some d,v=>lu v (TB.set t d (some v))
 | none,_=>t
def Ag(sa:SA)(t:TB SV):Prop:=∀i,look sa i=BR t i
theorem JP{t:TB SV}{d i:Nat}{v:SV}:BR (TB.set t d (some v)) i=if i=d then v else BR t i:=by
 unfold BR;rw[TB.get_set];by_cases e:i=d<;>simp[e]
theorem Ag.put{sa:SA}{t:TB SV}(A:Ag sa t)(d:Option Tmp)(v:SV):Ag (C3 sa d v) (K5 t d v):=by
 intro i;cases d with
 | none=>exact A i
 | some d=>
  simp only[K5,XH,JP,C3,look];by_cases e:d=i;subst e;simp;simp[e,Ne.symm e,A i]
theorem Ag.look{sa:SA}{t:TB SV}(A:Ag sa t):Sh.look sa=BR t:=funext A
theorem Ag.ev{sa:SA}{t:TB SV}(A:Ag sa t):EV sa=E6 (BR t):=by rw[Pt,A.look]
def UQ:Nat->List SV->TB SV
 | _,[]=>.nil
 | i,a::us=>TB.set (UQ (i+1) us) i (some a)
theorem Ag.init:∀(us:List SV)(i:Nat),Ag (D1 i us) (UQ i us)
 | [],_=>λj=>rfl
 | a::us,i=>λj=>by
  simp only[D1,UQ,JP,Sh.look];by_cases e:i=j;subst e;simp;simp[e,Ne.symm e,Ag.init us (i+1) j]
def fL:List (Tmp×SV)->TB SV->TB SV
 | [],t=>t
 | p::r,t=>fL r (TB.set t p.1 (some p.2))
theorem Ag.zip:∀(l:List (Tmp×SV)) {sa:SA} {t:TB SV},Ag sa t->Ag (Ic l sa) (fL l t)
 | [],_,_,A=>A
 | p::r,sa,t,A=>Ag.zip r (sa:=p::sa) λj=>by
  obtain⟨d,v⟩:=p;simp only[Sh.look,JP];by_cases e:d=j;subst e;simp;simp[e,Ne.symm e,A j]
def eu(op:BinOp)(a b:ByteArray):Option SV:=
 match op with
 | .add=>if a.size+b.size<=9223372036854775807 then some (.str ⟨⟨a.data.toList++b.data.toList⟩⟩)else none
 | .eql=>some (.bool (a.data.toList==b.data.toList))
 | .neq=>some (.bool !(a.data.toList==b.data.toList))
 | .lss=>some (.bool (Op.bytesLess a.data.toList b.data.toList))
 | .leq=>some (.bool (Op.bytesLess a.data.toList b.data.toList||a.data.toList==b.data.toList))
 | .gtr=>some (.bool !(Op.bytesLess a.data.toList b.data.toList||a.data.toList==b.data.toList))
 | .geq=>some (.bool !(Op.bytesLess a.data.toList b.data.toList))
 | _=>none
theorem SO(a:ByteArray):a.toList=a.data.toList:=Go.ByteArray.toList_eq a
theorem ay(op:BinOp)(a b:ByteArray):eu op a b=KQ op a b:=by
 cases op<;>simp only[eu,KQ,SO];split;congr 2;rfl
def Tb(s:ByteArray)(l h:Nat):ByteArray:=⟨⟨(s.data.toList.take h).drop l⟩⟩
theorem Vn(s:ByteArray)(l h:Nat):Tb s l h=s.extract l h:=by
 apply ByteArray.ext;apply wI;simp[Tb,List.drop_take]
def iO(P:Program)(h:Hp)(t:TypeId)(a:SV):Option CS:=(HW P h t a).bind DB
def St(P:Program)(t:TypeId)(x:SV)(i:Nat):Option CS:=(Gx P t x i).bind DB
def dJ(P:Program)(t:TypeId)(x:SV)(i:Nat):Option CS:=
 match IU P t i,x with
 | some (off,ft),.agg cs=>((CP cs off (Bd P ft)).bind (SX (GR P ft))).bind DB
 | _,_=>none
def S6(P:Program)(t:TypeId)(x i:SV):Option CS:=match i with|.int _ n=>(G6 P t x n).bind DB|_=>none
def ce(P:Program)(k:Nat)(e:TypeId):Option CS:=if(BO P e).B&&(BO P e).cells.length==Bd P e then some { val:=.ptr k 0,new:=some (.cells (Xx e (BO P e).cells) (HE e)) } else none
def kB(k:Nat)(e:TypeId)(x:SV):Option CS:=if x.B then some { val:=.ptr k 0,new:=some (.cells x.cells (HE e)) } else none
def iA(bop:BinOp)(k:IntKind)(a:Int)(k':IntKind)(b:Int):Option CS:=if k=k' then(Iy bop k a b).bind DB else none
def cq(P:Program)(bop:BinOp)(t:TypeId)(x y:SV):Option CS:=
 match x,y with
 | .str a,.str b=>(eu bop a b).bind DB
 | .int k a,.int k' b=>match bop with
  | .shl=>(OU false false .shl (.int k a) (.int k' b)).bind DB
  | .shr=>(OU false false .shr (.int k a) (.int k' b)).bind DB
  | bop=>iA bop k a k' b
 | x,y=>(OU (JE P t) (QZ P t) bop x y).bind DB
def unK(op:UnOp)(x:SV):Option CS:=
 match op,x with
 | .not,.bool b=>DB (.bool !b)
 | .neg,.int i n=>DB (.int i (i.wrap (0-n)))
 | _,_=>none
def U0(P:Program)(t:TypeId)(s:ByteArray)(lo hi mx:Option SV):Option CS:=
 if !Dj P t||mx.isSome then none else
 match Si lo (some 0),Si hi (some s.size)with
 | some l,some h=>if 0<=l/\l<=h/\h<=s.size then DB (.str (Tb s l.toNat h.toNat))else none
 | _,_=>none
def en(P:Program)(t:TypeId)(x:SV)(lo hi mx:Option SV):Option CS:=
 match x with
 | .str s=>U0 P t s lo hi mx
 | x=>(Hg P t x lo hi mx).bind DB
def ln(x:SV)(i:Nat):Option CS:=match x with|.tup vs=>(vs[i]?).bind DB|_=>none
def cu(P:Program)(ev:Operand->SV)(t:TypeId)(ps:Array (Nat×Operand)):Option CS:=
 match BO P t,Bj P t with
 | .agg z,some pl=>(Jg (pl[·]?) z (ps.toList.map λp=>(p.1,ev p.2))).bind λcs=>DB (.agg cs)
 | _,_=>none
def iV(x a b:SV):Option CS:=match x with|.bool t=>DB (if t then a else b)|_=>none
def mX(x:SV):Option CS:=match x with|.ptr o a=>DB (.ptr o a)|.q cs=>DB (.q cs)|_=>none
def mK(P:Program)(h:Hp)(t:TypeId)(x:SV):Option CS:=
 match x with
 | .str s=>if Dj P t then DB (.int .i64 s.size)else none
 | .x _ es _=>if(Ax P t).isSome then DB (.int .i64 es.length)else none
 | .sl _ _ _ len _=>if(Ax P t).isSome then DB (.int .i64 len)else none
 | .map o=>match h o with|some (.map es)=>if(JF P t).isSome then DB (.int .i64 es.length)else none|_=>none
 | .nils=>if(Ax P t).isSome then DB (.int .i64 0)else none
 | _=>none
def j6(P:Program)(h:Hp)(k:Nat)(b:Builtin)(ts:List TypeId)(us:List SV):Option CS:=
 match b with
 | .len=>match ts,us with
  | [t],[x]=>mK P h t x
  | _,_=>none
 | .append=>match ts,us with
  | [t,t2],[s,x]=>if(Ax P t2).isSome then FP P h k t s x else if Dj P t2 then Hn P h k t s x else Fo P k t t2 s x
  | _,_=>none
 | b=>Af P h k b ts us
def bcK(P:Program)(ev:Operand->SV)(h:Hp)(k:Nat)(cl:Call):Option CS:=
 match cl.callee with
 | .builtin b=>j6 P h k b cl.argTypes.toList (cl.args.toList.map ev)
 | _=>none
theorem cp{P:Program}{h:Hp}{k:Nat}{b:Builtin}{a:List TypeId}{us:List SV}:j6 P h k b a us=Af P h k b a us:=by
 unfold j6;split;rcases a with _|⟨t,_|⟨_,_⟩⟩<;>rcases us with _|⟨x,_|⟨_,_⟩⟩<;>first|rfl|(cases x<;>rfl)
 rcases a with _|⟨t,_|⟨_,_|⟨_,_⟩⟩⟩<;>rcases us with _|⟨x,_|⟨_,_|⟨_,_⟩⟩⟩<;>rfl;rfl
def Yj(P:Program)(ev:Operand->SV)(h:Hp)(k:Nat)(op:Op):Option CS:=
 match op with
 | .move x=>DB (ev x)
 | .assign x=>DB (ev x)
 | .load t a=>iO P h t (ev a)
 | .store t a x=>OJ P h t (ev a) (ev x)
 | .fieldAddr t x i=>St P t (ev x) i
 | .field t x i=>dJ P t (ev x) i
 | .indexAddr t x i=>S6 P t (ev x) (ev i)
 | .alloc e=>ce P k e
 | .box e x=>kB k e (ev x)
 | .binOp bop t x y _=>cq P bop t (ev x) (ev y)
 | .unOp op _ x=>unK op (ev x)
 | .slice t x lo hi mx=>en P t (ev x) (lo.map ev) (hi.map ev) (mx.map ev)
 | .extract x i=>ln (ev x) i
 | .build t ps=>cu P ev t ps
 | .pick x a b=>iV (ev x) (ev a) (ev b)
 | .nilCheck x=>mX (ev x)
 | .call cl=>bcK P ev h k cl
 | op=>C2 P ev h k op
theorem Zl{P:Program}{c:BinOp}{t:TypeId}{x y:SV}:cq P c t x y=(OU (JE P t) (QZ P t) c x y).bind DB:=by
 unfold cq;split;rw[ay];have:∀a b,OU (JE P t) (QZ P t) c (.str a) (.str b)=KQ c a b:=λa b=>by cases c<;>rfl
 rw[this];rename_i k a d b;split;rfl;rfl;rename_i h1 h2;have:OU (JE P t) (QZ P t) c (.int k a) (.int d b)=if k=d then Iy c k a b else none:=by cases c<;>first|rfl|exact absurd rfl h1|exact absurd rfl h2
 rw[this];unfold iA;split<;>rfl;rfl
theorem au{P:Program}{ev:Operand->SV}{h:Hp}{k:Nat}{op:Op}:Yj P ev h k op=C2 P ev h k op:=by
 cases op with
 | binOp bop t x y t2=>exact Zl
 | slice t x lo hi mx =>
  show en P t (ev x) (lo.map ev) (hi.map ev) (mx.map ev)=(Hg P t (ev x) (lo.map ev) (hi.map ev) (mx.map ev)).bind DB;generalize ev x=v;cases v with
  | str s=>
   unfold en U0 Hg;simp only;split;rfl;cases Si (lo.map ev) (some 0)<;>cases Si (hi.map ev) (some (s.size:Int))<;>simp only[Option.bind_none];split<;>simp only[Vn,qL,Option.bind_none]
  | _=>rfl
 | call cl=>
  obtain⟨callee,args,ts⟩:=cl;cases callee with
  | builtin b=>exact cp
  | _=>rfl
 | unOp uop t x=>
  have e:C2 P ev h k (.unOp uop t x)=match uop,ev x with|.not,.bool b=>DB (.bool !b)|.neg,.int i n=>DB (.int i (i.wrap (0-n)))|_,_=>none:=rfl
  rw[e];show unK uop (ev x)=_;generalize ev x=v;cases uop<;>cases v<;>rfl
 | _=>rfl
def TZ(P:Program)(ev:Operand->SV)(o:Oper):Option SV:=
 match o.op with
 | .binOp bop t x y _ =>
  match ev x with
  | .agg cs => match ev y, P.underlying t with
   | .agg ds,some (.struct _)=>bif P.stoodInHeld t||P.eqGuardType P.depth t then none else
    match CM P cs ds (BY P t)with
    | some b=>match bop with|.eql=>some (.bool b)|.neq=>some (.bool !b)|_=>none
    | none=>none
   | _,_=>none
  | .x _ (_::_) _=>match bop,y with
   | .eql,.const (.slice none 0 0)=>bif (Ax P t).isSome then some (.bool false)else none
   | _,_=>none
  | .sl _ _ _ _ _=>match bop,y with
   | .eql,.const (.slice none 0 0)=>bif (Ax P t).isSome then some (.bool false)else none
   | _,_=>none
  | _=>none
 | _=>none
theorem LQ.congr{P:Program}{a b:Operand->SV}{o:Oper}{v:SV}(h:∀x∈o.op.operands,a x=b x)(H:LQ P b o v):LQ P a o v:=
 ⟨H.1,λc ev e hv=>H.2 c ev e λx d=>by rw[<-h x d];exact hv x d⟩
theorem MD{P:Program}{t:TypeId}{a:Array Field}(h:P.underlying t=some (.struct a)):P.underlying t=some (.struct (P.fieldsOf t)):=by
 have:P.fieldsOf t=a:=by unfold Program.fieldsOf;rw[h]
 rw[this];exact h
theorem PL{P:Program}{evs:Operand->SV}{o:Oper}{t t2:TypeId}{x:Operand}(i:o.op=.binOp .eql t x (.const (.slice none 0 0)) t2)(ht:(Ax P t).isSome=true)
 (g:(∃z e es f,evs x=.x z (e::es) f)\/∃o a z l f,evs x=.sl o a z l f):LQ P evs o (.bool false):=by
 refine⟨by rw[i];simp,λc ev j hv=>?_⟩;have d:=hv x (by simp[i,Op.operands]);obtain⟨e,ht⟩:=vR.1 ht;have ht:=Az ht;have fin:∀(a:Addr)(l cap:Nat),ev x=.slice (some a) l cap->∃u,(execOp ev o).run P c.w=.ok (.value u) c.w/\V c (.bool false) u:=λa l cap e=>
  ⟨.bool false,by simp[execOp,i,e,j,HY (P:=P) (a:=.slice (some a) l cap),MB (some a) l cap ht],by simp[V]⟩
 rcases g with⟨z,e,es,f,g⟩|⟨o,a,z,l,f,g⟩
 rw[g,V]at d;rcases d with⟨h,_⟩|⟨a,cap,vs,h,_⟩
 cases h;exact fin a _ _ h;rw[g,V]at d;obtain⟨b,st,cap,_,h,_⟩:=d;exact fin _ _ _ h
theorem QR{P:Program}{ev:Operand->SV}{o:Oper}{v:SV}(H:TZ P ev o=some v):LQ P ev o v:=by
 unfold TZ at H;split at H<;>try cases H
 rename_i bop t x y t2 d;split at H<;>try cases H
 . rename_i cs c;split at H<;>try cases H
   rename_i ds fs i h;cases hb:P.stoodInHeld t||P.eqGuardType P.depth t<;>rw[hb]at H<;>simp only[cond_true,cond_false]at H
   . simp only[Bool.or_eq_false_iff]at hb;split at H<;>try cases H
     rename_i b g;split at H<;>try cases H
     exact C7 d (.inl rfl) (MD h) hb.1 hb.2 c i g;exact C7 d (.inr rfl) (MD h) hb.1 hb.2 c i g
   cases H
 . rename_i z e es f c;split at H<;>try cases H
   cases ht:(Ax P t).isSome<;>rw[ht]at H<;>simp only[cond_true,cond_false]at H<;>cases H;exact PL d ht (.inl ⟨z,e,es,f,c⟩)
 . rename_i o a z l f c;split at H<;>try cases H
   cases ht:(Ax P t).isSome<;>rw[ht]at H<;>simp only[cond_true,cond_false]at H<;>cases H;exact PL d ht (.inr ⟨o,a,z,l,f,c⟩)
def ei(P:Program)(o:Oper):Option SV:=
 match o.op with
 | .buildSlice t 0 ps=>bif Nat.beq ps.size 0&&((Ax P t).bind P.info?).isSome then some (.x 0 [] true)else none
 | _=>none
def lq:Fn->Fn->Bool
 | .func f,.func g=>Nat.beq f g
 | _,_=>false
theorem dL{f g:Fn}(h:lq f g=true):f=g:=by
 cases f<;>cases g<;>simp only[lq]at h<;>try cases h
 rw[qF h]
mutual
def MV:SV->SV->Bool
 | .bool a,.bool b=>decide (a=b)
 | .int k n,.int k' m=>decide (k=k')&&decide (n=m)
 | .str a,.str b=>a.data.toList==b.data.toList
 | .nilp,.nilp=>true
 | .nilf,.nilf=>true
 | .nilm,.nilm=>true
 | .nils,.nils=>true
 | .agg a,.agg b=>XB a b
 | .tup a,.tup b=>XB a b
 | .fn f a b,.fn g c d=>lq f g&&(XB a c&&XB b d)
 | .ptr o a,.ptr p b=>Nat.beq o p&&Nat.beq a b
 | .q a,.q b=>XB a b
 | .sl o a z l f,.sl o' a' z' l' f'=>Nat.beq o o'&&(Nat.beq a a'&&(Nat.beq z z'&&(Nat.beq l l'&&decide (f=f'))))
 | .x z a f,.x z' a' f'=>Nat.beq z z'&&(XB a a'&&decide (f=f'))
 | .map o,.map p=>Nat.beq o p
 | .yl o,.yl p=>Nat.beq o p
 | _,_=>false
def XB:List SV->List SV->Bool
 | [],[]=>true
 | a::l,b::m=>MV a b&&XB l m
 | _,_=>false
end
mutual
theorem Ps:∀{a b:SV},MV a b=true->a=b
 | .bool a,b,h=>by cases b<;>simp_all [MV]
 | .int k n,b,h=>by cases b<;>simp_all [MV]
 | .str a, b, h => by
  cases b<;>simp only[MV]at h<;>try cases h
  rw[beq_iff_eq]at h;rename_i b;have:a=b:=by
   cases a;cases b;rename_i x y;cases x;cases y;simp_all
  rw[this]
 | .nilp,b,h=>by cases b<;>simp_all [MV]
 | .nilf,b,h=>by cases b<;>simp_all [MV]
 | .nilm,b,h=>by cases b<;>simp_all [MV]
 | .nils,b,h=>by cases b<;>simp_all [MV]
 | .agg a,b,h=>by cases b<;>simp only[MV]at h<;>first|cases h|rw[J1 h]
 | .tup a,b,h=>by cases b<;>simp only[MV]at h<;>first|cases h|rw[J1 h]
 | .q a,b,h=>by cases b<;>simp only[MV]at h<;>first|cases h|rw[J1 h]
 | .fn f a c,b,h=>by
  cases b<;>simp only[MV]at h<;>try cases h
  simp only[qh]at h;rw[dL h.1,J1 h.2.1,J1 h.2.2]
 | .ptr o a,b,h=>by
  cases b<;>simp only[MV]at h<;>try cases h
  simp only[qh]at h;rw[qF h.1,qF h.2]
 | .sl o a z l f,b,h=>by
  cases b<;>simp only[MV]at h<;>try cases h
  simp only[qh,decide_eq_true_eq]at h;rw[qF h.1,qF h.2.1,qF h.2.2.1,qF h.2.2.2.1,h.2.2.2.2]
 | .x z a f,b,h=>by
  cases b<;>simp only[MV]at h<;>try cases h
  simp only[qh,decide_eq_true_eq]at h;rw[qF h.1,J1 h.2.1,h.2.2]
 | .map o,b,h=>by
  cases b<;>simp only[MV]at h<;>try cases h
  rw[qF h]
 | .yl o,b,h=>by
  cases b<;>simp only[MV]at h<;>try cases h
  rw[qF h]
 | .junk,b,h=>by cases b<;>simp only[MV]at h<;>cases h
 | .slc _ _ _ _ _,b,h=>by cases b<;>simp only[MV]at h<;>cases h
theorem J1:∀{a b:List SV},XB a b=true->a=b
 | [],[],_=>rfl
 | a::l,b::m,h=>by
  simp only[XB,qh]at h;rw[Ps h.1,J1 h.2]
 | [],_::_,h=>by simp only[XB]at h;cases h
 | _::_,[],h=>by simp only[XB]at h;cases h
end
inductive ER(α:Type) where
 | ok (a:α)
 | err (l:List Nat)
structure Tq where
 o:Nat
 ps:Array Tmp
 assign:Code
 body:Code
 fr:TB SV
structure ZV where
 rds:List Tq
 ro:Bool
abbrev VO:=SV×TB EO×Nat
abbrev CO:=Exit×TB SV×TB EO×Nat
structure ZG where
 call:Nat->List SV->Option SV
 look:(Operand->SV)->TB EO->Oper->Option SV
 eff:Nat->List SV->TB EO->Nat->Option (SV×TB EO×Nat)
abbrev Jq:=ZV->Code->TB SV->TB EO->Nat->ER CO
section
variable(P:Program)(orc:ZG)
def ao(ev:Operand->SV)(o:Oper):Option SV:=
 match o.op with
 | .call { callee := .builtin .unsafeSliceData, args, .. } => match args.toList with
  | [x]=>match ev x with
   | .sl j off _ len _=>bif Nat.beq len 0 then none else some (.ptr j off)
   | _=>none
  | _=>none
 | _=>none
def Pk:List SV->Option (List UInt8)
 | []=>some []
 | .int .u8 (.ofNat m)::r=>bif Nat.blt m 256 then match Pk r with|some l=>some (UInt8.ofNat m::l)|none=>none else none
 | _=>none
def eZ(ev:Operand->SV)(h:TB EO)(n:Nat)(o:Oper):Option VO:=
 match o.op with
 | .range t x => match ev x with
  | .map m=>bif (JF P t).isSome then match h.get m with
   | some (.obj (.map es))=>some (.ptr n 0,EM (EM h m none) n (some (.obj (.iter es none))),n+1)
   | _=>none
   else none
  | _=>none
 | .next x false => match ev x with
  | .ptr q 0=>match h.get q with
   | some (.obj (.iter [] _))=>some (.tup [.bool false],h,n)
   | some (.obj (.iter [p] _))=>some (.tup [.bool true,p.1,p.2],EM h q (some (.obj (.iter [] (some p)))),n)
   | _=>none
  | _=>none
 | .entry x => match ev x with
  | .ptr q 0=>match h.get q with
   | some (.obj (.iter _ (some p)))=>some (.tup [p.1,p.2],h,n)
   | _=>none
  | _=>none
 | .call { callee := .builtin .unsafeString, args, argTypes } => match args.toList, argTypes.toList with
  | [x, y], [pt, _] => match ev x, ev y, P.underlying pt with
   | .ptr j 0, .int .i64 (.ofNat m), some (.pointer e) => match h.get j with
    | some (.obj (.cells cs (some e')))=>bif Nat.beq e e'&&Nat.beq (P.cellsOf e) 1 then match Pk cs with
     | some bs=>bif Nat.beq bs.length m&&(!Nat.beq m 0&&Nat.ble m 9223372036854775807)then some (.str ⟨⟨bs⟩⟩,EM h j none,n)else none
     | none=>none
     else none
    | _=>none
   | _,_,_=>none
  | _,_=>none
 | _=>none
def mY(t:TB SV)(h:TB EO)(n:Nat)(o:Oper):ER VO:=
 bif (Cw (E6 (BR t)) o.op).all (Ji h)then
  match Yj P (E6 (BR t)) (Ib h) n o.op with
  | some out=>.ok (out.val,Zi h n out,match out.new with|some _=>n+1|none=>n)
  | none => match TZ P (E6 (BR t)) o with
   | some v=>.ok (v,h,n)
   | none => match ei P o with
    | some v=>.ok (v,h,n)
    | none => match eZ P (E6 (BR t)) h n o with
     | some r=>.ok r
     | none => match ao (E6 (BR t)) o with
      | some v=>.ok (v,h,n)
      | none=>match orc.look (E6 (BR t)) h o with
       | some v=>.ok (v,h,n)
       | none=>.err [2]
 else .err [1]
def PR(rc ry:Nat->List SV->TB EO->Nat->ER VO)(t:TB SV)(h:TB EO)(n:Nat)(o:Oper):ER VO:=
 match o.op with
 | .call { callee:=.value f,args,.. }=>
  match callee (E6 (BR t) f) (args.toList.map (E6 (BR t)))with
  | some (g,us)=>rc g us h n
  | none=>match Mf (E6 (BR t) f)with|some y=>ry y (args.toList.map (E6 (BR t))) h n|none=>.err [3]
 | _=>mY P orc t h n o
def TO(rc ry:Nat->List SV->TB EO->Nat->ER VO)(ops:Array Oper):Nat->List Oper->TB SV->TB EO->Nat->ER CO
 | _,[],t,h,n=>.ok (.normal,t,h,n)
 | i, o :: rest, t, h, n =>
  match DG ops (BR t) o with
  | some b => match b with
   | true=>match PR P orc rc ry t h n o with
    | .ok (v,h',n')=>TO rc ry ops (i+1) rest (K5 t o.dst v) h' n'
    | .err l=>.err (i::l)
   | false=>TO rc ry ops (i+1) rest (K5 t o.dst (.tup [])) h n
  | none=>.err [i,12]
structure DR where
 g:Bool
 e:Bool
 v:SV
 t:TB SV
def Ul(t:TB SV)(h:TB EO)(n:Nat)(o:Oper):Option SV:=
 bif (Cw (E6 (BR t)) o.op).all (Ji h)then
  match Yj P (E6 (BR t)) (Ib h) n o.op with
  | some out => match out.upd with
   | some _=>none
   | none=>match out.new with
    | some _=>none
    | none=>some out.val
  | none => match TZ P (E6 (BR t)) o with
   | some v=>some v
   | none=>match ao (E6 (BR t)) o with
    | some v=>some v
    | none=>orc.look (E6 (BR t)) h o
 else none
abbrev DO:=List DR×TB SV×List (TB EO×Nat)×TB EO×Nat
def VP(rc ry:Nat->List SV->TB EO->Nat->ER VO)(ops:Array Oper):Nat->List Oper->TB SV->TB EO->Nat->ER DO
 | _,[],t,h,n=>.ok ([],t,[(h,n)],h,n)
 | i, o :: rest, t, h, n =>
  match DG ops (BR t) o with
  | some b => match b with
   | true => match Ul P orc t h n o with
    | some v=>match VP rc ry ops (i+1) rest (K5 t o.dst v) h n with
     | .ok (rs,te,hl,he,ne)=>.ok (⟨true,false,v,t⟩::rs,te,hl,he,ne)
     | .err l=>.err l
    | none => match PR P orc rc ry t h n o with
     | .ok (v,h',n')=>match VP rc ry ops (i+1) rest (K5 t o.dst v) h' n' with
      | .ok (rs,te,hl,he,ne)=>.ok (⟨true,true,v,t⟩::rs,te,(h,n)::hl,he,ne)
      | .err l=>.err l
     | .err l=>.err (i::l)
   | false=>match VP rc ry ops (i+1) rest (K5 t o.dst (.tup [])) h n with
    | .ok (rs,te,hl,he,ne)=>.ok (⟨false,false,.tup [],t⟩::rs,te,hl,he,ne)
    | .err l=>.err l
  | none=>.err [i,12]
def HK(rs:List DR)(j:Nat):Bool:=match rs[j]? with|some r=>r.e|none=>false
def ia(ops:Array Oper)(rs:List DR):Bool:=
 (List.range rs.length).all λi=>!HK rs i||(List.range i).all λj=>!HK rs j||(!Nat.beq (HD (HK rs) i) (HD (HK rs) j+1)||Dq ops j i)
def iP(ops:Array Oper)(rs:List DR)(i k:Nat):Bool:=
 (List.range rs.length).all λj=>!HK rs j||(bif Nat.ble k (HD (HK rs) j)then !Dq ops j i else !Dq ops i j)
def bz(ops:Array Oper)(rs:List DR)(hl:List (TB EO×Nat)):Bool:=
 (List.range rs.length).all λi=>match rs[i]?,ops[i]? with
   | some r,some o=>r.e||(!r.g||(List.range hl.length).all λk=>!iP ops rs i k||match hl[k]? with
    | some (h,n)=>match Ul P orc r.t h n o with|some v=>MV v r.v|none=>false
    | none=>false)
   | _,_=>true
def X6(ops:Array Oper):Bool:=ops.toList.all λo=>match o.op with|.call { callee:=.value _,.. }=>false|_=>true
def Q7(ops:Array Oper):List Oper->List CC->TB SV->TB EO->Nat->ER CO
 | [],_,t,h,n=>.ok (.normal,t,h,n)
 | o :: rest, tr, t, h, n =>
  match DG ops (BR t) o with
  | some b => match b with
   | true => match o.op with
    | .call { callee:=.value _,.. }=>.err [50]
    | op => bif (Cw (E6 (BR t)) op).all (Ji h) then
     match Yj P (E6 (BR t)) (Ib h) n op with
     | some out=>bif (Aj out.upd.toList++Cw (E6 (BR t)) op).all (λk=>Nat.blt k n)&&Fg ops tr.length { dst:=o.dst,val:=out.val,foot:=Aj out.upd.toList++Cw (E6 (BR t)) op,wr:=out.upd.toList,new:=(out.new.map λx=>(n,some x)).toList } 0 tr then
      Q7 ops rest (tr++[{ dst:=o.dst,val:=out.val,foot:=Aj out.upd.toList++Cw (E6 (BR t)) op,wr:=out.upd.toList,new:=(out.new.map λx=>(n,some x)).toList }]) (K5 t o.dst out.val) (Zi h n out) (match out.new with|some _=>n+1|none=>n)
      else .err [51]
     | none=>match TZ P (E6 (BR t)) o with
      | some v=>bif Fg ops tr.length { dst:=o.dst,val:=v } 0 tr then Q7 ops rest (tr++[{ dst:=o.dst,val:=v }]) (K5 t o.dst v) h n else .err [52]
      | none=>.err [53]
     else .err [54]
   | false=>Q7 ops rest (tr++[{ dst:=o.dst,val:=.tup [] }]) (K5 t o.dst (.tup [])) h n
  | none=>.err [55]
def ba(rc ry:Nat->List SV->TB EO->Nat->ER VO)(ops:Array Oper)(t:TB SV)(h:TB EO)(n:Nat):ER CO:=
 match VP P orc rc ry ops 0 ops.toList t h n with
 | .ok (rs,te,hl,he,ne)=>bif ia ops rs then bif bz P orc ops rs hl then .ok (.normal,te,he,ne)else .err [40]else .err [41]
 | .err l=>.err l
def W7(rc ry:Nat->List SV->TB EO->Nat->ER VO)(ops:Array Oper)(t:TB SV)(h:TB EO)(n:Nat):ER CO:=
 bif ED ops then
  match ba P orc rc ry ops t h n with
  | .ok r=>.ok r
  | .err l=>bif X6 ops then Q7 P ops ops.toList [] t h n else .err l
 else .err [42]
def Vk(f:Nat->SV)(h:Hp):List ResultVar->Option (List SV)
 | []=>some []
 | .tmp t::r=>match Vk f h r with|some vs=>some (f t::vs)|none=>none
 | .cell a t::r=>match HW P h t (f a)with
  | some v=>match Vk f h r with|some vs=>some (v::vs)|none=>none
  | none=>none
def NT(rn:Jq)(rds:List Tq)(g:Nat)(us:List SV)(h:TB EO)(n:Nat):ER VO:=
 match orc.call g us with
 | some v=>.ok (v,h,n)
 | none=>
 match orc.eff g us h n with
 | some r=>.ok r
 | none=>
 match P.funcs[g]? with
 | some fn => match fn.body with
  | some code => bif (fn.name != "runtime.NumGoroutine") && (Code.dok fn.ntmps code && Nat.ble us.length fn.ntmps) then
   match rn ⟨rds,false⟩ code (UQ 0 us) h n with
   | .ok (e,t',h',n')=>
    match e with
    | .normal|.ret=>match Vk P (BR t') (Ib h') fn.results.toList with|some rs=>.ok (Jj rs,h',n')|none=>.err [g,7]
    | _=>.err [g,8]
   | .err l=>.err (g::l)
   else .err [g,9]
  | none=>.err [g,10]
 | none=>.err [g,11]
end
def Mm:List Tq->Nat->Option (Tq×List Tq)
 | [],_=>none
 | r::rs,o=>bif Nat.beq r.o o then some (r,rs)else Mm rs o
def Qf(rn:Jq)(rds:List Tq)(o:Nat)(args:List SV)(h:TB EO)(n:Nat):ER VO:=
 match Mm rds o with
 | some (r, rest) => match h.get o with
  | some (.loop .ready none) => bif Nat.beq args.length r.ps.size then
   match rn ⟨rest,true⟩ r.assign (fL (r.ps.toList.zip args) r.fr) h n with
   | .ok (.normal, t1, h1, n1) => match h1.get o with
    | some (.loop .ready none) => match rn ⟨rest, true⟩ r.body t1 (EM h1 o (some (.loop .busy none))) n1 with
     | .ok (e, _, h2, n2) => match h2.get o with
      | some (.loop .busy none)=>match e with
       | .normal=>.ok (.bool true,EM h2 o (some (.loop .ready none)),n2)
       | .ret=>.ok (.bool false,EM h2 o (some (.loop .done (some .ret))),n2)
       | .exit id=>.ok (.bool false,EM h2 o (some (.loop .done (some (.exit id)))),n2)
       | _=>.err [20]
      | _=>.err [21]
     | .err l=>.err (22::l)
    | _=>.err [23]
   | .ok _=>.err [24]
   | .err l=>.err (25::l)
   else .err [26]
  | _=>.err [27]
 | none=>.err [28]
def TU(P:Program)(orc:ZG)(rn:Jq)(m:ZV)(g:Operand)(ps:Array Tmp)(a b:Code)(t:TB SV)(h:TB EO)(n:Nat):ER CO:=
 match m.ro,E6 (BR t) g with
 | false, .fn (.func f) [] ys => bif m.rds.all (fun r => !Nat.beq r.o n) then
  match NT P orc rn (⟨n,ps,a,b,t⟩::m.rds) f (.yl n::ys) (EM h n (some (.loop .ready none))) (n+1)with
  | .ok (_, h', n') => match h'.get n with
   | some (.loop st pe) => match st with
    | .busy=>.err [30]
    | _=>match pe with
     | none=>.ok (.normal,t,EM h' n none,n')
     | some .ret=>.ok (.ret,t,EM h' n none,n')
     | some (.exit id)=>.ok (.exit id,t,EM h' n none,n')
     | _=>.err [31]
   | _=>.err [32]
  | .err l=>.err l
  else .err [33]
 | _,_=>.err [34]
def fp(id:Nat):Exit->Exit
 | .exit i=>bif Nat.beq i id then .normal else .exit i
 | e=>e
def ib(rn:Jq)(m:ZV)(a b:Code)(t:TB SV)(h:TB EO)(n:Nat):ER CO:=
 match rn m a t h n with
 | .ok (e,t',h',n')=>match e with|.normal=>rn m b t' h' n'|e=>.ok (e,t',h',n')
 | .err l=>.err l
def bS(rn:Jq)(m:ZV)(c:Operand)(a b:Code)(t:TB SV)(h:TB EO)(n:Nat):ER CO:=
 match E6 (BR t) c with
 | .bool b'=>match b' with|true=>rn m a t h n|false=>rn m b t h n
 | _=>.err [5]
def WU(rn:Jq)(m:ZV)(id:Nat)(b:Code)(t:TB SV)(h:TB EO)(n:Nat):ER CO:=
 match rn m b t h n with
 | .ok (e,t',h',n')=>.ok (fp id e,t',h',n')
 | .err l=>.err l
def bh(rn:Jq)(m:ZV)(b:Code)(t:TB SV)(h:TB EO)(n:Nat):ER CO:=
 match rn m b t h n with
 | .ok (e,t',h',n')=>match e with|.normal=>rn m (.loop b) t' h' n'|e=>.ok (e,t',h',n')
 | .err l=>.err l
def iZ(P:Program)(orc:ZG)(rn:Jq)(m:ZV)(ops:Array Oper)(d:Bool)(t:TB SV)(h:TB EO)(n:Nat):ER CO:=
 match d with
 | false=>TO P orc (NT P orc rn m.rds) (Qf rn m.rds) ops 0 ops.toList t h n
 | true=>W7 P orc (NT P orc rn m.rds) (Qf rn m.rds) ops t h n
def Z1(P:Program)(orc:ZG)(rn:Jq)(m:ZV)(c:Code)(t:TB SV)(h:TB EO)(n:Nat):ER CO:=
 match c with
 | .skip=>.ok (.normal,t,h,n)
 | .seq a b=>ib rn m a b t h n
 | .cond c a b=>bS rn m c a b t h n
 | .block id b=>WU rn m id b t h n
 | .exit id=>.ok (.exit id,t,h,n)
 | .ret=>.ok (.ret,t,h,n)
 | .loop b=>bh rn m b t h n
 | .region _ ops d=>iZ P orc rn m ops d t h n
 | .rangeFunc g ps a b=>TU P orc rn m g ps a b t h n
 | _=>.err [13]
def Z0(P:Program)(orc:ZG)(k:Nat):Jq:=
 Nat.rec (motive:=λ_=>Jq) (λ_ _ _ _ _=>.err [4]) (λ_ rn=>Z1 P orc rn) k
end
end Go.Proofs.YthinbkgpjmjfeaaGreatDoor.Sh
