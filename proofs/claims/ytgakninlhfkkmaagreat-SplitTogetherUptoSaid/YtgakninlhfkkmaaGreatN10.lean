/- A part of the proof (part 10 of 18). -/
import Derived.Test.YtgakninlhfkkmaaGreatN9
import Derived.Lib.ConvBytes
import Derived.Lib.UnsafeStr
import Derived.Lib.Builder
import Derived.Laws.Externs
import Derived.BigFrame
import Derived.WalkKit
import Derived.Lib.Overlaps
import Derived.Lib.AppendZerosOnto
namespace Go.Proofs.YtgakninlhfkkmaaGreat.Sh
open Tryz
open Proofs
section
variable{P:Program}{E:CC}{evs:Operand->SV}{o:Oper}{h:Hp}{n:Nat}{K:SV->Hp->Nat->Prop}
abbrev Ev(b:UInt8):SV:=.int .u8 b.toNat
theorem VM{j dst e:TypeId}{x:Operand}{s:ByteArray}(r:o.op=.convert j dst x)(B:Fo P j=true)(y:BA P dst=some e)(z:L6 P e=some .u8)(g:evs x=.str s)
 (A:K (.i 1 (s.data.toList.map Ev) false) h n):DS E P evs o h n K:=by
 refine⟨by rw[r];simp,λc ev _ _ R F C=>?_⟩;have d:=C x;rw[g]at d;have d:=Mm d;have m:=Lib.run_convert_string_bytes (P:=P) c.w j dst e s (Fp B) (Ay y) (Gw z);have p:=Lib.bytesWorld_size c.w e s;have X:EH c { c with w:=Lib.bytesWorld c.w e s }:=by
  refine⟨λ_ _ e=>e,by simp[p],λb hb hn=>⟨hn,Lib.bytesWorld_at_old c.w e s b hb⟩,λb=>?_,?_,?_,?_,?_⟩;unfold rm;rcases YV b c.w.heap.size with g|g;simp only[Lib.bytesWorld_at_old c.w e s b g];exact qa _;simp[Yv g];simp only[Lib.bytesWorld,World.freeze];split<;>rfl;simp only[Lib.bytesWorld,World.freeze];split<;>rfl;simp only[Lib.bytesWorld,World.freeze];split<;>rfl;simp only[Lib.bytesWorld,World.freeze];split<;>first|exact qa _|exact Zc _
 have k:s.size<=grownCap c.w s.size 0 e:=by unfold grownCap;exact Nat.le_add_right _ _
 have f:s.data.toList.length=s.size:=by rw[vl];rfl
 refine⟨.slice (some ⟨c.w.heap.size,0,none⟩) s.size (grownCap c.w s.size 0 e),.i 1 (s.data.toList.map Ev) false,h,n,{ c with w:=Lib.bytesWorld c.w e s },by simp only[execOp,r,d,Sem.run_bind,m,Result.andThen_ok,Sem.run_pure],?_,⟨λo x e=>(R.obj o x e).mono X λb hb=>?_,R.inj2,R.own2⟩,F,⟨X,qa _,λ_ _=>rfl⟩,A⟩;rw[V];refine .inr ⟨⟨c.w.heap.size,0,none⟩,grownCap c.w s.size 0 e,s.data.toList.map (λb=>Value.int .u8 b.toNat),by simp[f],by simp[f];exact k,by simp,⟨λ_=>rfl,λ_ hb=>?_,λi x hi=>?_,λx g=>?_⟩,?_⟩;obtain⟨D,x,t,v⟩:=(R.own2 _).1 hb;exact Nat.lt_irrefl _ ((R.obj D x t).hold_lt v);rw[qX,qN]at hi;obtain⟨b,hb,rfl⟩:=hi;have hil:=(qh.1 hb).1;have:=Lib.bytesWorld_cell c.w e s i (by omega);rw[Wn,hb]at this;simpa using this;obtain⟨b,_,rfl⟩:=ql.1 g;rfl;rw[J1];refine⟨s.data.toList.map (λb=>Value.int .u8 b.toNat),Ag.map (R:=λa b=>a=b) (λa b e=>by subst e;simp[V]) ?_,?_,?_,?_⟩;have:∀l:List UInt8,Ag (λa b=>a=b) l l:=λl=>by induction l with|nil=>trivial|cons a l ih=>exact⟨rfl,ih⟩
 exact this _;intro u q;obtain⟨b,_,rfl⟩:=ql.1 q;rfl;intro u q;obtain⟨b,_,rfl⟩:=ql.1 q;rfl;have:∀l:List UInt8,l.map (λb=>Value.int .u8 b.toNat)=(l.map (λb=>Value.int .u8 b.toNat)).flatMap (·.cells.toList):=λl=>by induction l with|nil=>rfl|cons a l ih=>rw[qr,QZ,<-ih];rfl
 exact this _;exact Lib.bytesWorld_at_old c.w _ s b ((R.obj o x e).hold_lt hb)
theorem Ot{x:Operand}{f:Array TypeId}{j off z len:Nat}{full:Bool}(d:o.op=.call { callee:=.builtin .unsafeSliceData,args:=#[x],argTypes:=f })(l:evs x=.sl j off z len full)(hl:len≠0)
 (g:K (.ptr j off) h n):DS E P evs o h n K:=by
 refine⟨by rw[d];simp,λc ev _ _ R F k=>?_⟩;have a:=k x;rw[l,V]at a;obtain⟨b,st,cap,hρ,i,hcap,_⟩:=a;refine⟨.pointer (some ⟨b,st+off,none⟩),.ptr j off,h,n,c,?_,by rw[V];exact⟨b,st,hρ,rfl⟩,R,F,vm n c,g⟩;refine BY (P:=P) (ev:=ev) d _ _ _ λcs=>?_;have e:=Lib.run_unsafeSliceData_row (P:=P) c.w f o.type ⟨b,st+off,none⟩ len cap (by omega);simp only[BigFrame.builtin_unsafeSliceData,Sem.run_bind,Sem.run_pure];simp only[List.map_toArray,qr,Yo,i]at e ⊢;rw[e];rfl
theorem Lw{x y:Operand}{M it e:TypeId}{j:Nat}{bs:List UInt8}(Q:o.op=.call { callee:=.builtin .unsafeString,args:=#[x,y],argTypes:=#[M,it] })(D:P.underlying M=some (.pointer e))(hc:P.cellsOf e=1)
 (hx:evs x=.ptr j 0) (hy:evs y=.int .i64 bs.length) (t:h j=some (.cells (bs.map Ev) (some e))) (m:bs≠[]) (z:bs.length<=9223372036854775807)
 (a:K (.str ⟨bs.toArray⟩) (h_ h j none) n):DS E P evs o h n K:=by
 refine⟨by rw[Q];simp,λc ev _ _ R F T=>?_⟩;have q:=T x;rw[hx,V]at q;obtain⟨b,st,hρ,Z⟩:=q;have d:=T y;rw[hy]at d;have d:=DF d;obtain⟨b',st',arr,e',vs,N,s,g3,O,g5,g6⟩:=R.obj _ _ t;rw[hρ]at N;cases N;obtain⟨H,rfl⟩:=g6 e rfl;subst H;have hl:=O.length;rw[qf]at hl;have hblt:=(qp.1 s).1;have I:bs.length<=arr.size:=by
  rcases Nat.eq_zero_or_pos bs.length with h0|h0;omega;have l:vs[bs.length-1]? = some vs[bs.length-1]:=qe (by omega);have:=(qp.1 (g3 _ _ l)).1;omega
 have f:∀i x,bs[i]? = some x->c.w.cell? ((⟨b,0,none⟩:Addr).add i)=some (.int .u8 x.toNat):=λi x hi=>by
  have h1:(bs.map Ev)[i]? = some (Ev x):=by rw[qX,hi];rfl
  obtain⟨v,J,L⟩:=O.get h1;have:=DF L;subst this;have Y:=g3 i _ J;rw[C4 rfl];simp only[World.cell?,s];simpa using Y
 have S:=Lib.run_unsafeString_row (P:=P) c.w M it o.type e' D hc b arr.size (by simp[World.shape?,s]) bs m I z f;have g:∀k,k≠b->(c.w.freeze ⟨b,0,none⟩ bs.length).heap[k]? = c.w.heap[k]?:=λk a=>by
  unfold World.freeze;split;rfl;simp only[Vx];rw[if_neg (Ne.symm a)]
 have A:(c.w.freeze ⟨b,0,none⟩ bs.length).heap.size=c.w.heap.size:=by unfold World.freeze;split<;>simp
 have p:c.own b:=R.ownI ⟨j,_,0,t,hρ⟩;have u:=R.kill j t;have G:∀k,rm c.w k<=rm (c.w.freeze ⟨b,0,none⟩ bs.length) k:=λk=>by
  by_cases a:k=b;subst a;have h0:¬bs.length=0:=by simpa using m
  unfold rm World.freeze;rw[if_neg h0];simp only[Vx,if_true,s,qO];exact qa _;unfold rm;rw[g k a];exact qa _
 have B:∀k,¬c.own k->¬(c.kill j).own k:=λk a h2=>by
  obtain⟨o',x',r,W⟩:=(u.own2 k).1 h2;simp only[h_]at r;split at r;cases r;exact a ((R.own2 k).2 ⟨o',x',r,W⟩)
 have X:EH c { (c.kill j)with w:=c.w.freeze ⟨b,0,none⟩ bs.length }:=
  ⟨λ_ _ e=>e,by simp[A],λk a hn=>⟨B k hn,g k (by rintro rfl;exact hn p)⟩,G,by unfold World.freeze;split<;>rfl,by unfold World.freeze;split<;>rfl,⟨by unfold World.freeze;split<;>rfl,by unfold World.freeze;split<;>exact qa _⟩⟩
 refine⟨.string ⟨bs.toArray⟩,.str ⟨bs.toArray⟩,h_ h j none,n,{ (c.kill j)with w:=c.w.freeze ⟨b,0,none⟩ bs.length },?_,by rw[V],⟨λo x e=>?_,u.inj2,u.own2⟩,F,⟨X,qa _,λ_ _=>rfl⟩,a⟩;refine BY (P:=P) (ev:=ev) Q _ _ _ λcs=>?_;simp only[BigFrame.builtin_unsafeString,Sem.run_bind,Sem.run_pure];simp only[List.map_toArray,qr,Yo,Z,d,UO]at S ⊢;rw[S];rfl;simp only[h_]at e;split at e;cases e;rename_i C;refine(R.obj o x e).mono0 X.to0 λk a=>g k ?_;intro U;rw[U]at a;exact C (R.inj2 o j x _ b e t a (.inl ⟨0,hρ⟩))
end
set_option maxRecDepth 100000 in
theorem YH(b:Nat)(w:World)(h0:w.cell? ⟨b,2,none⟩=some (.pointer (some ⟨b,2,none⟩))):
 Calls prog 335 #[.pointer (some ⟨b,2,none⟩)] w λe w'=>e=.returned (.tuple #[])/\w'=w:=by
 obtain⟨j,a,_⟩:=qN.1 (show(prog.info? 386).map (·.size)=some 2 by kernel_rfl)
 go_enter func335,Tryz.ntmps335
 go_wp2
 rw[Lib.run_neq_ptr_same w _ Tryz.underlying384 a]
 go_wp2
 go_end0
 exact⟨rfl,rfl⟩
theorem dB(m:Nat):liesAt prog prog.depth 388 (m+1) 2 386 1=true:=by kernel_rfl
theorem V7:prog.cellsOf 388=7:=by kernel_rfl
set_option maxRecDepth 100000 in
theorem V6(b k:Nat)(w:World)(h0:w.cell? ⟨b,2,none⟩=some (.pointer none))(c:w.shape? b=some (388,k))(hk:7<=k)(hfz:w.frozen? ⟨b,2,none⟩=false):
 Calls prog 335 #[.pointer (some ⟨b,2,none⟩)] w λe w'=>e=.returned (.tuple #[])/\w'=w.setCell ⟨b,2,none⟩ (.pointer (some ⟨b,2,none⟩)):=by
 obtain⟨j,f,d⟩:=qN.1 (show(prog.info? 386).map (·.size)=some 2 by kernel_rfl);obtain⟨m,g⟩:∃m,k / prog.cellsOf 388=m+1:=⟨k / 7-1,by rw[V7];omega⟩
 have a:=dB m;rw[<-g]at a
 go_enter func335,Tryz.ntmps335
 go_wp2
 rw[Lib.run_to_unsafe w ⟨b,2,none⟩ Tryz.underlying384 Tryz.underlying403 f (by rw[d];decide) c (by simp;omega)];simp only[Result.andThen];rw[Oper.upon_value]
 go_wp2
 rw[run_callFunc_extern func341 (by kernel_rfl) (by kernel_rfl) (by kernel_rfl) (e:=Extern.AbiNoEscape.same) (by kernel_rfl)];rw[Lib.run_noEscape];simp only[Result.andThen];rw[Oper.upon_value]
 go_wp2
 rw[Lib.run_from_unsafe w ⟨b,2,none⟩ Tryz.underlying403 Tryz.underlying384 f c a];simp only[Result.andThen];rw[Oper.upon_value]
 go_wp2
 go_end0
 exact⟨rfl,rfl⟩
theorem dD:Ok prog 335=true:=by unfold Ok;rw[func335];kernel_rfl
theorem ij{H:Hp}{n q:Nat}{a b p o:SV}{r:List SV}(B:H q=some (.cells (a::b::p::o::r) (some 388)))(hp:p=.nilp\/p=.ptr q 2)(M:r.length=3):
 BL prog 335 [.ptr q 2] H n (λv h' n'=>v=.tup []/\h'=h_ H q (some (.cells (a::b::.ptr q 2::o::r) (some 388)))/\n'=n):=by
 refine⟨dD,λc vs _ R F A=>?_⟩;obtain⟨u,rfl,K⟩:=A.single;rw[V]at K;obtain⟨b0,st,hρ,rfl⟩:=K;obtain⟨b',st',arr,e,us,G,z,g3,I,g5,g6⟩:=R.obj q _ B;rw[hρ]at G;cases G;obtain⟨C,rfl⟩:=g6 388 rfl;subst C;obtain⟨N,E,l⟩:=I.get (i:=2) (a:=p) rfl;have h2:=g3 2 _ E;have f:c.w.cell? ⟨b0,2,none⟩=some N:=by simp only[World.cell?,z];simpa using h2
 have y:=I.length;simp only[qJ,M]at y;have D:7<=arr.size:=by
  have s:us[6]? = some us[6]:=qe (by omega);have:=(qp.1 (g3 _ _ s)).1;omega
 have t:V c (.ptr q 2) (.pointer (some ⟨b0,2,none⟩)):=by rw[V];exact⟨b0,0,hρ,by simp⟩
 simp only[qU];rcases hp with rfl|rfl;rw[V]at l;subst l;obtain⟨w',m,L,X⟩:=Ja (P:=prog) (off:=2) (xs:=[.ptr q 2]) (us:=[.pointer (some ⟨b0,2,none⟩)]) R B hρ (by simp) (by simp) ⟨t,trivial⟩ (by simp[Value.oneCell']);have d:=run_storeCells_cells (P:=prog) b0 2 [.pointer (some ⟨b0,2,none⟩)] 0 c.w (by intro j x;simp at x;subst x;simp[f]) (by intro j x;simp at x;subst x;simp[World.frozen?,z]) (by simp[Value.oneCell']);simp only[qU,UO]at m d;rw[m]at d;simp only[Result.ok.injEq,true_and]at d;refine(V6 b0 arr.size c.w f (by simp[World.shape?,z]) D (by simp[World.frozen?,z])).mono ?_;rintro e w2 ⟨rfl,rfl⟩;have hw:w'=c.w.setCell ⟨b0,2,none⟩ (.pointer (some ⟨b0,2,none⟩)):=by rw[d];rfl
 subst hw;exact⟨.tuple #[],.tup [],_,n,{ c with w:=c.w.setCell ⟨b0,2,none⟩ (.pointer (some ⟨b0,2,none⟩)) },rfl,⟨rfl,rfl,rfl⟩,rfl,by simp[V,VL],by simpa using L,F,⟨X,qa _,λ_ _=>rfl⟩⟩;rw[V]at l;obtain⟨b1,st1,hρ1,rfl⟩:=l;rw[hρ]at hρ1;cases hρ1;have g:h_ H q (some (.cells (a::b::.ptr q 2::o::r) (some 388)))=H:=by
  funext k;by_cases J:k=q;subst J;rw[RO,B];simp[h_,J]
 refine(YH b0 c.w (by simpa using f)).mono ?_;rintro e w2 ⟨rfl,rfl⟩;exact⟨.tuple #[],.tup [],_,n,c,rfl,⟨rfl,g.symm,rfl⟩,rfl,by simp[V,VL],R,F,vm n c⟩
set_option maxRecDepth 10000
set_option maxHeartbeats 4000000
def FS(ob:Option Nat)(bs:List UInt8):SV:=AW 1 ob (bs.map Ev)
theorem eT{H:Hp}{k p:Nat}{a:Option Nat}{bs:List UInt8}{x:UInt8}(h0:a=none->bs=[])(h1:H k=some (.cells [Ev x]))(h2:∀j,a=some j->H j=some (.cells (bs.map Ev) (some 5)))(hroom:bs.length+1<=1073741824):
 Al prog H p .append [381,381] [FS a bs,.sl k 0 1 1 true]=some { val:=.sl p 0 1 (bs.length+1) false,upd:=a.map λj=>(j,none),new:=some (.cells ((bs++[x]).map Ev) (some 5)) }:=by
 have f:BA prog 381=some 5:=by simp[go_sem]
 have g:Br prog 5=1:=by simp[go_sem]
 have h:(BK prog 5).B=true:=by simp[go_sem]
 have i:(BK prog 5).cells.length=1:=by simp[go_sem]
 have l:Bw prog 5<=65536:=by simp[go_sem]
 have c:Ib 5=some 5:=by rfl
 have b:flat H (.sl k 0 1 1 true)=some [Ev x]:=by simp[flat,h1,Bz]
 have e:EF (bs.length+1) (Bw prog 5)=true:=by simp only[EF,qo,decide_eq_true_eq];exact⟨by omega,l⟩
 simp only[Al,f,vG,if_true,Ec,GW,b,g,h,i];cases a with
 | none=>
  have:=h0 rfl;subst this;simp[FS,AW,LT,c];simpa using e
 | some j=>
  have d:=h2 j rfl;have m:flat H (.sl j 0 1 bs.length false)=some (bs.map Ev):=by simp[flat,d,Bz];exact qv (by simp)
  have ht:Hz H 5 j 0=some 5:=by simp[Hz,c,aj,d]
  simp[FS,AW,LT,m,e,ht]
theorem ig{G:Hp}{n q:Nat}{a at_ p s r e:SV}{c:Option Nat}{bs:List UInt8}{x:UInt8}(z:G q=some (.cells [a,at_,p,FS c bs,s,r,e] (some 388)))(hp:p=.nilp\/p=.ptr q 2)
 (h0:c=none->bs=[]) (h2:∀j,c=some j->j≠q/\G j=some (.cells (bs.map Ev) (some 5))) (f:bs.length+1<=1073741824):
 BL prog 329 [.ptr q 2,Ev x] G n (λ_ h' n'=>∃j,(∀o y,o≠q->c≠some o->G o=some y->h' o=some y)/\h' q=some (.cells [a,at_,.ptr q 2,FS (some j) (bs++[x]),s,r,e] (some 388))/\
  h' j=some (.cells ((bs++[x]).map Ev) (some 5))/\n<=j/\j<n'):=by
 refine DO func329 rfl λl=>?_;have hqn:q<n:=(l q _ z).1;have k:∀j,c=some j->j<n:=λj e=>(l j _ (h2 j e).2).1;refine B5 0 [(0,.ptr q 2),(1,Ev x)] G n ?_ (λm u=>?_);simp[go_sem,IO];subst u;refine B5 0 [(0,.ptr q 2),(1,Ev x)] (h_ G q (some (.cells [a,at_,.ptr q 2,FS c bs,s,r,e] (some 388)))) n ?_ (λm u=>?_);simp[go_sem];refine qP (ij z hp rfl) ?_;rintro v H' n' ⟨rfl,rfl,rfl⟩;simp[go_sem,IO];subst u;refine AJ ?_;have d:q≠n:=by omega
 have b:q≠n+1:=by omega
 simp[go_sem,AD];have h:∀p,Al prog (h_ (h_ G q (some (.cells [a,at_,.ptr q 2,FS c bs,s,r,e] (some 388)))) n (some (.cells [Ev x]))) p .append [381,381] [FS c bs,.sl n 0 1 1 true]=_:=λp=>
  eT h0 (AD _ _ _) (λj e=>by rw[AE _ _ (by have:=k j e;omega),AE _ _ (h2 j e).1];exact(h2 j e).2) f
 have i:FS (some (n+1)) (bs++[x])=.sl (n+1) 0 1 (bs.length+1) false:=by simp[FS,AW]
 cases c with
 | none=>
  simp[go_sem,h,AD,AE,d,b];refine .inl ⟨λo y h1 g=>?_,n+1,by rw[AD,i],by rw[AE _ _ (Ne.symm b),AD],by omega,by omega⟩;have:=(l o y g).1;rw[AE _ _ h1,AE _ _ (by omega),AE _ _ (by omega),AE _ _ h1];exact g
 | some j=>
  have t:=(h2 j rfl).1;have hjl:=k j rfl;have w:q≠j:=Ne.symm t;simp[go_sem,h,AD,AE,d,b,w];refine .inl ⟨λo y h1 h2 g=>?_,n+1,by rw[AD,i],by rw[AE _ _ (Ne.symm b),AD],by omega,by omega⟩;have:=(l o y g).1;rw[AE _ _ h1,AE _ _ (by omega),AE _ _ (Ne.symm h2),AE _ _ (by omega),AE _ _ h1];exact g
theorem Zx:prog.cellsOf 5=1:=by kernel_rfl
theorem cQ{G:Hp}{n q:Nat}{a at_ p g f e:SV}{d:Option Nat}{bs:List UInt8}(b:G q=some (.cells [a,at_,p,FS d bs,g,f,e] (some 388)))(h0:d=none->bs=[]):
 BL prog 336 [.ptr q 2] G n (λv h' n'=>v=AA bs.length/\h'=G/\n'=n):=by
 refine DO func336 rfl λc=>?_;have hqn:q<n:=(c q _ b).1;refine AJ ?_;cases d with
 | none=>
  have:=h0 rfl;subst this;simp[go_sem,b,FS,AW];exact As c rfl rfl
 | some j=>
  simp[go_sem,b,FS,AW];exact As c rfl rfl
def dZ:Tr:=.pure 0 (.pure 1 (.pure 2 (.pure 5 (.pure 6 (.pure 7 (.two 3 8 (.two 4 8 (.one 8 (.one 9 (.one 10 (.one 11 .nil)))) (.two 4 9 (.one 9 (.one 10 (.one 11 .nil))) (.one 4 (.one 10 (.one 11 .nil))))) (.two 3 9 (.two 4 9 (.one 9 (.one 10 (.one 11 .nil))) (.one 4 (.one 10 (.one 11 .nil)))) (.one 3 (.one 4 (.one 10 (.one 11 .nil)))))))))))
theorem il{G:Hp}{n q j:Nat}{a at_ p w u e:SV}{bs:List UInt8}(c:G q=some (.cells [a,at_,p,FS (some j) bs,w,u,e] (some 388)))(s:G j=some (.cells (bs.map Ev) (some 5)))(_hjq:j≠q)(b:bs≠[])(hlen:bs.length<=1073741824):
 BL prog 337 [.ptr q 2] G n (λv h' n'=>v=.str ⟨bs.toArray⟩/\h'=h_ G j none/\n'=n):=by
 refine DO func337 rfl λt=>?_;have hqn:q<n:=(t q _ c).1;have g:bs.length≠0:=by simpa using b
 refine B5 0 [(0,.ptr q 2)] G n ?_ (λm h=>?_);simp[go_sem,IO];subst h;refine AX 0 (α:=Unit) (λ_=>[(2,.str ⟨bs.toArray⟩)]) (λ_=>h_ G j none) (λ_ m=>n=m) (CK dZ rfl (by kernel_rfl) (by kernel_rfl) ?_) (λ_ m h=>?_)
 . have hb:FS (some j) bs=.sl j 0 1 bs.length false:=by simp[FS,AW]
   rw[hb]at c;simp[go_sem,dZ,c];have l:∀{E:CC} {evs:Operand->SV} {o:Oper} {n:Nat} {K:SV->Hp->Nat->Prop} {x:Operand} {z:Array TypeId},o.op=.call { callee:=.builtin .unsafeSliceData,args:=#[x],argTypes:=z }->evs x=.sl j 0 1 bs.length false->K (.ptr j 0) G n->DS E prog evs o G n K:=λd f k=>Ot d f g k;have r:∀{E:CC} {evs:Operand->SV} {o:Oper} {n:Nat} {K:SV->Hp->Nat->Prop} {x y:Operand} {it:TypeId},o.op=.call { callee:=.builtin .unsafeString,args:=#[x,y],argTypes:=#[405,it] }->evs x=.ptr j 0->evs y=AA bs.length->K (.str ⟨bs.toArray⟩) (h_ G j none) n->DS E prog evs o G n K:=λd f i k=>Lw d Tryz.underlying405 Zx f i s b (by omega) k;refine⟨⟨?_,?_,?_⟩,⟨?_,?_⟩,?_⟩
   all_goals
    refine l rfl rfl ?_;simp[go_sem,c];refine r rfl rfl rfl ?_;simp[go_sem,IO]
 subst h;refine AJ ?_;simp[go_sem];refine .inl ⟨rfl,rfl,rfl⟩
theorem im{G:Hp}{n q:Nat}{a at_ p b d c e:SV}(f:G q=some (.cells [a,at_,p,b,d,c,e] (some 388))):
 BL prog 338 [.ptr q 2] G n (λv h' n'=>v=.tup []/\h'=h_ G q (some (.cells [a,at_,.nilp,.i 0 [] true,d,c,e] (some 388)))/\n'=n):=by
 refine DO func338 rfl λho=>?_;refine AJ ?_;simp[go_sem,f,AD,Ah];refine .inl ⟨rfl,rfl,rfl⟩
theorem Pq{E:CC}{N:Nat}{a:Code}{Q:Cu}{sa:SA}{h:Hp}{n:Nat}(H:Gm h n->SP E N a Q sa h n):SP E N a Q sa h n:=
 λd c b I R F A=>H (λo x e=>H9 F (R.obj o x e)) d c b I R F A
structure dv(G:Hp)(q B:Nat)(s:ByteArray)(at_:Int)(bs:List UInt8)(ps:List CJ)(pl e:Int)(p:SV)(ob op:Option Nat):Prop where
 le:B<=q
 cells:G q=some (.cells [.str s,AA at_,p,FS ob bs,AW 3 op (ps.map CJ.e),AA pl,AA e] (some 388))
 p:p=.nilp\/p=.ptr q 2
 b0:ob=none->bs=[]
 b1:∀j,ob=some j->B<=j/\j≠q/\bs≠[]/\G j=some (.cells (bs.map Ev) (some 5))
 o0:op=none->ps=[]
 o1:∀j,op=some j->B<=j/\j≠q/\ob≠some j/\G j=some (.cells ((ps.map CJ.e).flatMap SV.cells))
def Vg(G:Hp)(q B:Nat)(s:ByteArray)(at_:Int)(bs:List UInt8)(ps:List CJ)(pl e:Int):Prop:=∃p ob op,dv G q B s at_ bs ps pl e p ob op
def Y6(q B:Nat)(s:ByteArray)(G:Hp)(n:Nat)(R:Int->List UInt8->List CJ->Int->Int->Prop):SV->Hp->Nat->Prop:=λ_ h' n'=>
 ∃at_ bs ps pl e,R at_ bs ps pl e/\Vg h' q B s at_ bs ps pl e/\(∀o y,o<B->G o=some y->h' o=some y)/\n<=n'
theorem CJ.len(p:CJ):p.e.cells.length=3:=rfl
theorem CJ.size(ps:List CJ):∀e∈ps.map CJ.e,e.B=true/\e.cells.length=3:=λe a=>by obtain⟨x,_,rfl⟩:=ql.1 a;exact⟨rfl,rfl⟩
theorem bN{X:Hp}{k p:Nat}{b:Option Nat}{ps:List CJ}{x:CJ}(h0:b=none->ps=[])(h1:X k=some (.cells x.e.cells))(h2:∀j,b=some j->X j=some (.cells ((ps.map CJ.e).flatMap SV.cells)))(a:ps.length+1<=1073741824):
 Al prog X p .append [361,361] [AW 3 b (ps.map CJ.e),.sl k 0 3 1 true]=some { val:=.sl p 0 3 (ps.length+1) false,upd:=b.map λj=>(j,none),new:=some (.cells ((ps.map CJ.e).flatMap SV.cells++x.e.cells)) }:=by
 have c:BR 0 ((b.getD 0)+1) 3 b (ps.map CJ.e):=⟨λe=>by rw[h0 e];rfl,λj e=>by rw[e];simp,CJ.size ps⟩
 have:=Fa (P:=prog) (H:=X) (t:=361) (t2:=361) (el:=366) (e:=x.e) (by simp[go_sem]) (by simp[go_sem]) (by simp[go_sem]) (by simp) (by simp[go_sem]) (by simp[go_sem]) (by simp[go_sem]) (by simpa using a) c (CJ.len x) h1 h2 p;simpa using this
def dq(G:Hp)(B q n:Nat)(C:Nat->List SV)(es:List SV)(z:Hp×Nat)(m:Nat):Prop:=
 n<=m/\z.1 q=some (.cells (C z.2) (some 388))/\z.1 z.2=some (.cells (es.flatMap SV.cells))/\n<=z.2/\z.2<m/\∀o y,o<B->G o=some y->z.1 o=some y
def ai:Tr:=.pure 0 (.pure 1 (.pure 2 (.pure 3 (.pure 5 (.pure 6 (.pure 7 (.two 4 8 (.one 8 (.one 9 (.one 10 (.one 11 (.one 12 (.one 13 (.one 14 .nil))))))) (.two 4 9 (.one 9 (.one 10 (.one 11 (.one 12 (.one 13 (.one 14 .nil)))))) (.two 4 10 (.one 10 (.one 11 (.one 12 (.one 13 (.one 14 .nil))))) (.one 4 (.one 11 (.one 12 (.one 13 (.one 14 .nil))))))))))))))
theorem dv.upd{G:Hp}{q B:Nat}{s:ByteArray}{at_ l e:Int}{bs:List UInt8}{ps:List CJ}{p:SV}{i k:Option Nat}(S:dv G q B s at_ bs ps l e p i k)(f h e':Int):
 Vg (h_ G q (some (.cells [.str s,AA f,p,FS i bs,AW 3 k (ps.map CJ.e),AA h,AA e'] (some 388)))) q B s f bs ps h e':=
 ⟨p,i,k,S.le,AD _ _ _,S.p,S.b0,λj g=>by obtain⟨a,b,c,d⟩:=S.b1 j g;exact⟨a,b,c,by rw[AE _ _ b];exact d⟩,S.o0,λj g=>by obtain⟨a,b,c,d⟩:=S.o1 j g;exact⟨a,b,c,by rw[AE _ _ b];exact d⟩⟩
theorem ZE{G:Hp}{n q B:Nat}{s:ByteArray}{at_ c e:Int}{bs:List UInt8}{ps:List CJ}(S:Vg G q B s at_ bs ps c e)(k:Gm G n)(hb:bs.length<=1048576)(x:UInt8):
 BL prog 329 [.ptr q 2,Ev x] G n (Y6 q B s G n λa b f d e'=>a=at_/\b=bs++[x]/\f=ps/\d=c/\e'=e):=by
 obtain⟨p,ob,w,S⟩:=S;have hqn:=(k q _ S.cells).1;have hle:=S.le;refine(ig (x:=x) S.cells S.p S.b0 (λj g=>⟨(S.b1 j g).2.1,(S.b1 j g).2.2.2⟩) (by omega)).mono ?_;rintro v h' n' ⟨j,h,r,g3,g4,g5⟩;refine⟨at_,bs++[x],ps,c,e,⟨rfl,rfl,rfl,rfl,rfl⟩,⟨.ptr q 2,some j,w,S.le,r,.inr rfl,by simp,λi hi=>?_,S.o0,λi hi=>?_⟩,λo y h1 h2=>h o y (by omega) (λg=>?_) h2,by omega⟩;cases hi;exact⟨by omega,by omega,by simp,g3⟩;obtain⟨t,l,u,m⟩:=S.o1 i hi;have:=(k i _ m).1;exact⟨t,l,λg=>by cases g;omega,h i _ l u m⟩;have:=(S.b1 o g).1;omega
def dT:Tr:=.pure 0 (.pure 1 (.pure 2 (.pure 4 (.pure 5 (.pure 6 (.two 3 7 (.one 7 (.one 8 (.one 9 (.pure 10 .nil)))) (.one 3 (.one 8 (.one 9 (.pure 10 .nil))))))))))
def Y0:Tr:=.pure 0 (.pure 1 (.pure 2 (.pure 3 (.pure 5 (.pure 6 (.pure 7 (.two 4 8 (.one 8 (.pure 9 (.one 10 (.one 11 .nil)))) (.pure 9 (.one 4 (.one 10 (.one 11 .nil)))))))))))
def dU:Tr:=.pure 0 (.pure 1 (.pure 2 (.pure 4 (.pure 5 (.pure 6 (.two 3 7 (.one 7 (.one 8 (.one 9 (.pure 10 (.pure 11 (.pure 12 (.pure 13 (.pure 14 (.one 15 (.pure 16 (.one 17 (.pure 18 (.pure 19 .nil))))))))))))) (.one 3 (.one 8 (.one 9 (.pure 10 (.pure 11 (.pure 12 (.pure 13 (.pure 14 (.one 15 (.pure 16 (.one 17 (.pure 18 (.pure 19 .nil)))))))))))))))))))
def Xl(G:Hp)(q B n:Nat)(s:ByteArray)(R:Int->List UInt8->List CJ->Int->Int->Prop)(z:Hp)(m:Nat):Prop:=n<=m/\∃at_ bs ps pl e,R at_ bs ps pl e/\Vg z q B s at_ bs ps pl e/\∀o y,o<B->G o=some y->z o=some y
theorem Y6.st{q B:Nat}{s:ByteArray}{G:Hp}{n0 n:Nat}{R:Int->List UInt8->List CJ->Int->Int->Prop}{v:SV}{h':Hp}{n':Nat}(H:Y6 q B s G n R v h' n')(hn:n0<=n):Xl G q B n0 s R h' n':=by
 obtain⟨a1,a2,a3,a4,a5,h1,h2,a,h4⟩:=H;exact⟨by omega,a1,a2,a3,a4,a5,h1,h2,a⟩
def Xb:Tr:=.pure 0 (.pure 1 (.pure 2 (.pure 4 (.pure 5 (.pure 6 (.two 3 7 (.one 7 (.one 8 (.pure 9 (.pure 10 (.pure 11 (.pure 12 (.pure 13 (.one 14 (.pure 15 (.pure 16 .nil)))))))))) (.two 3 8 (.one 8 (.pure 9 (.pure 10 (.pure 11 (.pure 12 (.pure 13 (.one 14 (.pure 15 (.pure 16 .nil))))))))) (.one 3 (.pure 9 (.pure 10 (.pure 11 (.pure 12 (.pure 13 (.one 14 (.pure 15 (.pure 16 .nil))))))))))))))))
def dX:Tr:=.pure 0 (.pure 1 (.pure 2 (.pure 4 (.pure 5 (.pure 6 (.two 3 7 (.one 7 (.one 8 (.pure 9 .nil))) (.one 3 (.one 8 (.pure 9 .nil)))))))))
def dY:Tr:=.pure 0 (.pure 1 (.pure 2 (.pure 3 (.pure 4 (.pure 5 (.pure 7 (.pure 8 (.pure 9 (.two 6 10 (.one 10 (.one 11 (.one 12 .nil))) (.one 6 (.one 11 (.one 12 .nil))))))))))))
def SnR(s:ByteArray)(z:Int×Int):Int->List UInt8->List CJ->Int->Int->Prop:=λat_ bs ps _ e=>
 at_=z.1/\e=z.2/\0<=at_/\at_<=s.size/\(e=0->(bs.length:Int)<=at_/\(ps.length:Int)<=2*at_)/\(bs.length:Int)<=at_+1/\(ps.length:Int)<=2*at_+2
def dx(s:ByteArray)(z:Hp×Int×Int):Nat:=2*(s.size-z.2.1).toNat+(if z.2.2=0 then 1 else 0)
theorem iC(b:Int):PC 319 [Jy b] (.bool (decide (b<32)||decide (b=127))):=by
 intro h n;refine gq func319 rfl λa=>?_;by_cases c:b<32;simp[go_sem,c];exact As a rfl rfl;simp[go_sem,c];exact As a rfl (by by_cases d:b=127<;>simp[d])
def dV:Tr:=.pure 0 (.pure 1 (.pure 2 (.pure 4 (.one 3 (.pure 5 .nil)))))
theorem gu(p:CJ)(k:Int):PC 304 [p.e,.q [AA k]] (.bool (decide (k<p.level))):=by
 intro h n;refine gq func304 rfl λa=>?_;simp[go_sem,CJ.e,AD];exact A3 a (AR a (qa _) AC) rfl rfl
def Vd:Tr:=.pure 0 (.pure 1 (.pure 2 (.pure 3 (.pure 4 (.pure 5 (.pure 6 (.pure 7 (.pure 8 (.pure 9 (.pure 10 (.pure 11 (.pure 12 (.pure 13 .nil)))))))))))))
def dR:Tr:=.pure 0 (.pure 1 (.pure 3 (.pure 4 (.pure 5 (.pure 6 (.one 2 (.one 7 (.pure 8 (.pure 9 (.pure 10 (.pure 11 (.pure 12 .nil))))))))))))
def dS:Tr:=.pure 0 (.pure 1 (.pure 3 (.pure 4 (.one 2 (.one 5 (.pure 6 .nil))))))
def ChQ(l:List A7)(id:Int)(h:Hp)(n:Nat):SV->Hp->Nat->Prop:=λv h' n'=>∃k,v=.fn (.func 270) [] [.q [Aj l],.ptr k 0]/\n<=k/\k<n'/\h' k=some (.cells [AA id])/\∀o y,h o=some y->h' o=some y
theorem iU(l:List A7)(id:Int){h:Hp}{n:Nat}:BL prog 209 [Aj l,AA id] h n (ChQ l id h n):=by
 refine DO func209 rfl λc=>?_;have a:=c.lt;refine By 1 [(2,.q [Aj l]),(3,.ptr (n+1) 0)] (h_ h (n+1) (some (.cells [AA id]))) (λm=>n+1<m) ?_ (λm b=>?_);simp[go_sem,IO];refine⟨AZ (by simp[h_];exact AS a (qa _)) (by simp[h_]),λj y=>?_⟩;have:=a j y;simp only[h_];grind;refine AJ ?_;simp[go_sem];exact .inl ⟨n+1,rfl,by omega,b,AD _ _ _,AL (λj z e=>by have:=a j z e;omega) AC⟩
section
variable{E:CC}{yl N:Nat}{J:Nat->Hp->Nat->Prop}{Jx:Hp->Nat->Prop}{D:Nat->Prop}
def dt(l:List A7)(a:List (Int×Int)):Prop:=∀p∈a,0<=p.2/\p.2<l.length
end
theorem cm{E:CC}{f:FuncId}{fn:Func}{code:Code}{args:List SV}{h:Hp}{n:Nat}{K:SV->Hp->Nat->Prop}(b:prog.funcs[f]? = some fn)(hb:fn.body=some code)
 (hn:(fn.name != "runtime.NumGoroutine")=true) (a:Code.dok fn.ntmps code=true) (hl:args.length<=fn.ntmps)
 (H:Gm h n->∀B,SP (E.call true B) fn.ntmps code (Om prog fn n K) (FA 0 args) h n):Ap E prog f args h n K:=
 NF b hb hn a hl λ_ c B=>H c B
structure AI.sizedT(s:AI):Prop extends AI.D s where
 tpl:∀x∈s.L,∀y∈x.levels,y.template.size<=1048576
 com:∀x∈s.C,x.O.size<=1048576/\x.x.size<=1048576
 var:∀x∈s.vars,x.name.size<=1048576/\x.value.size<=1048576
structure AG.sizedT(B N:Nat)(d:AG):Prop where
 W:Dq AF.D B N d.W
 T0 : d.T0.D
 V:d.V.length<=1048576
 authors:∀r∈d.V,r.O.size<=1048576
 S:d.S.sizedT
structure Yx(h:AF):Prop where
 move:h.move=0
 Y:h.Y=[]
 Z:h.Z=[]
theorem c44(x:AF)(f:Yx x):PC 44 [x.e] (.i 0 [] true):=by
 intro h n;refine gq func44 rfl λd=>?_;have e:∀a b c,∀o y,h o=some y->h_ (h_ (h_ h n a) (n+1) b) (n+1) c o=some y:=λa b c=>AR d (by omega) (AR d (by omega) (AR d (qa _) AC));obtain⟨h1,h2,_⟩:=f;simp[go_sem,AF.e,AF.g,AD,AE,h1,h2];refine Av 1 (α:=Unit) (λk=>[(3,.i 0 [] true),(22,Ax []),(23,AA 0),(24,AA 0)]) (λ_=>h) (λk m=>n<=m) (λk=>0) () ?_ ?_ ?_ ?_;omega;simp[Ao];exact e _ _ _;rintro _ m hm;simp[go_sem];exact A3 d AC rfl rfl
theorem d43(p:CI)(hp:Yx p.H)(t:Nat){H:Hp}{n:Nat}:BL prog 43 [p.e,.ptr t 0] H n (λv h' n'=>v=.tup []/\h'=H/\n'=n):=by
 refine DO func43 rfl λa=>?_;refine Aa 1 [(1,.ptr t 0),(2,.q (p.H.g++[.bool p.mid,AA p.units]))] H n ?_ (λm b=>?_);simp[go_sem,CI.e,AF.g,IO];refine⟨AZ (a.none (qa n)) (by simp[h_]),AL (λj z e=>(a j z e).1) AC⟩;refine AJ ?_;simp[go_sem,AF.g];refine qz (by simpa[AF.e,AF.g]using c44 p.H hp) ?_;simp[go_sem];refine Av 0 (α:=Unit) (λk=>[(8,.i 0 [] true),(9,AA 0),(10,AA 0)]) (λ_=>H) (λk m=>n<=m) (λk=>0) () ?_ ?_ AC ?_;omega;simp[Ao,IO];rintro _ m b;simp[go_sem];exact DK a (by simp[cc,ca]) AC
def R9:Unit->Nat->Option Bb:=λ_ _=>none
theorem db(s:Unit)(H:Hp):BD R9 s H=H:=rfl
theorem v43(n0 t:Nat):Zj R9 n0 43 [] [.ptr t 0] (λs _=>s) Yx where
 lt _ _ _:=rfl
 dom _ _ _ _:=rfl
 cl _ _ _ e:=by cases e
 call s p H n hp _ hn hs:=by rw[db];exact d43 p hp t
theorem c48(a x:Int):PC 48 [AA x,.q [AA a]] (.bool (x==a)):=by
 intro h n;refine gq func48 rfl λb=>?_;simp[go_sem];exact A3 b AC (by by_cases e:x=a<;>simp[e]) rfl
theorem gJ:PC 254 [.i 2 [] false,AA 0,AA 0,.fn (.func 120) [] []] (.tup []):=by
 intro h n;refine gq func254 rfl λa=>?_;simp[go_sem];refine Av 1 (α:=Unit) (λk=>[(2,AA 0),(8,AA 1)]) (λ_=>h) (λk m=>n<=m) (λk=>0) () ?_ ?_ AC ?_;omega;simp[Ao,show IntKind.i64.wrap 1=1 from by decide,IO];rintro _ m hm;simp[go_sem];exact A3 a AC rfl rfl
theorem fS:PC 188 [.i 2 [] false,AA 0,.fn (.func 120) [] []] (.tup []):=by
 intro h n;refine gq func188 rfl λb=>?_;simp[go_sem];refine Av 1 (α:=Unit) (λk=>[(0,.i 2 [] false),(1,AA 0),(2,.fn (.func 120) [] []),(6,AA 20),(7,AA 0),(8,AA 20)]) (λ_=>h) (λk m=>n<=m) (λk=>0) () ?_ ?_ AC ?_;omega;simp[Ao];rintro _ m a;simp[go_sem];refine qz gJ ?_;simp[go_sem];refine Av 1 (α:=Unit) (λk=>[(1,AA 0),(6,AA 20)]) (λ_=>h) (λk m=>n<=m) (λk=>0) () ?_ ?_ AC ?_;omega;simp[Ao];rintro _ m a;simp[go_sem];exact A3 b AC rfl rfl
theorem eq:PC 119 [.i 2 [] false,.fn (.func 120) [] []] (.tup []):=by
 intro h n;refine gq func119 rfl λa=>?_;simp[go_sem];refine qz fS ?_;simp[go_sem];exact A3 a AC rfl rfl
theorem iM(l:List BC)(d:l≠[])(hl:l.length<=1048576)(r:BC){H:Hp}{n o k:Nat}{full:Bool}(u:H o=some (.cells ((l.map BC.e).flatMap SV.cells)))(A:H k=some (.cells [AA r.id,.str r.O,AA r.time]))(hok:o≠k):
 BL prog 117 [.sl o 0 3 l.length full,AA l.length,.sl k 0 3 1 true] H n (λv h' n'=>v=BE (l++[r])/\h'=h_ H o none/\n'=n):=by
 refine DO func117 rfl λp=>?_;have b:=p.lt;have m:flat H (.sl o 0 3 l.length full)=some ((l.map BC.e).flatMap SV.cells):=by
  have:((l.map BC.e).flatMap SV.cells).length=l.length*3:=by rw[BO (z:=3) (BC.E.size l)];simp
  simp[flat,u,Bz,<-this,-List.length_flatMap]
 have c:flat H (.sl k 0 3 1 true)=some [AA r.id,.str r.O,AA r.time]:=by simp[flat,A,Bz]
 have ht:BA prog 30=some 42:=by simp[go_sem]
 have g:Al prog H n .append [30,30] [.sl o 0 3 l.length full,.sl k 0 3 1 true]=some { val:=.sl n 0 3 (l.length+1) false,upd:=if full then none else some (o,none),new:=some (.cells ((l.map BC.e).flatMap SV.cells++[AA r.id,.str r.O,AA r.time])) }:=by
  have B:Br prog 42=3:=by simp[go_sem]
  have s:(BK prog 42).B=true:=by simp[go_sem]
  have t:(BK prog 42).cells.length=3:=by simp[go_sem]
  have hb:Bw prog 42<=65536:=by simp[go_sem]
  have q:EF (l.length+1) (Bw prog 42)=true:=by simp[EF,hb];omega
  simp[Al,ht,Ec,B,s,t,GW,m,c,LT,q,Hz,Ib]
 have fin:∀(h':Hp)(n':Nat),h'=h_ (match(if full then none else some (o,(none:Option Bb)))with|some (j,x)=>h_ H j x|none=>H) n (some (.cells ((l.map BC.e).flatMap SV.cells++[AA r.id,.str r.O,AA r.time])))->CO n h' n' (.sl n 0 3 (l.length+1) false) (λv h' n'=>v=BE (l++[r])/\h'=h_ H o none/\n'=n):=λh' n' e=>by
  have hon:=b o _ u;have i:((l++[r]).map BC.e).flatMap SV.cells=(l.map BC.e).flatMap SV.cells++[AA r.id,.str r.O,AA r.time]:=by simp[BC.e,SV.cells]
  refine .inr ⟨1,BE (l++[r]),h_ H o none,?_,BC.E.i _ _ _ _,λj y a=>?_,rfl,rfl,rfl⟩;have:=Cz (h':=h') (h:=h_ H o none) (k:=0) (z:=3) (es:=(l++[r]).map BC.e) (full:=false) (full':=false) (o:=n) (by rw[AE _ _ (by omega)];exact p.none (qa n)) (by simp) (by rw[e,AD,i]) (BC.E.size _);rw[qf,qq]at this;exact this;by_cases f:j=o;subst f;rw[AD]at a;cases a;rw[AE _ _ f]at a;refine⟨?_,p j y a⟩;have:=b j y a;rw[e,AE _ _ (by omega)];cases full;simp only[qn,if_false];rw[AE _ _ f];exact a;exact a
 refine AJ ?_;have w:¬l.length=0:=by simpa using d
 simp[go_sem,d];rw[g];cases full<;>simp[go_sem]<;>exact fin _ _ (by simp)
def dP:Tr:=(.pure 0 (.pure 2 (.two 1 3 (.one 3 (.one 4 (.one 5 (.pure 6 (.pure 7 .nil))))) (.two 1 4 (.one 4 (.one 5 (.pure 6 (.pure 7 .nil)))) (.one 1 (.one 5 (.pure 6 (.pure 7 .nil))))))))
section
variable{P:Program}{E:CC}{evs:Operand->SV}{o:Oper}{h:Hp}{n:Nat}{K:SV->Hp->Nat->Prop}
def Ga(P:Program)(kt:TypeId)(cs:List SV):List (SV×SV)->Nat->Option (Option (Nat×SV))
 | [],_=>some none
 | e :: es, i => match e.1 with
  | .agg ds=>match CS P cs ds (Bt P kt)with
   | some true=>some (some (i,e.2))
   | some false=>Ga P kt cs es (i+1)
   | none=>none
  | _=>none
structure Zf(P:Program)(kt:TypeId):Prop where
 ht:P.underlying kt=some (.struct (P.fieldsOf kt))
 hp:P.stoodInHeld kt=false
theorem PA{c:Cx}{a:TypeId}(e:Zf P a){cs d:List SV}{v u:Value}{b:Bool}(l:V c (.agg cs) v)(k:V c (.agg d) u)(hb:CS P cs d (Bt P a)=some b)(w:World):(Op.equal a v u).run P w=.ok b w:=by
 obtain⟨vs,f,h1,h2⟩:=Gn l;obtain⟨us,g,h,i⟩:=Gn k;have j:=IF h1 h h2 i 9998 w _ _ hb;rw[f,g];show(Op.equalIn 10000 a _ _).run P w=_;rw[run_equalIn_struct w 9999 a _ _ e.ht e.hp];exact j
theorem Ld{c:Cx}{b:TypeId}(l:Zf P b){cs:List SV}{v:Value}(m:V c (.agg cs) v)(w:World):
 ∀(es:List (SV×SV))(a:List MapEntry)(i:Nat)(r:Option (Nat×SV)),Ag (λ(p:SV×SV)(e:MapEntry)=>V c p.1 e.key/\V c p.2 e.val) es a->Ga P b cs es i=some r->
  (r=none/\(Instr.findAsking b v a i).run P w=.ok none w)\/∃j x y e d,r=some (i+j,x)/\(Instr.findAsking b v a i).run P w=.ok (some (i+j,y)) w/\V c x y/\a[j]? = some e/\V c (.agg d) e.key/\CS P cs d (Bt P b)=some true
 | [],a,i,r,h,hf=>by
  simp only[Ga,qk]at hf;subst hf;rw[h.nil_left];exact .inl ⟨rfl,by simp[Instr.findAsking]⟩
 | p::es,[],i,r,h,_=>h.elim
 | p::es,e::a,i,r,h,hf=>by
  obtain⟨⟨h1,h2⟩,o⟩:=h;simp only[Ga]at hf;split at hf<;>try cases hf
  rename_i d k;rw[k]at h1;split at hf;rename_i f;cases hf;have:=PA l m h1 f w;exact .inr ⟨0,p.2,e.val,e,d,rfl,by simp[Instr.findAsking,this],h2,rfl,h1,f⟩;rename_i f;have:=PA l m h1 f w;rcases Ld l m w es a (i+1) r o hf with⟨rfl,hg⟩|⟨j,x,y,e',g,rfl,hg,n,q,s⟩
  exact .inl ⟨rfl,by simp[Instr.findAsking,this,hg]⟩;exact .inr ⟨j+1,x,y,e',g,by congr 2;omega,by rw[show i+(j+1)=i+1+j by omega];simp[Instr.findAsking,this,hg],n,by simpa using q,s⟩;cases hf
end
theorem NR(b:Bool)(x y:Int)(w:World):(Instr.checkKey b 10000 89 (.agg #[.int .i64 x,.int .i64 y])).run prog w=.ok () w:=by
 have c:prog.underlying 89=_:=Tryz.underlying89;have e:prog.underlying 3=_:=Tryz.underlying3;have g3:∀n z,(Instr.checkKey b (n+1) 3 (.int .i64 z)).run prog w=.ok () w:=λn z=>by simp[Instr.checkKey,AN e]
 have d:Gl prog 3=some false:=by simp[go_sem]
 have p:∀(cs:Array Value) off v,cs[off]? = some v->(part 3 cs off).run prog w=.ok v w:=λcs off v h=>by simp[part,FG d,h]
 have a:∀n,(Instr.checkKey b (n+2) 89 (.agg #[.int .i64 x,.int .i64 y])).run prog w=.ok () w:=λn=>by
  rw[Instr.checkKey];simp only[Sem.run_bind,AN c,Result.andThen_ok];rw[<-Array.forIn_toList];simp[List.forIn_cons,p #[.int .i64 x,.int .i64 y] 0 (.int .i64 x) rfl,p #[.int .i64 x,.int .i64 y] 1 (.int .i64 y) rfl,g3]
 exact a 9998
section
variable{E:CC}{evs:Operand->SV}{o:Oper}{h:Hp}{n:Nat}{K:SV->Hp->Nat->Prop}
theorem Gi{c:TypeId}{d:Array Field}{v:Value}{a:List MapEntry}{r:Option (Nat×Value)}{w:World}(f:prog.underlying c=some (.struct d))(b:(Instr.findAsking c v a 0).run prog w=.ok r w):(Instr.findKey c v a).run prog w=.ok r w:=by
 cases a with
 | nil=>
  simp[Instr.findAsking]at b;subst b;simp[Instr.findKey,AN f,Instr.findNow]
 | cons e es=>
  have:Instr.findNow (.struct d) v (e::es) 0=none:=by simp[Instr.findNow,Instr.sameNow]
  simp[Instr.findKey,AN f,this,b]
theorem ZO:Zf prog 89:=⟨by kernel_rfl,by kernel_rfl⟩
theorem Zk{c:Cx}{a b:Int}{v:Value}(h:V c (.agg [.int .i64 a,.int .i64 b]) v):v=.agg #[.int .i64 a,.int .i64 b]:=by
 simp only[V,VL]at h;obtain⟨vs,rfl,⟨_,_,rfl,rfl,_,_,rfl,rfl,rfl⟩,_⟩:=h;rfl
end
section
variable{E:CC}{evs:Operand->SV}{o:Oper}{h:Hp}{n:Nat}{K:SV->Hp->Nat->Prop}
theorem cj:(Bt prog 89).map (λf=>(f.name == "_",f.type,f.offset))=[(false,3,0),(false,3,1)]:=by kernel_rfl
theorem ac{a b:Int}{g:List SV}(hl:g.length=2)(f:CS prog [.int .i64 a,.int .i64 b] g (Bt prog 89)=some true):g=[.int .i64 a,.int .i64 b]:=by
 rw[Ch,cj]at f
 match g,hl with
 | [x, y], _ =>
  have p:(L6 prog 3).isSome=true:=by simp[go_sem]
  have q:Br prog 3=1:=by simp[go_sem]
  have o:Gl prog 3=some false:=by simp[go_sem]
  have one:∀(c:Int)(z:SV)(r:Bool),DX prog 3 (.int .i64 c) z=some r->∃d,z=.int .i64 d/\r=(c==d):=λc z r hc=>by
   cases z with
   | int k d=>
    simp only[DX,p,q,o,and_true]at hc;split at hc;rename_i e;subst e;cases hc;exact⟨d,rfl,rfl⟩;cases hc
   | _=>simp[DX]at hc
  simp only[DG,qn,if_false,vw,List.getElem?_cons_succ]at f;cases h1:DX prog 3 (.int .i64 a) x with
  | none=>simp[h1]at f
  | some r1 =>
   cases r1 with
   | false=>simp[h1]at f
   | true =>
    simp only[h1]at f;cases h2:DX prog 3 (.int .i64 b) y with
    | none=>simp[h2]at f
    | some r2 =>
     cases r2 with
     | false=>simp[h2]at f
     | true=>
      obtain⟨j,rfl,m⟩:=one a x true h1;obtain⟨l,rfl,n⟩:=one b y true h2;have h:a=j:=by simpa using m.symm
      have i:b=l:=by simpa using n.symm
      rw[h,i]
theorem RG{e:TypeId}{cs:List SV}:∀(es:List (SV×SV))(i:Nat)(j:Nat)(x:SV),Ga prog e cs es i=some (some (i+j,x))->∃a v,es[j]? = some (.agg a,v)/\CS prog cs a (Bt prog e)=some true
 | [],i,j,x,h=>by simp[Ga]at h
 | p::es,i,j,x,h=>by
  simp only[Ga]at h;split at h<;>try cases h
  rename_i a c;split at h;rename_i f;simp only[qk,Prod.mk.injEq]at h;have:j=0:=by omega
  subst this;exact⟨a,p.2,by simp[<-c],f⟩
  . cases j with
    | zero =>
     exfalso;have d:∀(es:List (SV×SV))(i k:Nat)(x:SV),Ga prog e cs es i=some (some (k,x))->i<=k:=by
      intro es
      induction es with
      | nil=>intro i k x h;simp[Ga]at h
      | cons p es ih=>
       intro i k x h;simp only[Ga]at h;split at h<;>try cases h
       split at h;simp only[qk,Prod.mk.injEq]at h;omega;have:=ih _ _ _ h;omega;cases h
     have:=d _ _ _ _ h;omega
    | succ j=>
     obtain⟨b,v,h1,h2⟩:=RG es (i+1) j x (by rw[show i+1+j=i+(j+1)by omega];exact h);exact⟨b,v,by simpa using h1,h2⟩
  cases h
end
section
variable{E:CC}{evs:Operand->SV}{o:Oper}{h:Hp}{n:Nat}{K:SV->Hp->Nat->Prop}
def ZM(p:SV×SV):Prop:=∃a b:Int,p.1=.agg [.int .i64 a,.int .i64 b]
end
section
variable{P:Program}{E:CC}{evs:Operand->SV}{o:Oper}{h:Hp}{n:Nat}{K:SV->Hp->Nat->Prop}
theorem I9{t:TypeId}{x:Operand}{j off z len cap:Nat}(d:o.op=.call { callee:=.builtin .len,args:=#[x],argTypes:=#[t] })(ht:(BA P t).isSome=true)(l:evs x=.slc j off z len cap)(g:K (.int .i64 len) h n):DS E P evs o h n K:=by
 refine⟨by rw[d];simp,λc ev _ _ R F k=>?_⟩;have a:=k x;rw[l,V]at a;obtain⟨b,st,_,i,_⟩:=a;obtain⟨e,f⟩:=X6.1 ht;refine⟨.int .i64 len,.int .i64 len,h,n,c,BY (P:=P) (ev:=ev) d _ _ _ λcs=>?_,by rw[V],R,F,vm n c,g⟩;simp[builtin,Builtin.len_,AN (Ay f),goInt,i]
theorem LJ{t:TypeId}{x:Operand}{j off z len cap:Nat}(d:o.op=.call { callee:=.builtin .cap,args:=#[x],argTypes:=#[t] })(ht:(BA P t).isSome=true)(l:evs x=.slc j off z len cap)(g:K (.int .i64 cap) h n):DS E P evs o h n K:=by
 refine⟨by rw[d];simp,λc ev _ _ R F k=>?_⟩;have a:=k x;rw[l,V]at a;obtain⟨b,st,_,i,_⟩:=a;obtain⟨e,f⟩:=X6.1 ht;refine⟨.int .i64 cap,.int .i64 cap,h,n,c,BY (P:=P) (ev:=ev) d _ _ _ λcs=>?_,by rw[V],R,F,vm n c,g⟩;simp[builtin,Builtin.cap_,AN (Ay f),goInt,i]
theorem MR{isS:Bool}{len cap l m:Nat}{lo hi:Option Value}(b:(lo=none/\l=0)\/∃i,lo=some (.int i l))(a:(hi=none/\m=len)\/∃i,hi=some (.int i m))
 (h1:l<=m) (h2:m<=cap) (w:World):(Instr.sliceBounds isS len cap lo hi none).run P w=.ok (l,m,cap) w:=by
 have hb:=λ(code:BoundsCode)(i:IntKind)=>EA (P:=P) (i:=i) (n:=(l:Int)) (y:=m) (code:=code) (by omega) (by omega) w;have F8:=λ(code:BoundsCode)(i:IntKind)=>EA (P:=P) (i:=i) (n:=(m:Int)) (y:=cap) (code:=code) (by omega) (by omega) w;simp only[Int.toNat_natCast]at hb F8;rcases b with⟨rfl,hl⟩|⟨i,rfl⟩<;>rcases a with⟨rfl,c⟩|⟨j,rfl⟩
 simp[Instr.sliceBounds,hl,c];simp[Instr.sliceBounds,hl,F8];subst c;simp[Instr.sliceBounds,hb];simp[Instr.sliceBounds,hb,F8]
theorem Bl{t e:TypeId}{x:Operand}{lo hi:Option Operand}{j off z len cap l m:Nat}(s:o.op=.slice t x lo hi none)(ht:BA P t=some e)(H:Br P e=z)(hz0:z≠0)(G:evs x=.slc j off z len cap)
 (p:(lo=none/\l=0)\/∃y,lo=some y/\evs y=.int .i64 l) (f:(hi=none/\m=len)\/∃y,hi=some y/\evs y=.int .i64 m) (k:l<=m) (C:m<=cap) (hl2:l<cap\/l=0)
 (B:K (.slc j (off+l*z) z (m-l) (cap-l)) h n):DS E P evs o h n K:=by
 refine⟨by rw[s];simp,λc ev _ _ R F r=>?_⟩;have d:=r x;rw[G,V]at d;obtain⟨b,st,hρ,D,hcap,hroom⟩:=d;obtain⟨I,g,q⟩:=Dy (P:=P) (e:=e) (by omega);have A:(lo.map ev=none/\l=0)\/∃i,lo.map ev=some (.int i l):=by
  rcases p with⟨rfl,a⟩|⟨y,rfl,a⟩
  exact .inl ⟨rfl,a⟩;have:=r y;rw[a]at this;exact .inr ⟨.i64,by simp[DF this]⟩
 have v:(hi.map ev=none/\m=len)\/∃i,hi.map ev=some (.int i m):=by
  rcases f with⟨rfl,a⟩|⟨y,rfl,a⟩
  exact .inl ⟨rfl,a⟩;have:=r y;rw[a]at this;exact .inr ⟨.i64,by simp[DF this]⟩
 have u:=FO (P:=P) (Ay ht) ⟨I,g,q.symm.trans H⟩ (some ⟨b,st+off,none⟩) len cap l m cap (MR (isS:=true) A v k C c.w);rw[<-D]at u;refine⟨_,.slc j (off+l*z) z (m-l) (cap-l),h,n,c,by simp[execOp,s,u];rfl,?_,R,F,vm n c,B⟩;rw[V];refine⟨b,st,hρ,?_,by omega,?_⟩;split;rename_i a;have:l=0:=by omega
 subst this;simp;simp[FY,qu];have:l*z+(cap-l)*z=cap*z:=by rw[<-UI];congr 1;omega
 omega
theorem W5{c:Cx}{q off:Nat}{cs xs:List SV}{ty:Option TypeId}{us:List Value}{b st:Nat}(R:CF h c)(p:h q=some (.cells cs ty))(m:c.ρ q=some (b,st))
 (hle:off<=cs.length) (hge:cs.length<=off+xs.length) (d:st+off+us.length<=rm c.w b) (a:Ag (V c) xs us) (h1:∀x∈us,x.oneCell'=true):
 ∃w',(storeCells ⟨b,st+off,none⟩ us).run P c.w=.ok () w'/\CF (h_ h q (some (.cells (cs.take off++xs) ty))) { c with w:=w' }/\EH c { c with w:=w' }:=by
 obtain⟨r,st',arr,e,vs,n,j,g3,o,u,g6⟩:=R.obj _ _ p;rw[m]at n;cases n;have hl:=a.length;have hl2:=o.length;have l:rm c.w b=arr.size:=by simp[rm,j]
 rw[l]at d;have g:=run_storeCells_at (P:=P) b (st+off) e us 0 arr c.w j (by simpa using d) h1;simp only[UO]at g;refine⟨_,g,?_⟩;have f:=setRow_heap c.w b arr (arr.toList.take (st+off)++us++arr.toList.drop (st+off+us.length)).toArray e (0,0) j;refine R.write p m (GN _ _ _) (λr k=>Fi _ _ _ k) ?_ rfl rfl (λE=>?_);simp only[rm,j,f];simp;omega;refine⟨b,st,_,e,vs.take off++us,m,f,λi x a=>?_,wa E (vh (o.take off) a),λx a=>?_,g6⟩;simp only[List.getElem?_toArray,qj];have s:(arr.toList.take (st+off)).length=st+off:=by simp;omega
 have t:(vs.take off).length=off:=by simp;omega
 by_cases hi:i<off;rw[qZ (by omega)]at a ⊢;rw[JY,if_pos (by omega)]at a ⊢;simpa using g3 i x a;rw[qT (by omega),t]at a;have hi2:=(qh.1 a).1;rw[qT (by omega),s,qZ (by omega),show st+i-(st+off)=i-off by omega];exact a;rcases qd.1 a with a|a;exact u x (qS a);exact h1 x a
theorem Pb{t t2 e:TypeId}{x y:Operand}{j z d B g a sl m k:Nat}{cs:List SV}{ty:Option TypeId}(U:o.op=.call { callee:=.builtin .copy,args:=#[x,y],argTypes:=#[t,t2] })(ht:BA P t=some e)(hz:Br P e=z)(hz0:z≠0)
 (L:evs x=.slc j d z B g) (hy:evs y=.slc j a z sl m) (S:h j=some (.cells cs ty)) (T:Nat.min sl B=k) (hin:a+k*z<=cs.length) (G:d<=cs.length) (C:cs.length<=d+k*z)
 (hK:K (.int .i64 k) (h_ h j (some (.cells (cs.take d++(cs.drop a).take (k*z)) ty))) n):DS E P evs o h n K:=by
 refine⟨by rw[U];simp,λc ev _ _ R F l=>?_⟩;have u:=l x;have A:=l y;rw[L,V]at u;rw[hy,V]at A;obtain⟨b,st,hρ,hu,p,hroom⟩:=u;obtain⟨Y,N,hρ',J,hcap',hroom'⟩:=A;rw[hρ]at hρ';cases hρ';obtain⟨ii,D,I⟩:=Dy (P:=P) (e:=e) (by omega);obtain⟨Y,N,arr,e',vs,O,Z,g3,Q,g5,g6⟩:=R.obj _ _ S;rw[hρ]at O;cases O;have hvl:=Q.length;have s:((vs.drop a).take (k*z)).length=k*z:=by simp;omega
 have M:((cs.drop a).take (k*z)).length=k*z:=by simp;omega
 have q:∀x∈(vs.drop a).take (k*z),x.oneCell'=true:=λx L=>g5 x (JJ (qS L));have hkd:k*z<=B*z:=YR _ (by rw[<-T];exact Nat.min_le_right _ _);have hdc:B*z<=g*z:=YR _ p;obtain⟨w',H,W,X⟩:=W5 (P:=P) (off:=d) R S hρ G (by rw[M];exact C) (by rw[s];omega) ((Q.drop a).take (k*z)) q;have f:(Builtin.firstCells z k (.slice (some ⟨b,st+a,none⟩) sl m)).run P c.w=.ok ((vs.drop a).take (k*z)).toArray c.w:=by
  have:=run_loadCells_list (P:=P) c.w ⟨b,st+a,none⟩ ((vs.drop a).take (k*z)) (λi v l=>by
   rw[C4 rfl];rw[JY]at l;split at l;rw[Km]at l;have:=g3 _ _ l;simp only[World.cell?,Z,qu];simpa using this;cases l)
  rw[s]at this;simpa[Builtin.firstCells]using this
 refine⟨.int .i64 k,.int .i64 k,_,n,_,BY (P:=P) (ev:=ev) U _ _ _ λc2=>?_,by rw[V],W,F,⟨X,qa _,λ_ _=>rfl⟩,hK⟩;have r:ii.size=z:=I.symm.trans hz;simp[builtin,Builtin.copy_,AN (Ay ht),sizeOf,typeInfo,D,r,Builtin.lenOf,hu,J,T,f,H,goInt]
theorem MU{t tn e:TypeId}{x y:Operand}{j off z len cap k:Nat}{cs:List SV}{ty:Option TypeId}(ho:o.op=.call { callee:=.builtin .append,args:=#[x,y],argTypes:=#[t,tn] })(ht:BA P t=some e)(htn:L6 P tn=some .i64)
 (hz:Br P e=z) (hz0:z≠0) (hst:(BK P e).B=true) (hzl:(BK P e).cells.length=z) (hby:Bw P e<=65536) (hx:evs x=.slc j off z len cap) (hy:evs y=.int .i64 k) (hk0:0<k) (hgt:cap<len+k) (hbig:len+k<=1073741824)
 (hj:h j=some (.cells cs ty)) (hin:off+len*z<=cs.length)
 (hK:K (.sl n 0 z (len+k) false) (h_ h n (some (.cells ((cs.drop off).take (len*z)++(List.replicate k (BK P e).cells).flatten)))) (n+1)):DS E P evs o h n K:=by
 refine⟨by rw[ho];simp,λc ev _ _ R F hv=>?_⟩;have hvx:=hv x;have hvy:=hv y;rw[hx,V]at hvx;rw[hy]at hvy;have hvy:=DF hvy;obtain⟨b,st,hρ,hu,hcap,hroom⟩:=hvx;obtain⟨ii,hi,hsz⟩:=Dy (P:=P) (e:=e) (by omega);have hsz2:ii.size=z:=hsz.symm.trans hz;obtain⟨i',zv,hi',hzz,hze⟩:=CB hst;rw[hi]at hi';cases hi';have hvz:=C3 c zv;rw[<-hze]at hvz;have hzsize:zv.cells.size=z:=by have:=(hvz.cells hst).1.length;simp at this;omega
 have hbb : ii.bytes ≤ 65536 := by have : Bw P e = ii.bytes := by simp [Bw, Program.bytesOf, hi]
                                   omega
 obtain⟨b',st',arr,e',vs,g1,g2,g3,g4,g5,g6⟩:=R.obj _ _ hj;rw[hρ]at g1;cases g1;have hvl:=g4.length;have hul:((vs.drop off).take (len*z)).length=len*z:=by simp;omega
 obtain⟨zr,z1⟩:=Gy hvz hst k;have BV:(Builtin.firstCells ii.size len (.slice (some ⟨b,st+off,none⟩) len cap)).run P c.w.drew=.ok ((vs.drop off).take (len*z)).toArray c.w.drew:=by
  have:=run_loadCells_list (P:=P) c.w.drew ⟨b,st+off,none⟩ ((vs.drop off).take (len*z)) (λi v hv=>by
   rw[C4 rfl];rw[JY]at hv;split at hv;rw[Km]at hv;have:=g3 _ _ hv;simp only[World.cell?,Gt,g2,qu];simpa using this;cases hv)
  rw[hul]at this;rw[hsz2];simpa[Builtin.firstCells]using this
 have hmul:(len+k)*ii.bytes<=1073741824*65536:=Nat.mul_le_mul hbig hbb;have hmul2:k*ii.bytes<=1073741824*65536:=Nat.mul_le_mul (by omega) hbb;have hr:=Lib.run_append_grow_zeros (P:=P) c.w t tn o.type e ii zv .i64 .i64 (Ay ht) (Gw htn) hi hzz (some ⟨b,st+off,none⟩) len cap _ BV k hk0 (by omega) hgt (by omega) (by omega) (growslice_fits hgt (by omega));have hcell:=EX zv.cells (by omega) k;have hfr:c.ρ n=none:=F n (qa n);have Rn:=Lq (k:=n) (e:=e) (ty:=none) (cs:=(cs.drop off).take (len*z)++(List.replicate k (BK P e).cells).flatten) (vs:=(vs.drop off).take (len*z)++(Builtin.zeroCells zv.cells k).toList) (arr:=((vs.drop off).take (len*z)).toArray++Builtin.zeroCells zv.cells k++Builtin.zeroCells zv.cells (grownCap c.w (len+k) cap e-(len+k))) R.drew (by exact hfr)
  (vh (wa c.c_ ((g4.drop off).take (len*z))) (by rw[show(Builtin.zeroCells zv.cells k).toList=(List.replicate k zv.cells.toList).flatten from hcell];exact wa c.c_ zr))
  (λx hx=>by
    rcases qd.1 hx with hx|hx;exact g5 x (JJ (qS hx));rw[show(Builtin.zeroCells zv.cells k).toList=(List.replicate k zv.cells.toList).flatten from hcell]at hx;exact z1 x hx)
  (λi x hx=>by
    have hlt:=(qh.1 hx).1;rw[Uo (by simpa using hlt)];rw[<-Array.getElem?_toList];simpa using hx) Ty.none
 have En:=c.c_.trans (c.drew.CZ n (.cells (((vs.drop off).take (len*z)).toArray++Builtin.zeroCells zv.cells k++Builtin.zeroCells zv.cells (grownCap c.w (len+k) cap e-(len+k))) e) (by exact hfr));have hcap2:len+k<=grownCap c.w (len+k) cap e:=by unfold grownCap;exact Nat.le_add_right _ _
 refine⟨.slice (some ⟨c.w.heap.size,0,none⟩) (len+k) (grownCap c.w (len+k) cap e),.sl n 0 z (len+k) false,_,n+1,_,BY (P:=P) (ev:=ev) ho _ _ _ λc2=>?_,?_,Rn,?_,⟨En,by omega,λj hj=>?_⟩,hK⟩;simp only[builtin,Sem.run_bind,List.map_toArray,qr,Yo,hu,hvy];rw[hr];rfl;rw[V];refine⟨c.w.heap.size,0,grownCap c.w (len+k) cap e,by simp[Cx.alloc,Cx.drew,Gt],by simp,hcap2,by simp,?_⟩;have e6:(len+k)*z+(grownCap c.w (len+k) cap e-(len+k))*z=grownCap c.w (len+k) cap e*z:=by rw[<-UI];congr 1;omega
 have e8:len*z+k*z=(len+k)*z:=by rw[UI]
 have e7:rm (c.drew.alloc n (.cells (((vs.drop off).take (len*z)).toArray++Builtin.zeroCells zv.cells k++Builtin.zeroCells zv.cells (grownCap c.w (len+k) cap e-(len+k))) e)).w c.w.heap.size =
  (((vs.drop off).take (len*z)).toArray++Builtin.zeroCells zv.cells k++Builtin.zeroCells zv.cells (grownCap c.w (len+k) cap e-(len+k))).size:=by
  simp[rm,Cx.alloc,Cx.drew,Bu,Gt]
 rw[e7];simp only[Array.size_append,List.size_toArray,hul,Builtin.zeroCells,Array.size_map,Array.size_range,hzsize];omega;intro j hj;have:j≠n:=by omega
 simp[Cx.alloc,Cx.drew,this];exact F j (by omega);have:j≠n:=by omega
 simp[Cx.alloc,Cx.drew,this]
def aC(o:Oper):Bool:=match o.op with|.call { callee:=.value (.func f),.. }=>f==183||f==324|_=>false
def IY(E:CC)(P:Program)(ops:Array Oper)(Q:SA->Hp->Nat->Prop):List Oper->SA->Hp->Nat->Prop
 | [],sa,h,n=>Q sa h n
 | o::rest,sa,h,n=>o.guard=none/\
  if aC o=true then DS E P (Hc sa) o h n λv h' n'=>IY E P ops Q rest (Ek sa o.dst v) h' n' else MY E P o sa h n λv h' n'=>IY E P ops Q rest (Ek sa o.dst v) h' n'
variable{N:Nat}{ops:Array Oper}
theorem MV{Q:SA->Hp->Nat->Prop}(m:Cu)(s:∀sa h n,Q sa h n->m .normal sa h n):∀(l:List Oper)(sa:SA)(h:Hp)(n n0:Nat)(c0 c:Cx)(a:Act),(∀o∈l,o.dst.all (· < N)=true)->
 IY E P ops Q l sa h n->E.inv c->CF h c->Fr n c->FR E N sa c a->GB n0 c0 n c->wpListIn E.fc 0 P ops (Vr E N n0 c0 m) l a c.w
 | [],sa,h,n,n0,c0,c,a,_,H,I,R,F,A,X=>⟨sa,h,n,c,s _ _ _ H,rfl,R,F,A,X⟩
 | o :: rest, sa, h, n, n0, c0, c, a, hd, H, I, R, F, A, X => by
  have q:∀d,o.dst=some d->d<N:=λd e=>by have:=hd o (by simp);rw[e]at this;simpa using this
  simp only[IY]at H;simp only[wpListIn];obtain⟨hg,H⟩:=H;have r:Dv ops sa o=some true:=by simp[Dv,hg]
  rw[Hm A r,if_pos rfl];have fin:∀v h' n' b u,IY E P ops Q rest (Ek sa o.dst v) h' n'->V b v u->CF h' b->Fr n' b->GB n c n' b->wpListIn E.fc 0 P ops (Vr E N n0 c0 m) rest (a.put o.dst u) b.w:=λv h' n' b u j k i g f=>
   MV m s rest _ h' n' n0 c0 b _ (λo t=>hd o (by simp[t])) j (E.ext f.ext I) i g ((A.ext f.ext).put q k) (X.trans f)
  split at H;obtain⟨p,H⟩:=H;refine⟨λ_ _=>trivial,?_⟩;rw[Oper.semAt_eq _ _ _ p];obtain⟨u,v,h',n',b,x,k,i,g,f,j⟩:=H c a.eval (λ_=>rfl) I R F A.ev;rw[x];exact fin v h' n' b u j k i g f;exact JE H I R F A λv h' n' b u j k i g f=>fin v h' n' b u j k i g f
theorem MC{id:Nat}{Q:Cu}{sa:SA}{h:Hp}{n:Nat}(H:IY E P ops (Q .normal) ops.toList sa h n):Ic E P N (.region id ops false) Q sa h n:=by
 intro b c a I R F A;simp only[Code.dok,YO]at b;exact wpIn_region_list (MV Q (λ_ _ _ h=>h) _ sa h n n c c a b H I R F A (vm n c))
end
section
variable{E:CC}{evs:Operand->SV}{o:Oper}{h:Hp}{n:Nat}{K:SV->Hp->Nat->Prop}
theorem QO{f x y:Operand}{ts:Array TypeId}{k j off len cap:Nat}{a b T:SV}{full:Bool}{t:List SV}{ty ty':Option TypeId}(N:o.op=.call { callee:=.value f,args:=#[x,y],argTypes:=ts })(Z:evs f=.fn (.func 183) [] [])
 (hx:evs x=.sl k 0 3 1 full) (hy:evs y=.slc j off 3 len cap) (z:k≠j) (M:h k=some (.cells [a,b,T] ty)) (L:h j=some (.cells t ty')) (u:t≠[]) (Y:K (.bool false) h n):DS E prog evs o h n K:=by
 refine⟨by rw[N];simp,λc ev _ _ R F G=>?_⟩;have g:=G f;have q:=G x;have r:=G y;rw[Z,V]at g;obtain⟨xs,ys,g,h1,h2⟩:=g;simp only[VL]at h1 h2;subst h1;subst h2;rw[hx,V]at q;rw[hy,V]at r;obtain⟨bk,J,l,hρk,D,_⟩:=q;obtain⟨s,I,hρj,C,_⟩:=r;obtain⟨b1,s1,m,W,vk,O,H,p3,p4,_⟩:=R.obj _ _ M;rw[hρk]at O;cases O;obtain⟨b2,s2,i,U,S,Q,q2,q3,q4,_⟩:=R.obj _ _ L;rw[hρj]at Q;cases Q;have hb:bk≠s:=by
  rintro rfl;exact z (R.inj k j _ _ bk J I M L hρk hρj)
 have v:i.size≠0:=by
  have hl:=q4.length;have:0<t.length:=qH.2 u;have h0:S[0]? = some S[0]:=qe (by omega);have:=(qp.1 (q3 _ _ h0)).1;omega
 obtain⟨i42,p,X⟩:=qN.1 (show(prog.info? 42).map (·.size)=some 3 by kernel_rfl);have B:∀w,(Go.sizeOf 42).run prog w=.ok 3 w:=λw=>by simp[sizeOf,typeInfo,p,X]
 have A:=Lib.run_overlaps_apart (P:=prog) c.w 30 4 42 Tryz.underlying30 3 B ⟨bk,J+0,none⟩ ⟨s,I+off,none⟩ 1 l len cap hb W U m.size i.size (by simp[World.shape?,H]) (by simp[World.shape?,q2]) v (by simp[World.frozen?,H]) (by simp[World.frozen?,H]);have d:=run_callFunc_extern (P:=prog) func183 (by kernel_rfl) (by kernel_rfl) (by kernel_rfl) (e:=Extern.SlicesOverlaps.overlaps #[30,30] #[4]) (by kernel_rfl) #[.slice (some ⟨bk,J+0,none⟩) 1 l,.slice (some ⟨s,I+off,none⟩) len cap] c.w;rw[A]at d;refine⟨.bool false,.bool false,h,n,c,?_,by rw[V],R,F,vm n c,Y⟩;simp only[Result.andThen_ok]at d;simp[execOp,N,resolve,Deferred.ofValue,g,invoke,D,C];simpa using d
end
theorem Ap.cap{E:CC}{P:Program}{f:FuncId}{us:List SV}{o off z len:Nat}{full:Bool}{h:Hp}{n:Nat}{Q:SV->Hp->Nat->Prop}(H:∀cap,len<=cap->Ap E P f (.slc o off z len cap::us) h n Q):Ap E P f (.sl o off z len full::us) h n Q:=by
 refine⟨(H len (qa _)).1,λc vs I R F A=>?_⟩
 match vs,A with
 | v::vs,A=>
  obtain⟨d,g⟩:=A;rw[V]at d;obtain⟨b,st,cap,h1,h2,a,_,e⟩:=d;exact(H cap a).2 c (v::vs) I R F ⟨by rw[V];exact⟨b,st,h1,h2,a,e⟩,g⟩
def SO:Tr:=.pure 0 (.pure 1 (.pure 2 (.pure 3 (.pure 5 (.pure 6 (.two 4 7 (.one 7 (.one 8 .nil)) (.one 4 (.one 8 .nil))))))))
def CA(l:List BC):List SV:=(l.map BC.e).flatMap SV.cells
theorem HH(l:List BC):(CA l).length=l.length*3:=by
 have:=BO (z:=3) (BC.E.size l);rw[qf]at this;exact this
theorem Lr(l:List BC)(i:Nat)(hi:i<=l.length):(CA l).take (i*3)=CA (l.take i):=by
 have h1:CA l=CA (l.take i)++CA (l.drop i):=by
  unfold CA;rw[<-Jk,<-qc,qM]
 have h2:=HH (l.take i);rw[h1,vb (by rw[h2];simp;omega),qv (by rw[h2];simp;omega)]
theorem PY(l:List BC)(i:Nat)(hi:i<=l.length):(CA l).drop (i*3)=CA (l.drop i):=by
 have h1:CA l=CA (l.take i)++CA (l.drop i):=by
  unfold CA;rw[<-Jk,<-qc,qM]
 have h2:=HH (l.take i);rw[h1,List.drop_append_of_le_length (by rw[h2];simp;omega),UX (by rw[h2];simp;omega)];rfl
theorem Rp(a b:List BC):CA (a++b)=CA a++CA b:=by unfold CA;rw[qc,Jk]
def FB(l:List BC)(i:Nat)(r:BC):List BC:=l.take i++r::l.drop i
theorem RR(l:List BC)(i:Nat)(r:BC)(hi:i<=l.length):(FB l i r).length=l.length+1:=by unfold FB;simp;omega
theorem cB(l:List BC)(hl:l.length<=1048576)(i:Nat)(hi:i<l.length)(r:BC){H:Hp}{n o k cap:Nat}(G:l.length<=cap)(F:H o=some (.cells (CA l)))(N:H k=some (.cells [AA r.id,.str r.O,AA r.time]))(J:k≠o):
 BL prog 117 [.slc o 0 3 l.length cap,AA i,.sl k 0 3 1 true] H n (λv h' n'=>v=BE (FB l i r)/\h'=h_ H o none/\n'=n):=by
 refine DO func117 rfl λI=>?_;have u:=I.lt;have ht:BA prog 30=some 42:=by simp[go_sem]
 have f:Br prog 42=3:=by simp[go_sem]
 have Y:(BK prog 42).B=true:=by simp[go_sem]
 have M:(BK prog 42).cells.length=3:=by simp[go_sem]
 have hb:Bw prog 42<=65536:=by simp[go_sem]
 have hti:L6 prog 3=some .i64:=by simp[go_sem]
 have B:(BA prog 30).isSome=true:=by rw[ht];rfl
 have hC:=HH l;have K:=u o _ F;have hkn:=u k _ N;have w1:=wS i (by omega);have w2:IntKind.i64.wrap ((l.length:Int)+1)=((l.length+1:Nat):Int):=by rw[DA]<;>omega
 refine CG 0 [(0,.slc o 0 3 l.length cap),(1,AA i),(2,.sl k 0 3 1 true)] H n (AJ ?_) (λm a=>?_);simp[go_sem,IO];subst a;refine CG 0 [(0,.slc o 0 3 l.length cap),(1,AA i),(2,.sl k 0 3 1 true)] H n (AJ ?_) (λm a=>?_);simp[go_sem];refine Bl (j:=o) (off:=0) (z:=3) (len:=l.length) (cap:=cap) (l:=i) (m:=l.length) rfl ht f (by omega) (by simp[go_sem]) (.inr ⟨_,rfl,by simp[go_sem]⟩) (.inl ⟨rfl,rfl⟩) (by omega) G (by omega) ?_;simp[go_sem,IO];subst a;refine CG 0 [(0,.slc o 0 3 l.length cap),(1,AA i),(2,.sl k 0 3 1 true),(7,AA 1)] H n (AJ ?_) (λm a=>?_);simp[go_sem,IO];subst a;refine CG 0 [(0,.slc o 0 3 l.length cap),(1,AA i),(2,.sl k 0 3 1 true),(7,AA 1)] H n (AJ ?_) (λm a=>?_);simp[go_sem,IO];subst a;refine CG 0 [(0,.slc o 0 3 l.length cap),(1,AA i),(2,.sl k 0 3 1 true),(7,AA 1),(8,AA l.length)] H n (AJ ?_) (λm a=>?_);simp[go_sem];refine I9 (j:=o) (off:=0) (z:=3) (len:=l.length) (cap:=cap) rfl B (by simp[go_sem]) ?_;simp[go_sem,IO];subst a;refine CG 0 [(0,.slc o 0 3 l.length cap),(1,AA i),(2,.sl k 0 3 1 true),(7,AA 1),(8,AA l.length)] H n (AJ ?_) (λm a=>?_);have:((i:Int)==l.length)=false:=by simp;omega
 simp[go_sem,IO,this];subst a;have fin:∀(q:Nat)(full:Bool)(h':Hp)(n':Nat),n<=q\/q=o->h' q=some (.cells (CA (FB l i r)))->(∀j,j<n->j≠o->h' j=H j)->CO n h' n' (.sl q 0 3 (l.length+1) full) (λv h' n'=>v=BE (FB l i r)/\h'=h_ H o none/\n'=n):=λq full h' n' L hc hh=>by
  have hcs:=HH (FB l i r);have K:h_ H o none q=none:=by
   rcases L with L|rfl;rw[AE _ _ (by omega)];exact I.none L;exact AD _ _ _
  refine .inr ⟨1,BE (FB l i r),h_ H o none,?_,BC.E.i _ _ _ _,λj y s=>?_,rfl,rfl,rfl⟩;have:=Cz (h':=h') (h:=h_ H o none) (k:=0) (z:=3) (es:=(FB l i r).map BC.e) (full:=full) (full':=false) (o:=q) K (by simp) hc (BC.E.size _);rw[qf,RR _ _ _ (by omega)]at this;exact this;by_cases C:j=o;subst C;rw[AD]at s;cases s;rw[AE _ _ C]at s;have:=u j y s;exact⟨by rw[hh j this C];exact s,I j y s⟩
 have w:CA [r]=[AA r.id,.str r.O,AA r.time]:=by simp[CA,BC.e,SV.cells]
 have t:CA (FB l i r)=CA (l.take i)++(CA [r]++CA (l.drop i)):=by
  rw[<-Rp,<-Rp];rfl
 have X:(CA (l.take i)).length=i*3:=by rw[HH];simp;omega
 have W:(CA (l.drop i)).length=(l.length-i)*3:=by rw[HH];simp
 have hrl:(CA [r]).length=3:=by rw[w];rfl
 by_cases hc:cap<l.length+1;refine Gz ?_;refine CG 0 [(0,.slc o 0 3 l.length cap),(1,AA i),(2,.sl k 0 3 1 true),(7,AA 1),(8,AA l.length),(31,.bool true)] H n (AJ ?_) (λm a=>?_);simp[go_sem,w2];refine LJ (j:=o) (off:=0) (z:=3) (len:=l.length) (cap:=cap) rfl B (by simp[go_sem]) ?_;have:(cap:Int)<(l.length:Int)+1:=by omega
 simp[go_sem,IO,this];subst a;refine Au (b:=true) (by simp[go_sem]) ?_;simp only[if_true];obtain⟨Z,hZ⟩:∃Z,Z=(List.replicate (l.length+1-i) (BK prog 42).cells).flatten:=⟨_,rfl⟩
 have hZl:Z.length=(l.length+1-i)*3:=by rw[hZ,List.length_flatten];simp[M]
 refine Bg 1 [(0,.sl o 0 3 l.length false),(1,AA i),(2,.sl k 0 3 1 true),(7,AA 1),(9,.sl n 0 3 (l.length+1) false)] (h_ H n (some (.cells (CA (l.take i)++Z)))) (λm=>n+1=m) (AJ ?_) (λm a=>?_);simp[go_sem];refine Bl (j:=o) (off:=0) (z:=3) (len:=l.length) (cap:=cap) (l:=0) (m:=i) rfl ht f (by omega) (by simp[go_sem]) (.inl ⟨rfl,rfl⟩) (.inr ⟨_,rfl,by simp[go_sem]⟩) (by omega) (by omega) (by omega) ?_;have w3:IntKind.i64.wrap (((l.length+1:Nat):Int)-i)=((l.length+1-i:Nat):Int):=by rw[DA]<;>omega
 simp[go_sem,w2,w3,-Int.natCast_add];refine MU (j:=o) (off:=0) (z:=3) (len:=i) (cap:=cap) (k:=l.length+1-i) (e:=42) rfl ht hti f (by omega) Y M hb (by simp[go_sem]) (by simp[go_sem]) (by omega) (by omega) (by omega) F (by omega) ?_;rw[<-hZ];have C:((CA l).drop 0).take (i*3)=CA (l.take i):=by rw[vt];exact Lr l i (by omega)
 have s:i+(l.length+1-i)=l.length+1:=by omega
 rw[C,s];simp[go_sem,Fz];subst a;have p:¬((i:Int)=l.length+1):=by omega
 have d:(i:Int)<=l.length+1:=by omega
 have g:∀(y:Option Bb),h_ H n y k=some (.cells [AA r.id,.str r.O,AA r.time]):=λy=>by rw[AE _ _ (by omega)];exact N
 have S:∀(y:Option Bb),h_ H n y o=some (.cells (CA l)):=λy=>by rw[AE _ _ (by omega)];exact F
 refine Bg 0 [(0,.sl o 0 3 l.length false),(1,AA i),(7,AA 1),(9,.sl n 0 3 (l.length+1) false)] (h_ H n (some (.cells (CA (l.take i)++(CA [r]++Z.drop 3))))) (λm=>n+1=m) (AJ ?_) (λm a=>?_);have c:Nat.min 1 (l.length+1-i)=1:=Ut (by omega);have h0:¬(l.length+1-i=0):=by omega
 have D:i*3+3<=i*3+Z.length:=by omega
 have T:(CA (l.take i)).drop (i*3+3)=[]:=UX (by omega);simp[go_sem,p,d,g,AD,c,X,D,IO,Ah,List.drop_append,w,T];subst a;refine AX 0 (α:=Unit) (λ_=>[(9,.sl n 0 3 (l.length+1) false)]) (λ_=>h_ H n (some (.cells (CA (FB l i r))))) (λ_ m=>n+1=m) (CK SO rfl (by kernel_rfl) (by kernel_rfl) ?_) (λ_ m a=>?_);have V:¬((i:Int)=l.length):=by omega
 have U:(i:Int)<=l.length:=by omega
 have O:(i:Int)+1<=l.length+1:=by omega
 have c:Nat.min (l.length-i) (l.length-i)=l.length-i:=Nat.min_self _;have h0:¬(l.length-i=0):=by omega
 have h1:((i:Int)+1).toNat=i+1:=by omega
 have h2:(0:Int)<=(i:Int)+1:=by omega
 have h3:((l.length:Int)+1-((i:Int)+1)).toNat=l.length-i:=by omega
 have h4:i*3+(l.length-i)*3<=(CA l).length:=by omega
 have D:((CA l).drop (i*3)).take ((l.length-i)*3)=CA (l.drop i):=by rw[PY l i (by omega)];exact qv (by omega)
 have P:(CA (l.take i)++(CA [r]++Z.drop 3)).take ((i+1)*3)=CA (l.take i)++CA [r]:=by
  rw[<-qj];exact List.take_left' (by rw[qq];omega)
 have R:(CA (l.take i)++(CA [r]++Z.drop 3)).drop ((i+1)*3+(l.length-i)*3)=[]:=UX (by simp only[qq,vf];omega);have h8:(i+1)*3+(l.length-i)*3<=(CA (l.take i)++(CA [r]++Z.drop 3)).length:=by simp only[qq,vf];omega
 have h9:(CA (l.drop i)).take ((l.length-i)*3)=CA (l.drop i):=qv (by omega);rw[t,<-qj];generalize(CA (l.take i)++(CA [r]++Z.drop 3))=A at *;simp[go_sem,SO,w1,V,U,O,h1,h2,h3,h4,D,P,R,h8,h9,S,AD,c,h0,W,IO,Ah];subst a;refine AJ ?_;simp[go_sem];exact fin n false _ _ (.inl (qa n)) (AD _ _ _) λj hj _=>AE _ _ (by omega);refine CG 0 [(0,.slc o 0 3 l.length cap),(1,AA i),(2,.sl k 0 3 1 true),(7,AA 1),(8,AA l.length)] H n ?_ (λm a=>?_);refine CG 0 [(0,.slc o 0 3 l.length cap),(1,AA i),(2,.sl k 0 3 1 true),(7,AA 1),(8,AA l.length),(31,.bool false)] H n (AJ ?_) (λm a=>?_);simp[go_sem,w2];refine LJ (j:=o) (off:=0) (z:=3) (len:=l.length) (cap:=cap) rfl B (by simp[go_sem]) ?_;have:¬((cap:Int)<(l.length:Int)+1):=by omega
 simp[go_sem,IO,this];subst a;refine AJ ?_;simp[go_sem,IO];subst a;refine CG 0 [(0,.slc o 0 3 (l.length+1) cap),(1,AA i),(2,.sl k 0 3 1 true),(7,AA 1),(8,AA l.length)] H n (AJ ?_) (λm a=>?_);simp[go_sem,w2,-Int.natCast_add];refine Bl (j:=o) (off:=0) (z:=3) (len:=l.length) (cap:=cap) (l:=0) (m:=l.length+1) rfl ht f (by omega) (by simp[go_sem]) (.inl ⟨rfl,rfl⟩) (.inr ⟨_,rfl,by simp[go_sem]⟩) (by omega) (by omega) (by omega) ?_;simp[go_sem,IO];subst a;refine Gz ?_;refine AX 0 (α:=Unit) (λ_=>[(0,.slc o 0 3 (l.length+1) cap),(1,AA i),(2,.sl k 0 3 1 true),(7,AA 1),(68,.bool true)]) (λ_=>H) (λ_ m=>n=m) (MC ?_) (λ_ m a=>?_);simp[go_sem,IY,aC,w1,-Int.natCast_add];refine Bl (j:=o) (off:=0) (z:=3) (len:=l.length+1) (cap:=cap) (l:=i+1) (m:=l.length+1) rfl ht f (by omega) (by simp[go_sem]) (.inr ⟨_,rfl,by simp[go_sem]⟩) (.inl ⟨rfl,rfl⟩) (by omega) (by omega) (by omega) ?_;simp[go_sem];refine QO (k:=k) (j:=o) (off:=(i+1)*3) (len:=l.length-i) (cap:=cap-(i+1)) (full:=true) rfl (by simp[go_sem]) (by simp[go_sem]) (by simp[go_sem]) J N F (λe=>by rw[e]at hC;simp at hC;omega) ?_;simp[go_sem,IO];subst a;refine Au (b:=true) (by simp[go_sem]) ?_;simp only[if_true];have g1:(CA l).take ((i+1)*3)=CA (l.take (i+1)):=Lr l (i+1) (by omega);have g2:((CA l).drop (i*3)).take ((l.length-i)*3)=CA (l.drop i):=by rw[PY l i (by omega)];exact qv (by omega)
 have A1:∀{evs:Operand->SV} {x y:Operand} {o':Oper} {Q:SV->Hp->Nat->Prop},o'.op=.call { callee:=.builtin .copy,args:=#[x,y],argTypes:=#[30,30] }->evs x=.slc o ((i+1)*3) 3 (l.length-i) (cap-(i+1))->evs y=.slc o (i*3) 3 (l.length+1-i) (cap-i)->Q (.int .i64 ↑(l.length-i)) (h_ H o (some (.cells (CA (l.take (i+1))++CA (l.drop i))))) n->DS (CC.plain.call false 0) prog evs o' H n Q:=λI hx hy L=>
  Pb (k:=l.length-i) I ht f (by omega) hx hy F (Nat.min_eq_right (by omega)) (by omega) (by omega) (by omega) (by rw[g1,g2];exact L)
 refine AX 1 (α:=Unit) (λ_=>[(0,.sl o 0 3 (l.length+1) false),(1,AA i),(2,.sl k 0 3 1 true)]) (λ_=>h_ H o (some (.cells (CA (l.take (i+1))++CA (l.drop i))))) (λ_ m=>n=m) (CK SO rfl (by kernel_rfl) (by kernel_rfl) ?_) (λ_ m a=>?_);simp[go_sem,SO,w1,-Int.natCast_add];have C:l.length+1-(i+1)=l.length-i:=by omega
 refine⟨?_,?_⟩;refine Bl (j:=o) (off:=0) (z:=3) (len:=l.length+1) (cap:=cap) (l:=i+1) (m:=l.length+1) rfl ht f (by omega) (by simp[go_sem]) (.inr ⟨_,rfl,by simp[go_sem]⟩) (.inl ⟨rfl,rfl⟩) (by omega) (by omega) (by omega) ?_;simp[go_sem];refine Bl (j:=o) (off:=0) (z:=3) (len:=l.length+1) (cap:=cap) (l:=i) (m:=l.length+1) rfl ht f (by omega) (by simp[go_sem]) (.inr ⟨_,rfl,by simp[go_sem]⟩) (.inl ⟨rfl,rfl⟩) (by omega) (by omega) (by omega) ?_;simp[go_sem];refine A1 rfl (by simp[go_sem]) (by simp[go_sem]) ?_;simp[go_sem,Fz];refine Bl (j:=o) (off:=0) (z:=3) (len:=l.length+1) (cap:=cap) (l:=i) (m:=l.length+1) rfl ht f (by omega) (by simp[go_sem]) (.inr ⟨_,rfl,by simp[go_sem]⟩) (.inl ⟨rfl,rfl⟩) (by omega) (by omega) (by omega) ?_;simp[go_sem,-Int.natCast_add];refine Bl (j:=o) (off:=0) (z:=3) (len:=l.length+1) (cap:=cap) (l:=i+1) (m:=l.length+1) rfl ht f (by omega) (by simp[go_sem]) (.inr ⟨_,rfl,by simp[go_sem]⟩) (.inl ⟨rfl,rfl⟩) (by omega) (by omega) (by omega) ?_;simp[go_sem];refine A1 rfl (by simp[go_sem]) (by simp[go_sem]) ?_;simp[go_sem,Fz];subst a;have g3:(CA (l.take (i+1))).length=(i+1)*3:=by rw[HH];simp;omega
 refine CG 0 [(0,.sl o 0 3 (l.length+1) false)] (h_ H o (some (.cells (CA (FB l i r))))) n (AJ ?_) (λm a=>?_);have p:¬((i:Int)=l.length+1):=by omega
 have d:(i:Int)<=l.length+1:=by omega
 have g:∀(y:Option Bb),h_ H o y k=some (.cells [AA r.id,.str r.O,AA r.time]):=λy=>by rw[AE _ _ J];exact N
 have c:Nat.min 1 (l.length+1-i)=1:=Ut (by omega);have h0:¬(l.length+1-i=0):=by omega
 have D:i*3+3<=(CA (l.take (i+1))++CA (l.drop i)).length:=by rw[qq];omega
 have O:(CA (l.take (i+1))++CA (l.drop i)).take (i*3)=CA (l.take i):=by
  rw[vb (by omega),Lr _ _ (by simp;omega),List.take_take,Ut (by omega)]
 have R:(CA (l.take (i+1))++CA (l.drop i)).drop (i*3+3)=CA (l.drop i):=List.drop_left' (by omega);rw[t,w];generalize CA (l.take (i+1))++CA (l.drop i)=A at *;simp[go_sem,p,d,g,AD,c,D,O,R,IO,Ah];subst a;refine AJ ?_;simp[go_sem];exact fin o false _ _ (.inr rfl) (AD _ _ _) λj hj e=>AE _ _ e
theorem Ws(l:List BC)(r:BC):FB l l.length r=l++[r]:=by unfold FB;simp
theorem WH(l:List BC)(b:l≠[])(hl:l.length<=1048576)(i:Nat)(hi:i<=l.length)(r:BC){H:Hp}{n o k:Nat}{full:Bool}(c:H o=some (.cells ((l.map BC.e).flatMap SV.cells)))(d:H k=some (.cells [AA r.id,.str r.O,AA r.time]))(a:o≠k):
 BL prog 117 [.sl o 0 3 l.length full,AA i,.sl k 0 3 1 true] H n (λv h' n'=>v=BE (FB l i r)/\h'=h_ H o none/\n'=n):=by
 rcases YV i l.length with h|h;exact Ap.cap λcap hc=>cB l hl i h r hc c d a.symm;have:i=l.length:=by omega
 subst this;have:=iM l b hl r (full:=full) (n:=n) c d a;rw[Ws];exact this
theorem b9(l:List BC)(b:l≠[])(hl:l.length<256)(r:BC)(h0:Ct l=0)(h1:Cn r=0)(i:Nat)(hi:i<=l.length)(hb:Az (F6 l r.id) l.length=(i,false)):PC 45 [BE l,r.e] (.tup [BE (FB l i r),AA 0]):=by
 intro h n;refine DO func45 rfl λt=>?_;have d:=t.lt;refine Aa 1 [(0,BE l),(3,.q [AA r.id,.str r.O,AA r.time])] h n ?_ (λm c=>?_);simp[go_sem,BC.e,IO];exact⟨AZ (AS d (qa _)) (AD _ _ _),AL d AC⟩;refine CW 0 [(0,BE l),(3,.q [AA r.id,.str r.O,AA r.time])] h n (AJ ?_) (λm c=>?_);simp[go_sem];refine qz (pq l (by omega)) ?_;rw[h0];simp[go_sem,IO,c];refine CW 0 [(0,BE l),(3,.q [AA r.id,.str r.O,AA r.time])] h n (AJ ?_) (λm c=>?_);simp[go_sem];refine qz (by simpa[BC.e]using d7 r) ?_;rw[h1];simp[go_sem,IO,c];refine Aa 0 [(0,BE l),(3,.q [AA r.id,.str r.O,AA r.time]),(8,AA i),(9,.bool false)] h n ?_ (λm c=>?_);simp[go_sem];refine qz (pv l (by omega) r.id) ?_;rw[hb];simp[go_sem,IO,c];refine CW 0 [(0,BE l),(3,.q [AA r.id,.str r.O,AA r.time]),(8,AA i)] h n (AJ ?_) (λm c=>?_);have:¬(256:Int)<=l.length:=by omega
 simp[go_sem,IO,c,this];refine AX 0 (α:=Unit) (λ_=>[(4,BE (FB l i r)),(5,AA 0)]) (λ_=>h) (λ_ m=>n<=m) (CK dP rfl (by kernel_rfl) (by kernel_rfl) ?_) (λ_ m c=>?_);have a:∀j y,h j=some y->j<m:=λj y e=>by have:=d j y e;omega
 simp[go_sem,dP];refine⟨?_,?_,?_⟩;refine wq (dA l (by omega)) ?_;rintro v h' n' ⟨q,f,⟨g3,_⟩|⟨o,full,g3,s,rfl,k⟩⟩;exact absurd (by simpa using g3) b;simp[go_sem];have g:o≠n':=by omega
 refine qP (WH l b (by omega) i hi r (by rw[AE _ _ g];exact k) (AD _ _ _) g) ?_;rintro v p u ⟨rfl,rfl,rfl⟩;simp[go_sem,IO];exact⟨by omega,AL (λj z e=>by have:=a j z e;omega) (AL (λj z e=>by have:=a j z e;omega) f)⟩;refine wq (dA l (by omega)) ?_;rintro v h' n' ⟨q,f,⟨g3,_⟩|⟨o,full,g3,s,rfl,k⟩⟩;exact absurd (by simpa using g3) b;simp[go_sem];have g:o≠n':=by omega
 refine qP (WH l b (by omega) i hi r (by rw[AE _ _ g];exact k) (AD _ _ _) g) ?_;rintro v p u ⟨rfl,rfl,rfl⟩;simp[go_sem,IO];exact⟨by omega,AL (λj z e=>by have:=a j z e;omega) (AL (λj z e=>by have:=a j z e;omega) f)⟩;refine wq (dA l (by omega)) ?_;rintro v h' n' ⟨q,f,⟨g3,_⟩|⟨o,full,g3,s,rfl,k⟩⟩;exact absurd (by simpa using g3) b;simp[go_sem];refine qP (WH l b (by omega) i hi r k (f _ _ (AD _ _ _)) (by omega)) ?_;rintro v p u ⟨rfl,rfl,rfl⟩;simp[go_sem,IO];exact⟨by omega,AL (λj z e=>by have:=a j z e;omega) λj z e=>f _ _ (AL a AC j z e)⟩;refine AJ ?_;simp[go_sem];exact A3 t AC rfl (by rw[cc,ca,ca,BC.E.i];rfl)
def Cg(l:List Bs):List SV:=(l.map Bs.e).flatMap SV.cells
theorem FK(d:Bs)(l:List Bs):Cg (d::l)=AA d.rev::AA d.move::Cg l:=by simp[Cg,Bs.e,SV.cells]
theorem Q7(l:List Bs):(Cg l).length=l.length*2:=by
 have:=BO (z:=2) (Bs.E.size l);rw[qf]at this;exact this
theorem O7(l:List Bs):∀i,(Cg l).drop (i*2)=Cg (l.drop i):=by
 induction l with
 | nil=>intro i;simp[Cg]
 | cons d l ih=>
  intro i;cases i with
  | zero=>simp
  | succ i=>rw[FK,show(i+1)*2=i*2+2 by omega,vi,vi,ih i,vi]
theorem Uy(l:List Bs):∀i,(Cg l).take (i*2)=Cg (l.take i):=by
 induction l with
 | nil=>intro i;simp[Cg]
 | cons d l ih=>
  intro i;cases i with
  | zero=>simp[Cg]
  | succ i=>rw[FK,show(i+1)*2=i*2+2 by omega,YP,YP,ih i,YP,FK]
theorem WN(a b:List Bs):Cg (a++b)=Cg a++Cg b:=by unfold Cg;rw[qc,Jk]
def ao:Bs:=⟨0,0⟩
def H3(l:List Bs)(i:Nat):Bs:=l.getD i ao
theorem UE(l:List Bs)(i:Nat)(hi:i<l.length):(Cg l).drop (i*2)=AA (H3 l i).rev::AA (H3 l i).move::Cg (l.drop (i+1)):=by
 have e:H3 l i=l[i]:=by simp[H3,List.getD,hi]
 rw[O7,qQ hi,FK,e]
theorem Q8(l:List Bs)(i:Nat)(hi:i<l.length)(d:Bs):(Cg l).take (i*2)++(AA d.rev::AA d.move::(Cg l).drop (i*2+2))=Cg (l.set i d):=by
 rw[show i*2+2=(i+1)*2 by omega,O7,Uy,WK,if_pos hi,WN,FK]
def JG(l:List Bs)(j:Nat):List Bs:=(l.set (j+1) (H3 l j)).set j (H3 l (j+1))
def Fj(l:List Bs):Nat->List Bs
 | 0=>l
 | j+1=>if(H3 l (j+1)).rev<(H3 l j).rev then Fj (JG l j) j else l
def Co(l:List Bs):Nat->List Bs
 | 0=>l
 | i+1=>Fj (Co l i) i
theorem L4(l:List Bs)(j:Nat):(JG l j).length=l.length:=by simp[JG]
theorem Pd:∀(j:Nat)(l:List Bs),(Fj l j).length=l.length
 | 0,l=>rfl
 | j+1,l=>by rw[Fj];split;rw[Pd j,L4];rfl
theorem Gv(l:List Bs):∀i,(Co l i).length=l.length
 | 0=>rfl
 | i+1=>by rw[Co,Pd,Gv l i]
theorem eu(a b:Bs):PC 120 [a.e,b.e] (AA (GD a.rev b.rev)):=by
 intro h n;refine gq func120 rfl λc=>?_;have d:∀y z,∀o x,h o=some x->h_ (h_ h n y) (n+1) z o=some x:=λy z=>AR c (by omega) (AR c (qa _) AC);have q:n≠n+1:=by omega
 simp[go_sem,Bs.e,AD,AE];refine(V4 a.rev b.rev).use ?_;simp[go_sem];exact A3 c (d _ _) rfl rfl
theorem iX(l:List Bs)(hl0:1<=l.length)(hl:l.length<=1048576){H:Hp}{n o:Nat}{full:Bool}(O:H o=some (.cells (Cg l))):
 BL prog 254 [.sl o 0 2 l.length full,AA 0,AA l.length,.fn (.func 120) [] []] H n (λv h' n'=>v=.tup []/\h'=h_ H o (some (.cells (Cg (Co l l.length))))/\n'=n):=by
 refine DO func254 rfl λQ=>?_;have x:=Q.lt;have E:=x o _ O;have z:∀L:List Bs,ca n (Cg L)=true:=λL=>by
  induction L with
  | nil=>rfl
  | cons d L ih=>rw[FK];simp[ca,cc,ih]
 obtain⟨G,k⟩:∃G:List Bs->Hp,∀L,G L=h_ H o (some (.cells (Cg L))):=⟨_,λ_=>rfl⟩
 have p:∀L,G L o=some (.cells (Cg L)):=λL=>by rw[k,AD]
 have w:∀L t,h_ (G L) o (some (.cells (Cg t)))=G t:=λL t=>by rw[k,k,Ah]
 have r:∀L,Gm (G L) n:=λL j y e=>by
  rw[k]at e;simp only[h_]at e;split at e;subst_vars;cases e;exact⟨E,z L⟩;exact Q j y e
 have u:G l=H:=by rw[k];funext j;simp only[h_];split;subst_vars;exact O.symm;rfl
 refine Aa 0 [(0,.sl o 0 2 l.length full),(1,AA 0),(2,AA l.length),(3,.fn (.func 120) [] []),(8,AA 1)] (G l) n ?_ (λm B=>?_);rw[u];simp[go_sem,IO,show IntKind.i64.wrap 1=1 from by decide];refine AY (BT 0 (α:=Nat) (λi=>[(0,.sl o 0 2 l.length full),(1,AA 0),(2,AA l.length),(3,.fn (.func 120) [] []),(8,AA i)]) (λi=>G (Co l i)) (λi m=>1<=i/\i<=l.length/\n<=m) (λi=>l.length-i) 1 ⟨by omega,by omega,B⟩ ?_ AC ?_);simp[Ao,IO];rintro i m ⟨hi1,hi2,B⟩;have f:=Gv l i;by_cases A:i<l.length
 . have w1:=wS i (by omega);have s:Co l (i+1)=Fj (Co l i) i:=rfl;generalize Co l i=S at f s;refine CW 0 [(0,.sl o 0 2 l.length full),(1,AA 0),(2,AA l.length),(3,.fn (.func 120) [] []),(8,AA i)] (G S) n (AJ ?_) (λm2 c=>?_);simp[go_sem,IO,A,B];refine AX 0 (α:=Unit) (λ_=>[(0,.sl o 0 2 l.length full),(1,AA 0),(2,AA l.length),(3,.fn (.func 120) [] []),(8,AA i)]) (λ_=>G (Fj S i)) (λ_ m2=>n<=m2) (AY ?_) (λ_ m2 c=>?_)
   . refine Aa 0 [(0,.sl o 0 2 l.length full),(1,AA 0),(2,AA l.length),(3,.fn (.func 120) [] []),(8,AA i),(9,AA i)] (G S) n ?_ (λm2 c=>?_);simp[go_sem,IO,c];refine AY (BT 0 (α:=Nat×List Bs) (λq=>[(0,.sl o 0 2 l.length full),(1,AA 0),(2,AA l.length),(3,.fn (.func 120) [] []),(8,AA i),(9,AA q.1)]) (λq=>G q.2) (λq m=>q.1<=i/\q.2.length=l.length/\Fj q.2 q.1=Fj S i/\n<=m) (λq=>q.1) (i,S) ⟨by omega,f,rfl,c⟩ ?_ AC ?_);simp[Ao,IO];rintro⟨j,L⟩ m3 ⟨R,P,g,C⟩;dsimp only at R P g ⊢;refine Gz ?_;cases j with
     | zero=>
      rw[Fj]at g;refine CW 0 [(0,.sl o 0 2 l.length full),(1,AA 0),(2,AA l.length),(3,.fn (.func 120) [] []),(8,AA i),(34,.bool false)] (G L) n (AJ ?_) (λm2 c=>?_)
      . simp[go_sem]
        repeat first|refine nq ?_|refine sq ?_|refine aq ?_
        simp[go_sem,C]
      refine Au (b:=false) (by simp[go_sem]) (AJ ?_);simp[go_sem,IO];rw[<-g];exact⟨c,AC⟩
     | succ j=>
      have w2:IntKind.i64.wrap (((j+1:Nat):Int)-1)=(j:Int):=by rw[DA]<;>omega
      have w3:IntKind.i64.wrap (j:Int)=j:=by rw[DA]<;>omega
      have M:=UE L (j+1) (by omega);have N:=UE L j (by omega);have hLl:=Q7 L;refine CW 0 [(0,.sl o 0 2 l.length full),(1,AA 0),(2,AA l.length),(3,.fn (.func 120) [] []),(8,AA i),(9,AA (j+1:Nat)),(34,.bool (decide ((H3 L (j+1)).rev<(H3 L j).rev)))] (G L) n (AJ ?_) (λm2 c=>?_)
      . have f1:(j:Int)+1<l.length:=by omega
        have f2:(j:Int)<l.length:=by omega
        have f3:(0:Int)<=(j:Int)+1:=by omega
        have f4:(0:Int)<(j:Int)+1:=by omega
        have f5:((j:Int)+1).toNat=j+1:=by omega
        have K:((Cg L).drop ((j+1)*2)).take 2=[AA (H3 L (j+1)).rev,AA (H3 L (j+1)).move]:=by rw[M];rfl
        have t2:((Cg L).drop (j*2)).take 2=[AA (H3 L j).rev,AA (H3 L j).move]:=by rw[N];rfl
        have I:(j+1)*2+2<=(Cg L).length:=by omega
        have J:j*2+2<=(Cg L).length:=by omega
        simp[go_sem,w3,p,f1,f2,f3,f4,f5,K,t2,I,J]
        repeat first|refine nq ?_|refine sq ?_|refine aq ?_
        refine Yg _ _ _ _ _ _ (by simpa[Bs.e]using eu (H3 L (j+1)) (H3 L j)) ?_;simp[go_sem]
        repeat first|refine nq ?_|refine sq ?_|refine aq ?_
        have hc:∀a b:Int,decide (GD a b<0)=decide (a<b):=λa b=>by
         unfold GD;by_cases h1:a<b;simp[h1];by_cases h2:b<a<;>simp[h1,h2]
        rw[hc];exact IO
      by_cases hc:(H3 L (j+1)).rev<(H3 L j).rev
      . refine Au (b:=true) (by simp[go_sem,hc]) ?_;rw[if_pos rfl];refine Hi ?_;rw[Fm];have h:Fj (JG L j) j=Fj S i:=by rw[Fj,if_pos hc]at g;exact g
        refine AX 0 (α:=Unit) (λ_=>[(0,.sl o 0 2 l.length full),(1,AA 0),(2,AA l.length),(3,.fn (.func 120) [] []),(8,AA i),(9,AA (j+1:Nat))]) (λ_=>G (JG L j)) (λ_ m2=>n<=m2) (AY (AJ ?_)) (λ_ m4 D=>?_)
        . have f1:(j:Int)+1<l.length:=by omega
          have f2:(j:Int)<l.length:=by omega
          have f3:(0:Int)<=(j:Int)+1:=by omega
          have f5:((j:Int)+1).toNat=j+1:=by omega
          have K:((Cg L).drop ((j+1)*2)).take 2=[AA (H3 L (j+1)).rev,AA (H3 L (j+1)).move]:=by rw[M];rfl
          have t2:((Cg L).drop (j*2)).take 2=[AA (H3 L j).rev,AA (H3 L j).move]:=by rw[N];rfl
          have I:(j+1)*2+2<=(Cg L).length:=by omega
          have J:j*2+2<=(Cg L).length:=by omega
          have s1:=Q8 L (j+1) (by omega) (H3 L j);have s2:=Q8 (L.set (j+1) (H3 L j)) j (by rw[List.length_set];omega) (H3 L (j+1));have T:j*2+2<=(Cg (L.set (j+1) (H3 L j))).length:=by rw[Q7,List.length_set];omega
          have F:(L.set (j+1) (H3 L j)).set j (H3 L (j+1))=JG L j:=rfl;rw[F]at s2;generalize L.set (j+1) (H3 L j)=L2 at *;simp[go_sem,w3,p,f1,f2,f3,f5,K,t2,I,J,s1,s2,T,w]
          repeat first|refine nq ?_|refine sq ?_|refine aq ?_
          exact c
        refine AJ ?_;simp[go_sem,w2,IO,-Int.natCast_add];exact⟨j,by omega,JG L j,⟨by omega,by rw[L4,P],h,D⟩,IO,AC⟩
      refine Au (b:=false) (by simp[go_sem,hc]) (AJ ?_);have h:L=Fj S i:=by rw[Fj,if_neg hc]at g;exact g
      simp[go_sem,IO];rw[<-h];exact⟨c,AC⟩
   refine AJ ?_;simp[go_sem,w1,IO,-Int.natCast_add];exact⟨i+1,by omega,⟨by omega,by omega⟩,IO,by rw[s];exact AC⟩
 have:i=l.length:=by omega
 subst this;refine AJ ?_;simp[go_sem];have:=DK (r (Co l l.length)) (n':=m) (v:=.tup []) (by simp[cc,ca]) AC;rw[k]at this ⊢;exact this
theorem iS(l:List Bs)(g:1<=l.length)(hl:l.length<20){H:Hp}{n o:Nat}{full:Bool}(i:H o=some (.cells (Cg l))):
 BL prog 188 [.sl o 0 2 l.length full,AA l.length,.fn (.func 120) [] []] H n (λv h' n'=>v=.tup []/\h'=h_ H o (some (.cells (Cg (Co l l.length))))/\n'=n):=by
 refine DO func188 rfl λk=>?_;have c:=k.lt;have h:=c o _ i;have f:∀L:List Bs,ca n (Cg L)=true:=λL=>by
  induction L with
  | nil=>rfl
  | cons d L ih=>rw[FK];simp[ca,cc,ih]
 have b:Gm (h_ H o (some (.cells (Cg (Co l l.length))))) n:=λj y e=>by
  simp only[h_]at e;split at e;subst_vars;cases e;exact⟨h,f _⟩;exact k j y e
 refine Aa 0 [(0,.sl o 0 2 l.length full),(1,AA l.length),(2,.fn (.func 120) [] []),(6,AA 20)] H n ?_ (λm a=>?_);simp[go_sem,IO];refine Aa 0 [(0,.sl o 0 2 l.length full),(1,AA l.length),(2,.fn (.func 120) [] []),(6,AA 20),(7,AA 0),(8,AA 20)] H n ?_ (λm a=>?_);simp[go_sem,IO,a];refine CW 0 [(0,.sl o 0 2 l.length full),(1,AA l.length),(2,.fn (.func 120) [] []),(6,AA 20),(7,AA 0),(8,AA 20)] H n (AJ ?_) (λm a=>?_);simp[go_sem];refine Av 0 (α:=Unit) (λ_=>[(0,.sl o 0 2 l.length full),(1,AA l.length),(2,.fn (.func 120) [] []),(6,AA 20),(7,AA 0),(8,AA 20)]) (λ_=>H) (λ_ m=>n<=m) (λ_=>0) () a ?_ AC ?_;simp[Ao,IO];rintro _ m a;have:¬((20:Int)<=l.length):=by omega
 simp[go_sem,IO,a,this];refine CW 0 [(1,AA l.length),(6,AA 20)] (h_ H o (some (.cells (Cg (Co l l.length))))) n (AJ ?_) (λm a=>?_);simp[go_sem];refine qP (iX l g (by omega) i) ?_;rintro v H' n' ⟨rfl,rfl,rfl⟩;simp[go_sem,IO,a];refine AJ ?_;simp[go_sem];refine Av 0 (α:=Unit) (λ_=>[(1,AA l.length),(6,AA 20)]) (λ_=>h_ H o (some (.cells (Cg (Co l l.length))))) (λ_ m=>n<=m) (λ_=>0) () a ?_ AC ?_;simp[Ao,IO];rintro _ m a;have:¬((20:Int)<l.length):=by omega
 simp[go_sem,this];exact DK b (by simp[cc,ca]) AC
theorem iN(l:List Bs)(f:1<=l.length)(hl:l.length<20){H:Hp}{n o:Nat}{full:Bool}(h:H o=some (.cells (Cg l))):
 BL prog 119 [.sl o 0 2 l.length full,.fn (.func 120) [] []] H n (λv h' n'=>v=.tup []/\h'=h_ H o (some (.cells (Cg (Co l l.length))))/\n'=n):=by
 refine DO func119 rfl λi=>?_;have b:=i.lt;have g:=b o _ h;have c:∀L:List Bs,ca n (Cg L)=true:=λL=>by
  induction L with
  | nil=>rfl
  | cons d L ih=>rw[FK];simp[ca,cc,ih]
 have a:Gm (h_ H o (some (.cells (Cg (Co l l.length))))) n:=λj y e=>by
  simp only[h_]at e;split at e;subst_vars;cases e;exact⟨g,c _⟩;exact i j y e
 refine AJ ?_;simp[go_sem];refine qP (iS l f hl h) ?_;rintro v H' n' ⟨rfl,rfl,rfl⟩;simp[go_sem];exact DK a (by simp[cc,ca]) AC
def Yy:Tr:=.pure 8 (.pure 9 (.one 7 (.one 10 (.one 11 (.one 12 (.one 13 .nil))))))
def trH:Tr:=.pure 0 (.pure 1 (.pure 4 (.pure 5 (.two 2 6 (.two 3 6 (.one 6 Yy) (.one 3 Yy)) (.one 2 (.one 3 Yy))))))
abbrev Y3:Bb:=.cells [.i 0 [] true,AA 0,AA 0,.i 0 [] true,.i 0 [] true]
theorem eP(x:AF)(z:x.D){h:Hp}{n:Nat}:BL prog 118 [x.e] h n (λv h' n'=>∃c o1 d b,v=.agg [AU x.Q,AA x.I,AA x.move,c,d]/\H6 2 (x.Y.map Bs.e) c o1 n n'/\H6 4 (x.Z.map AM.e) d b n n'/\
 (∀j,o1=some j->b≠some j)/\n<=n'/\∀j y,Ea (x.Z.map AM.e) b (Ea (x.Y.map Bs.e) o1 h) j=some y->h' j=some y):=by
 refine DO func118 rfl λI=>?_;have p:=I.lt;have A:n≠n+1:=by omega
 refine By 0 [(1,.ptr n 0),(2,.ptr (n+1) 0)] (h_ (h_ h n (some (.cells x.g))) (n+1) (some Y3)) (λm=>n+2=m) ?_ (λm r=>?_);simp[go_sem,AF.e,AF.g,IO];subst r;refine By 0 [(1,.ptr n 0),(2,.ptr (n+1) 0)] (h_ (h_ h n (some (.cells x.g))) (n+1) (some Y3)) (λm=>n+2<=m) ?_ (λm r=>?_);simp[go_sem,AF.g,AE _ _ A,AD];refine(YC _ z.Q).use ?_;simp[go_sem,AE _ _ A,AD,IO];intro j y;simp only[h_];grind;refine AX 0 (α:=SV×Option Nat×SV×Option Nat) (λ_=>[(1,.ptr n 0),(2,.ptr (n+1) 0)])
  (λa=>Ea (x.Z.map AM.e) a.2.2.2 (Ea (x.Y.map Bs.e) a.2.1 (h_ (h_ h n (some (.cells [AU x.Q,AA x.I,AA x.move,a.1,a.2.2.1]))) (n+1) (some Y3))))
  (λa m'=>H6 2 (x.Y.map Bs.e) a.1 a.2.1 (n+2) m'/\H6 4 (x.Z.map AM.e) a.2.2.1 a.2.2.2 (n+2) m'/\(∀j,a.2.1=some j->a.2.2.2≠some j)/\n+2<=m') (CK trH rfl (by kernel_rfl) (by kernel_rfl) ?_) ?_
 . have i:h_ (h_ h n (some (.cells x.g))) (n+1) (some Y3) n=some (.cells [AU x.Q,AA x.I,AA x.move,Ax x.Y,Ai x.Z]):=by rw[AE _ _ A,AD];rfl
   simp[go_sem,trH,Yy,i]
   iterate 8 (all_goals (try first
    | (refine wq (cw _ z.Y) ?_;intro c H1 m1 s;have lt1:=s.1;obtain⟨o1,a1,b1,c1⟩:=s.own;obtain⟨s1,l⟩:=a1.st;simp only[SV.B,SV.cells]at s1 l;(first|have w:=b1 n _ k|have w:=b1 n _ i);simp[go_sem,w])
    | (refine wq (cx _ z.Z) ?_;intro d H2 m2 t;have M8:=t.1;obtain⟨b,a2,q,E⟩:=t.own;obtain⟨s2,t2⟩:=a2.st;simp only[SV.B,SV.cells]at s2 t2;(first|have k:=q n _ w|have k:=q n _ i);simp[go_sem,k,s2,t2])
    | refine⟨?_,?_⟩))
   all_goals
    have f:=a1.lt;have g:=a2.lt;simp[go_sem,s1,l,AD,Ah];refine⟨c,o1,d,b,⟨a1.mono (by omega) (by omega),a2.mono (by omega) (by omega),λj e e'=>?_,?_⟩,λj y=>?_⟩;have:=f _ e;have:=g _ e';omega;omega;intro J;have r1:=b1 j;have r2:=q j;have q3:=c1 j;have q4:=E j;have C:=f j;have D:=g j;have K:=p j y;clear b1 q c1 E f g s t a1 a2;simp only[h_]at *;cases o1<;>cases b<;>simp only[Ea,h_]at J<;>grind
 rintro⟨c,o1,d,b⟩ m ⟨a1,a2,o,r⟩;dsimp only at a1 a2 o r ⊢;have f:=a1.lt;have g:=a2.lt;obtain⟨s1,l⟩:=a1.st;obtain⟨s2,t2⟩:=a2.st;simp only[SV.B,SV.cells]at s1 l s2 t2;generalize u:Ea (x.Z.map AM.e) b (Ea (x.Y.map Bs.e) o1 (h_ (h_ h n (some (.cells [AU x.Q,AA x.I,AA x.move,c,d]))) (n+1) (some Y3)))=B;have F:B n=some (.cells [AU x.Q,AA x.I,AA x.move,c,d]):=by
  rw[<-u];have C:=f n;have D:=g n;cases o1<;>cases b<;>simp only[Ea,h_]<;>grind
 have G:B (n+1)=some Y3:=by
  rw[<-u];have C:=f (n+1);have D:=g (n+1);cases o1<;>cases b<;>simp only[Ea,h_]<;>grind
 have H:∀j y,Ea (x.Z.map AM.e) b (Ea (x.Y.map Bs.e) o1 h) j=some y->h_ B (n+1) (some (.cells [AU x.Q,AA x.I,AA x.move,c,d])) j=some y:=λj y=>by
  rw[<-u];have C:=f j;have D:=g j;have K:=p j y;cases o1<;>cases b<;>simp only[Ea,h_]<;>grind
 refine AJ ?_;simp[go_sem,F,G,AD];exact .inl ⟨c,o1,d,rfl,a1.mono (by omega) (qa _),b,a2.mono (by omega) (qa _),o,by omega,H⟩
theorem NP{z k i:Nat}{es:List SV}{e e' c:SV}(d:∀e∈es,e.B=true/\e.cells.length=z)(h:es[i]? = some e)(hk:k<z)(a:e'.cells=e.cells.take k++c::e.cells.drop (k+1)):
 (es.flatMap SV.cells).take (i*z+k)++c::(es.flatMap SV.cells).drop (i*z+k+1)=(es.set i e').flatMap SV.cells:=by
 have hi:=(qh.1 h).1;have b:=(qh.1 h).2;have hez:=(d e (U1 h)).2;have h1:es=es.take i++e::es.drop (i+1):=by rw[<-b,List.getElem_cons_drop,qM]
 have hl:((es.take i).flatMap SV.cells).length=i*z:=by
  rw[BO (z:=z) λe a=>d e (qS a),vD,Ut (by omega)]
 rw[WK,if_pos hi];have h2:es.flatMap SV.cells=(es.take i).flatMap SV.cells++(e.cells++(es.drop (i+1)).flatMap SV.cells):=by
  conv=>lhs;rw[h1]
  simp
 rw[h2,Jk,QZ,a];generalize(es.take i).flatMap SV.cells=A at hl ⊢;generalize(es.drop (i+1)).flatMap SV.cells=B;rw[<-hl,List.take_append,List.drop_append,qv (by omega:A.length<=A.length+k),UX (by omega:A.length<=A.length+k+1)];rw[show A.length+k-A.length=k by omega,show A.length+k+1-A.length=k+1 by omega,vb (by omega),List.drop_append_of_le_length (by omega)];simp
def ED(p:Int->Bool)(id y:Int):Int:=if p y then id else y
def Ba(p:Int->Bool)(id:Int)(d:Bs):Bs:={ d with rev:=ED p id d.rev }
def Bp(p:Int->Bool)(id:Int)(d:AM):AM:={ d with rev:=ED p id d.rev }
def B9(p:Int->Bool)(id y:Int):Int:=if y≠0/\p y=true then id else y
def E3(p:Int->Bool)(id:Int)(h:AF):AF:={ h with I:=B9 p id h.I,Y:=Co (h.Y.map (Ba p id)) h.Y.length,Z:=h.Z.map (Bp p id) }
def Ex{α:Type}(f:α->α)(l:List α)(i:Nat):List α:=(l.take i).map f++l.drop i
theorem N4{α:Type}(f:α->α)(l:List α):Ex f l 0=l:=by simp[Ex]
theorem PS{α:Type}(f:α->α)(l:List α):Ex f l l.length=l.map f:=by simp[Ex]
theorem PU{α:Type}(f:α->α)(l:List α)(i:Nat)(hi:i<=l.length):(Ex f l i).length=l.length:=by simp[Ex];omega
theorem PT{α:Type}(f:α->α)(l:List α)(i:Nat)(hi:i<l.length):(Ex f l i)[i]? = some l[i]:=by
 simp only[Ex];rw[qT (by simp;omega)];simp[Ut (vV hi),hi]
theorem N3{α:Type}(f:α->α)(l:List α)(i:Nat)(hi:i<l.length):(Ex f l i).set i (f l[i])=Ex f l (i+1):=by
 simp only[Ex];rw[Vs _ _ (by simp;omega)];have:((l.take i).map f).length=i:=by simp;omega
 rw[this,vU,qQ hi,List.set_cons_zero,qb hi,qc,qr,Yo,qj];rfl
end Go.Proofs.YtgakninlhfkkmaaGreat.Sh
