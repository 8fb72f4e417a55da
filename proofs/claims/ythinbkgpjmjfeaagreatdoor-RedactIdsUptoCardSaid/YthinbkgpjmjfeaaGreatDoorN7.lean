/- A part of the proof (part 7 of 17). -/
import Derived.Test.YthinbkgpjmjfeaaGreatDoorN6
import Derived.Lib.ConvBytes
import Derived.Lib.UnsafeStr
import Derived.Lib.Builder
import Derived.Laws.Externs
import Derived.BigFrame
import Derived.WalkKit
import Derived.Lib.Overlaps
import Derived.Lib.AppendZerosOnto
import Derived.Test.YthinbkgpjmjfeaaGreatDoorRows
import Derived.ProofKit
import Derived.OpenShut
import Derived.JoinedCond
import Derived.ReadAgain
import Derived.ChangeReads
namespace Go.Proofs.YthinbkgpjmjfeaaGreatDoor.Sh
open Go.Proofs.Tryz
open Proofs
section
variable{P:Program}{E:BZ}{evs:Operand->SV}{o:Oper}{h:Hp}{n:Nat}{K:SV->Hp->Nat->Prop}
abbrev EH(b:UInt8):SV:=.int .u8 b.toNat
theorem Vf{j dst e:TypeId}{x:Operand}{s:ByteArray}(r:o.op=.convert j dst x)(B:Dq P j=true)(hd:A5 P dst=some e)(z:OX P e=some .u8)(g:evs x=.str s)
 (hk:K (.y 1 (s.data.toList.map EH) false) h n):FV E P evs o h n K:=by
 refine⟨by rw[r];simp,λc ev _ _ R F hv=>?_⟩;have d:=hv x;rw[g]at d;have d:=KT d;have m:=Lib.run_convert_string_bytes (P:=P) c.w j dst e s (Eb B) (A7 hd) (Hv z);have p:=Lib.bytesWorld_size c.w e s;have X:DV c { c with w:=Lib.bytesWorld c.w e s }:=by
  refine⟨λ_ _ e=>e,by simp[p],λb hb A=>⟨A,Lib.bytesWorld_at_old c.w e s b hb⟩,λb=>?_,?_,?_,?_,?_⟩;unfold rm;rcases vq b c.w.heap.size with g|g;simp only[Lib.bytesWorld_at_old c.w e s b g];exact IO _;simp[vt g];simp only[Lib.bytesWorld,World.freeze];split<;>rfl;simp only[Lib.bytesWorld,World.freeze];split<;>rfl;simp only[Lib.bytesWorld,World.freeze];split<;>rfl;simp only[Lib.bytesWorld,World.freeze];split<;>first|exact IO _|exact vZ _
 have k:s.size<=grownCap c.w s.size 0 e:=by unfold grownCap;exact Nat.le_add_right _ _
 have f:s.data.toList.length=s.size:=by rw[wh];rfl
 refine⟨.slice (some ⟨c.w.heap.size,0,none⟩) s.size (grownCap c.w s.size 0 e),.y 1 (s.data.toList.map EH) false,h,n,{ c with w:=Lib.bytesWorld c.w e s },by simp only[execOp,r,d,Sem.run_bind,m,Result.andThen_ok,Sem.run_pure],?_,⟨λo x e=>(R.obj o x e).mono X λb hb=>?_,R.inj2,R.own2⟩,F,⟨X,IO _,λ_ _=>rfl⟩,hk⟩;rw[V];refine .inr ⟨⟨c.w.heap.size,0,none⟩,grownCap c.w s.size 0 e,s.data.toList.map (λb=>Value.int .u8 b.toNat),by simp[f],by simp[f];exact k,by simp,⟨λ_=>rfl,λ_ hb=>?_,λi x hi=>?_,λx g=>?_⟩,?_⟩;obtain⟨C,x,t,v⟩:=(R.own2 _).1 hb;exact Nat.lt_irrefl _ ((R.obj C x t).hold_lt v);rw[vo,qT]at hi;obtain⟨b,hb,rfl⟩:=hi;have hil:=(qv.1 hb).1;have:=Lib.bytesWorld_cell c.w e s i mq;rw[List.getD_eq_getElem?_getD,hb]at this;simpa using this;obtain⟨b,_,rfl⟩:=qa.1 g;rfl;rw[Ju];refine⟨s.data.toList.map (λb=>Value.int .u8 b.toNat),AU.map (R:=λa b=>a=b) (λa b e=>by subst e;simp[V]) ?_,?_,?_,?_⟩;have:∀l:List UInt8,AU (λa b=>a=b) l l:=λl=>by induction l with|nil=>trivial|cons a l ih=>exact⟨rfl,ih⟩
 exact this _;intro u q;obtain⟨b,_,rfl⟩:=qa.1 q;rfl;intro u q;obtain⟨b,_,rfl⟩:=qa.1 q;rfl;have:∀l:List UInt8,l.map (λb=>Value.int .u8 b.toNat)=(l.map (λb=>Value.int .u8 b.toNat)).flatMap (·.cells.toList):=λl=>by induction l with|nil=>rfl|cons a l ih=>rw[qi,va,<-ih];rfl
 exact this _;exact Lib.bytesWorld_at_old c.w _ s b ((R.obj o x e).hold_lt hb)
theorem Jn{x:Operand}{e:Array TypeId}{j off z len:Nat}{full:Bool}(d:o.op=.call { callee:=.builtin .unsafeSliceData,args:=#[x],argTypes:=e })(g:evs x=.sl j off z len full)(hl:len≠0)
 (hk:K (.ptr j off) h n):FV E P evs o h n K:=by
 refine⟨by rw[d];simp,λc ev _ _ R F hv=>?_⟩;have a:=hv x;rw[g,V]at a;obtain⟨b,st,cap,hρ,f,hcap,_⟩:=a;refine⟨.pointer (some ⟨b,st+off,none⟩),.ptr j off,h,n,c,?_,by rw[V];exact⟨b,st,hρ,rfl⟩,R,F,wE n c,hk⟩;refine CS (P:=P) (ev:=ev) d _ _ _ λcs=>?_;have hr:=Lib.run_unsafeSliceData_row (P:=P) c.w e o.type ⟨b,st+off,none⟩ len cap mq;simp only[BigFrame.builtin_unsafeSliceData,Sem.run_bind,Sem.run_pure];simp only[List.map_toArray,qi,vN,f]at hr ⊢;rw[hr];rfl
theorem Hr{x y:Operand}{L it e:TypeId}{j:Nat}{bs:List UInt8}(O:o.op=.call { callee:=.builtin .unsafeString,args:=#[x,y],argTypes:=#[L,it] })(C:P.underlying L=some (.pointer e))(W:P.cellsOf e=1)
 (hx:evs x=.ptr j 0) (hy:evs y=.int .i64 bs.length) (s:h j=some (.cells (bs.map EH) (some e))) (l:bs≠[]) (u:bs.length<=9223372036854775807)
 (hk:K (.str ⟨bs.toArray⟩) (h_ h j none) n):FV E P evs o h n K:=by
 refine⟨by rw[O];simp,λc ev _ _ R F hv=>?_⟩;have p:=hv x;rw[hx,V]at p;obtain⟨b,st,hρ,Z⟩:=p;have a:=hv y;rw[hy]at a;have a:=Dt a;obtain⟨b',st',arr,Q,vs,g1,r,g3,M,g5,g6⟩:=R.obj _ _ s;rw[hρ]at g1;cases g1;obtain⟨G,rfl⟩:=g6 e rfl;subst G;have Y:=M.length;rw[qf]at Y;have hblt:=(qh.1 r).1;have H:bs.length<=arr.size:=by
  rcases Nat.eq_zero_or_pos bs.length with h0|h0;omega;have g:vs[bs.length-1]? = some vs[bs.length-1]:=qk mq;have:=(qh.1 (g3 _ _ g)).1;omega
 have d:∀i x,bs[i]? = some x->c.w.cell? ((⟨b,0,none⟩:Addr).add i)=some (.int .u8 x.toNat):=λi x hi=>by
  have h1:(bs.map EH)[i]? = some (EH x):=by rw[vo,hi];rfl
  obtain⟨v,I,J⟩:=M.get h1;have:=Dt J;subst this;have U:=g3 i _ I;rw[DY rfl];simp only[World.cell?,r];simpa using U
 have hr:=Lib.run_unsafeString_row (P:=P) c.w L it o.type Q C W b arr.size (by simp[World.shape?,r]) bs l H u d;have f:∀k,k≠b->(c.w.freeze ⟨b,0,none⟩ bs.length).heap[k]? = c.w.heap[k]?:=λk hk=>by
  unfold World.freeze;split;rfl;simp only[wn];rw[mw (Ne.symm hk)]
 have z:(c.w.freeze ⟨b,0,none⟩ bs.length).heap.size=c.w.heap.size:=by unfold World.freeze;split<;>simp
 have m:c.own b:=R.ownI ⟨j,_,0,s,hρ⟩;have t:=R.kill j s;have D:∀k,rm c.w k<=rm (c.w.freeze ⟨b,0,none⟩ bs.length) k:=λk=>by
  by_cases hk:k=b;subst hk;have h0:¬bs.length=0:=by simpa using l
  unfold rm World.freeze;rw[mw h0];simp only[wn,if_true,r,vE];exact IO _;unfold rm;rw[f k hk];exact IO _
 have A:∀k,¬c.own k->¬(c.kill j).own k:=λk hk h2=>by
  obtain⟨o',x',q,T⟩:=(t.own2 k).1 h2;simp only[h_]at q;split at q;cases q;exact hk ((R.own2 k).2 ⟨o',x',q,T⟩)
 have X:DV c { (c.kill j)with w:=c.w.freeze ⟨b,0,none⟩ bs.length }:=
  ⟨λ_ _ e=>e,by simp[z],λk hk N=>⟨A k N,f k (by rintro rfl;exact N m)⟩,D,by unfold World.freeze;split<;>rfl,by unfold World.freeze;split<;>rfl,⟨by unfold World.freeze;split<;>rfl,by unfold World.freeze;split<;>exact IO _⟩⟩
 refine⟨.string ⟨bs.toArray⟩,.str ⟨bs.toArray⟩,h_ h j none,n,{ (c.kill j)with w:=c.w.freeze ⟨b,0,none⟩ bs.length },?_,by rw[V],⟨λo x e=>?_,t.inj2,t.own2⟩,F,⟨X,IO _,λ_ _=>rfl⟩,hk⟩;refine CS (P:=P) (ev:=ev) O _ _ _ λcs=>?_;simp only[BigFrame.builtin_unsafeString,Sem.run_bind,Sem.run_pure];simp only[List.map_toArray,qi,vN,Z,a,wz]at hr ⊢;rw[hr];rfl;simp only[h_]at e;split at e;cases e;rename_i B;refine(R.obj o x e).mono0 X.to0 λk hk=>f k ?_;intro S;rw[S]at hk;exact B (R.inj2 o j x _ b e s hk (.inl ⟨0,hρ⟩))
end
set_option maxRecDepth 100000 in
theorem Zk(b:Nat)(w:World)(h0:w.cell? ⟨b,2,none⟩=some (.pointer (some ⟨b,2,none⟩))):
 Calls prog 123 #[.pointer (some ⟨b,2,none⟩)] w λe w'=>e=.returned (.tuple #[])/\w'=w:=by
 obtain⟨j,a,_⟩:=qT.1 (show(prog.info? 121).map (·.size)=some 2 by kernel_rfl)
 go_enter func123,Tryz.ntmps123
 go_wp2
 rw[Lib.run_neq_ptr_same w _ Tryz.underlying118 a]
 go_wp2
 go_end0
 exact⟨rfl,rfl⟩
theorem iA(m:Nat):liesAt prog prog.depth 378 (m+1) 2 121 1=true:=by kernel_rfl
theorem WZ:prog.cellsOf 378=7:=by kernel_rfl
set_option maxRecDepth 100000 in
theorem WW(b k:Nat)(w:World)(h0:w.cell? ⟨b,2,none⟩=some (.pointer none))(c:w.shape? b=some (378,k))(hk:7<=k)(hfz:w.frozen? ⟨b,2,none⟩=false):
 Calls prog 123 #[.pointer (some ⟨b,2,none⟩)] w λe w'=>e=.returned (.tuple #[])/\w'=w.setCell ⟨b,2,none⟩ (.pointer (some ⟨b,2,none⟩)):=by
 obtain⟨j,f,d⟩:=qT.1 (show(prog.info? 121).map (·.size)=some 2 by kernel_rfl);obtain⟨m,hm⟩:∃m,k / prog.cellsOf 378=m+1:=⟨k / 7-1,by rw[WZ];omega⟩
 have a:=iA m;rw[<-hm]at a
 go_enter func123,Tryz.ntmps123
 go_wp2
 rw[Lib.run_to_unsafe w ⟨b,2,none⟩ Tryz.underlying118 Tryz.underlying256 f (by rw[d];decide) c (by simp;omega)];simp only[Result.andThen];rw[Oper.upon_value]
 go_wp2
 rw[run_callFunc_extern func179 mu mu mu (e:=Extern.AbiNoEscape.same) mu];rw[Lib.run_noEscape];simp only[Result.andThen];rw[Oper.upon_value]
 go_wp2
 rw[Lib.run_from_unsafe w ⟨b,2,none⟩ Tryz.underlying256 Tryz.underlying118 f c a];simp only[Result.andThen];rw[Oper.upon_value]
 go_wp2
 go_end0
 exact⟨rfl,rfl⟩
theorem bV:K4 prog 123=true:=by unfold K4;rw[func123];kernel_rfl
theorem lE{H:Hp}{n q:Nat}{a b p o:SV}{r:List SV}(B:H q=some (.cells (a::b::p::o::r) (some 378)))(hp:p=.nilp\/p=.ptr q 2)(hr:r.length=3):
 BP prog 123 [.ptr q 2] H n (λv h' n'=>v=.tup []/\h'=h_ H q (some (.cells (a::b::.ptr q 2::o::r) (some 378)))/\n'=n):=by
 refine⟨bV,λc vs _ R F A=>?_⟩;obtain⟨u,rfl,hv⟩:=A.single;rw[V]at hv;obtain⟨b0,st,hρ,rfl⟩:=hv;obtain⟨b',st',arr,e,us,g1,z,g3,G,g5,g6⟩:=R.obj q _ B;rw[hρ]at g1;cases g1;obtain⟨C,rfl⟩:=g6 378 rfl;subst C;obtain⟨J,E,l⟩:=G.get (i:=2) (a:=p) rfl;have h2:=g3 2 _ E;have f:c.w.cell? ⟨b0,2,none⟩=some J:=by simp only[World.cell?,z];simpa using h2
 have y:=G.length;simp only[qo,hr]at y;have D:7<=arr.size:=by
  have s:us[6]? = some us[6]:=qk mq;have:=(qh.1 (g3 _ _ s)).1;omega
 have t:V c (.ptr q 2) (.pointer (some ⟨b0,2,none⟩)):=by rw[V];exact⟨b0,0,hρ,by simp⟩
 simp only[qZ];rcases hp with rfl|rfl;rw[V]at l;subst l;obtain⟨w',m,I,X⟩:=Hk (P:=prog) (off:=2) (xs:=[.ptr q 2]) (us:=[.pointer (some ⟨b0,2,none⟩)]) R B hρ mr mr ⟨t,trivial⟩ (by simp[Value.oneCell']);have d:=run_storeCells_cells (P:=prog) b0 2 [.pointer (some ⟨b0,2,none⟩)] 0 c.w (by intro j x;simp at x;subst x;simp[f]) (by intro j x;simp at x;subst x;simp[World.frozen?,z]) (by simp[Value.oneCell']);simp only[qZ,wz]at m d;rw[m]at d;simp only[Result.ok.injEq,true_and]at d;refine(WW b0 arr.size c.w f (by simp[World.shape?,z]) D (by simp[World.frozen?,z])).mono ?_;rintro e K ⟨rfl,rfl⟩;have hw:w'=c.w.setCell ⟨b0,2,none⟩ (.pointer (some ⟨b0,2,none⟩)):=by rw[d];rfl
 subst hw;exact⟨.tuple #[],.tup [],_,n,{ c with w:=c.w.setCell ⟨b0,2,none⟩ (.pointer (some ⟨b0,2,none⟩)) },rfl,⟨rfl,rfl,rfl⟩,rfl,by simp[V,VL],by simpa using I,F,⟨X,IO _,λ_ _=>rfl⟩⟩;rw[V]at l;obtain⟨b1,st1,hρ1,rfl⟩:=l;rw[hρ]at hρ1;cases hρ1;have g:h_ H q (some (.cells (a::b::.ptr q 2::o::r) (some 378)))=H:=by
  funext k;by_cases hk:k=q;subst hk;rw[Nj,B];simp[h_,hk]
 refine(Zk b0 c.w (by simpa using f)).mono ?_;rintro e K ⟨rfl,rfl⟩;exact⟨.tuple #[],.tup [],_,n,c,rfl,⟨rfl,g.symm,rfl⟩,rfl,by simp[V,VL],R,F,wE n c⟩
set_option maxRecDepth 10000
set_option maxHeartbeats 4000000
def FC(ob:Option Nat)(bs:List UInt8):SV:=AZ 1 ob (bs.map EH)
theorem ji{H:Hp}{k p:Nat}{ob:Option Nat}{bs:List UInt8}{x:UInt8}(h0:ob=none->bs=[])(h1:H k=some (.cells [EH x]))(h2:∀j,ob=some j->H j=some (.cells (bs.map EH) (some 5)))(hroom:bs.length+1<=1073741824):
 Ak prog H p .append [119,119] [FC ob bs,.sl k 0 1 1 true]=some { val:=.sl p 0 1 (bs.length+1) false,upd:=ob.map λj=>(j,none),new:=some (.cells ((bs++[x]).map EH) (some 5)) }:=by
 have d:A5 prog 119=some 5:=by simp[go_sem]
 have e:Bj prog 5=1:=by simp[go_sem]
 have f:(BU prog 5).B=true:=by simp[go_sem]
 have g:(BU prog 5).cells.length=1:=by simp[go_sem]
 have h:Cv prog 5<=65536:=by simp[go_sem]
 have b:Hn 5=some 5:=by rfl
 have a:flat H (.sl k 0 1 1 true)=some [EH x]:=by simp[flat,h1,Cb]
 have hr:F6 (bs.length+1) (Cv prog 5)=true:=by simp only[F6,qg,decide_eq_true_eq];exact⟨by omega,h⟩
 simp only[Ak,d,Option.isSome_some,if_true,Fq,In,a,e,f,g];cases ob with
 | none=>
  have:=h0 rfl;subst this;simp[FC,AZ,OM,b];simpa using hr
 | some j=>
  have c:=h2 j rfl;have i:flat H (.sl j 0 1 bs.length false)=some (bs.map EH):=by simp[flat,c,Cb];exact qQ mr
  have ht:IV H 5 j 0=some 5:=by simp[IV,b,eS,c]
  simp[FC,AZ,OM,i,hr,ht]
theorem lD{G:Hp}{n q:Nat}{a at_ p pr l e:SV}{ob:Option Nat}{bs:List UInt8}{x:UInt8}(t:G q=some (.cells [a,at_,p,FC ob bs,pr,l,e] (some 378)))(hp:p=.nilp\/p=.ptr q 2)
 (h0:ob=none->bs=[]) (h2:∀j,ob=some j->j≠q/\G j=some (.cells (bs.map EH) (some 5))) (d:bs.length+1<=1073741824):
 BP prog 321 [.ptr q 2,EH x] G n (λ_ h' n'=>∃j,(∀o y,o≠q->ob≠some o->G o=some y->h' o=some y)/\h' q=some (.cells [a,at_,.ptr q 2,FC (some j) (bs++[x]),pr,l,e] (some 378))/\
  h' j=some (.cells ((bs++[x]).map EH) (some 5))/\n<=j/\j<n'):=by
 refine FF func321 rfl λk=>?_;have hqn:q<n:=(k q _ t).1;have i:∀j,ob=some j->j<n:=λj e=>(k j _ (h2 j e).2).1;refine Al 0 [(0,.ptr q 2),(1,EH x)] G n ?_ (λm hm=>?_);simp[go_sem,Or];subst hm;refine Al 0 [(0,.ptr q 2),(1,EH x)] (h_ G q (some (.cells [a,at_,.ptr q 2,FC ob bs,pr,l,e] (some 378)))) n ?_ (λm hm=>?_);simp[go_sem];refine qM (lE t hp rfl) ?_;rintro v H' n' ⟨rfl,rfl,rfl⟩;simp[go_sem,Or];subst hm;refine AK ?_;have c:q≠n:=by omega
 have b:q≠n+1:=by omega
 simp[go_sem,AE];have g:∀p,Ak prog (h_ (h_ G q (some (.cells [a,at_,.ptr q 2,FC ob bs,pr,l,e] (some 378)))) n (some (.cells [EH x]))) p .append [119,119] [FC ob bs,.sl n 0 1 1 true]=_:=λp=>
  ji h0 (AE _ _ _) (λj e=>by rw[AD _ _ (by have:=i j e;omega),AD _ _ (h2 j e).1];exact(h2 j e).2) d
 have h:FC (some (n+1)) (bs++[x])=.sl (n+1) 0 1 (bs.length+1) false:=by simp[FC,AZ]
 cases ob with
 | none=>
  simp[go_sem,g,AE,AD,c,b];refine .inl ⟨λo y h1 f=>?_,n+1,by rw[AE,h],by rw[AD _ _ (Ne.symm b),AE],by omega,by omega⟩;have:=(k o y f).1;rw[AD _ _ h1,AD _ _ mq,AD _ _ mq,AD _ _ h1];exact f
 | some j=>
  have r:=(h2 j rfl).1;have hjl:=i j rfl;have s:q≠j:=Ne.symm r;simp[go_sem,g,AE,AD,c,b,s];refine .inl ⟨λo y h1 h2 f=>?_,n+1,by rw[AE,h],by rw[AD _ _ (Ne.symm b),AE],by omega,by omega⟩;have:=(k o y f).1;rw[AD _ _ h1,AD _ _ mq,AD _ _ (Ne.symm h2),AD _ _ mq,AD _ _ h1];exact f
theorem cd:prog.cellsOf 5=1:=by kernel_rfl
theorem gR{G:Hp}{n q:Nat}{a at_ p pr d e:SV}{ob:Option Nat}{bs:List UInt8}(b:G q=some (.cells [a,at_,p,FC ob bs,pr,d,e] (some 378)))(h0:ob=none->bs=[]):
 BP prog 328 [.ptr q 2] G n (λv h' n'=>v=AA bs.length/\h'=G/\n'=n):=by
 refine FF func328 rfl λc=>?_;have hqn:q<n:=(c q _ b).1;refine AK ?_;cases ob with
 | none=>
  have:=h0 rfl;subst this;simp[go_sem,b,FC,AZ];exact Ar c rfl rfl
 | some j=>
  simp[go_sem,b,FC,AZ];exact Ar c rfl rfl
def im:Tr:=.pure 0 (.pure 1 (.pure 2 (.pure 5 (.pure 6 (.pure 7 (.two 3 8 (.two 4 8 (.one 8 (.one 9 (.one 10 (.one 11 .nil)))) (.two 4 9 (.one 9 (.one 10 (.one 11 .nil))) (.one 4 (.one 10 (.one 11 .nil))))) (.two 3 9 (.two 4 9 (.one 9 (.one 10 (.one 11 .nil))) (.one 4 (.one 10 (.one 11 .nil)))) (.one 3 (.one 4 (.one 10 (.one 11 .nil)))))))))))
theorem lF{G:Hp}{n q j:Nat}{a at_ p pr t e:SV}{bs:List UInt8}(c:G q=some (.cells [a,at_,p,FC (some j) bs,pr,t,e] (some 378)))(r:G j=some (.cells (bs.map EH) (some 5)))(_hjq:j≠q)(b:bs≠[])(hlen:bs.length<=1073741824):
 BP prog 64 [.ptr q 2] G n (λv h' n'=>v=.str ⟨bs.toArray⟩/\h'=h_ G j none/\n'=n):=by
 refine FF func64 rfl λs=>?_;have hqn:q<n:=(s q _ c).1;have g:bs.length≠0:=by simpa using b
 refine Al 0 [(0,.ptr q 2)] G n ?_ (λm hm=>?_);simp[go_sem,Or];subst hm;refine AV 0 (α:=Unit) (λ_=>[(2,.str ⟨bs.toArray⟩)]) (λ_=>h_ G j none) (λ_ m=>n=m) (CN im rfl mu mu ?_) (λ_ m hm=>?_)
 . have hb:FC (some j) bs=.sl j 0 1 bs.length false:=by simp[FC,AZ]
   rw[hb]at c;simp[go_sem,im,c];have i:∀{E:BZ} {evs:Operand->SV} {o:Oper} {n:Nat} {K:SV->Hp->Nat->Prop} {x:Operand} {u:Array TypeId},o.op=.call { callee:=.builtin .unsafeSliceData,args:=#[x],argTypes:=u }->evs x=.sl j 0 1 bs.length false->K (.ptr j 0) G n->FV E prog evs o G n K:=λd f k=>Jn d f g k;have l:∀{E:BZ} {evs:Operand->SV} {o:Oper} {n:Nat} {K:SV->Hp->Nat->Prop} {x y:Operand} {it:TypeId},o.op=.call { callee:=.builtin .unsafeString,args:=#[x,y],argTypes:=#[199,it] }->evs x=.ptr j 0->evs y=AA bs.length->K (.str ⟨bs.toArray⟩) (h_ G j none) n->FV E prog evs o G n K:=λd f h k=>Hr d Tryz.underlying199 cd f h r b mq k;refine⟨⟨?_,?_,?_⟩,⟨?_,?_⟩,?_⟩
   all_goals
    refine i rfl rfl ?_;simp[go_sem,c];refine l rfl rfl rfl ?_;simp[go_sem,Or]
 subst hm;refine AK ?_;simp[go_sem];refine .inl ⟨rfl,rfl,rfl⟩
theorem lG{G:Hp}{n q:Nat}{a at_ p b pr c e:SV}(d:G q=some (.cells [a,at_,p,b,pr,c,e] (some 378))):
 BP prog 329 [.ptr q 2] G n (λv h' n'=>v=.tup []/\h'=h_ G q (some (.cells [a,at_,.nilp,.y 0 [] true,pr,c,e] (some 378)))/\n'=n):=by
 refine FF func329 rfl λho=>?_;refine AK ?_;simp[go_sem,d,AE,Ad];refine .inl ⟨rfl,rfl,rfl⟩
theorem PU{E:BZ}{N:Nat}{a:Code}{Q:CT}{sa:SA}{h:Hp}{n:Nat}(H:Hw h n->SP E N a Q sa h n):SP E N a Q sa h n:=
 λhd c b I R F A=>H (λo x e=>Gk F (R.obj o x e)) hd c b I R F A
structure jJ(G:Hp)(q B:Nat)(s:ByteArray)(at_:Int)(bs:List UInt8)(ps:List CG)(pl e:Int)(p:SV)(ob op:Option Nat):Prop where
 le:B<=q
 cells:G q=some (.cells [.str s,AA at_,p,FC ob bs,AZ 3 op (ps.map CG.h),AA pl,AA e] (some 378))
 p:p=.nilp\/p=.ptr q 2
 b0:ob=none->bs=[]
 b1:∀j,ob=some j->B<=j/\j≠q/\bs≠[]/\G j=some (.cells (bs.map EH) (some 5))
 o0:op=none->ps=[]
 o1:∀j,op=some j->B<=j/\j≠q/\ob≠some j/\G j=some (.cells ((ps.map CG.h).flatMap SV.cells))
def Vw(G:Hp)(q B:Nat)(s:ByteArray)(at_:Int)(bs:List UInt8)(ps:List CG)(pl e:Int):Prop:=∃p ob op,jJ G q B s at_ bs ps pl e p ob op
def al(q B:Nat)(s:ByteArray)(G:Hp)(n:Nat)(R:Int->List UInt8->List CG->Int->Int->Prop):SV->Hp->Nat->Prop:=λ_ h' n'=>
 ∃at_ bs ps pl e,R at_ bs ps pl e/\Vw h' q B s at_ bs ps pl e/\(∀o y,o<B->G o=some y->h' o=some y)/\n<=n'
theorem CG.len(p:CG):p.h.cells.length=3:=rfl
theorem CG.size(ps:List CG):∀e∈ps.map CG.h,e.B=true/\e.cells.length=3:=λe a=>by obtain⟨x,_,rfl⟩:=qa.1 a;exact⟨rfl,rfl⟩
theorem fX{X:Hp}{k p:Nat}{op:Option Nat}{ps:List CG}{x:CG}(h0:op=none->ps=[])(h1:X k=some (.cells x.h.cells))(h2:∀j,op=some j->X j=some (.cells ((ps.map CG.h).flatMap SV.cells)))(a:ps.length+1<=1073741824):
 Ak prog X p .append [352,352] [AZ 3 op (ps.map CG.h),.sl k 0 3 1 true]=some { val:=.sl p 0 3 (ps.length+1) false,upd:=op.map λj=>(j,none),new:=some (.cells ((ps.map CG.h).flatMap SV.cells++x.h.cells)) }:=by
 have b:CD 0 ((op.getD 0)+1) 3 op (ps.map CG.h):=⟨λe=>by rw[h0 e];rfl,λj e=>by rw[e];simp,CG.size ps⟩
 have:=Hf (P:=prog) (H:=X) (t:=352) (t2:=352) (el:=357) (e:=x.h) ms ms ms mr ms ms ms (by simpa using a) b (CG.len x) h1 h2 p;simpa using this
def jG(G:Hp)(B q n:Nat)(C:Nat->List SV)(es:List SV)(z:Hp×Nat)(m:Nat):Prop:=
 n<=m/\z.1 q=some (.cells (C z.2) (some 378))/\z.1 z.2=some (.cells (es.flatMap SV.cells))/\n<=z.2/\z.2<m/\∀o y,o<B->G o=some y->z.1 o=some y
def eO:Tr:=.pure 0 (.pure 1 (.pure 2 (.pure 3 (.pure 5 (.pure 6 (.pure 7 (.two 4 8 (.one 8 (.one 9 (.one 10 (.one 11 (.one 12 (.one 13 (.one 14 .nil))))))) (.two 4 9 (.one 9 (.one 10 (.one 11 (.one 12 (.one 13 (.one 14 .nil)))))) (.two 4 10 (.one 10 (.one 11 (.one 12 (.one 13 (.one 14 .nil))))) (.one 4 (.one 11 (.one 12 (.one 13 (.one 14 .nil))))))))))))))
theorem jJ.upd{G:Hp}{q B:Nat}{s:ByteArray}{at_ l e:Int}{bs:List UInt8}{ps:List CG}{p:SV}{ob op:Option Nat}(S:jJ G q B s at_ bs ps l e p ob op)(f i k:Int):
 Vw (h_ G q (some (.cells [.str s,AA f,p,FC ob bs,AZ 3 op (ps.map CG.h),AA i,AA k] (some 378)))) q B s f bs ps i k:=
 ⟨p,ob,op,S.le,AE _ _ _,S.p,S.b0,λj g=>by obtain⟨a,b,c,d⟩:=S.b1 j g;exact⟨a,b,c,by rw[AD _ _ b];exact d⟩,S.o0,λj g=>by obtain⟨a,b,c,d⟩:=S.o1 j g;exact⟨a,b,c,by rw[AD _ _ b];exact d⟩⟩
theorem bC{G:Hp}{n q B:Nat}{s:ByteArray}{at_ c e:Int}{bs:List UInt8}{ps:List CG}(S:Vw G q B s at_ bs ps c e)(h:Hw G n)(hb:bs.length<=1048576)(x:UInt8):
 BP prog 321 [.ptr q 2,EH x] G n (al q B s G n λa b f d l=>a=at_/\b=bs++[x]/\f=ps/\d=c/\l=e):=by
 obtain⟨p,ob,op,S⟩:=S;have hqn:=(h q _ S.cells).1;have hle:=S.le;refine(lD (x:=x) S.cells S.p S.b0 (λj g=>⟨(S.b1 j g).2.1,(S.b1 j g).2.2.2⟩) mq).mono ?_;rintro v h' n' ⟨j,g1,m,g3,g4,g5⟩;refine⟨at_,bs++[x],ps,c,e,⟨rfl,rfl,rfl,rfl,rfl⟩,⟨.ptr q 2,some j,op,S.le,m,.inr rfl,by simp,λi hi=>?_,S.o0,λi hi=>?_⟩,λo y h1 h2=>g1 o y mq (λg=>?_) h2,by omega⟩;cases hi;exact⟨by omega,by omega,by simp,g3⟩;obtain⟨r,k,i3,i4⟩:=S.o1 i hi;have:=(h i _ i4).1;exact⟨r,k,λg=>by cases g;omega,g1 i _ k i3 i4⟩;have:=(S.b1 o g).1;omega
def ib:Tr:=.pure 0 (.pure 1 (.pure 2 (.pure 4 (.pure 5 (.pure 6 (.two 3 7 (.one 7 (.one 8 (.one 9 (.pure 10 .nil)))) (.one 3 (.one 8 (.one 9 (.pure 10 .nil))))))))))
def ae:Tr:=.pure 0 (.pure 1 (.pure 2 (.pure 3 (.pure 5 (.pure 6 (.pure 7 (.two 4 8 (.one 8 (.pure 9 (.one 10 (.one 11 .nil)))) (.pure 9 (.one 4 (.one 10 (.one 11 .nil)))))))))))
def ic:Tr:=.pure 0 (.pure 1 (.pure 2 (.pure 4 (.pure 5 (.pure 6 (.two 3 7 (.one 7 (.one 8 (.one 9 (.pure 10 (.pure 11 (.pure 12 (.pure 13 (.pure 14 (.one 15 (.pure 16 (.one 17 (.pure 18 (.pure 19 .nil))))))))))))) (.one 3 (.one 8 (.one 9 (.pure 10 (.pure 11 (.pure 12 (.pure 13 (.pure 14 (.one 15 (.pure 16 (.one 17 (.pure 18 (.pure 19 .nil)))))))))))))))))))
def Y9(G:Hp)(q B n:Nat)(s:ByteArray)(R:Int->List UInt8->List CG->Int->Int->Prop)(z:Hp)(m:Nat):Prop:=n<=m/\∃at_ bs ps pl e,R at_ bs ps pl e/\Vw z q B s at_ bs ps pl e/\∀o y,o<B->G o=some y->z o=some y
theorem al.st{q B:Nat}{s:ByteArray}{G:Hp}{n0 n:Nat}{R:Int->List UInt8->List CG->Int->Int->Prop}{v:SV}{h':Hp}{n':Nat}(H:al q B s G n R v h' n')(hn:n0<=n):Y9 G q B n0 s R h' n':=by
 obtain⟨a1,a2,a3,a4,a5,h1,h2,a,h4⟩:=H;exact⟨by omega,a1,a2,a3,a4,a5,h1,h2,a⟩
def Yt:Tr:=.pure 0 (.pure 1 (.pure 2 (.pure 4 (.pure 5 (.pure 6 (.two 3 7 (.one 7 (.one 8 (.pure 9 (.pure 10 (.pure 11 (.pure 12 (.pure 13 (.one 14 (.pure 15 (.pure 16 .nil)))))))))) (.two 3 8 (.one 8 (.pure 9 (.pure 10 (.pure 11 (.pure 12 (.pure 13 (.one 14 (.pure 15 (.pure 16 .nil))))))))) (.one 3 (.pure 9 (.pure 10 (.pure 11 (.pure 12 (.pure 13 (.one 14 (.pure 15 (.pure 16 .nil))))))))))))))))
def ij:Tr:=.pure 0 (.pure 1 (.pure 2 (.pure 4 (.pure 5 (.pure 6 (.two 3 7 (.one 7 (.one 8 (.pure 9 .nil))) (.one 3 (.one 8 (.pure 9 .nil)))))))))
def il:Tr:=.pure 0 (.pure 1 (.pure 2 (.pure 3 (.pure 4 (.pure 5 (.pure 7 (.pure 8 (.pure 9 (.two 6 10 (.one 10 (.one 11 (.one 12 .nil))) (.one 6 (.one 11 (.one 12 .nil))))))))))))
def SnR(s:ByteArray)(z:Int×Int):Int->List UInt8->List CG->Int->Int->Prop:=λat_ bs ps _ e=>
 at_=z.1/\e=z.2/\0<=at_/\at_<=s.size/\(e=0->(bs.length:Int)<=at_/\(ps.length:Int)<=2*at_)/\(bs.length:Int)<=at_+1/\(ps.length:Int)<=2*at_+2
def jK(s:ByteArray)(z:Hp×Int×Int):Nat:=2*(s.size-z.2.1).toNat+(if z.2.2=0 then 1 else 0)
theorem kl(b:Int):PC 308 [Jf b] (.bool (decide (b<32)||decide (b=127))):=by
 intro h n;refine gq func308 rfl λa=>?_;by_cases c:b<32;simp[go_sem,c];exact Ar a rfl rfl;simp[go_sem,c];exact Ar a rfl (by by_cases d:b=127<;>simp[d])
def ig:Tr:=.pure 0 (.pure 1 (.pure 2 (.pure 4 (.one 3 (.pure 5 .nil)))))
theorem kf(p:CG)(k:Int):PC 284 [p.h,.q [AA k]] (.bool (decide (k<p.level))):=by
 intro h n;refine gq func284 rfl λa=>?_;simp[go_sem,CG.h,AE];exact Bt a (Aa a (IO _) AC) rfl rfl
def Vq:Tr:=.pure 0 (.pure 1 (.pure 2 (.pure 3 (.pure 4 (.pure 5 (.pure 6 (.pure 7 (.pure 8 (.pure 9 (.pure 10 (.pure 11 (.pure 12 (.pure 13 .nil)))))))))))))
def iZ:Tr:=.pure 0 (.pure 1 (.pure 3 (.pure 4 (.pure 5 (.pure 6 (.one 2 (.one 7 (.pure 8 (.pure 9 (.pure 10 (.pure 11 (.pure 12 .nil))))))))))))
def ia:Tr:=.pure 0 (.pure 1 (.pure 3 (.pure 4 (.one 2 (.one 5 (.pure 6 .nil))))))
def ChQ(l:List Ao)(id:Int)(h:Hp)(n:Nat):SV->Hp->Nat->Prop:=λv h' n'=>∃k,v=.fn (.func 248) [] [.q [AT l],.ptr k 0]/\n<=k/\k<n'/\h' k=some (.cells [AA id])/\∀o y,h o=some y->h' o=some y
theorem lB(l:List Ao)(id:Int){h:Hp}{n:Nat}:BP prog 188 [AT l,AA id] h n (ChQ l id h n):=by
 refine FF func188 rfl λb=>?_;have a:=b.lt;refine Bc 1 [(2,.q [AT l]),(3,.ptr (n+1) 0)] (h_ h (n+1) (some (.cells [AA id]))) (λm=>n+1<m) ?_ (λm hm=>?_);simp[go_sem,Or];refine⟨Ap (by simp[h_];exact Ai a (IO _)) (by simp[h_]),λj y=>?_⟩;have:=a j y;simp only[h_];grind;refine AK ?_;simp[go_sem];exact .inl ⟨n+1,rfl,by omega,hm,AE _ _ _,AW (λj z e=>by have:=a j z e;omega) AC⟩
section
variable{E:BZ}{yl N:Nat}{J:Nat->Hp->Nat->Prop}{Jx:Hp->Nat->Prop}{D:Nat->Prop}
def jH(l:List Ao)(a:List (Int×Int)):Prop:=∀p∈a,0<=p.2/\p.2<l.length
end
theorem lW{E:BZ}{f:FuncId}{fn:Func}{code:Code}{args:List SV}{h:Hp}{n:Nat}{K:SV->Hp->Nat->Prop}(a:prog.funcs[f]? = some fn)(hb:fn.body=some code)
 (c:(fn.name != "runtime.NumGoroutine")=true) (hd:Code.dok fn.ntmps code=true) (b:args.length<=fn.ntmps)
 (H:Hw h n->∀B,SP (E.call true B) fn.ntmps code (OT prog fn n K) (D7 0 args) h n):Ab E prog f args h n K:=
 Jt a hb c hd b λ_ d B=>H d B
structure AQ.sizedT(s:AQ):Prop extends AQ.l s where
 tpl:∀x∈s.L,∀y∈x.levels,y.template.size<=1048576
 com:∀x∈s.C,x.O.size<=1048576/\x.J.size<=1048576
 var:∀x∈s.vars,x.name.size<=1048576/\x.value.size<=1048576
structure AI.sizedT(B N:Nat)(d:AI):Prop where
 W:lim AG.l B N d.W
 T0 : d.T0.l
 V:d.V.length<=1048576
 authors:∀r∈d.V,r.O.size<=1048576
 S:d.S.sizedT
def Tf:Unit->Nat->Option A9:=λ_ _=>none
theorem up0(s:Unit)(H:Hp):Az Tf s H=H:=rfl
section
variable{P:Program}{E:BZ}{evs:Operand->SV}{o:Oper}{h:Hp}{n:Nat}{K:SV->Hp->Nat->Prop}
def EA(P:Program)(kt:TypeId)(cs:List SV):List (SV×SV)->Nat->Option (Option (Nat×SV))
 | [],_=>some none
 | e :: es, i => match e.1 with
  | .agg ds=>match CK P cs ds (Be P kt)with
   | some true=>some (some (i,e.2))
   | some false=>EA P kt cs es (i+1)
   | none=>none
  | _=>none
structure bw(P:Program)(kt:TypeId):Prop where
 ht:P.underlying kt=some (.struct (P.fieldsOf kt))
 hp:P.stoodInHeld kt=false
theorem Oi{c:Cx}{a:TypeId}(hk:bw P a){d e:List SV}{v u:Value}{b:Bool}(hv:V c (.agg d) v)(j:V c (.agg e) u)(hb:CK P d e (Be P a)=some b)(w:World):(Op.equal a v u).run P w=.ok b w:=by
 obtain⟨vs,f,h1,h2⟩:=GV hv;obtain⟨us,g,h,i⟩:=GV j;have hr:=H9 h1 h h2 i 9998 w _ _ hb;rw[f,g];show(Op.equalIn 10000 a _ _).run P w=_;rw[run_equalIn_struct w 9999 a _ _ hk.ht hk.hp];exact hr
theorem JE{c:Cx}{b:TypeId}(hk:bw P b){g:List SV}{v:Value}(hv:V c (.agg g) v)(w:World):
 ∀(es:List (SV×SV))(a:List MapEntry)(i:Nat)(r:Option (Nat×SV)),AU (λ(p:SV×SV)(e:MapEntry)=>V c p.1 e.key/\V c p.2 e.val) es a->EA P b g es i=some r->
  (r=none/\(Instr.findAsking b v a i).run P w=.ok none w)\/∃j x y e d,r=some (i+j,x)/\(Instr.findAsking b v a i).run P w=.ok (some (i+j,y)) w/\V c x y/\a[j]? = some e/\V c (.agg d) e.key/\CK P g d (Be P b)=some true
 | [],a,i,r,h,hf=>by
  simp only[EA,qm]at hf;subst hf;rw[h.nil_left];exact .inl ⟨rfl,by simp[Instr.findAsking]⟩
 | p::es,[],i,r,h,_=>h.elim
 | p::es,e::a,i,r,h,hf=>by
  obtain⟨⟨h1,h2⟩,o⟩:=h;simp only[EA]at hf;split at hf<;>try cases hf
  rename_i d l;rw[l]at h1;split at hf;rename_i f;cases hf;have:=Oi hk hv h1 f w;exact .inr ⟨0,p.2,e.val,e,d,rfl,by simp[Instr.findAsking,this],h2,rfl,h1,f⟩;rename_i f;have:=Oi hk hv h1 f w;rcases JE hk hv w es a (i+1) r o hf with⟨rfl,hg⟩|⟨j,x,y,n,k,rfl,hg,m,q,s⟩
  exact .inl ⟨rfl,by simp[Instr.findAsking,this,hg]⟩;exact .inr ⟨j+1,x,y,n,k,by congr 2;omega,by rw[show i+(j+1)=i+1+j by omega];simp[Instr.findAsking,this,hg],m,by simpa using q,s⟩;cases hf
end
section
variable{E:BZ}{evs:Operand->SV}{o:Oper}{h:Hp}{n:Nat}{K:SV->Hp->Nat->Prop}
end
section
variable{E:BZ}{evs:Operand->SV}{o:Oper}{h:Hp}{n:Nat}{K:SV->Hp->Nat->Prop}
theorem Nc{f:TypeId}{b:List SV}:∀(es:List (SV×SV))(i:Nat)(j:Nat)(x:SV),EA prog f b es i=some (some (i+j,x))->∃a v,es[j]? = some (.agg a,v)/\CK prog b a (Be prog f)=some true
 | [],i,j,x,h=>by simp[EA]at h
 | p::es,i,j,x,h=>by
  simp only[EA]at h;split at h<;>try cases h
  rename_i a d;split at h;rename_i g;simp only[qm,Prod.mk.injEq]at h;have:j=0:=by omega
  subst this;exact⟨a,p.2,by simp[<-d],g⟩
  . cases j with
    | zero =>
     exfalso;have e:∀(es:List (SV×SV))(i k:Nat)(x:SV),EA prog f b es i=some (some (k,x))->i<=k:=by
      intro es
      induction es with
      | nil=>intro i k x h;simp[EA]at h
      | cons p es ih=>
       intro i k x h;simp only[EA]at h;split at h<;>try cases h
       split at h;simp only[qm,Prod.mk.injEq]at h;omega;have:=ih _ _ _ h;omega;cases h
     have:=e _ _ _ _ h;omega
    | succ j=>
     obtain⟨c,v,h1,h2⟩:=Nc es (i+1) j x (by rw[show i+1+j=i+(j+1)by omega];exact h);exact⟨c,v,by simpa using h1,h2⟩
  cases h
end
section
variable{E:BZ}{evs:Operand->SV}{o:Oper}{h:Hp}{n:Nat}{K:SV->Hp->Nat->Prop}
def UQ(p:SV×SV):Prop:=∃a b:Int,p.1=.agg [.int .i64 a,.int .i64 b]
end
section
variable{P:Program}{E:BZ}{evs:Operand->SV}{o:Oper}{h:Hp}{n:Nat}{K:SV->Hp->Nat->Prop}
variable{N:Nat}{ops:Array Oper}
end
section
variable{E:BZ}{evs:Operand->SV}{o:Oper}{h:Hp}{n:Nat}{K:SV->Hp->Nat->Prop}
end
section
variable{g:FuncId}{a b:List SV}{p:Int->Bool}
end
def z0:AG:=⟨[],0,0,[],[]⟩
def hI(i:Int):AG:=⟨[],i,0,[],[]⟩
section
variable{σ:Type}
end
section
variable{σ:Type}
end
def good(T:Int->Prop):Nat->List AB->Prop
 | 0,_=>True
 | N+1,l=>∀x∈l,(x.x≠7->x.R=[])/\(x.x=6->T x.id)/\good T N x.W/\∀r∈x.R,∀c∈r.cells,T c.id/\good T N c.W
section
variable{σ:Type}
end
theorem GW{F:Nat->Int}{n:Nat}(h:CI F n=0):∀k,k<n->F k=0:=λk hk=>by
 induction n with
 | zero=>omega
 | succ n ih=>
  rw[CI]at h;split at h;rename_i h0;by_cases e:k=n;rw[e];exact h;exact ih h0 mq;omega
def Vy(m2:List Int)(h:AG):Prop:=h.l/\UM m2 h
theorem PL:∀(l:List AB),(∀x∈l,x.J.size<=1000)->Bv l<=l.length*1000
 | [],_=>by simp[Bv]
 | x::l,h=>by
  have h1:=PL l λy a=>h y (by simp[a]);have h2:=h x mr;have e:Bv (x::l)=x.J.size+Bv l:=by simp[Bv]
  simp only[qo];omega
theorem Pl{m2:List Int}{B:Nat}:∀{N:Nat} {l:List AB},lim AG.l B N l->LS N l->dM m2 N l->lim (Vy m2) 150000 N l
 | 0,_,h,_,_=>h.elim
 | N+1,l,hl,hf,hk=>by
  obtain⟨_,_,m⟩:=Ca.1 hl;obtain⟨f1,f2⟩:=hf;refine Ca.2 ⟨by omega,?_,λx b=>?_⟩;have:=PL l λx b=>(f2 x b).1.1;omega;obtain⟨a1,a2,a3,a4⟩:=m x b;obtain⟨⟨b1,b2⟩,f,g⟩:=f2 x b;obtain⟨c1,i,j,_,k⟩:=hk x b;refine⟨⟨a1,i.toUM⟩,Pl a2 f j,by omega,λr hr=>?_⟩;obtain⟨n,u2,d⟩:=a4 r hr;obtain⟨v1,o⟩:=g r hr;obtain⟨p,e⟩:=k r hr;exact⟨⟨n,p.1.toUM⟩,by omega,λc a=>⟨⟨(d c a).1,(e c a).1.toUM⟩,Pl (d c a).2 (o c a) (e c a).2⟩⟩
section
variable{hp:AG->Prop}{σ:Type}{f:σ->Ed->AG×Bool×σ}{K N:Nat}
end
theorem Tw{m2:List Int}{h:AG}(H:Vy m2 h):∀u∈h.all,u∈0::m2:=λu b=>by
 have k:=H.2;simp only[AG.all,qe,qd,qa]at b ⊢;rcases b with rfl|⟨x,a,rfl⟩|⟨x,a,rfl⟩
 rcases k.I with e|e;exact .inl e;exact .inr e;exact .inr (k.Y x a);exact .inr (k.Z x a)
theorem Wq{m2:List Int}{K N:Nat}{W:AI}(hm:m2.length<=1000)(c:K<=1048576)(h:lim (Vy m2) K N W.W)(b:Vy m2 W.T0)(hr:W.V.length<=1048576)(d:W.S.l):
 W.l/\W.normal.l/\(BG [] (AB.U (AY W.W)++W.T0.all)).length<=1048576:=by
 have h1:=h.l (λx g=>g.1) c;have h2:=(Gv h).l (λx g=>g.1) c;refine⟨⟨h1.1,h1.2,b.1,hr,d⟩,⟨h2.1,h2.2,b.1,?_,d⟩,?_⟩;exact qC (vC _ _) hr;refine qC (ZS (L:=0::m2) λu a=>?_) (by simp only[qo];omega);rcases qd.1 a with a|a;exact S9 (λh g=>Tw g) (Gv h) u a;exact Tw b u a
theorem MG{l:List By}(h:FO l=0):l.length<=256:=by
 unfold FO at h;have hl:¬(256:Int)<l.length:=λg=>by simp[BL,g]at h
 omega
def az(w:World):Cx:=⟨λ_=>none,λ_=>False,w,λ_=>none⟩
def BB:Nat:=1048576
section
variable{H:Type}(enc:TypeId×Value->H)(P:Program)(w:World)(base:Nat)(spare:Nat->Bool)(BW:Bool)
variable{α β:Type}
def Rd(k:Nat)(e:TypeId)(F:α->List SV)(z:Nat)(ok:α->Prop)(μ:α->Nat):Prop:=
 ∀cs x,DataW.trod enc P w base spare BW k e cs=some x->Rows.uptoBulk x.1<=BB->∃a,VL (az w) (F a) cs/\cs.length=z/\(∀v∈cs,v.oneCell'=true)/\ok a/\μ a+1<=Rows.uptoBulk x.1
def DB(n:Nat)(L:Nat)(fs:List Field)(o:Nat)(F:α->List SV)(ok:α->Prop)(μ:α->Nat):Prop:=
 ∀(cs:List Value)(xs:List (DataW H×List MemPlace)),cs.length=L->xs.length=fs.length->(∀(i:Nat)(f:Field),fs[i]? = some f->DataW.trod enc P w base spare BW n f.type ((cs.drop f.offset).take (P.cellsOf f.type))=xs[i]?)->
  Rows.uptoBulkAll (xs.map (·.1))<=BB->∃b,VL (az w) (F b) (cs.drop o)/\(∀v∈cs.drop o,v.oneCell'=true)/\ok b/\μ b<=Rows.uptoBulkAll (xs.map (·.1))
variable{enc P w base spare BW}
theorem cF{c:Cx}{a b:List SV}{x y:List Value}(h:VL c a x)(g:VL c b y):VL c (a++b) (x++y):=BE.2 (wo (BE.1 h) (BE.1 g))
theorem DB.nil{n L:Nat}:DB enc P w base spare BW n L [] L (λ_:Unit=>[]) (λ_=>True) (λ_=>0):=λa xs h1 h2 _ _=>by
 have:a.drop L=[]:=List.drop_eq_nil_of_le mq;exact⟨(),by rw[this,VL],by rw[this];simp,trivial,qj _⟩
theorem DB.cons{n L:Nat}{f:Field}{l:List Field}{o z:Nat}{g:α->List SV}{h:β->List SV}{c:α->Prop}{d:β->Prop}{μ1:α->Nat}{μ2:β->Nat}(h1:Rd enc P w base spare BW n f.type g z c μ1)(A:P.cellsOf f.type=z)(y:f.offset=o)
 (h2:DB enc P w base spare BW n L l (o+z) h d μ2):DB enc P w base spare BW n L (f::l) o (λp:α×β=>g p.1++h p.2) (λp=>c p.1/\d p.2) (λp=>μ1 p.1+μ2 p.2):=λe xs g1 m g3 t=>by
 cases xs with
 | nil=>simp at m
 | cons x xs=>
  simp only[qi,Rows.uptoBulkAll]at t;have j:=g3 0 f rfl;rw[y,A]at j;obtain⟨a,a1,a2,a3,a4,a5⟩:=h1 _ x (by simpa using j) mq;obtain⟨b,b1,q,r,b4⟩:=h2 e xs g1 (by simpa using m) (λi s u=>by have:=g3 (i+1) s (by simpa using u);simpa using this) mq;have k:e.drop o=(e.drop o).take z++e.drop (o+z):=by rw[<-List.drop_drop,vY]
  refine⟨(a,b),?_,?_,⟨a4,r⟩,?_⟩;rw[k];exact cF a1 b1;rw[k];intro v hv;rcases qd.1 hv with hv|hv;exact a3 v hv;exact q v hv;simp only[qi,Rows.uptoBulkAll];omega
theorem DB.rd{n L:Nat}{T:TypeId}{c:Array Field}{F:α->List SV}{ok:α->Prop}{μ:α->Nat}(ht:P.underlying T=some (.struct c))(hz:P.cellsOf T=L)(h:DB enc P w base spare BW n L c.toList 0 F ok μ):Rd enc P w base spare BW (n+1) T F L ok μ:=λj x l hb=>by
 obtain⟨xs,m,hm,rfl,hl,a,k⟩:=DataW.trod_struct ht l;obtain rfl:n=m:=by omega
 simp only[Rows.uptoBulk]at hb ⊢;obtain⟨b,b1,d,g,b4⟩:=h j xs mq (by simpa using a) (λi f e=>k i f (by simpa using e)) mq;exact⟨b,by simpa using b1,by omega,by simpa using d,g,by omega⟩
theorem Rd.map{k e z:Nat}{F:α->List SV}{ok:α->Prop}{μ:α->Nat}(h:Rd enc P w base spare BW k e F z ok μ)(g:α->β){d:β->List SV}{b:β->Prop}{μ':β->Nat}(i:∀a,d (g a)=F a)(c:∀a,ok a->b (g a))(l:∀a,μ' (g a)<=μ a):Rd enc P w base spare BW k e d z b μ':=λf x j hb=>by
 obtain⟨a,a1,a2,a3,a4,a5⟩:=h f x j hb;exact⟨g a,by rw[i];exact a1,a2,a3,c a a4,by have:=l a;omega⟩
theorem M8{c:Cx}{s:SV}{v:Value}(h:V c s v):VL c [s] [v]:=BE.2 ⟨h,trivial⟩
theorem dW{k:Nat}{T:TypeId}(ht:P.underlying T=some (.int .i64)):Rd enc P w base spare BW k T (λn:Int=>[AA n]) 1 (λ_=>True) (λ_=>0):=λcs x a _=>by
 obtain⟨n,rfl,rfl,_⟩:=DataW.trod_int ht a;exact⟨n,M8 (by rw[V]),rfl,by simp[Value.oneCell'],trivial,by simp[Rows.uptoBulk]⟩
theorem aP{k:Nat}{T:TypeId}(ht:P.underlying T=some .bool):Rd enc P w base spare BW k T (λn:Bool=>[.bool n]) 1 (λ_=>True) (λ_=>0):=λcs x a _=>by
 obtain⟨n,rfl,rfl⟩:=DataW.trod_bool ht a;exact⟨n,M8 (by rw[V]),rfl,by simp[Value.oneCell'],trivial,by simp[Rows.uptoBulk]⟩
theorem dX{k:Nat}{T:TypeId}(ht:P.underlying T=some .string):Rd enc P w base spare BW k T (λs:ByteArray=>[.str s]) 1 (λs=>s.size<=BB) (λs=>s.size):=λcs x a hb=>by
 obtain⟨s,rfl,rfl,_⟩:=DataW.trod_string ht a;have e:s.data.toList.length=s.size:=by rw[wh];rfl
 simp only[Rows.uptoBulk]at hb ⊢;exact⟨s,M8 (by rw[V]),rfl,by simp[Value.oneCell'],by omega,by omega⟩
def MX(μ:α->Nat)(l:List α):Nat:=(l.map λa=>μ a+1).sum
theorem Dg(μ:α->Nat):∀l:List α,l.length<=MX μ l
 | []=>by simp
 | a::l=>by have:=Dg μ l;simp only[MX,qi,List.sum_cons,qo]at this ⊢;omega
theorem Uf{k z:Nat}{e:TypeId}{F:α->List SV}{f:α->SV}{ok:α->Prop}{μ:α->Nat}(D:∀a,f a=.agg (F a))(I:∀a,(f a).B=true)(A:Rd enc P w base spare BW k e F z ok μ)(p:P.cellsOf e=z)(r:0<z)(a:Addr):
 ∀(d:List (DataW H×List MemPlace))(i:Nat),(∀j,j<d.length->(w.cells? base (a.add ((i+j)*P.cellsOf e)) (P.cellsOf e)).bind (DataW.trod enc P w base spare BW k e)=d[j]?)->Rows.uptoBulkAll (d.map (·.1))<=BB->
  ∃l:List α,∃us:List Value,l.length=d.length/\AU (V (az w)) (l.map f) us/\(∀u∈us,u.cells.size=z)/\(∀v∈us.flatMap (·.cells.toList),v.oneCell'=true)/\(∀j v,(us.flatMap (·.cells.toList))[j]? = some v->w.cell? (a.add (i*z+j))=some v)/\(∀a∈l,ok a)/\MX μ l<=Rows.uptoBulkAll (d.map (·.1))
 | [],i,_,_=>⟨[],[],rfl,trivial,by simp,by simp,by simp,by simp,by simp[MX]⟩
 | y::d,i,hy,hb=>by
  simp only[qi,Rows.uptoBulkAll]at hb;have h0:=hy 0 mr;simp only[we,wz]at h0;obtain⟨c,m,J⟩:=Option.bind_eq_some_iff.1 h0;obtain⟨_,hcl,h⟩:=World.cells?_some m;obtain⟨b,b1,s,t,G,b5⟩:=A c y J mq;obtain⟨l,us,K,L,M,N,O,Q,R⟩:=Uf D I A p r a d (i+1) (λj E=>by have:=hy (j+1) (by simp;omega);rw[show i+1+j=i+(j+1)by omega];simpa using this) mq;have C:(Value.agg c.toArray).cells.toList=c:=by simp[Value.cells]
  refine⟨b::l,.agg c.toArray::us,by simp[K],⟨?_,L⟩,?_,?_,?_,?_,?_⟩;show V (az w) (f b) (.agg c.toArray);rw[D,V];exact⟨c,rfl,b1,t⟩;intro u o;rcases qe.1 o with rfl|o;simpa[Value.cells]using s;exact M u o;intro v hv;rw[va,C]at hv;rcases qd.1 hv with hv|hv;exact t v hv;exact N v hv;intro j v hv;rw[va,C]at hv;by_cases E:j<z;rw[wj mq]at hv;have:=h j (by rw[p];exact E);rw[p,hv]at this;have e:(a.add (i*z)).add j=a.add (i*z+j):=by
   unfold Addr.add;by_cases g:i*z=0;simp[g];by_cases x:j=0;simp[g,x];simp[g,x,qq]
  rw[e]at this;exact this;rw[vR mq]at hv;have:=O (j-c.length) v hv;rw[show(i+1)*z+(j-c.length)=i*z+j by rw[s,wi,Nat.one_mul];omega]at this;exact this;intro q n;rcases qe.1 n with rfl|n;exact G;exact Q q n;simp only[qi,Rows.uptoBulkAll,MX,List.sum_cons]at R ⊢;omega
theorem D1{k z:Nat}{e T:TypeId}{F:α->List SV}{f:α->SV}{ok:α->Prop}{μ:α->Nat}(G:∀a,f a=.agg (F a))(u:∀a,(f a).B=true)(ht:P.underlying T=some (.slice e))(J:P.cellsOf e=z)(t:0<z)(D:∀m,m+1=k->Rd enc P w base spare BW m e F z ok μ):
 Rd enc P w base spare BW k T (λl:List α=>[.y z (l.map f) false]) 1 (λl=>(∀a∈l,ok a)/\MX μ l<=BB) (MX μ):=λcs x I hb=>by
 rcases DataW.trod_slice ht I with⟨rfl,rfl⟩|⟨a,len,cap,b,rest,n,H,rfl,rfl,_,g,_,c,E,_,_⟩
 exact⟨[],M8 (by rw[V];exact .inl ⟨rfl,rfl⟩),rfl,by simp[Value.oneCell'],⟨by simp,by simp[MX]⟩,by simp[MX,Rows.uptoBulk]⟩;simp only[Rows.uptoBulk]at hb ⊢;obtain⟨l,us,A,K,L,M,C,N,l7⟩:=Uf G u (D n H.symm) J t a b 0 (λj hj=>by rw[qZ];exact E j mq) mq;refine⟨l,M8 ?_,rfl,by simp[Value.oneCell'],⟨N,by omega⟩,by omega⟩;rw[V];right;refine⟨a,cap,us.flatMap (·.cells.toList),by rw[qf,A,c],by rw[qf,A,c];exact g,by simp,?_,Ju.2 ⟨us,K,L,λs p=>?_,rfl⟩⟩;have d:us.flatMap (·.cells.toList)≠[]->a.spot=none:=λo=>by
  obtain⟨v,r,hv⟩:=List.exists_cons_of_ne_nil o;have:=World.cell?_spot (C 0 v (by rw[hv];rfl));simpa[Addr.add]using this
 refine⟨d,λ_ h=>h,λi v hv=>?_,M⟩;have h1:=C i v hv;have h2:=d (by rintro e;rw[e]at hv;simp at hv);rw[Nat.zero_mul,qZ]at h1;have e:a.add i=⟨a.block,a.off+i,none⟩:=by
  unfold Addr.add;split;subst_vars;cases a;simp_all;rfl
 rw[e]at h1;exact h1;obtain⟨q,_,rfl⟩:=qa.1 p;exact u q
end
section
variable{H:Type}{enc:TypeId×Value->H}{w:World}{base:Nat}{spare:Nat->Bool}{BW:Bool}{α:Type}
theorem Rd.zero{e:TypeId}{F:α->List SV}{z:Nat}{ok:α->Prop}{μ:α->Nat}:Rd enc prog w base spare BW 0 e F z ok μ:=λcs x a _=>by simp[DataW.trod]at a
theorem F3(k:Nat):Rd enc prog w base spare BW k 3 (λn:Int=>[AA n]) 1 (λ_=>True) (λ_=>0):=dW Tryz.underlying3
theorem RY(k:Nat):Rd enc prog w base spare BW k 9 (λs:ByteArray=>[.str s]) 1 (λs=>s.size<=BB) (λs=>s.size):=dX Tryz.underlying9
theorem bY(k:Nat):Rd enc prog w base spare BW k 4 (λb:Bool=>[.bool b]) 1 (λ_=>True) (λ_=>0):=aP Tryz.underlying4
def Fp.F(p:Fp):List SV:=[AA p.key,AA p.value]
theorem mR:∀k,Rd enc prog w base spare BW k 164 Fp.F 2 (λ_=>True) (λ_=>0)
 | 0=>Rd.zero
 | k+1=>(DB.rd Tryz.underlying164 mu (DB.cons (F3 k) mu rfl (DB.cons (F3 k) mu rfl DB.nil))).map (λp=>⟨p.1,p.2.1⟩) (λ_=>rfl) (λ_ _=>trivial) (λ_=>qj _)
def Di.F(p:Di):List SV:=[AA p.rev,AA p.move]
theorem mP:∀k,Rd enc prog w base spare BW k 74 Di.F 2 (λ_=>True) (λ_=>0)
 | 0=>Rd.zero
 | k+1=>(DB.rd Tryz.underlying74 mu (DB.cons (F3 k) mu rfl (DB.cons (F3 k) mu rfl DB.nil))).map (λp=>⟨p.1,p.2.1⟩) (λ_=>rfl) (λ_ _=>trivial) (λ_=>qj _)
def A3.F(p:A3):List SV:=[AA p.rev,AA p.key,AA p.before,.bool p.had]
theorem dR:∀k,Rd enc prog w base spare BW k 76 A3.F 4 (λ_=>True) (λ_=>0)
 | 0=>Rd.zero
 | k+1=>(DB.rd Tryz.underlying76 mu (DB.cons (F3 k) mu rfl (DB.cons (F3 k) mu rfl (DB.cons (F3 k) mu rfl (DB.cons (bY k) mu rfl DB.nil))))).map (λp=>⟨p.1,p.2.1,p.2.2.1,p.2.2.2.1⟩) (λ_=>rfl) (λ_ _=>trivial) (λ_=>qj _)
def By.F(p:By):List SV:=[AA p.id,.str p.O,AA p.time]
theorem mS:∀k,Rd enc prog w base spare BW k 68 By.F 3 (λr=>r.O.size<=BB) (λ_=>0)
 | 0=>Rd.zero
 | k+1=>(DB.rd Tryz.underlying68 mu (DB.cons (F3 k) mu rfl (DB.cons (RY k) mu rfl (DB.cons (F3 k) mu rfl DB.nil)))).map (λp=>(⟨p.1,p.2.1,p.2.2.1⟩:By)) (λ_=>rfl) (λ_ h=>h.2.1) (λ_=>qj _)
theorem Xz(k:Nat):Rd enc prog w base spare BW k 23 (λl:List Fp=>[AO l]) 1 (λl=>l.length<=BB) (λ_=>0):=
 (D1 (f:=Fp.h) (F:=Fp.F) (λ_=>rfl) Fp.E.st Tryz.underlying23 mu mq (λm _=>mR m)).map (λl=>l) (λ_=>rfl) (λl h=>by have:=Dg (λ_=>0) l;have:=h.2;omega) (λ_=>qj _)
theorem iM(k:Nat):Rd enc prog w base spare BW k 24 (λl:List Di=>[AX l]) 1 (λl=>l.length<=BB) (λ_=>0):=
 (D1 (f:=Di.h) (F:=Di.F) (λ_=>rfl) Di.E.st Tryz.underlying24 mu mq (λm _=>mP m)).map (λl=>l) (λ_=>rfl) (λl h=>by have:=Dg (λ_=>0) l;have:=h.2;omega) (λ_=>qj _)
theorem aM(k:Nat):Rd enc prog w base spare BW k 25 (λl:List A3=>[AN l]) 1 (λl=>l.length<=BB) (λ_=>0):=
 (D1 (f:=A3.h) (F:=A3.F) (λ_=>rfl) A3.E.st Tryz.underlying25 mu mq (λm _=>dR m)).map (λl=>l) (λ_=>rfl) (λl h=>by have:=Dg (λ_=>0) l;have:=h.2;omega) (λ_=>qj _)
theorem iN(k:Nat):Rd enc prog w base spare BW k 30 (λl:List By=>[BV l]) 1 (λl=>l.length<=BB/\∀r∈l,r.O.size<=BB) (λ_=>0):=
 (D1 (f:=By.h) (F:=By.F) (λ_=>rfl) By.E.st Tryz.underlying30 mu mq (λm _=>mS m)).map (λl=>l) (λ_=>rfl) (λl h=>⟨by have:=Dg (λ_=>0) l;have:=h.2;omega,h.1⟩) (λ_=>qj _)
theorem dU:∀k,Rd enc prog w base spare BW k 27 (λm:Int×Int×List Di×List A3=>[AA m.1,AA m.2.1,AX m.2.2.1,AN m.2.2.2]) 4 (λm=>m.2.2.1.length<=BB/\m.2.2.2.length<=BB) (λ_=>0)
 | 0=>Rd.zero
 | k+1=>(DB.rd Tryz.underlying27 mu (DB.cons (F3 k) mu rfl (DB.cons (F3 k) mu rfl (DB.cons (iM k) mu rfl (DB.cons (aM k) mu rfl DB.nil))))).map (λp=>(p.1,p.2.1,p.2.2.1,p.2.2.2.1)) (λ_=>rfl) (λ_ h=>⟨h.2.2.1,h.2.2.2.1⟩) (λ_=>qj _)
theorem Ue:∀k,Rd enc prog w base spare BW k 29 AG.j 5 AG.l (λ_=>0)
 | 0=>Rd.zero
 | k+1=>(DB.rd Tryz.underlying29 mu (DB.cons (Xz k) mu rfl (DB.cons (dU k) mu rfl DB.nil))).map (λp=>(⟨p.1,p.2.1.1,p.2.1.2.1,p.2.1.2.2.1,p.2.1.2.2.2⟩:AG)) (λ_=>rfl) (λ_ h=>⟨h.1,h.2.1.1,h.2.1.2⟩) (λ_=>qj _)
def AB.F(x:AB):List SV:=[AA x.x,AA x.code,AA x.id,.str x.J,AO x.H.Q,AA x.H.I,AA x.H.move,AX x.H.Y,AN x.H.Z,AH x.W,Au x.R]
def AL.F(x:AL):List SV:=[AO x.H.Q,AA x.H.I,AA x.H.move,AX x.H.Y,AN x.H.Z,BS x.cells]
def AF.F(x:AF):List SV:=[AA x.id,AO x.H.Q,AA x.H.I,AA x.H.move,AX x.H.Y,AN x.H.Z,AH x.W]
def Z6(N:Nat)(c:AF):Prop:=c.H.l/\lim AG.l BB N c.W
def dE(N:Nat)(r:AL):Prop:=r.H.l/\r.cells.length<=BB/\∀c∈r.cells,Z6 N c
theorem PM:∀l:List AB,Bv l<=MX (λx=>x.J.size) l
 | []=>by simp[Bv]
 | x::l=>by
  have:=PM l;simp only[Bv,MX,qi,List.sum_cons]at this ⊢;omega
theorem dQ:∀k,Rd enc prog w base spare BW k 22 (λl:List AB=>[AH l]) 1 (λl=>∀N,k<N->lim AG.l BB N l) (MX λx=>x.J.size):=λk=>by
 induction k using Nat.strongRecOn with
 | ind k ih=>
 have cell:∀m,m<k->Rd enc prog w base spare BW m 173 AF.F 7 (λc=>∀N,m<=N->Z6 N c) (λ_=>0):=λm hm=>by
  cases m with
  | zero=>exact Rd.zero
  | succ m=>
   exact(DB.rd Tryz.underlying173 mu (DB.cons (F3 m) mu rfl (DB.cons (Ue m) mu rfl (DB.cons (ih m mq) mu rfl DB.nil)))).map (λp=>AF.mk p.1 p.2.1 p.2.2.1) (λ_=>rfl) (λ_ h N a=>⟨h.2.1,h.2.2.1 N mq⟩) (λ_=>qj _)
 have cells:∀m,m<k->Rd enc prog w base spare BW m 169 (λl:List AF=>[BS l]) 1 (λl=>l.length<=BB/\∀c∈l,∀N,m<=N->Z6 N c) (λ_=>0):=λm hm=>
  (D1 (f:=AF.h) (F:=AF.F) (ok:=λc=>∀N,m<=N->Z6 N c) (λc=>vD c) AF.E.st Tryz.underlying169 mu mq (λq d=>(cell q mq).map (λc=>c) (λ_=>rfl) (λ_ h N a=>h N mq) (λ_=>IO _))).map (λl=>l) (λ_=>rfl) (λl h=>⟨by have:=Dg (λ_=>0) l;have:=h.2;omega,h.1⟩) (λ_=>qj _)
 have row:∀m,m<k->Rd enc prog w base spare BW m 171 AL.F 6 (λr=>∀N,m<=N->dE N r) (λ_=>0):=λm hm=>by
  cases m with
  | zero=>exact Rd.zero
  | succ m=>
   exact(DB.rd Tryz.underlying171 mu (DB.cons (Ue m) mu rfl (DB.cons (cells m mq) mu rfl DB.nil))).map (λp=>AL.mk p.1 p.2.1) (λ_=>rfl) (λ_ h N a=>⟨h.1,h.2.1.1,λc e=>h.2.1.2 c e N mq⟩) (λ_=>qj _)
 have b:∀m,m<k->Rd enc prog w base spare BW m 78 (λl:List AL=>[Au l]) 1 (λl=>l.length<=BB/\∀c∈l,∀N,m<=N->dE N c) (λ_=>0):=λm hm=>
  (D1 (f:=AL.h) (F:=AL.F) (ok:=λc=>∀N,m<=N->dE N c) (λc=>qR c) AL.E.st Tryz.underlying78 mu mq (λq d=>(row q mq).map (λc=>c) (λ_=>rfl) (λ_ h N a=>h N mq) (λ_=>IO _))).map (λl=>l) (λ_=>rfl) (λl h=>⟨by have:=Dg (λ_=>0) l;have:=h.2;omega,h.1⟩) (λ_=>qj _)
 have item:∀m,m<k->Rd enc prog w base spare BW m 80 AB.F 11 (λx=>∀N,m<=N->RJ AG.l BB N x) (λx=>x.J.size):=λm hm=>by
  cases m with
  | zero=>exact Rd.zero
  | succ m =>
   exact(DB.rd Tryz.underlying80 mu (DB.cons (F3 m) mu rfl (DB.cons (F3 m) mu rfl (DB.cons (F3 m) mu rfl (DB.cons (RY m) mu rfl (DB.cons (Ue m) mu rfl (DB.cons (ih m mq) mu rfl (DB.cons (b m mq) mu rfl DB.nil)))))))).map (λp=>AB.mk p.1 p.2.1 p.2.2.1 p.2.2.2.1 p.2.2.2.2.1 p.2.2.2.2.2.1 p.2.2.2.2.2.2.1) (λ_=>rfl)
    (λ_ h N a=>⟨h.2.2.2.2.1,h.2.2.2.2.2.1 N mq,h.2.2.2.2.2.2.1.1,λr hr=>h.2.2.2.2.2.2.1.2 r hr N mq⟩) (λp=>by show p.2.2.2.1.size<=_;omega)
 exact(D1 (f:=AB.h) (F:=AB.F) (ok:=λx=>∀N,k<=N+1->RJ AG.l BB N x) (λc=>qy c) AB.E.st Tryz.underlying22 mu mq (λq d=>(item q mq).map (λc=>c) (λ_=>rfl) (λ_ h N a=>h N mq) (λ_=>IO _))).map (λl=>l) (λ_=>rfl) (λl h N a=>by
  cases N with
  | zero=>omega
  | succ N=>
   have h1:=Dg (λx:AB=>x.J.size) l;have h2:=PM l;have h3:=h.2;exact Ca.2 ⟨by omega,by omega,λx g=>h.1 x g N mq⟩) (λ_=>IO _)
end
section
variable{H:Type}{enc:TypeId×Value->H}{w:World}{base:Nat}{spare:Nat->Bool}{BW:Bool}{α:Type}
def Ao.F(s:Ao):List SV:=[AA s.id,AA s.x,.str s.name,AA s.base,AA s.next,AO s.Q]
theorem dV:∀k,Rd enc prog w base spare BW k 110 Ao.F 6 (λs=>s.Q.length<=BB) (λ_=>0)
 | 0=>Rd.zero
 | k+1=>(DB.rd Tryz.underlying110 mu (DB.cons (F3 k) mu rfl (DB.cons (F3 k) mu rfl (DB.cons (RY k) mu rfl (DB.cons (F3 k) mu rfl (DB.cons (F3 k) mu rfl (DB.cons (Xz k) mu rfl DB.nil))))))).map
  (λp=>(⟨p.1,p.2.1,p.2.2.1,p.2.2.2.1,p.2.2.2.2.1,p.2.2.2.2.2.1⟩:Ao)) (λ_=>rfl) (λ_ h=>h.2.2.2.2.2.1) (λ_=>qj _)
def Cq.F(s:Cq):List SV:=[AA s.format,AA s.start,.str s.template,AA s.restart]
theorem dS:∀k,Rd enc prog w base spare BW k 115 Cq.F 4 (λs=>s.template.size<=BB) (λ_=>0)
 | 0=>Rd.zero
 | k+1=>(DB.rd Tryz.underlying115 mu (DB.cons (F3 k) mu rfl (DB.cons (F3 k) mu rfl (DB.cons (RY k) mu rfl (DB.cons (F3 k) mu rfl DB.nil))))).map
  (λp=>(⟨p.1,p.2.1,p.2.2.1,p.2.2.2.1⟩:Cq)) (λ_=>rfl) (λ_ h=>h.2.2.1) (λ_=>qj _)
theorem aN(k:Nat):Rd enc prog w base spare BW k 111 (λl:List Cq=>[DP l]) 1 (λl=>l.length<=BB/\∀r∈l,r.template.size<=BB) (λ_=>0):=
 (D1 (f:=Cq.h) (F:=Cq.F) (λ_=>rfl) Cq.E.st Tryz.underlying111 mu mq (λm _=>dS m)).map (λl=>l) (λ_=>rfl) (λl h=>⟨by have:=Dg (λ_=>0) l;have:=h.2;omega,h.1⟩) (λ_=>qj _)
def FT.F(s:FT):List SV:=[AA s.id,DP s.levels]
theorem mQ:∀k,Rd enc prog w base spare BW k 113 FT.F 2 (λs=>s.levels.length<=BB/\∀r∈s.levels,r.template.size<=BB) (λ_=>0)
 | 0=>Rd.zero
 | k+1=>(DB.rd Tryz.underlying113 mu (DB.cons (F3 k) mu rfl (DB.cons (aN k) mu rfl DB.nil))).map (λp=>(⟨p.1,p.2.1⟩:FT)) (λ_=>rfl) (λ_ h=>h.2.1) (λ_=>qj _)
def AR.F(c:AR):List SV:=[AA c.id,AA c.parent,.str c.O,AA c.time,.str c.J,.bool c.done]
theorem Xy:∀k,Rd enc prog w base spare BW k 71 AR.F 6 (λs=>s.O.size<=BB/\s.J.size<=BB) (λ_=>0)
 | 0=>Rd.zero
 | k+1=>(DB.rd Tryz.underlying71 mu (DB.cons (F3 k) mu rfl (DB.cons (F3 k) mu rfl (DB.cons (RY k) mu rfl (DB.cons (F3 k) mu rfl (DB.cons (RY k) mu rfl (DB.cons (bY k) mu rfl DB.nil))))))).map
  (λp=>(⟨p.1,p.2.1,p.2.2.1,p.2.2.2.1,p.2.2.2.2.1,p.2.2.2.2.2.1⟩:AR)) (λ_=>rfl) (λ_ h=>⟨h.2.2.1,h.2.2.2.2.1⟩) (λ_=>qj _)
def Ge.F(c:Ge):List SV:=[.str c.name,.str c.value]
theorem mT:∀k,Rd enc prog w base spare BW k 88 Ge.F 2 (λs=>s.name.size<=BB/\s.value.size<=BB) (λ_=>0)
 | 0=>Rd.zero
 | k+1=>(DB.rd Tryz.underlying88 mu (DB.cons (RY k) mu rfl (DB.cons (RY k) mu rfl DB.nil))).map (λp=>(⟨p.1,p.2.1⟩:Ge)) (λ_=>rfl) (λ_ h=>⟨h.1,h.2.1⟩) (λ_=>qj _)
theorem aO(k:Nat):Rd enc prog w base spare BW k 31 (λl:List Ao=>[AT l]) 1 (λl=>l.length<=BB/\∀r∈l,r.Q.length<=BB) (λ_=>0):=
 (D1 (f:=Ao.h) (F:=Ao.F) (λ_=>rfl) Ao.E.st Tryz.underlying31 mu mq (λm _=>dV m)).map (λl=>l) (λ_=>rfl) (λl h=>⟨by have:=Dg (λ_=>0) l;have:=h.2;omega,h.1⟩) (λ_=>qj _)
theorem dT(k:Nat):Rd enc prog w base spare BW k 32 (λl:List FT=>[Bi l]) 1 (λl=>l.length<=BB/\∀s∈l,s.levels.length<=BB/\∀r∈s.levels,r.template.size<=BB) (λ_=>0):=
 (D1 (f:=FT.h) (F:=FT.F) (λ_=>rfl) FT.E.st Tryz.underlying32 mu mq (λm _=>mQ m)).map (λl=>l) (λ_=>rfl) (λl h=>⟨by have:=Dg (λ_=>0) l;have:=h.2;omega,h.1⟩) (λ_=>qj _)
theorem VZ(k:Nat):Rd enc prog w base spare BW k 33 (λl:List AR=>[Af l]) 1 (λl=>l.length<=BB/\∀s∈l,s.O.size<=BB/\s.J.size<=BB) (λ_=>0):=
 (D1 (f:=AR.h) (F:=AR.F) (λ_=>rfl) AR.E.st Tryz.underlying33 mu mq (λm _=>Xy m)).map (λl=>l) (λ_=>rfl) (λl h=>⟨by have:=Dg (λ_=>0) l;have:=h.2;omega,h.1⟩) (λ_=>qj _)
theorem iO(k:Nat):Rd enc prog w base spare BW k 34 (λl:List Ge=>[CA l]) 1 (λl=>l.length<=BB/\∀s∈l,s.name.size<=BB/\s.value.size<=BB) (λ_=>0):=
 (D1 (f:=Ge.h) (F:=Ge.F) (λ_=>rfl) Ge.E.st Tryz.underlying34 mu mq (λm _=>mT m)).map (λl=>l) (λ_=>rfl) (λl h=>⟨by have:=Dg (λ_=>0) l;have:=h.2;omega,h.1⟩) (λ_=>qj _)
theorem Vb:∀k,Rd enc prog w base spare BW k 36 AQ.j 4 AQ.sizedT (λ_=>0)
 | 0=>Rd.zero
 | k+1=>(DB.rd Tryz.underlying36 mu (DB.cons (aO k) mu rfl (DB.cons (dT k) mu rfl (DB.cons (VZ k) mu rfl (DB.cons (iO k) mu rfl DB.nil))))).map
  (λp=>(⟨p.1,p.2.1,p.2.2.1,p.2.2.2.1⟩:AQ)) (λ_=>rfl) (λ_ h=>⟨⟨h.1.1,h.2.1.1,h.2.2.1.1,h.2.2.2.1.1,h.1.2,λx a=>(h.2.1.2 x a).1⟩,λx a=>(h.2.1.2 x a).2,h.2.2.1.2,h.2.2.2.1.2⟩) (λ_=>qj _)
def AI.F(d:AI):List SV:=[AH d.W]++d.T0.j++[BV d.V]++d.S.j
theorem Va:∀k,Rd enc prog w base spare BW k 38 AI.F 11 (λd=>d.sizedT BB k) (λ_=>0)
 | 0=>Rd.zero
 | k+1=>(DB.rd Tryz.underlying38 mu (DB.cons (dQ k) mu rfl (DB.cons (Ue k) mu rfl (DB.cons (iN k) mu rfl (DB.cons (Vb k) mu rfl DB.nil))))).map
  (λp=>(⟨p.1,p.2.1,p.2.2.1,p.2.2.2.1⟩:AI)) (λ_=>rfl) (λ_ h=>⟨h.1 _ mq,h.2.1,h.2.2.1.1,h.2.2.1.2,h.2.2.2.1⟩) (λ_=>qj _)
def DC.F(s:DC):List SV:=[AA s.id,AA s.a,AA s.b]
theorem Rd.arg{k e z:Nat}{F:α->List SV}{ok:α->Prop}{μ:α->Nat}(h:Rd enc prog w base spare BW k e F z ok μ){c:Array Field}(ht:prog.underlying e=some (.struct c)){r:Reach}{b0:Nat}{v:Value}(hv:Value.okWide prog w r b0 e v){x:DataW H×List MemPlace}
 (d:DataW.trod enc prog w base spare BW k e v.cells.toList=some x) (hb:Rows.uptoBulk x.1<=BB):∃a,V (az w) (.agg (F a)) v/\ok a:=by
 simp only[Value.okWide,ht]at hv;obtain⟨b,rfl,_,_⟩:=hv;obtain⟨a,a1,a2,a3,a4,a5⟩:=h _ x d hb;refine⟨a,?_,a4⟩;rw[V];exact⟨b.toList,by simp,by simpa[Value.cells]using a1,by simpa[Value.cells]using a3⟩
end
open Go.ChangeShapes Go.WideShapes Go.ChangeAt Go.RowKit
theorem gp:Kids prog (· < prog.types.size):=kids_rows mu mu
theorem gg:∀t e,t<prog.types.size->prog.underlying t=some (.slice e)->0<prog.cellsOf e:=slices_full_of prog mu
section
variable{H:Type}{enc:TypeId×Value->H}
theorem VI{W:World}{a:Cx}(x:DV (az W) a){b:Nat}(h:b<W.heap.size):a.w.heap[b]? = W.heap[b]?:=(x.keep b h (λh=>h)).2
theorem Qs{P:Program}{w w':World}{base:Nat}{d:Nat->Bool}{BW:Bool}(hw:∀b,b<w.heap.size->w'.heap[b]? = w.heap[b]?):∀{f:List TypeId} {vs:List Value} {c:List (DataW H)} {ps:List MemPlace},DataW.TrodAll enc P w base d BW f vs c ps->(∀p∈ps,p.block<w.heap.size)->DataW.TrodAll enc P w' base d BW f vs c ps
 | [],[],[],_,h,_=>h
 | _ :: _, _ :: _, _ :: _, _, ⟨p, q, ⟨n, h1⟩, h2, e⟩, hs => by
  have hp:∀x∈p,w.sameAt w' x:=λx a=>by
   have hb:=hs x (by rw[e];exact qz _ a);cases x with
   | cell b off=>simp only[World.sameAt,World.cell?,hw b hb]
   | map b=>exact hw b hb
  exact⟨p,q,⟨n,DataW.trod_carry n _ _ _ h1 hp⟩,Qs hw h2 (λx a=>hs x (by rw[e];exact qx _ a)),e⟩
theorem TO{f:Func}{s:ChangeSpec}{a m c l:Bool}{W g:World}{args:Array Value}{v:Value}{u F:List (DataW H)}{before:List MemPlace}{x:DataW H}
 (z:DataW.Whole enc prog f.params.toList s.vars a W args.toList u F before) (hv:s.vars=[]) (C:∀t∈f.params.toList,t<prog.types.size)
 (B:g.os=W.os) (y:g.output=W.output) (hw:∀b,b<W.heap.size->g.heap[b]? = W.heap[b]?)
 (n:s.fn H (u++F)={ results:=[x],args:=u })
 (h:∀(b:Nat)(k:Nat->Bool)(hd:Bool),DataW.TrodAll enc prog g b k hd f.resultTypes.toList (v.resultList f.resultTypes.size) [x] [])
 (A:∀(j:Nat)(t:TypeId)(r:Value),f.resultTypes[j]? = some t->(v.resultList f.resultTypes.size)[j]? = some r->Value.okWide prog g .any 0 t r):
 s.post enc prog f a m c l W args v g:=by
 have e:=z.lt;have w:=z;obtain⟨p,q,h1,h2,rfl,I,G⟩:=z;rw[hv]at h2;obtain⟨rfl,rfl⟩:=trodVars_none h2;rw[qV]at e I G w;have c1:=Qs hw h1 e;have E:∀k:Nat->Bool,(∀x∈p,k x.block=true)->DataW.TrodAll enc prog g 0 k true f.params.toList args.toList u p:=λk J=>DataW.TrodAll.respare gp gg C c1 J;have d:∀k:Nat->Bool,DataW.TrodVars enc prog g k s.vars [] []:=λk=>by rw[hv];rfl
 refine⟨u,[],p,[],p,[],w,by rw[n];exact h _ _ _,by rw[n];exact E _ (λx D=>by simpa using e x D),by rw[n];exact d _,?_,λ_=>?_⟩;refine⟨B,y,λi hi=>?_⟩;rw[hw i hi];generalize W.heap[i]? = o;cases o with
 | none=>rfl
 | some b=>cases b<;>simp
 refine⟨A,x::u,[],p,⟨p,[],by simpa using trodAll_append (E _ (λ_ _=>rfl)) (h 0 (λ_=>true) true),d _,by simp,?_,G⟩,λx D _=>D⟩;intro b off hp;have hb:=e _ hp;have:=I b off hp;simp only[World.frozen?]at this ⊢;rw[hw b hb];exact this
theorem mU(W:World):CB (λ_=>none) (az W):=⟨λ_ _ h=>(by cases h),λ_ _ _ _ _ h=>(by cases h),λb=>⟨λh=>h.elim,λ⟨_,_,h,_⟩=>(by cases h)⟩⟩
end
end Go.Proofs.YthinbkgpjmjfeaaGreatDoor.Sh
namespace Go.Proofs.YthinbkgpjmjfeaaGreatDoor.Sh
open Go.Proofs.Tryz
open Proofs
set_option maxRecDepth 10000
set_option maxHeartbeats 4000000
structure ZO where
 W:Int
 a:Int
 b:Int
def ZO.h(r:ZO):SV:=.agg [AA r.W,AA r.a,AA r.b]
abbrev YR(l:List ZO):SV:=.y 3 (l.map ZO.h) false
abbrev Yf(l:List ByteArray):SV:=.y 1 (l.map SV.str) false
structure IQ where
 ranges:List ZO
 marker:ByteArray
 o1:Bool
 o2:Bool
 o3:Bool
 o4:Bool
 vars:List ByteArray
def IQ.h(r:IQ):SV:=.agg [YR r.ranges,.str r.marker,.bool r.o1,.bool r.o2,.bool r.o3,.bool r.o4,Yf r.vars]
structure Rsz(r:IQ):Prop where
 hr:r.ranges.length<=1048576
 hm:r.marker.size<=1048576
 hv:r.vars.length<=1048576
abbrev dcs(d:AI):List SV:=[AH d.W]++d.T0.j++[BV d.V]++d.S.j
abbrev rcs(r:IQ):List SV:=[YR r.ranges,.str r.marker,.bool r.o1,.bool r.o2,.bool r.o3,.bool r.o4,Yf r.vars]
theorem bO{h:Hp}{n:Nat}(a:Hw h n){x y:Option A9}:∀o z,h o=some z->h_ (h_ h n x) (n+1) y o=some z:=
 λo z e=>by have:=(a o z e).1;rw[AD _ _ mq,AD _ _ mq];exact e
theorem UE{h:Hp}{n:Nat}(a:Hw h n)(j:Nat)(hj:n<=j):h j=none:=by
 cases e:h j with
 | none=>rfl
 | some x=>have:=(a j x e).1;omega
def Qk(p:Nat->Bool):Nat->Bool
 | 0=>false
 | n+1=>Qk p n||p n
theorem JB{p:Nat->Bool}:∀{n:Nat},Qk p n=true↔∃i,i<n/\p i=true
 | 0=>by simp[Qk]
 | n+1=>by
  simp only[Qk,vV,JB (n:=n)];constructor;rintro(⟨i,h1,h2⟩|h);exact⟨i,by omega,h2⟩;exact⟨n,by omega,h⟩;rintro⟨i,h1,h2⟩;by_cases e:i=n;subst e;exact .inr h2;exact .inl ⟨i,by omega,h2⟩
theorem Nl{p:Nat->Bool}{n:Nat}:∀(f k:Nat),n-k=f->(0<=BM p n k↔∃i,k<=i/\i<n/\p i=true)
 | 0,k,hf=>by
  rw[BM.eq_def,dif_neg mq];constructor;intro h;omega;rintro⟨i,h1,h2,_⟩;omega
 | f+1,k,hf=>by
  rw[BM.eq_def,dif_pos mq];by_cases h:p k=true;rw[my h];exact⟨λ_=>⟨k,IO _,by omega,h⟩,λ_=>by omega⟩;rw[mw h,Nl f (k+1) mq];constructor;rintro⟨i,h1,h2,a⟩;exact⟨i,by omega,h2,a⟩;rintro⟨i,h1,h2,a⟩;have:i≠k:=by rintro rfl;exact h a
  exact⟨i,by omega,h2,a⟩
theorem Tz(p:Nat->Bool)(n:Nat):MQ p n=Qk p n:=by
 rw[Bool.eq_iff_iff,JB,MQ,decide_eq_true_eq,Nl _ 0 rfl];simp
def Gz(eff:Nat->Bool):Nat->Nat
 | 0=>0
 | j+1=>Gz eff j+(if eff j=true then 1 else 0)
theorem d9(eff:Nat->Bool){i j:Nat}(h:i<=j):Gz eff i<=Gz eff j:=by
 induction j with
 | zero => have : i = 0 := by omega
           subst this;exact IO _
 | succ j ih=>
  rcases vq j i with g|g;have:i=j+1:=by omega
  subst this;exact IO _;exact qC (ih g) (Nat.le_add_right _ _)
theorem TU{eff:Nat->Bool}{i j:Nat}(h:i<j)(a:eff i=true):Gz eff i<Gz eff j:=
 wC (show Gz eff i<Gz eff (i+1)by simp[Gz,a]) (d9 eff h)
theorem aT{eff:Nat->Bool}{i j:Nat}(hi:eff i=true)(a:eff j=true)(h:Gz eff i=Gz eff j):i=j:=by
 rcases Nat.lt_trichotomy i j with g|g|g;have:=TU g hi;omega;exact g;have:=TU g a;omega
theorem TT{eff:Nat->Bool}{k:Nat}:∀{m:Nat},k<Gz eff m->∃j,j<m/\eff j=true/\Gz eff j=k
 | 0,h=>absurd h (Nat.not_lt_zero _)
 | m+1,h=>by
  rcases vq k (Gz eff m)with g|g;obtain⟨j,h1,h2,a⟩:=TT g;exact⟨j,by omega,h2,a⟩;simp only[Gz]at h;by_cases e:eff m=true;rw[my e]at h;exact⟨m,by omega,e,by omega⟩;rw[mw e]at h;omega
def May(ops:Array Oper)(eff:Nat->Bool)(i k:Nat):Prop:=
 (eff i=true->k=Gz eff i)/\k<=Gz eff ops.size/\(∀j,j<ops.size->eff j=true->k<=Gz eff j->DU ops j i=false)/\(∀j,j<ops.size->eff j=true->Gz eff j<k->DU ops i j=false)
def UA(rs:List CC)(f0:Nat->SV)(i:Nat):Nat->SV:=Dj (rs.map CC.tw) (λq=>decide (q<i)) 0 f0
structure ZJ(E:BZ)(P:Program)(N:Nat)(ops:Array Oper)(f0:Nat->SV)(rs:List CC)(eff:Nat->Bool)(hs:Nat->Hp)(ns:Nat->Nat):Prop where
 len:rs.length=ops.size
 stat:ED ops=true
 dok:∀(i:Nat)(o:Oper),ops[i]? = some o->∀d,o.dst=some d->d<N
 row:∀i j,j<i->i<ops.size->eff j=true->eff i=true->Gz eff i=Gz eff j+1->DU ops j i=true
 ok:∀(i:Nat)(o:Oper)(r:CC),ops[i]? = some o->rs[i]? = some r->r.dst=o.dst/\
  ((DI ops (UA rs f0 i) o=some false/\r.val=.tup []/\eff i=false)\/
   (DI ops (UA rs f0 i) o=some true/\∀k,May ops eff i k->∀sa:SA,(∀x∈o.op.operands,EV sa x=Ex (UA rs f0 i) x)->
     Fa E P o sa (hs k) (ns k) λv h n=>v=r.val/\h=hs (if eff i=true then k+1 else k)/\n=ns (if eff i=true then k+1 else k)))
def RW(f:Nat->SV):List Operand->SA
 | []=>[]
 | .tmp t::r=>(t,f t)::RW f r
 | _::r=>RW f r
theorem Lf{f:Nat->SV}{t:Nat}:∀(l:List Operand),(look (RW f l) t=.junk/\.tmp t∉l)\/look (RW f l) t=f t
 | []=>.inl ⟨rfl,by simp⟩
 | x :: r => by
  have a:=Lf (f:=f) (t:=t) r;cases x with
  | tmp s=>
   simp only[RW,look];by_cases e:s=t;subst e;simp;simp only[e,if_false];rcases a with⟨h1,h2⟩|h1;exact .inl ⟨h1,by simp[h2,Ne.symm e]⟩;exact .inr h1
  | _=>
   simp only[RW];rcases a with⟨h1,h2⟩|h1;exact .inl ⟨h1,by simp[h2]⟩;exact .inr h1
theorem aL{f:Nat->SV}{l:List Operand}{x:Operand}(a:x∈l):EV (RW f l) x=Ex f x:=by
 cases x with
 | tmp t=>
  rcases Lf (f:=f) (t:=t) l with⟨_,h⟩|h;exact absurd a h;exact h
 | _=>rfl
section
variable{E:BZ}{P:Program}{N:Nat}{ops:Array Oper}{f0:Nat->SV}{rs:List CC}{eff:Nat->Bool}{hs:Nat->Hp}{ns:Nat->Nat}
structure jF(E:BZ)(N:Nat)(ops:Array Oper)(f0:Nat->SV)(rs:List CC)(eff:Nat->Bool)(hs:Nat->Hp)(ns:Nat->Nat)(n0:Nat)(c0:Cx)(listed:Array Bool)(k:Nat)(c:Cx)(a:Act):Prop where
 size:listed.size=ops.size
 C_:∀(i:Nat)(o:Oper),ops[i]? = some o->listed.getD i false=true->∀e∈o.after,Region.binds .any e=true->listed.getD e.on false=true
 kle:k<=Gz eff ops.size
 pre:∀j,j<ops.size->eff j=true->(listed.getD j false=true↔Gz eff j<k)
 inv:E.inv c
 rel:CB (hs k) c
 fr:SS E N (Dj (rs.map CC.tw) (λq=>listed.getD q false) 0 f0) c a
 free:Fr (ns k) c
 adv:Fo n0 c0 (ns k) c
theorem Sm(G:ZJ E P N ops f0 rs eff hs ns){n0:Nat}{c0 c:Cx}{b:Array Bool}{k:Nat}{a:Act}(A:jF E N ops f0 rs eff hs ns n0 c0 b k c a){i:Nat}(hi:i∈Region.ready .any ops b)
 {Qr:Exit->Act->World->Prop} {Kr:Act->World->Prop} (hK:∀U H a',jF E N ops f0 rs eff hs ns n0 c0 (b.setIfInBounds i true) U H a'->Kr a' H.w):wpOpIn E.fc 0 P ops Qr i Kr a c.w:=by
 obtain⟨hun,o,R,T⟩:=mem_ready.1 hi;have J:=(qh.1 R).1;have B:b.getD i false=false:=by rw[C5 (by rw[A.size];exact J)]at hun ⊢;exact hun
 obtain⟨r,hr⟩:∃r,rs[i]? = some r:=⟨rs[i]'(by rw[G.len];exact J),by simp⟩
 obtain⟨M,hok⟩:=G.ok i o r R hr;have W:∀(q:Nat)(w:List (Nat×SV)),(rs.map CC.tw)[q]? = some w->∃L,rs[q]? = some L/\w=L.tw:=λq w l=>by
  simp only[vo,qT]at l;obtain⟨L,h1,rfl⟩:=l;exact⟨L,h1,rfl⟩
 have oq:∀(q:Nat)(L:CC),rs[q]? = some L->∃oq,ops[q]? = some oq:=λq L l=>⟨ops[q]'(by rw[<-G.len];exact(qv.1 l).1),by simp⟩
 have e1:∀q,b.getD q false=false->DU ops q i=false:=λq l=>by
  unfold DU;rw[R];simp only;rw[Array.any_eq_false'];intro e n;rw[qg,beq_iff_eq];rintro⟨hb,rfl⟩;rw[T e n hb]at l;cases l
 have e2:∀q,b.getD q false=true->DU ops i q=false:=λq l=>by
  unfold DU;cases z:ops[q]? with
  | none=>rfl
  | some oq=>
   simp only;rw[Array.any_eq_false'];intro e n;rw[qg,beq_iff_eq];rintro⟨hb,rfl⟩;have:=A.C_ q oq z l e n hb;rw[B]at this;cases this
 have D:∀t,t∈o.looksAt ops->Dj (rs.map CC.tw) (λq=>b.getD q false) 0 f0 t=UA rs f0 i t:=λt ht=>by
  refine Fj λq w _ hw K=>?_;rw[wy]at hw;obtain⟨L,O,rfl⟩:=W q w hw;obtain⟨Z,z⟩:=oq q L O;have hdq:=(G.ok q Z L z O).1;rw[JV,hdq];intro hdt;rcases Nat.lt_trichotomy q i with l|l|l;have hnl:b.getD q false=false:=by cases Q:b.getD q false with|false=>rfl|true=>rw[Q]at K;simp[l]at K
  exact(Oper.apart_spec (D5 G.stat R z l (e1 q hnl))).1 t hdt ht;subst l;rw[B]at K;simp at K;have hl:b.getD q false=true:=by cases Q:b.getD q false with|true=>rfl|false=>rw[Q]at K;simp[Nat.not_lt.2 (Nat.le_of_lt l)]at K
  exact(Oper.apart_spec (D5 G.stat z R l (e2 q hl))).2.2 t hdt ht
 have hD:(λq=>(b.setIfInBounds i true).getD q false)=λq=>b.getD q false||q==i:=by
  funext q;by_cases l:q=i;subst l;simp[A.size,J];have:(q==i)=false:=by simp;exact l
  rw[this,Bool.or_false];simp[vM (Ne.symm l)]
 have insT:∀t,Dj (rs.map CC.tw) (λq=>b.getD q false||q==i) 0 f0 t=CU (Dj (rs.map CC.tw) (λq=>b.getD q false) 0 f0) r.tw t:=by
  refine IG B (qj _) (by simp[hr]) λq w l _ hw hl k hk hk2=>?_;rw[wy]at hw;obtain⟨L,O,rfl⟩:=W q w hw;obtain⟨Z,z⟩:=oq q L O;rw[JV,M]at hk;rw[JV,(G.ok q Z L z O).1]at hk2;exact(Oper.apart_spec (D5 G.stat z R l (e2 q hl))).2.1 k hk hk2
 have S:May ops eff i k:=by
  refine⟨λn=>?_,A.kle,λj hj y hk=>e1 j ?_,λj hj y hk=>e2 j ((A.pre j hj y).2 hk)⟩;have h1:k<=Gz eff i:=Nat.le_of_not_lt λg=>by rw[(A.pre i J n).2 g]at B;cases B
  rcases vq k (Gz eff i)with g|g;obtain⟨j,h2,h3,h4⟩:=TT (k:=Gz eff i-1) (m:=i) (eff:=eff) mq;have h5:=G.row i j h2 J h3 n mq;have h6:b.getD j false=true:=by
   cases Q:b.getD j false with
   | true=>rfl
   | false=>rw[e1 j Q]at h5;cases h5
  have:=(A.pre j mq h3).1 h6;omega;omega;cases Q:b.getD j false with
  | false=>rfl
  | true=>have:=(A.pre j hj y).1 Q;omega
 have F:∀(U:Nat)(H:Cx)(u:Value),U=(if eff i=true then k+1 else k)->V H r.val u->CB (hs U) H->Fr (ns U) H->Fo (ns k) c (ns U) H->Kr (a.put o.dst u) H.w:=by
  intro U H u C hv R' F' X';refine hK U H _ ⟨by simp[A.size],λj oj X hl e n hb=>?_,?_,λj hj y=>?_,E.ext X'.ext A.inv,R',?_,F',A.adv.trans X'⟩;by_cases I:j=i;subst I;rw[R]at X;cases X;exact getD_set_true (T e n hb);rw[getD_set_ne false (Ne.symm I)]at hl;exact getD_set_true (A.C_ j oj X hl e n hb);by_cases n:eff i=true;rw[my n]at C;have h1:=S.1 n;have h2:=TU J n;omega;rw[mw n]at C;rw[C];exact A.kle;have hDj:=congrFun hD j;rw[hDj];by_cases I:j=i;subst I;rw[my y]at C;have:=S.1 y;simp;omega;have:(j==i)=false:=by simp;exact I
  rw[this,Bool.or_false,A.pre j hj y];by_cases n:eff i=true;rw[my n]at C;have h1:=S.1 n;have:Gz eff j≠k:=λe=>I (aT y n (e.trans h1));omega;rw[mw n]at C;rw[C];rw[hD];have:Dj (rs.map CC.tw) (λq=>b.getD q false||q==i) 0 f0=CU (Dj (rs.map CC.tw) (λq=>b.getD q false) 0 f0) r.tw:=funext insT;rw[this,<-M];have FE:SS E N (Dj (rs.map CC.tw) (λq=>b.getD q false) 0 f0) H a:=⟨A.fr.size,A.fr.defers.mono X'.ext,λt=>wK X'.ext (A.fr.val t)⟩
  exact FE.put (λd hd=>G.dok i o R d (by rw[<-M];exact hd)) hv
 have s:DI ops (Dj (rs.map CC.tw) (λq=>b.getD q false) 0 f0) o=DI ops (UA rs f0 i) o:=by
  unfold DI;cases hg:o.guard with
  | none=>rfl
  | some p =>
   obtain⟨j,want⟩:=p;simp only;cases hd:(ops[j]?).bind (·.dst)with
   | none=>rfl
   | some d=>
    simp only;rw[D d (by simp[Oper.looksAt,hg,hd])]
 unfold wpOpIn;rw[R];simp only;rcases hok with⟨hg,hv,n⟩|⟨hg,Y⟩
 rw[IB A.fr (s.trans hg)];simp only[qt,if_false];exact⟨λ_ _=>trivial,F k c undef (by rw[n];rfl) (by rw[hv];exact Hz) A.rel A.free (wE _ _)⟩;rw[IB A.fr (s.trans hg),my rfl];have FS:FR E N (RW (Dj (rs.map CC.tw) (λq=>b.getD q false) 0 f0) o.op.operands.toList) c a:=⟨A.fr.size,A.fr.defers,λt=>by
  rcases Lf (f:=Dj (rs.map CC.tw) (λq=>b.getD q false) 0 f0) (t:=t) o.op.operands.toList with⟨h,_⟩|h;rw[h];simp[V];rw[h];exact A.fr.val t⟩
 refine I4 (Y k S _ λx Q=>?_) A.inv A.rel A.free FS ?_;rw[aL (by simpa using Q)];cases x with
 | tmp t=>exact D t (by simp only[Oper.looksAt,qd,List.mem_filterMap];exact .inl ⟨.tmp t,by simpa using Q,rfl⟩)
 | _=>rfl
 rintro v h' n' H u ⟨rfl,rfl,rfl⟩ hv R' F' X';exact F _ H u rfl hv R' F' X'
theorem VF(G:ZJ E P N ops f0 rs eff hs ns){n0:Nat}{c0:Cx}{Qr:Exit->Act->World->Prop}
 (v:∀h a',CB (hs (Gz eff ops.size)) h->SS E N (UA rs f0 ops.size) h a'->Fr (ns (Gz eff ops.size)) h->Fo n0 c0 (ns (Gz eff ops.size)) h->Qr .normal a' h.w):
 ∀(d:Nat)(b:Array Bool)(k:Nat)(c:Cx)(a:Act),jF E N ops f0 rs eff hs ns n0 c0 b k c a->MO b=d->wpAnyIn E.fc 0 P .any ops Qr d b a c.w:=by
 have done:∀(b:Array Bool)(k:Nat)(c:Cx)(a:Act),jF E N ops f0 rs eff hs ns n0 c0 b k c a->Region.ready .any ops b=[]->Qr .normal a c.w:=by
  intro b k c a A hr;have f:=NB G.stat A.size hr;have hk:k=Gz eff ops.size:=by
   rcases vq k (Gz eff ops.size)with g|g;obtain⟨j,h1,h2,h3⟩:=TT g;have:=(A.pre j h1 h2).1 (f j h1);omega;have:=A.kle;omega
  subst hk;have e:Dj (rs.map CC.tw) (λq=>b.getD q false) 0 f0=UA rs f0 ops.size:=by
   funext t;refine Fj λq w _ hw m=>?_;have p:=(qv.1 hw).1;rw[wy,qf,G.len]at p;rw[f q p]at m;simp[p]at m
  have F:=A.fr;rw[e]at F;exact v c a A.rel F A.free A.adv
 intro d
 induction d with
 | zero=>
  intro b k c a A r;have hr:=K7 A.size r;exact⟨hr,done b k c a A hr⟩
 | succ d ih=>
  intro b k c a A r;refine⟨done b k c a A,λi hi=>?_⟩;obtain⟨n,o,x,_⟩:=mem_ready.1 hi;have l:=(qh.1 x).1;have u:b.getD i false=false:=by rw[C5 (by rw[A.size];exact l)]at n ⊢;exact n
  have hu:=Ds (by rw[A.size];exact l) u;exact Sm G A hi λy h a' s=>ih _ y h a' s mq
theorem V8(hm:P.follows .mixedOrders=true){id:Nat}{Q:CT}{sa sb:SA}(G:ZJ E P N ops (look sa) rs eff hs ns)(hb:look sb=UA rs (look sa) ops.size)(p:Q .normal sb (hs (Gz eff ops.size)) (ns (Gz eff ops.size))):
 GU E P N (.region id ops true) Q sa (hs 0) (ns 0):=by
 intro hd c a I R F A;refine wpIn_region_any hm ?_;have hg:∀i,(Array.replicate ops.size false).getD i false=false:=λi=>by
  rw[qO];by_cases hi:i<ops.size<;>simp[hi]
 have b:∀(l:List (List (Nat×SV)))(f:Nat->SV),Dj l (λq=>(Array.replicate ops.size false).getD q false) 0 f=f:=λl f=>by
  funext t;exact Mu λq w _ g=>by rw[hg]at g;cases g
 have:=VF G (n0:=ns 0) (c0:=c) (Qr:=ZL E N (ns 0) c Q) (λn a' k d e m=>?_) ops.size (Array.replicate ops.size false) 0 c.drew a
  ⟨by simp,λi o _ h=>(by rw[hg]at h;cases h),qj _,λj _ _=>(by rw[hg];simp),E.ext c.zc I,R.drew,(by rw[b];exact⟨A.size,A.defers.mono c.zc,λt=>wK c.zc (A.val t)⟩),λj r=>F j r,⟨c.zc,IO _,λ_ _=>rfl⟩⟩ (by simp[MO])
 exact this;exact⟨sb,_,_,n,p,rfl,k,e,⟨d.size,d.defers,λt=>by rw[hb];exact d.val t⟩,m⟩
end
inductive TB(α:Type) where
 | nil
 | node (x:Option α) (l r:TB α)
section tree
variable{α:Type}
noncomputable def TB.get(t:TB α):Nat->Option α:=
 TB.rec (motive:=λ_=>Nat->Option α) (λ_=>none) (λx _ _ a b n=>Nat.rec (motive:=λ_=>Option α) x (λm _=>cond (Nat.beq (Nat.mod m 2) 0) (a (Nat.div m 2)) (b (Nat.div m 2))) n) t
noncomputable def TB.path(v:Option α)(k:Nat):Nat->TB α:=
 Nat.rec (motive:=λ_=>Nat->TB α) (λ_=>.nil) (λ_ p n=>Nat.rec (motive:=λ_=>TB α) (.node v .nil .nil) (λm _=>cond (Nat.beq (Nat.mod m 2) 0) (.node none (p (Nat.div m 2)) .nil) (.node none .nil (p (Nat.div m 2)))) n) k
noncomputable def TB.set(t:TB α)(n:Nat)(v:Option α):TB α:=
 TB.rec (motive:=λ_=>Nat->TB α) (λn=>TB.path v (Nat.succ n) n) (λx l r a b n=>Nat.rec (motive:=λ_=>TB α) (.node v l r) (λm _=>cond (Nat.beq (Nat.mod m 2) 0) (.node x (a (Nat.div m 2)) r) (.node x l (b (Nat.div m 2)))) n) t n
theorem TB.get_nil(n:Nat):(TB.nil:TB α).get n=none:=rfl
theorem TB.get_zero(x:Option α)(l r:TB α):(TB.node x l r).get 0=x:=rfl
theorem TB.get_succ(x:Option α)(l r:TB α)(m:Nat):(TB.node x l r).get (m+1)=if m % 2=0 then l.get (m / 2)else r.get (m / 2):=by
 show cond (Nat.beq (m % 2) 0) (l.get (m / 2)) (r.get (m / 2))=_;rcases wa m with h|h<;>rw[h]<;>rfl
theorem TB.path_succ(v:Option α)(k m:Nat):TB.path v (k+1) (m+1)=if m % 2=0 then .node none (TB.path v k (m / 2)) .nil else .node none .nil (TB.path v k (m / 2)):=by
 show cond (Nat.beq (m % 2) 0) (TB.node none (TB.path v k (m / 2)) .nil) (.node none .nil (TB.path v k (m / 2)))=_;rcases wa m with h|h<;>rw[h]<;>rfl
theorem TB.set_succ(x:Option α)(l r:TB α)(m:Nat)(v:Option α):(TB.node x l r).set (m+1) v=if m % 2=0 then .node x (l.set (m / 2) v) r else .node x l (r.set (m / 2) v):=by
 show cond (Nat.beq (m % 2) 0) (TB.node x (l.set (m / 2) v) r) (.node x l (r.set (m / 2) v))=_;rcases wa m with h|h<;>rw[h]<;>rfl
theorem TB.get_path(v:Option α):∀(k n m:Nat),n<k->(TB.path v k n).get m=if m=n then v else none
 | k+1,0,m,_=>by cases m<;>simp[show TB.path v (k+1) 0=.node v .nil .nil from rfl,TB.get_zero,TB.get_succ,TB.get_nil]
 | k+1,n+1,0,_=>by rw[TB.path_succ];split<;>simp[TB.get_zero]
 | k+1,n+1,m+1,hk=>by
  have b:=λm=>TB.get_path v k (n / 2) m mq;have e:(m+1=n+1)=(m % 2=n % 2/\m / 2=n / 2):=by rw[eq_iff_iff];omega
  rw[TB.path_succ];rcases wa n with a|a<;>rcases wa m with hm|hm<;>simp[TB.get_succ,TB.get_nil,a,hm,b,e,-Nat.add_right_cancel_iff]
theorem TB.get_set:∀(t:TB α)(n:Nat)(v:Option α)(m:Nat),(t.set n v).get m=if m=n then v else t.get m
 | .nil,n,v,m=>by rw[TB.get_nil];exact TB.get_path v (n+1) n m (vh n)
 | .node x l r,0,v,m=>by cases m<;>simp[show(TB.node x l r).set 0 v=.node v l r from rfl,TB.get_zero,TB.get_succ]
 | .node x l r,n+1,v,0=>by rw[TB.set_succ];split<;>simp[TB.get_zero]
 | .node x l r,n+1,v,m+1=>by
  have e:(m+1=n+1)=(m % 2=n % 2/\m / 2=n / 2):=by rw[eq_iff_iff];omega
  have b:=λm=>TB.get_set l (n / 2) v m;have c:=λm=>TB.get_set r (n / 2) v m;rw[TB.set_succ];rcases wa n with a|a<;>rcases wa m with hm|hm<;>simp[TB.get_succ,a,hm,b,c,e,-Nat.add_right_cancel_iff]
end tree
noncomputable section
inductive EO where
 | obj (x:A9)
 | loop (st:LoopState) (pe:Option Code)
abbrev M2:=Nat->LoopState->Option Code->Loop
def fK(Rs:M2)(o:Nat):EO->A9
 | .obj x=>x
 | .loop st pe=>.loop (Rs o st pe)
def B8(Rs:M2)(h:TB EO):Hp:=λo=>(h.get o).map (fK Rs o)
def IU(h:TB EO):Hp:=λo=>match h.get o with|some (.obj x)=>some x|_=>none
def Jk(h:TB EO)(o:Nat):Bool:=match h.get o with|some (.loop _ _)=>false|_=>true
def EN(h:TB EO)(n:Nat)(x:Option EO):TB EO:=TB.set h n x
section heap
variable{Rs:M2}{h:TB EO}
theorem cy{o:Nat}(g:Jk h o=true):IU h o=B8 Rs h o:=by
 unfold Jk at g;unfold IU B8;cases e:h.get o with
 | none=>rfl
 | some x=>cases x with|obj x=>rfl|loop st pe=>rw[e]at g;cases g
theorem XQ{o:Nat}{x:A9}(g:IU h o=some x):B8 Rs h o=some x:=by
 unfold IU at g;unfold B8;cases e:h.get o with
 | none=>rw[e]at g;cases g
 | some y=>cases y with|obj y=>rw[e]at g;exact g|loop st pe=>rw[e]at g;cases g
theorem ES{n:Nat}{x:Option EO}:B8 Rs (EN h n x)=h_ (B8 Rs h) n (x.map (fK Rs n)):=by
 funext o;unfold B8 h_ EN;rw[TB.get_set];by_cases e:o=n;subst e;simp;simp[e]
theorem JU{o:Nat}{st:LoopState}{a:Option Code}(g:h.get o=some (.loop st a)):B8 Rs h o=some (.loop (Rs o st a)):=by
 unfold B8;rw[g];rfl
def ZV(h:TB EO)(n:Nat)(out:Cg):TB EO:=
 match out.upd with
 | some (j,x)=>match out.new with
  | some y=>EN (EN h j (x.map .obj)) n (some (.obj y))
  | none=>EN h j (x.map .obj)
 | none=>match out.new with
  | some y=>EN h n (some (.obj y))
  | none=>h
theorem T3{n:Nat}{out:Cg}:B8 Rs (ZV h n out)=out.app (B8 Rs h) n:=by
 have e:∀(j:Nat)(x:Option A9),(x.map EO.obj).map (fK Rs j)=x:=λj x=>by cases x<;>rfl
 unfold ZV Cg.app;obtain⟨val,upd,new⟩:=out;cases upd with
 | none=>cases new<;>simp[ES,fK]
 | some p=>cases new<;>simp[ES,e,fK]
end heap
def BR(t:TB SV)(i:Nat):SV:=match t.get i with|some v=>v|none=>.junk
def lU{β:Type}:SV->β->β
 | .int _ (.ofNat m),a=>bif Nat.beq m 0 then a else a
 | .int _ (.negSucc m),a=>bif Nat.beq m 0 then a else a
 | .bool b,a=>bif b then a else a
 | _,a=>a
theorem W9{β:Type}(v:SV)(a:β):lU v a=a:=by
 unfold lU;split<;>simp[]
def K6(t:TB SV):Option Tmp->SV->TB SV
 | some d,v=>lU v (TB.set t d (some v))
 | none,_=>t
def Ag(sa:SA)(t:TB SV):Prop:=∀i,look sa i=BR t i
theorem JL{t:TB SV}{d i:Nat}{v:SV}:BR (TB.set t d (some v)) i=if i=d then v else BR t i:=by
 unfold BR;rw[TB.get_set];by_cases e:i=d<;>simp[e]
theorem Ag.put{sa:SA}{t:TB SV}(A:Ag sa t)(d:Option Tmp)(v:SV):Ag (C1 sa d v) (K6 t d v):=by
 intro i;cases d with
 | none=>exact A i
 | some d=>
  simp only[K6,W9,JL,C1,look];by_cases e:d=i;subst e;simp;simp[e,Ne.symm e,A i]
theorem Ag.look{sa:SA}{t:TB SV}(A:Ag sa t):Sh.look sa=BR t:=funext A
theorem Ag.ev{sa:SA}{t:TB SV}(A:Ag sa t):EV sa=Ex (BR t):=by rw[Pk,A.look]
def UP:Nat->List SV->TB SV
 | _,[]=>.nil
 | i,a::us=>TB.set (UP (i+1) us) i (some a)
theorem Ag.init:∀(us:List SV)(i:Nat),Ag (D7 i us) (UP i us)
 | [],_=>λj=>rfl
 | a::us,i=>λj=>by
  simp only[D7,UP,JL,Sh.look];by_cases e:i=j;subst e;simp;simp[e,Ne.symm e,Ag.init us (i+1) j]
def ew:List (Tmp×SV)->TB SV->TB SV
 | [],t=>t
 | p::r,t=>ew r (TB.set t p.1 (some p.2))
theorem Ag.zip:∀(l:List (Tmp×SV)) {sa:SA} {t:TB SV},Ag sa t->Ag (IW l sa) (ew l t)
 | [],_,_,A=>A
 | p::r,sa,t,A=>Ag.zip r (sa:=p::sa) λj=>by
  obtain⟨d,v⟩:=p;simp only[Sh.look,JL];by_cases e:d=j;subst e;simp;simp[e,Ne.symm e,A j]
def eL(op:BinOp)(a b:ByteArray):Option SV:=
 match op with
 | .add=>if a.size+b.size<=9223372036854775807 then some (.str ⟨⟨a.data.toList++b.data.toList⟩⟩)else none
 | .eql=>some (.bool (a.data.toList==b.data.toList))
 | .neq=>some (.bool !(a.data.toList==b.data.toList))
 | .lss=>some (.bool (Op.bytesLess a.data.toList b.data.toList))
 | .leq=>some (.bool (Op.bytesLess a.data.toList b.data.toList||a.data.toList==b.data.toList))
 | .gtr=>some (.bool !(Op.bytesLess a.data.toList b.data.toList||a.data.toList==b.data.toList))
 | .geq=>some (.bool !(Op.bytesLess a.data.toList b.data.toList))
 | _=>none
theorem SG(a:ByteArray):a.toList=a.data.toList:=Go.ByteArray.toList_eq a
theorem aa(op:BinOp)(a b:ByteArray):eL op a b=KP op a b:=by
 cases op<;>simp only[eL,KP,SG];split;congr 2;rfl
def TZ(s:ByteArray)(l h:Nat):ByteArray:=⟨⟨(s.data.toList.take h).drop l⟩⟩
theorem Vg(s:ByteArray)(l h:Nat):TZ s l h=s.extract l h:=by
 apply ByteArray.ext;apply wG;simp[TZ,List.drop_take]
def iD(P:Program)(h:Hp)(t:TypeId)(a:SV):Option Cg:=(HL P h t a).bind C9
def Sn(P:Program)(t:TypeId)(x:SV)(i:Nat):Option Cg:=(Gm P t x i).bind C9
def ck(P:Program)(t:TypeId)(x:SV)(i:Nat):Option Cg:=
 match IL P t i,x with
 | some (off,ft),.agg cs=>((Cb cs off (Bj P ft)).bind (SN (GH P ft))).bind C9
 | _,_=>none
def S3(P:Program)(t:TypeId)(x i:SV):Option Cg:=match i with|.int _ n=>(Gu P t x n).bind C9|_=>none
def cH(P:Program)(k:Nat)(e:TypeId):Option Cg:=if(BU P e).B&&(BU P e).cells.length==Bj P e then some { val:=.ptr k 0,new:=some (.cells (Xp e (BU P e).cells) (Hn e)) } else none
def jo(k:Nat)(e:TypeId)(x:SV):Option Cg:=if x.B then some { val:=.ptr k 0,new:=some (.cells x.cells (Hn e)) } else none
def gl(bop:BinOp)(k:IntKind)(a:Int)(k':IntKind)(b:Int):Option Cg:=if k=k' then(Il bop k a b).bind C9 else none
def cP(P:Program)(bop:BinOp)(t:TypeId)(x y:SV):Option Cg:=
 match x,y with
 | .str a,.str b=>(eL bop a b).bind C9
 | .int k a,.int k' b=>match bop with
  | .shl=>(OP false false .shl (.int k a) (.int k' b)).bind C9
  | .shr=>(OP false false .shr (.int k a) (.int k' b)).bind C9
  | bop=>gl bop k a k' b
 | x,y=>(OP (I5 P t) (QQ P t) bop x y).bind C9
def unK(op:UnOp)(x:SV):Option Cg:=
 match op,x with
 | .not,.bool b=>C9 (.bool !b)
 | .neg,.int i n=>C9 (.int i (i.wrap (0-n)))
 | _,_=>none
def Uw(P:Program)(t:TypeId)(s:ByteArray)(lo hi mx:Option SV):Option Cg:=
 if !Dq P t||mx.isSome then none else
 match Sa lo (some 0),Sa hi (some s.size)with
 | some l,some h=>if 0<=l/\l<=h/\h<=s.size then C9 (.str (TZ s l.toNat h.toNat))else none
 | _,_=>none
def eH(P:Program)(t:TypeId)(x:SV)(lo hi mx:Option SV):Option Cg:=
 match x with
 | .str s=>Uw P t s lo hi mx
 | x=>(HZ P t x lo hi mx).bind C9
def lQ(x:SV)(i:Nat):Option Cg:=match x with|.tup vs=>(vs[i]?).bind C9|_=>none
def cR(P:Program)(ev:Operand->SV)(t:TypeId)(ps:Array (Nat×Operand)):Option Cg:=
 match BU P t,Bk P t with
 | .agg z,some pl=>(Ji (pl[·]?) z (ps.toList.map λp=>(p.1,ev p.2))).bind λcs=>C9 (.agg cs)
 | _,_=>none
def iL(x a b:SV):Option Cg:=match x with|.bool t=>C9 (if t then a else b)|_=>none
def mB(x:SV):Option Cg:=match x with|.ptr o a=>C9 (.ptr o a)|.q cs=>C9 (.q cs)|_=>none
def lp(P:Program)(h:Hp)(t:TypeId)(x:SV):Option Cg:=
 match x with
 | .str s=>if Dq P t then C9 (.int .i64 s.size)else none
 | .y _ es _=>if(A5 P t).isSome then C9 (.int .i64 es.length)else none
 | .sl _ _ _ len _=>if(A5 P t).isSome then C9 (.int .i64 len)else none
 | .map o=>match h o with|some (.map es)=>if(I6 P t).isSome then C9 (.int .i64 es.length)else none|_=>none
 | .nils=>if(A5 P t).isSome then C9 (.int .i64 0)else none
 | _=>none
def jj(P:Program)(h:Hp)(k:Nat)(b:Builtin)(ts:List TypeId)(us:List SV):Option Cg:=
 match b with
 | .len=>match ts,us with
  | [t],[x]=>lp P h t x
  | _,_=>none
 | .append=>match ts,us with
  | [t,t2],[s,x]=>if(A5 P t2).isSome then Fq P h k t s x else if Dq P t2 then Hg P h k t s x else Fc P k t t2 s x
  | _,_=>none
 | b=>Ak P h k b ts us
def bcK(P:Program)(ev:Operand->SV)(h:Hp)(k:Nat)(cl:Call):Option Cg:=
 match cl.callee with
 | .builtin b=>jj P h k b cl.argTypes.toList (cl.args.toList.map ev)
 | _=>none
theorem cO{P:Program}{h:Hp}{k:Nat}{b:Builtin}{a:List TypeId}{us:List SV}:jj P h k b a us=Ak P h k b a us:=by
 unfold jj;split;rcases a with _|⟨t,_|⟨_,_⟩⟩<;>rcases us with _|⟨x,_|⟨_,_⟩⟩<;>first|rfl|(cases x<;>rfl)
 rcases a with _|⟨t,_|⟨_,_|⟨_,_⟩⟩⟩<;>rcases us with _|⟨x,_|⟨_,_|⟨_,_⟩⟩⟩<;>rfl;rfl
def YZ(P:Program)(ev:Operand->SV)(h:Hp)(k:Nat)(op:Op):Option Cg:=
 match op with
 | .move x=>C9 (ev x)
 | .assign x=>C9 (ev x)
 | .load t a=>iD P h t (ev a)
 | .store t a x=>OD P h t (ev a) (ev x)
 | .fieldAddr t x i=>Sn P t (ev x) i
 | .field t x i=>ck P t (ev x) i
 | .indexAddr t x i=>S3 P t (ev x) (ev i)
 | .alloc e=>cH P k e
 | .box e x=>jo k e (ev x)
 | .binOp bop t x y _=>cP P bop t (ev x) (ev y)
 | .unOp op _ x=>unK op (ev x)
 | .slice t x lo hi mx=>eH P t (ev x) (lo.map ev) (hi.map ev) (mx.map ev)
 | .extract x i=>lQ (ev x) i
 | .build t ps=>cR P ev t ps
 | .pick x a b=>iL (ev x) (ev a) (ev b)
 | .nilCheck x=>mB (ev x)
 | .call cl=>bcK P ev h k cl
 | op=>C0 P ev h k op
theorem ZY{P:Program}{c:BinOp}{t:TypeId}{x y:SV}:cP P c t x y=(OP (I5 P t) (QQ P t) c x y).bind C9:=by
 unfold cP;split;rw[aa];have:∀a b,OP (I5 P t) (QQ P t) c (.str a) (.str b)=KP c a b:=λa b=>by cases c<;>rfl
 rw[this];rename_i k a d b;split;rfl;rfl;rename_i h1 h2;have:OP (I5 P t) (QQ P t) c (.int k a) (.int d b)=if k=d then Il c k a b else none:=by cases c<;>first|rfl|exact absurd rfl h1|exact absurd rfl h2
 rw[this];unfold gl;split<;>rfl;rfl
theorem aY{P:Program}{ev:Operand->SV}{h:Hp}{k:Nat}{op:Op}:YZ P ev h k op=C0 P ev h k op:=by
 cases op with
 | binOp bop t x y t2=>exact ZY
 | slice t x lo hi mx =>
  show eH P t (ev x) (lo.map ev) (hi.map ev) (mx.map ev)=(HZ P t (ev x) (lo.map ev) (hi.map ev) (mx.map ev)).bind C9;generalize ev x=v;cases v with
  | str s=>
   unfold eH Uw HZ;simp only;split;rfl;cases Sa (lo.map ev) (some 0)<;>cases Sa (hi.map ev) (some (s.size:Int))<;>simp only[Option.bind_none];split<;>simp only[Vg,qN,Option.bind_none]
  | _=>rfl
 | call cl=>
  obtain⟨callee,args,ts⟩:=cl;cases callee with
  | builtin b=>exact cO
  | _=>rfl
 | unOp uop t x=>
  have e:C0 P ev h k (.unOp uop t x)=match uop,ev x with|.not,.bool b=>C9 (.bool !b)|.neg,.int i n=>C9 (.int i (i.wrap (0-n)))|_,_=>none:=rfl
  rw[e];show unK uop (ev x)=_;generalize ev x=v;cases uop<;>cases v<;>rfl
 | _=>rfl
def TW(P:Program)(ev:Operand->SV)(o:Oper):Option SV:=
 match o.op with
 | .binOp bop t x y _ =>
  match ev x with
  | .agg cs => match ev y, P.underlying t with
   | .agg ds,some (.struct _)=>bif P.stoodInHeld t||P.eqGuardType P.depth t then none else
    match CK P cs ds (Be P t)with
    | some b=>match bop with|.eql=>some (.bool b)|.neq=>some (.bool !b)|_=>none
    | none=>none
   | _,_=>none
  | .y _ (_::_) _=>match bop,y with
   | .eql,.const (.slice none 0 0)=>bif (A5 P t).isSome then some (.bool false)else none
   | _,_=>none
  | .sl _ _ _ _ _=>match bop,y with
   | .eql,.const (.slice none 0 0)=>bif (A5 P t).isSome then some (.bool false)else none
   | _,_=>none
  | _=>none
 | _=>none
theorem LN.congr{P:Program}{a b:Operand->SV}{o:Oper}{v:SV}(h:∀x∈o.op.operands,a x=b x)(H:LN P b o v):LN P a o v:=
 ⟨H.1,λc ev e hv=>H.2 c ev e λx d=>by rw[<-h x d];exact hv x d⟩
theorem L9{P:Program}{t:TypeId}{a:Array Field}(h:P.underlying t=some (.struct a)):P.underlying t=some (.struct (P.fieldsOf t)):=by
 have:P.fieldsOf t=a:=by unfold Program.fieldsOf;rw[h]
 rw[this];exact h
theorem PD{P:Program}{evs:Operand->SV}{o:Oper}{t t2:TypeId}{x:Operand}(i:o.op=.binOp .eql t x (.const (.slice none 0 0)) t2)(ht:(A5 P t).isSome=true)
 (g:(∃z e es f,evs x=.y z (e::es) f)\/∃o a z l f,evs x=.sl o a z l f):LN P evs o (.bool false):=by
 refine⟨by rw[i];simp,λc ev j hv=>?_⟩;have d:=hv x (by simp[i,Op.operands]);obtain⟨e,ht⟩:=vW.1 ht;have ht:=A7 ht;have fin:∀(a:Addr)(l cap:Nat),ev x=.slice (some a) l cap->∃u,(execOp ev o).run P c.w=.ok (.value u) c.w/\V c (.bool false) u:=λa l cap e=>
  ⟨.bool false,by simp[execOp,i,e,j,HP (P:=P) (a:=.slice (some a) l cap),L6 (some a) l cap ht],by simp[V]⟩
 rcases g with⟨z,e,es,f,g⟩|⟨o,a,z,l,f,g⟩
 rw[g,V]at d;rcases d with⟨h,_⟩|⟨a,cap,vs,h,_⟩
 cases h;exact fin a _ _ h;rw[g,V]at d;obtain⟨b,st,cap,_,h,_⟩:=d;exact fin _ _ _ h
theorem QJ{P:Program}{ev:Operand->SV}{o:Oper}{v:SV}(H:TW P ev o=some v):LN P ev o v:=by
 unfold TW at H;split at H<;>try cases H
 rename_i bop t x y t2 d;split at H<;>try cases H
 . rename_i cs c;split at H<;>try cases H
   rename_i ds fs i h;cases hb:P.stoodInHeld t||P.eqGuardType P.depth t<;>rw[hb]at H<;>simp only[cond_true,cond_false]at H
   . simp only[Bool.or_eq_false_iff]at hb;split at H<;>try cases H
     rename_i b g;split at H<;>try cases H
     exact C7 d (.inl rfl) (L9 h) hb.1 hb.2 c i g;exact C7 d (.inr rfl) (L9 h) hb.1 hb.2 c i g
   cases H
 . rename_i z e es f c;split at H<;>try cases H
   cases ht:(A5 P t).isSome<;>rw[ht]at H<;>simp only[cond_true,cond_false]at H<;>cases H;exact PD d ht (.inl ⟨z,e,es,f,c⟩)
 . rename_i o a z l f c;split at H<;>try cases H
   cases ht:(A5 P t).isSome<;>rw[ht]at H<;>simp only[cond_true,cond_false]at H<;>cases H;exact PD d ht (.inr ⟨o,a,z,l,f,c⟩)
def eG(P:Program)(o:Oper):Option SV:=
 match o.op with
 | .buildSlice t 0 ps=>bif Nat.beq ps.size 0&&((A5 P t).bind P.info?).isSome then some (.y 0 [] true)else none
 | _=>none
def lS:Fn->Fn->Bool
 | .func f,.func g=>Nat.beq f g
 | _,_=>false
theorem cp{f g:Fn}(h:lS f g=true):f=g:=by
 cases f<;>cases g<;>simp only[lS]at h<;>try cases h
 rw[qJ h]
mutual
def MT:SV->SV->Bool
 | .bool a,.bool b=>decide (a=b)
 | .int k n,.int k' m=>decide (k=k')&&decide (n=m)
 | .str a,.str b=>a.data.toList==b.data.toList
 | .nilp,.nilp=>true
 | .nilf,.nilf=>true
 | .nilm,.nilm=>true
 | .nils,.nils=>true
 | .agg a,.agg b=>Wx a b
 | .tup a,.tup b=>Wx a b
 | .fn f a b,.fn g c d=>lS f g&&(Wx a c&&Wx b d)
 | .ptr o a,.ptr p b=>Nat.beq o p&&Nat.beq a b
 | .q a,.q b=>Wx a b
 | .sl o a z l f,.sl o' a' z' l' f'=>Nat.beq o o'&&(Nat.beq a a'&&(Nat.beq z z'&&(Nat.beq l l'&&decide (f=f'))))
 | .y z a f,.y z' a' f'=>Nat.beq z z'&&(Wx a a'&&decide (f=f'))
 | .map o,.map p=>Nat.beq o p
 | .yl o,.yl p=>Nat.beq o p
 | _,_=>false
def Wx:List SV->List SV->Bool
 | [],[]=>true
 | a::l,b::m=>MT a b&&Wx l m
 | _,_=>false
end
mutual
theorem Pj:∀{a b:SV},MT a b=true->a=b
 | .bool a,b,h=>by cases b<;>simp_all [MT]
 | .int k n,b,h=>by cases b<;>simp_all [MT]
 | .str a, b, h => by
  cases b<;>simp only[MT]at h<;>try cases h
  rw[beq_iff_eq]at h;rename_i b;have:a=b:=by
   cases a;cases b;rename_i x y;cases x;cases y;simp_all
  rw[this]
 | .nilp,b,h=>by cases b<;>simp_all [MT]
 | .nilf,b,h=>by cases b<;>simp_all [MT]
 | .nilm,b,h=>by cases b<;>simp_all [MT]
 | .nils,b,h=>by cases b<;>simp_all [MT]
 | .agg a,b,h=>by cases b<;>simp only[MT]at h<;>first|cases h|rw[J3 h]
 | .tup a,b,h=>by cases b<;>simp only[MT]at h<;>first|cases h|rw[J3 h]
 | .q a,b,h=>by cases b<;>simp only[MT]at h<;>first|cases h|rw[J3 h]
 | .fn f a c,b,h=>by
  cases b<;>simp only[MT]at h<;>try cases h
  simp only[qg]at h;rw[cp h.1,J3 h.2.1,J3 h.2.2]
 | .ptr o a,b,h=>by
  cases b<;>simp only[MT]at h<;>try cases h
  simp only[qg]at h;rw[qJ h.1,qJ h.2]
 | .sl o a z l f,b,h=>by
  cases b<;>simp only[MT]at h<;>try cases h
  simp only[qg,decide_eq_true_eq]at h;rw[qJ h.1,qJ h.2.1,qJ h.2.2.1,qJ h.2.2.2.1,h.2.2.2.2]
 | .y z a f,b,h=>by
  cases b<;>simp only[MT]at h<;>try cases h
  simp only[qg,decide_eq_true_eq]at h;rw[qJ h.1,J3 h.2.1,h.2.2]
 | .map o,b,h=>by
  cases b<;>simp only[MT]at h<;>try cases h
  rw[qJ h]
 | .yl o,b,h=>by
  cases b<;>simp only[MT]at h<;>try cases h
  rw[qJ h]
 | .junk,b,h=>by cases b<;>simp only[MT]at h<;>cases h
 | .slc _ _ _ _ _,b,h=>by cases b<;>simp only[MT]at h<;>cases h
theorem J3:∀{a b:List SV},Wx a b=true->a=b
 | [],[],_=>rfl
 | a::l,b::m,h=>by
  simp only[Wx,qg]at h;rw[Pj h.1,J3 h.2]
 | [],_::_,h=>by simp only[Wx]at h;cases h
 | _::_,[],h=>by simp only[Wx]at h;cases h
end
inductive ER(α:Type) where
 | ok (a:α)
 | err (l:List Nat)
structure Tp where
 o:Nat
 ps:Array Tmp
 assign:Code
 body:Code
 fr:TB SV
structure ZK where
 rds:List Tp
 ro:Bool
abbrev VO:=SV×TB EO×Nat
abbrev CO:=Exit×TB SV×TB EO×Nat
structure Y7 where
 call:Nat->List SV->Option SV
 look:(Operand->SV)->TB EO->Oper->Option SV
 eff:Nat->List SV->TB EO->Nat->Option (SV×TB EO×Nat)
abbrev Js:=ZK->Code->TB SV->TB EO->Nat->ER CO
section
variable(P:Program)(orc:Y7)
def aW(ev:Operand->SV)(o:Oper):Option SV:=
 match o.op with
 | .call { callee := .builtin .unsafeSliceData, args, .. } => match args.toList with
  | [x]=>match ev x with
   | .sl j off _ len _=>bif Nat.beq len 0 then none else some (.ptr j off)
   | _=>none
  | _=>none
 | _=>none
def Pb:List SV->Option (List UInt8)
 | []=>some []
 | .int .u8 (.ofNat m)::r=>bif Nat.blt m 256 then match Pb r with|some l=>some (UInt8.ofNat m::l)|none=>none else none
 | _=>none
def eF(ev:Operand->SV)(h:TB EO)(n:Nat)(o:Oper):Option VO:=
 match o.op with
 | .range t x => match ev x with
  | .map m=>bif (I6 P t).isSome then match h.get m with
   | some (.obj (.map es))=>some (.ptr n 0,EN (EN h m none) n (some (.obj (.iter es none))),n+1)
   | _=>none
   else none
  | _=>none
 | .next x false => match ev x with
  | .ptr q 0=>match h.get q with
   | some (.obj (.iter [] _))=>some (.tup [.bool false],h,n)
   | some (.obj (.iter [p] _))=>some (.tup [.bool true,p.1,p.2],EN h q (some (.obj (.iter [] (some p)))),n)
   | _=>none
  | _=>none
 | .entry x => match ev x with
  | .ptr q 0=>match h.get q with
   | some (.obj (.iter _ (some p)))=>some (.tup [p.1,p.2],h,n)
   | _=>none
  | _=>none
 | .call { callee := .builtin .unsafeString, args, argTypes } => match args.toList, argTypes.toList with
  | [x, y], [pt, _] => match ev x, ev y, P.underlying pt with
   | .ptr j 0, .int .i64 (.ofNat m), some (.pointer e) => match h.get j with
    | some (.obj (.cells cs (some e')))=>bif Nat.beq e e'&&Nat.beq (P.cellsOf e) 1 then match Pb cs with
     | some bs=>bif Nat.beq bs.length m&&(!Nat.beq m 0&&Nat.ble m 9223372036854775807)then some (.str ⟨⟨bs⟩⟩,EN h j none,n)else none
     | none=>none
     else none
    | _=>none
   | _,_,_=>none
  | _,_=>none
 | _=>none
def mC(t:TB SV)(h:TB EO)(n:Nat)(o:Oper):ER VO:=
 bif (Cs (Ex (BR t)) o.op).all (Jk h)then
  match YZ P (Ex (BR t)) (IU h) n o.op with
  | some out=>.ok (out.val,ZV h n out,match out.new with|some _=>n+1|none=>n)
  | none => match TW P (Ex (BR t)) o with
   | some v=>.ok (v,h,n)
   | none => match eG P o with
    | some v=>.ok (v,h,n)
    | none => match eF P (Ex (BR t)) h n o with
     | some r=>.ok r
     | none => match aW (Ex (BR t)) o with
      | some v=>.ok (v,h,n)
      | none=>match orc.look (Ex (BR t)) h o with
       | some v=>.ok (v,h,n)
       | none=>.err [2]
 else .err [1]
def PK(rc ry:Nat->List SV->TB EO->Nat->ER VO)(t:TB SV)(h:TB EO)(n:Nat)(o:Oper):ER VO:=
 match o.op with
 | .call { callee:=.value f,args,.. }=>
  match callee (Ex (BR t) f) (args.toList.map (Ex (BR t)))with
  | some (g,us)=>rc g us h n
  | none=>match Mb (Ex (BR t) f)with|some y=>ry y (args.toList.map (Ex (BR t))) h n|none=>.err [3]
 | _=>mC P orc t h n o
def TM(rc ry:Nat->List SV->TB EO->Nat->ER VO)(ops:Array Oper):Nat->List Oper->TB SV->TB EO->Nat->ER CO
 | _,[],t,h,n=>.ok (.normal,t,h,n)
 | i, o :: rest, t, h, n =>
  match DI ops (BR t) o with
  | some b => match b with
   | true=>match PK P orc rc ry t h n o with
    | .ok (v,h',n')=>TM rc ry ops (i+1) rest (K6 t o.dst v) h' n'
    | .err l=>.err (i::l)
   | false=>TM rc ry ops (i+1) rest (K6 t o.dst (.tup [])) h n
  | none=>.err [i,12]
structure DR where
 g:Bool
 e:Bool
 v:SV
 t:TB SV
def Ug(t:TB SV)(h:TB EO)(n:Nat)(o:Oper):Option SV:=
 bif (Cs (Ex (BR t)) o.op).all (Jk h)then
  match YZ P (Ex (BR t)) (IU h) n o.op with
  | some out => match out.upd with
   | some _=>none
   | none=>match out.new with
    | some _=>none
    | none=>some out.val
  | none => match TW P (Ex (BR t)) o with
   | some v=>some v
   | none=>match aW (Ex (BR t)) o with
    | some v=>some v
    | none=>orc.look (Ex (BR t)) h o
 else none
abbrev DO:=List DR×TB SV×List (TB EO×Nat)×TB EO×Nat
def VH(rc ry:Nat->List SV->TB EO->Nat->ER VO)(ops:Array Oper):Nat->List Oper->TB SV->TB EO->Nat->ER DO
 | _,[],t,h,n=>.ok ([],t,[(h,n)],h,n)
 | i, o :: rest, t, h, n =>
  match DI ops (BR t) o with
  | some b => match b with
   | true => match Ug P orc t h n o with
    | some v=>match VH rc ry ops (i+1) rest (K6 t o.dst v) h n with
     | .ok (rs,te,hl,he,ne)=>.ok (⟨true,false,v,t⟩::rs,te,hl,he,ne)
     | .err l=>.err l
    | none => match PK P orc rc ry t h n o with
     | .ok (v,h',n')=>match VH rc ry ops (i+1) rest (K6 t o.dst v) h' n' with
      | .ok (rs,te,hl,he,ne)=>.ok (⟨true,true,v,t⟩::rs,te,(h,n)::hl,he,ne)
      | .err l=>.err l
     | .err l=>.err (i::l)
   | false=>match VH rc ry ops (i+1) rest (K6 t o.dst (.tup [])) h n with
    | .ok (rs,te,hl,he,ne)=>.ok (⟨false,false,.tup [],t⟩::rs,te,hl,he,ne)
    | .err l=>.err l
  | none=>.err [i,12]
def G9(rs:List DR)(j:Nat):Bool:=match rs[j]? with|some r=>r.e|none=>false
def iQ(ops:Array Oper)(rs:List DR):Bool:=
 (List.range rs.length).all λi=>!G9 rs i||(List.range i).all λj=>!G9 rs j||(!Nat.beq (Gz (G9 rs) i) (Gz (G9 rs) j+1)||DU ops j i)
def iE(ops:Array Oper)(rs:List DR)(i k:Nat):Bool:=
 (List.range rs.length).all λj=>!G9 rs j||(bif Nat.ble k (Gz (G9 rs) j)then !DU ops j i else !DU ops i j)
def bZ(ops:Array Oper)(rs:List DR)(hl:List (TB EO×Nat)):Bool:=
 (List.range rs.length).all λi=>match rs[i]?,ops[i]? with
   | some r,some o=>r.e||(!r.g||(List.range hl.length).all λk=>!iE ops rs i k||match hl[k]? with
    | some (h,n)=>match Ug P orc r.t h n o with|some v=>MT v r.v|none=>false
    | none=>false)
   | _,_=>true
def Xr(ops:Array Oper):Bool:=ops.toList.all λo=>match o.op with|.call { callee:=.value _,.. }=>false|_=>true
def Qz(ops:Array Oper):List Oper->List CC->TB SV->TB EO->Nat->ER CO
 | [],_,t,h,n=>.ok (.normal,t,h,n)
 | o :: rest, tr, t, h, n =>
  match DI ops (BR t) o with
  | some b => match b with
   | true => match o.op with
    | .call { callee:=.value _,.. }=>.err [50]
    | op => bif (Cs (Ex (BR t)) op).all (Jk h) then
     match YZ P (Ex (BR t)) (IU h) n op with
     | some out=>bif (Aj out.upd.toList++Cs (Ex (BR t)) op).all (λk=>Nat.blt k n)&&FW ops tr.length { dst:=o.dst,val:=out.val,foot:=Aj out.upd.toList++Cs (Ex (BR t)) op,wr:=out.upd.toList,new:=(out.new.map λx=>(n,some x)).toList } 0 tr then
      Qz ops rest (tr++[{ dst:=o.dst,val:=out.val,foot:=Aj out.upd.toList++Cs (Ex (BR t)) op,wr:=out.upd.toList,new:=(out.new.map λx=>(n,some x)).toList }]) (K6 t o.dst out.val) (ZV h n out) (match out.new with|some _=>n+1|none=>n)
      else .err [51]
     | none=>match TW P (Ex (BR t)) o with
      | some v=>bif FW ops tr.length { dst:=o.dst,val:=v } 0 tr then Qz ops rest (tr++[{ dst:=o.dst,val:=v }]) (K6 t o.dst v) h n else .err [52]
      | none=>.err [53]
     else .err [54]
   | false=>Qz ops rest (tr++[{ dst:=o.dst,val:=.tup [] }]) (K6 t o.dst (.tup [])) h n
  | none=>.err [55]
def bJ(rc ry:Nat->List SV->TB EO->Nat->ER VO)(ops:Array Oper)(t:TB SV)(h:TB EO)(n:Nat):ER CO:=
 match VH P orc rc ry ops 0 ops.toList t h n with
 | .ok (rs,te,hl,he,ne)=>bif iQ ops rs then bif bZ P orc ops rs hl then .ok (.normal,te,he,ne)else .err [40]else .err [41]
 | .err l=>.err l
def Wt(rc ry:Nat->List SV->TB EO->Nat->ER VO)(ops:Array Oper)(t:TB SV)(h:TB EO)(n:Nat):ER CO:=
 bif ED ops then
  match bJ P orc rc ry ops t h n with
  | .ok r=>.ok r
  | .err l=>bif Xr ops then Qz P ops ops.toList [] t h n else .err l
 else .err [42]
def Vd(f:Nat->SV)(h:Hp):List ResultVar->Option (List SV)
 | []=>some []
 | .tmp t::r=>match Vd f h r with|some vs=>some (f t::vs)|none=>none
 | .cell a t::r=>match HL P h t (f a)with
  | some v=>match Vd f h r with|some vs=>some (v::vs)|none=>none
  | none=>none
def NM(rn:Js)(rds:List Tp)(g:Nat)(us:List SV)(h:TB EO)(n:Nat):ER VO:=
 match orc.call g us with
 | some v=>.ok (v,h,n)
 | none=>
 match orc.eff g us h n with
 | some r=>.ok r
 | none=>
 match P.funcs[g]? with
 | some fn => match fn.body with
  | some code => bif (fn.name != "runtime.NumGoroutine") && (Code.dok fn.ntmps code && Nat.ble us.length fn.ntmps) then
   match rn ⟨rds,false⟩ code (UP 0 us) h n with
   | .ok (e,t',h',n')=>
    match e with
    | .normal|.ret=>match Vd P (BR t') (IU h') fn.results.toList with|some rs=>.ok (Jl rs,h',n')|none=>.err [g,7]
    | _=>.err [g,8]
   | .err l=>.err (g::l)
   else .err [g,9]
  | none=>.err [g,10]
 | none=>.err [g,11]
end
def Mh:List Tp->Nat->Option (Tp×List Tp)
 | [],_=>none
 | r::rs,o=>bif Nat.beq r.o o then some (r,rs)else Mh rs o
def QW(rn:Js)(rds:List Tp)(o:Nat)(args:List SV)(h:TB EO)(n:Nat):ER VO:=
 match Mh rds o with
 | some (r, rest) => match h.get o with
  | some (.loop .ready none) => bif Nat.beq args.length r.ps.size then
   match rn ⟨rest,true⟩ r.assign (ew (r.ps.toList.zip args) r.fr) h n with
   | .ok (.normal, t1, h1, n1) => match h1.get o with
    | some (.loop .ready none) => match rn ⟨rest, true⟩ r.body t1 (EN h1 o (some (.loop .busy none))) n1 with
     | .ok (e, _, h2, n2) => match h2.get o with
      | some (.loop .busy none)=>match e with
       | .normal=>.ok (.bool true,EN h2 o (some (.loop .ready none)),n2)
       | .ret=>.ok (.bool false,EN h2 o (some (.loop .done (some .ret))),n2)
       | .exit id=>.ok (.bool false,EN h2 o (some (.loop .done (some (.exit id)))),n2)
       | _=>.err [20]
      | _=>.err [21]
     | .err l=>.err (22::l)
    | _=>.err [23]
   | .ok _=>.err [24]
   | .err l=>.err (25::l)
   else .err [26]
  | _=>.err [27]
 | none=>.err [28]
def TS(P:Program)(orc:Y7)(rn:Js)(m:ZK)(g:Operand)(ps:Array Tmp)(a b:Code)(t:TB SV)(h:TB EO)(n:Nat):ER CO:=
 match m.ro,Ex (BR t) g with
 | false, .fn (.func f) [] ys => bif m.rds.all (fun r => !Nat.beq r.o n) then
  match NM P orc rn (⟨n,ps,a,b,t⟩::m.rds) f (.yl n::ys) (EN h n (some (.loop .ready none))) (n+1)with
  | .ok (_, h', n') => match h'.get n with
   | some (.loop st pe) => match st with
    | .busy=>.err [30]
    | _=>match pe with
     | none=>.ok (.normal,t,EN h' n none,n')
     | some .ret=>.ok (.ret,t,EN h' n none,n')
     | some (.exit id)=>.ok (.exit id,t,EN h' n none,n')
     | _=>.err [31]
   | _=>.err [32]
  | .err l=>.err l
  else .err [33]
 | _,_=>.err [34]
def fZ(id:Nat):Exit->Exit
 | .exit i=>bif Nat.beq i id then .normal else .exit i
 | e=>e
def iR(rn:Js)(m:ZK)(a b:Code)(t:TB SV)(h:TB EO)(n:Nat):ER CO:=
 match rn m a t h n with
 | .ok (e,t',h',n')=>match e with|.normal=>rn m b t' h' n'|e=>.ok (e,t',h',n')
 | .err l=>.err l
def ay(rn:Js)(m:ZK)(c:Operand)(a b:Code)(t:TB SV)(h:TB EO)(n:Nat):ER CO:=
 match Ex (BR t) c with
 | .bool b'=>match b' with|true=>rn m a t h n|false=>rn m b t h n
 | _=>.err [5]
def WL(rn:Js)(m:ZK)(id:Nat)(b:Code)(t:TB SV)(h:TB EO)(n:Nat):ER CO:=
 match rn m b t h n with
 | .ok (e,t',h',n')=>.ok (fZ id e,t',h',n')
 | .err l=>.err l
def bP(rn:Js)(m:ZK)(b:Code)(t:TB SV)(h:TB EO)(n:Nat):ER CO:=
 match rn m b t h n with
 | .ok (e,t',h',n')=>match e with|.normal=>rn m (.loop b) t' h' n'|e=>.ok (e,t',h',n')
 | .err l=>.err l
def iP(P:Program)(orc:Y7)(rn:Js)(m:ZK)(ops:Array Oper)(d:Bool)(t:TB SV)(h:TB EO)(n:Nat):ER CO:=
 match d with
 | false=>TM P orc (NM P orc rn m.rds) (QW rn m.rds) ops 0 ops.toList t h n
 | true=>Wt P orc (NM P orc rn m.rds) (QW rn m.rds) ops t h n
def Zp(P:Program)(orc:Y7)(rn:Js)(m:ZK)(c:Code)(t:TB SV)(h:TB EO)(n:Nat):ER CO:=
 match c with
 | .skip=>.ok (.normal,t,h,n)
 | .seq a b=>iR rn m a b t h n
 | .cond c a b=>ay rn m c a b t h n
 | .block id b=>WL rn m id b t h n
 | .exit id=>.ok (.exit id,t,h,n)
 | .ret=>.ok (.ret,t,h,n)
 | .loop b=>bP rn m b t h n
 | .region _ ops d=>iP P orc rn m ops d t h n
 | .rangeFunc g ps a b=>TS P orc rn m g ps a b t h n
 | _=>.err [13]
def Zo(P:Program)(orc:Y7)(k:Nat):Js:=
 Nat.rec (motive:=λ_=>Js) (λ_ _ _ _ _=>.err [4]) (λ_ rn=>Zp P orc rn) k
end
end Go.Proofs.YthinbkgpjmjfeaaGreatDoor.Sh
