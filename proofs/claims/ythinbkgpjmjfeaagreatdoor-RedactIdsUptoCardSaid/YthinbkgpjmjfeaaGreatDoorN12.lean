/- A part of the proof (part 12 of 17). -/
import Derived.Test.YthinbkgpjmjfeaaGreatDoorN11
import Derived.Sort.LotA
import Derived.Shelf.SlSortCmp.NoneTotal
import Derived.Lib.IndexMore
import GoSem.Core.Utf8
namespace Go.Proofs.YthinbkgpjmjfeaaGreatDoor.Sh
open Go.Proofs.Tryz
abbrev wg:=@DW.old
open Proofs
set_option maxRecDepth 10000
set_option maxHeartbeats 4000000
def dK(l:List (Int×Int)):List SV:=(l.map Ba).flatMap SV.cells
theorem TN(l:List (Int×Int)):∀e∈l.map Ba,e.B=true/\e.cells.length=2:=λe a=>by
 obtain⟨x,_,rfl⟩:=qa.1 a;exact⟨rfl,rfl⟩
theorem UV:∀(l:List (Int×Int)),(dK l).length=l.length*2
 | []=>rfl
 | x::l=>by have:=UV l;simp only[dK,qi,va,ql,qo,Ba,SV.cells,vU]at *;omega
open Go.Sort (SWO)
def Kj(x:Int×Int):List Value:=[.int .i64 x.1,.int .i64 x.2]
def QY(l:List (Int×Int)):List Int:=l.flatMap λx=>[x.1,x.2]
theorem JF:∀l:List (Int×Int),(QY l).length=l.length*2
 | []=>rfl
 | x::l=>by have:=JF l;simp only[QY,va,ql,qo,vU]at *;omega
theorem Pn:∀l:List (Int×Int),dK l=(QY l).map AA
 | []=>rfl
 | x::l=>by
  have:=Pn l;unfold dK QY at *;simp only[qi,va,qc,this];rfl
theorem UB:∀(l:List (Int×Int))(t:Nat)(h:t<l.length*2),((QY l).map (Value.int .i64))[t]? = (Kj l[t / 2])[t % 2]?
 | [],t,h=>by simp at h
 | x::l,0,h=>rfl
 | x::l,1,h=>rfl
 | x::l,t+2,h=>by
  have a:(t+2) / 2=t / 2+1:=by omega
  have b:(t+2) % 2=t % 2:=by omega
  have h2:t<l.length*2:=by simp at h;omega
  have:=UB l t h2;simp only[a,b,List.getElem_cons_succ];rw[<-this];rfl
theorem bK(l:List (Int×Int)):Go.Sort.flatK Kj 2 l.toArray=((QY l).map (Value.int .i64)).toArray:=by
 refine Go.Sort.ext_get! (by simp[JF]) λt ht=>?_;have a:t<l.length*2:=by simpa using ht
 rw[Go.Sort.get_flatK _ _ _ _ (by simpa using a)];have h1:=UB l t a;have h2:t / 2<l.length:=by omega
 have f:t % 2<2:=Nat.mod_lt _ mq;have d:(l.toArray)[t / 2]! = l[t / 2]:=by rw[getElem!_pos _ _ (by simpa using h2)];simp
 rw[d];have b:t<((QY l).map (Value.int .i64)).length:=by rw[qf,JF];exact a
 have c:t % 2<(Kj l[t / 2]).length:=f;have e:((QY l).map (Value.int .i64)).toArray[t]! = ((QY l).map (Value.int .i64))[t]:=by
  rw[getElem!_pos ((QY l).map (Value.int .i64)).toArray t (by simpa using b)];simp
 rw[e,getElem!_pos (Kj l[t / 2]) (t % 2) c];rw[qk b,qk c]at h1;exact(Option.some.inj h1).symm
theorem dF(x y:Int×Int):ltOf IX x y=decide (x.1<y.1\/(x.1=y.1/\x.2<y.2)):=by
 unfold ltOf IX FU;by_cases h1:x.1<y.1;simp[h1,VX];by_cases h2:y.1<x.1;have:¬x.1=y.1:=by omega
 simp[h1,h2,VX,this];have:x.1=y.1:=by omega
 by_cases a:x.2<y.2;simp[this,a,VX];by_cases b:y.2<x.2<;>simp[this,a,b,VX]
theorem iS:SWO (ltOf IX) where
 irrefl x:=by rw[dF];simp
 trans x y z h1 h2:=by rw[dF]at *;simp at *;omega
 ntrans x y z h1 h2:=by rw[dF]at *;simp at *;omega
def DS(l:List (Int×Int)):List (Int×Int):=l.mergeSort λx y=>!(ltOf IX) y x
theorem V9(c:Cx)(x:Int×Int):V c (Ba x) (.agg (Kj x).toArray):=by
 rw[Ba,V];exact⟨Kj x,rfl,BE.2 ⟨by simp[V],by simp[V],trivial⟩,λv hv=>by simp[Kj]at hv;rcases hv with rfl|rfl<;>rfl⟩
theorem gz(a off size:Nat)(w:World):CmpLays prog 136 #[] Kj 2 IX a off size w:=by
 intro m os c _ x y;have:=(mf x y).grown (W:=sortWorldK Kj 2 w a off m c os) (vs:=[.agg (Kj x).toArray,.agg (Kj y).toArray]) ⟨V9 _ x,V9 _ y,trivial⟩;refine this.mono ?_;rintro e w' ⟨⟨u,c',rfl,d⟩,q,b,rfl⟩;rw[Dt d];exact⟨rfl,q,b,rfl⟩
theorem bT:K4 prog 183=true:=by unfold K4;rw[func183];kernel_rfl
theorem RO(c:Cx):∀l:List Int,AU (V c) (l.map AA) (l.map (Value.int .i64))
 | []=>trivial
 | x::l=>⟨by simp[V],RO c l⟩
theorem mj(l:List (Int×Int))(hl:l.length<=1048576){H:Hp}{n o:Nat}{full:Bool}{t:List SV}(O:H o=some (.cells (dK l++t))):
 BP prog 183 [.sl o 0 2 l.length full,.fn (.func 136) [] []] H n (λv h' n'=>v=.tup []/\h'=h_ H o (some (.cells (dK (DS l)++t)))/\n'=n):=by
 refine⟨bT,λc vs _ R F A=>?_⟩;have⟨u,rs,ev,hv,A2⟩:∃u rs,vs=u::rs/\V c (.sl o 0 2 l.length full) u/\AU (V c) [.fn (.func 136) [] []] rs:=by
  cases vs with
  | nil=>exact A.elim
  | cons u rs=>exact⟨u,rs,rfl,A.1,A.2⟩
 obtain⟨u2,rfl,r⟩:=A2.single;subst ev;simp only[V,VL]at hv r;obtain⟨xs,ys,rfl,s,hy⟩:=r;subst s hy;obtain⟨b,st,cap,hρ,rfl,hcap,_,hroom⟩:=hv;obtain⟨U,st',arr,e,vs,g1,p,g3,K,Z,_⟩:=R.obj o _ O;rw[hρ]at g1;cases g1;have M:=AU.pre K;rw[Pn,qf,JF]at M;have J:=Pv M;have N:=AU.drop (l.length*2) K;rw[List.drop_left' (by rw[UV])]at N;have a:b<c.w.heap.size:=(qh.1 p).1;have d:∀j (x:Value),((QY l).map (Value.int .i64))[j]? = some x->arr[st+j]? = some x:=λj x e=>by
  rw[<-J]at e;exact g3 j x (by rw[vK]at e;split at e;exact e;cases e)
 have E:Go.Sort.HoldsK Kj 2 c.w b (st+0) l.toArray:=by
  unfold Go.Sort.HoldsK;rw[bK];intro j P;have G:j<((QY l).map (Value.int .i64)).length:=by simpa using P
  have W:((QY l).map (Value.int .i64)).toArray[j]! = ((QY l).map (Value.int .i64))[j]:=by
   rw[getElem!_pos ((QY l).map (Value.int .i64)).toArray j P];simp
  rw[W];exact⟨by simp[World.cell?,p,d j _ (qk G)],by simp[World.frozen?,p]⟩
 have Y:∀args w,(callFunc 136 args).run prog w=.ok (.enter 136 args) w:=enters_of func136 mu rfl;have Q:=AnyQ.slices_SortFunc Tryz.sortB 2 Tryz.isAgg142 Tryz.sizeOf142 Kj (λ_=>rfl) (λx v hv=>by simp[Kj]at hv;rcases hv with rfl|rfl<;>rfl) IX iS 136 #[] b (st+0) cap l.toArray c.w Y (gz _ _ _ _) E a (by simp;omega);have C:Calls prog 183 #[.slice (some ⟨b,st+0,none⟩) l.length cap,.func (.func 136) #[] #[]] c.w λe w'=>e=.returned (.tuple #[])/\∃k os,w'=Go.Sort.grow (Go.Sort.putRow id (Go.Sort.ahead c.w k) b (st+0) ((QY (DS l)).map (Value.int .i64)).toArray) os:=by
  refine Q.mono ?_;rintro e w' ⟨rfl,D,k,os,h1,h2,rfl⟩;refine⟨rfl,k,os,?_⟩;have h3:=Go.Sort.sorted_unique_holds iS (λx y h1 h2=>by
   rw[dF]at h1 h2;simp at h1 h2;exact Prod.ext mq mq) l.toArray D h1 h2
  have h6:D=(DS l).toArray:=by rw[<-Array.toArray_toList (xs:=D),h3];rfl
  unfold sortWorldK Go.Sort.putRowK;rw[h6,bK]
 refine C.mono ?_;rintro e w' ⟨rfl,k,os,rfl⟩;have q:(DS l).length=l.length:=wm _;obtain⟨L,B⟩:∃L,L=(QY (DS l)).map (Value.int .i64):=⟨_,rfl⟩
 have hLl:L.length=l.length*2:=by rw[B,qf,JF,q]
 have hfl:((QY l).map (Value.int .i64)).length=l.length*2:=by rw[qf,JF]
 rw[<-B];have m:(Go.Sort.grow (Go.Sort.putRow id (Go.Sort.ahead c.w k) b (st+0) L.toArray) os).heap=(c.w.heap.modify b (Go.Sort.onCells (Go.Sort.putCells id (st+0) L.toArray)))++os:=rfl;have f:(Go.Sort.grow (Go.Sort.putRow id (Go.Sort.ahead c.w k) b (st+0) L.toArray) os).heap[b]? = some (.cells (Go.Sort.putCells id (st+0) L.toArray arr) e (0,0)):=by
  rw[m,vS (by simpa using a),wn,my rfl,p];rfl
 obtain⟨S,T⟩:=R.write2 (w':=Go.Sort.grow (Go.Sort.putRow id (Go.Sort.ahead c.w k) b (st+0) L.toArray) os) (y:=.cells (dK (DS l)++t)) O hρ
  (by rw[m];simp) (λU hb I=>by rw[m,vS (by simpa using I),wn,mw (Ne.symm hb)])
  (by unfold rm; rw [f, p]; simp [Go.Sort.putCells]) rfl rfl (fun X => by
    refine⟨b,st,_,e,L++vs.drop (l.length*2),hρ,f,λi x hi=>?_,?_,λx s=>?_,Ty.none⟩;simp only[Go.Sort.putCells,Array.getElem?_mapIdx,wz,List.size_toArray];by_cases g:i<L.length;rw[wj g]at hi;have s:L[i]=x:=by rw[qk g]at hi;exact Option.some.inj hi
    have h7:=d i _ (qk mq);rw[h7,vE,my ⟨by omega,by omega⟩,show st+i-st=i by omega];rw[getElem!_pos L.toArray i (by simpa using g)];simp[s];rw[vR mq,vw,show l.length*2+(i-L.length)=i by omega]at hi;rw[g3 i x hi,vE,mw mq];rw[Pn];refine wo ?_ (wX X N);rw[B];exact RO _ _;rcases qd.1 s with h|h;rw[B]at h;obtain⟨z,_,rfl⟩:=qa.1 h;rfl;exact Z x (vB h))
 exact⟨.tuple #[],.tup [],_,n,_,rfl,⟨rfl,rfl,rfl⟩,rfl,by simp[V,VL],S,F,⟨T,IO _,λ_ _=>rfl⟩⟩
end Go.Proofs.YthinbkgpjmjfeaaGreatDoor.Sh
namespace Go.Proofs.YthinbkgpjmjfeaaGreatDoor.Sh
open Go.Proofs.Tryz
open Proofs
set_option maxRecDepth 10000
set_option maxHeartbeats 4000000
theorem ir(z:Nat)(full:Bool):PC 183 [.y z [] full,.fn (.func 136) [] []] (.tup []):=by
 intro h n;refine⟨bT,λc vs _ R F A=>?_⟩;have⟨u,rs,ev,hv,A2⟩:∃u rs,vs=u::rs/\V c (.y z [] full) u/\AU (V c) [.fn (.func 136) [] []] rs:=by
  cases vs with
  | nil=>exact A.elim
  | cons u rs=>exact⟨u,rs,rfl,A.1,A.2⟩
 obtain⟨b,rfl,hv2⟩:=A2.single;subst ev;rw[V]at hv;have fin:∀(p:Option Addr)(cap:Nat),Calls prog 183 #[.slice p 0 cap,b] c.w λe w'=>e=.returned (.tuple #[])/\w'=c.w:=λp cap=>AnyF.slices_SortFunc_none Tryz.sortB p cap b c.w;have key:∃p cap,u=.slice p 0 cap:=by
  rcases hv with⟨_,rfl⟩|⟨a,cap,_,rfl,_⟩
  exact⟨_,_,rfl⟩;exact⟨_,_,rfl⟩
 obtain⟨p,cap,rfl⟩:=key;refine(fin p cap).mono ?_;rintro e w' ⟨rfl,rfl⟩;exact⟨.tuple #[],.tup [],h,n,c,rfl,⟨rfl,rfl,rfl⟩,rfl,by simp[V,VL],R,F,wE n c⟩
theorem mh(es:List (SV×SV))(a:List (Int×Int))(hk:es.map (·.1)=a.map Ba)(b:a.length<=1048576){H:Hp}{n q s:Nat}(d:H q=some (.cells [.map s]))(e:H s=some (.map es)):
 BP prog 182 [.fn (.func 184) [] [.ptr q 0]] H n (λv h' n'=>∃ks:List (Int×Int),ks.Perm a/\M1 2 (ks.map Ba) (h_ H s none) n v h' n'):=by
 refine gq func182 rfl λho=>?_;simp[go_sem];refine qM (mn es a hk b d e) ?_;rintro v h' n' ⟨ks,hp,c⟩;simp[go_sem];exact .inl ⟨ks,hp,c⟩
theorem N8{a b:List (Int×Int)}(h:a.Perm b):DS a=DS b:=by
 have tr:∀x y z:Int×Int,(!(ltOf IX) y x)=true->(!(ltOf IX) z y)=true->(!(ltOf IX) z x)=true:=λx y z h1 h2=>by simp only[dF,qS,decide_eq_false_iff_not]at *;omega
 have to:∀x y:Int×Int,((!(ltOf IX) y x)||(!(ltOf IX) x y))=true:=λx y=>by simp only[dF,vV,qS,decide_eq_false_iff_not];omega
 refine List.Perm.eq_of_pairwise (le:=λx y=>(!(ltOf IX) y x)=true) (λx y _ _ h1 h2=>?_) (wv tr to a) (wv tr to b) (((List.mergeSort_perm a _).trans h).trans (List.mergeSort_perm b _).symm);simp only[dF,qS,decide_eq_false_iff_not]at h1 h2;exact Prod.ext mq mq
theorem mc(es:List (SV×SV))(a:List (Int×Int))(hk:es.map (·.1)=a.map Ba)(c:a.length<=1048576){H:Hp}{n q s:Nat}(m:H q=some (.cells [.map s]))(i:H s=some (.map es)):
 BP prog 134 [.fn (.func 184) [] [.ptr q 0],.fn (.func 136) [] []] H n (M1 2 ((DS a).map Ba) (h_ H s none) n):=by
 refine gq func134 rfl λh=>?_;simp[go_sem];refine qM (mh es a hk c m i) ?_;rintro v h' n' ⟨ks,hp,b,BA,hv⟩;have hkl:=hp.length_eq;rcases hv with⟨g,k,full,rfl⟩|⟨o,full,h1,h2,rfl,l⟩
 simp[go_sem];refine(ir k full).use ?_;simp[go_sem];simp only[List.map_eq_nil_iff]at g;subst g;have:a=[]:=by simpa using hp.symm
 subst this;exact .inl ⟨b,BA,.inl ⟨by simp[DS],k,full,rfl⟩⟩;simp[go_sem];refine qM (mj ks mq (t:=[]) (by rw[qV];exact l)) ?_;rintro v h4 n4 ⟨rfl,rfl,rfl⟩;simp[go_sem];have hos:o≠s:=by have:=(h s _ i).1;omega
 refine .inl ⟨b,λj y e=>?_,.inr ⟨o,full,h1,h2,?_,?_⟩⟩;have d:j≠s:=by rintro rfl;simp[h_]at e
 have f:=e;rw[AD _ _ d]at f;have:=(h j y f).1;rw[AD _ _ mq];exact BA j y e;have:(DS a).length=ks.length:=by rw[<-N8 hp];exact wm _
 simp[this];rw[AE,N8 hp];rfl
theorem me{H:Hp}{n s:Nat}:BP prog 135 [.map s] H n (λv h' n'=>v=.fn (.func 184) [] [.ptr n 0]/\h'=h_ H n (some (.cells [.map s]))/\n'=n+1):=by
 refine gq func135 rfl λho=>?_;simp[go_sem];exact .inl ⟨rfl,rfl,rfl⟩
section
variable{σ:Type}
def IT(R:PT σ)(N:Nat)(d:AI)(s:σ):AI×σ:=
 ({ d with W:=(Aw R N 0 d.W s).1,T0:=(R.H d.T0 (Aw R N 0 d.W s).2).1 },(R.H d.T0 (Aw R N 0 d.W s).2).2)
variable{st:σ->Nat->Option A9}{n0:Nat}{gF gH gI:FuncId}{bF bH bI:List SV}{R:PT σ}{pf:Nat->List AB->Prop}{pi:Nat->AB->Prop}{hp:AG->Prop}{rk:σ->Nat}{top:Nat}
theorem Ny{h h2:Hp}{n n':Nat}{v:SV}(b:Hw h n)(a:C_ n v=true)(hh:∀j y,h j=some y->h2 j=some y):Ce n h2 n' v (λw h' n'=>w=v/\h'=h/\n'=n):=
 .inr ⟨0,v,h,Or,a,λj x e=>⟨hh j x e,b j x e⟩,rfl,rfl,rfl⟩
theorem AI.cl(n:Nat)(d:AI):C_ n d.h=true:=by
 rw[AI.h,C_,CW,CW,CW];simp[C_,c_,AG.flat_closed,AQ.j,AB.E.c_,By.E.c_,Ao.E.c_,FT.E.c_,AR.E.c_,Ge.E.c_]
def bj:Tr:=(.pure 0 (.pure 1 (.pure 4 (.pure 5 (.pure 6 (.two 2 7 (.two 3 7 (.one 7 (.pure 9 (.one 8 (.one 10 (.pure 11 (.one 12 .nil)))))) (.one 3 (.pure 9 (.one 8 (.one 10 (.pure 11 (.one 12 .nil))))))) (.one 2 (.one 3 (.pure 9 (.one 8 (.one 10 (.pure 11 (.one 12 .nil)))))))))))))
abbrev NX:List SV:=[.y 0 [] true,.y 0 [] true,AA 0,AA 0,.y 0 [] true,.y 0 [] true,.y 0 [] true,.y 0 [] true,.y 0 [] true,.y 0 [] true,.y 0 [] true]
theorem gS(C:ak st n0 gF gH gI bF bH bI R pf pi hp rk top)(d:AI)(hd:d.l)(O:hp d.T0)(N:Nat)(hl:pf N d.W)(s:σ)(ht:rk (IT R N d s).2<=top){H:Hp}{n:Nat}(hn:n0<=n)(hs:Sw st s H):
 BP prog 49 [.agg [.fn (.func gF) [] bF,.fn (.func gH) [] bH,.fn (.func gI) [] bI],d.h] H n (λv h' n'=>v=(IT R N d s).1.h/\h'=Az st (IT R N d s).2 H/\n'=n):=by
 refine FF func49 rfl λM=>?_;have K:=C.clo;have T:∀r,Hw (Az st r H) n:=λr=>K.old r hn M;have J:∀r j y,Az st r H j=some y->j<n:=λr j y e=>(T r j y e).1;have B:=c79 d hd;have p:=gA C N 0 d.W s;have c:=C.up.H d.T0 (Aw R N 0 d.W s).2;unfold IT at ht ⊢;generalize hi:Aw R N 0 d.W s=r1 at ht p c ⊢;obtain⟨P,s1⟩:=r1;dsimp only at ht p c ⊢;have o:=C.H d.T0 s1;generalize hh:R.H d.T0 s1=r2 at ht o c ⊢;obtain⟨a,s2⟩:=r2;dsimp only at ht o c ⊢;obtain⟨D,F⟩:∃D:List SV,D=[AH d.W,AO d.T0.Q,AA d.T0.I,AA d.T0.move,AX d.T0.Y,AN d.T0.Z,BV d.V,AT d.S.A,Bi d.S.L,Af d.S.C,CA d.S.vars]:=⟨_,rfl⟩
 have E:d.h=.agg D:=by rw[F];simp[AI.h,AG.j,AQ.j]
 have U:∀(s:σ)(x y:Option A9),h_ (h_ (Az st s H) (n+1) x) (n+2) y=Az st s (h_ (h_ H (n+1) x) (n+2) y):=λs x y=>by rw[K.h_ _ _ mq,K.h_ _ _ mq]
 refine Bc 1 [(2,.q [.fn (.func gF) [] bF,.fn (.func gH) [] bH,.fn (.func gI) [] bI]),(3,.ptr (n+1) 0),(4,.ptr (n+2) 0)] (h_ (h_ (Az st s H) (n+1) (some (.cells D))) (n+2) (some (.cells NX))) (λm=>n+3=m) ?_ (λm hm=>?_);rw[E,DF s H hs];simp[go_sem,Or];refine⟨Ap (by rw[AD _ _ mq,AD _ _ mq];exact M.none (IO n)) (by simp[h_];omega),λj y=>?_⟩;have:=M j y;simp only[h_];grind;subst hm;refine Bc 0 [(2,.q [.fn (.func gF) [] bF,.fn (.func gH) [] bH,.fn (.func gI) [] bI]),(3,.ptr (n+1) 0),(4,.ptr (n+2) 0)] (h_ (h_ (Az st s H) (n+1) (some (.cells D))) (n+2) (some (.cells NX))) (λm=>n+3=m) ?_ (λm hm=>?_);rw[E,F]at B;rw[F];simp[go_sem,AE,AD];refine qY B ?_;simp[go_sem,Or,AE,AD];intro j y;simp only[h_];grind;subst hm;obtain⟨i,G⟩:∃i:Hp,i=h_ (h_ H (n+1) (some (.cells D))) (n+2) (some (.cells NX)):=⟨_,rfl⟩
 have k:∀s,h_ (h_ (Az st s H) (n+1) (some (.cells D))) (n+2) (some (.cells NX))=Az st s i:=λs=>by rw[U,G]
 have hk:∀s,Az st s i (n+1)=some (.cells D):=λs=>by rw[<-k,AD _ _ mq,AE]
 obtain⟨t,z⟩:∃t:List SV,t=[AH P,AO a.Q,AA a.I,AA a.move,AX a.Y,AN a.Z,BV d.V,AT d.S.A,Bi d.S.L,Af d.S.C,CA d.S.vars]:=⟨_,rfl⟩
 have g:=p (Az st s i) (n+3) hl (qC c ht) mq CV;have f:=o (Az st s1 i) (n+3) O ht mq CV;rw[K.up2]at g f;rw[k];refine AV 0 (α:=Unit) (λ_=>[(3,.ptr (n+1) 0),(4,.ptr (n+2) 0)]) (λ_=>h_ (h_ (Az st s2 H) (n+1) (some (.cells t))) (n+2) (some (.cells NX))) (λ_ m=>n+3=m) (CN bj rfl mu mu ?_) (λ_ m hm=>?_);have fin:∀j w,h_ (h_ (Az st s2 H) (n+1) (some (.cells t))) (n+2) (some (.cells NX)) j=some w->h_ (Az st s2 i) (n+1) (some (.cells t)) j=some w:=λj w e=>by
  rw[<-k];simp only[h_]at e ⊢;grind
 rw[z]at fin ⊢;rw[F]at hk;simp[go_sem,bj,hk];refine⟨⟨?_,?_⟩,?_⟩;refine qM g ?_;rintro v u n' ⟨rfl,rfl,rfl⟩;simp[go_sem,hk];refine qM (by simpa[AG.h,AG.j]using f) ?_;rintro v u n' ⟨rfl,rfl,b⟩;simp[go_sem,hk,AE,Ad,Or];exact⟨b.symm,fin⟩;refine qM g ?_;rintro v u n' ⟨rfl,rfl,rfl⟩;simp[go_sem];refine qM (by simpa[AG.h,AG.j]using f) ?_;rintro v u n' ⟨rfl,rfl,b⟩;simp[go_sem,hk,AE,Ad,Or];exact⟨b.symm,fin⟩;refine qM g ?_;rintro v u n' ⟨rfl,rfl,rfl⟩;simp[go_sem];refine qM (by simpa[AG.h,AG.j]using f) ?_;rintro v u n' ⟨rfl,rfl,b⟩;simp[go_sem,hk,AE,Ad,Or];exact⟨b.symm,fin⟩;subst hm;refine AK ?_;rw[z];simp[go_sem,AE,AD,Ad];have X:({ W:=P,T0:=a,V:=d.V,S:=d.S }:AI).h=.agg [AH P,AO a.Q,AA a.I,AA a.move,AX a.Y,AN a.Z,BV d.V,AT d.S.A,Bi d.S.L,Af d.S.C,CA d.S.vars]:=by simp[AI.h,AG.j,AQ.j]
 rw[<-X];exact Ny (T s2) (AI.cl n _) λj y e=>by have:=J s2 j y e;rw[AD _ _ mq,AD _ _ mq];exact e
end
section
variable{P:Program}{E:BZ}{evs:Operand->SV}{o:Oper}{h:Hp}{n:Nat}{K:SV->Hp->Nat->Prop}
end
def jM(s:ByteArray):Int:=if Ci s then D9 s s.size else 0
theorem ZO.st(e:SV)(h:∃r:ZO,r.h=e):e.B=true/\e.cells.length=3:=by obtain⟨r,rfl⟩:=h;exact⟨rfl,rfl⟩
section
variable{E:BZ}{P:Program}{N:Nat}{code:Code}{Q:CT}{sa:SA}{G:Hp}{n m p z:Nat}{es:List SV}
end
inductive Rn(t:ByteArray):Nat->List Int->Prop where
 | nil:Rn t t.size []
 | cons {o:Nat} {T:List Int} (h1:o<t.size) (h2:(CX t o).2=true) (h3:Rn t (o+(CX t o).1) T):Rn t o (((Utf8.decode t o).1:Int)::T)
abbrev fF(U S:List Int)(k:Nat):Prop:=(U.drop k).take S.length=S
theorem w46:PC 46 [] (.agg [.fn (.func 113) [] [],.fn (.func 114) [] [],.fn (.func 115) [] []]):=by
 intro h n;refine gq func46 rfl λa=>?_;simp[go_sem,AE,Ad];exact Bt a (Aa a (IO _) AC) rfl rfl
theorem eY(id:Int)(l:List AB):PC 113 [AA id,AH l] (AH l):=by
 intro h n;refine gq func113 rfl λa=>?_;simp[go_sem];exact Bt a AC rfl (AB.E.y _ _ _ _)
theorem mZ(x:AB):PC 115 [x.h] (.tup [x.h,.bool true]):=by
 intro h n;refine gq func115 rfl λa=>?_;rw[qy];simp[go_sem,AE,Ad,AD];exact Bt a (λj y=>by have:=a j y;simp only[h_];grind) rfl (by simp[C_,c_,AB.E.c_,AL.E.c_,Fp.E.c_,Di.E.c_,A3.E.c_])
def Yd(k:Nat)(s:List (Int×Int))(o:Nat):Option A9:=if o=k then some (.map (C3 s))else if o=k+1 then some (.cells [.map k])else none
theorem Ye(k:Nat)(s:List (Int×Int))(H:Hp)(h1:H (k+1)=some (.cells [.map k])):Az (Yd k) s H=h_ H k (some (.map (C3 s))):=by
 funext j;simp only[Az,Yd,h_];by_cases e:j=k;simp[e];by_cases a:j=k+1;subst a;simp[h1];simp[e,a]
theorem eJ(k n0:Nat)(hk:k<n0)(s:List (Int×Int)):∀o y,Yd k s o=some y->BH n0 y=true:=λo y e=>by
 simp only[Yd]at e;split at e;cases e;simp only[BH,qG,C3,qg];intro p hp;obtain⟨x,_,rfl⟩:=qa.1 hp;exact⟨by simp[Ba,C_,c_],by simp[C_]⟩;split at e;cases e;simpa[BH,C_,c_]using hk;cases e
def Xo:PT (List (Int×Int)):=⟨λ_ l s=>(l,s),λx s=>(x,Ef s x.mvs),λx s=>(x,true,s)⟩
theorem lq{k n0 K:Nat}(hk:k+1<n0)(hK:K<=1048576):ak (Yd k) n0 113 133 115 [] [.ptr (k+1) 0] [] Xo (lim AG.l K) (RJ AG.l K) AG.l (λ_=>0) 0 where
 up:=⟨λ_ _ _=>IO _,λ_ _=>IO _,λ_ _=>IO _⟩
 lt s o h:=by simp only[Yd];rw[mw mq,mw mq]
 dom s s' o h:=by simp only[Yd]at h ⊢;split at h<;>simp_all
 cl s o y h:=eJ k n0 mq s o y h
 zero l h:=h
 W N id l s H n hl ht hn hs:=by
  refine ww (eY id l H n) ?_;rintro v h' n' ⟨rfl,rfl,rfl⟩;exact⟨rfl,(DF s _ hs).symm,rfl⟩
 H x s H n hx _ hn hs:=by
  have h1:H k=some (.map (C3 s)):=hs k _ (by simp[Yd]);have h2:H (k+1)=some (.cells [.map k]):=hs (k+1) _ (by simp[Yd]);refine ww (mb x hx s h2 h1) ?_;rintro v h' n' ⟨rfl,rfl,rfl⟩;exact⟨rfl,(Ye k _ H h2).symm,rfl⟩
 item N x s H n _ ht hn hs:=by
  refine ww (mZ x H n) ?_;rintro v h' n' ⟨rfl,rfl,rfl⟩;exact⟨rfl,(DF s _ hs).symm,rfl⟩
 flow_ok N id l s hl:=⟨by have:=(Ca.1 hl).1;simp only[Xo];omega,(Ca.1 hl).2.2⟩
 item_ok N x s hx _:=⟨hx.1,λ_=>hx.2.1,λ_=>⟨by have:=hx.2.2.1;simp only[Xo];omega,λr hr=>⟨(hx.2.2.2 r hr).1,by have:=(hx.2.2.2 r hr).2.1;omega,λc a=>(hx.2.2.2 r hr).2.2 c a⟩⟩⟩
def Cj:List (Int×Int)->Int->Int
 | [],_=>0
 | (a,b)::r,x=>if a=x then b else Cj r x
def DQ:List (Int×Int)->Int->Int->List (Int×Int)
 | [],x,v=>[(x,v)]
 | (a,b)::r,x,v=>if a=x then(x,v)::r else(a,b)::DQ r x v
def EB(l:List (Int×Int)):List (SV×SV):=l.map λp=>(AA p.1,AA p.2)
theorem FL:∀(l:List (Int×Int))(x v y:Int),Cj (DQ l x v) y=if x=y then v else Cj l y
 | [],x,v,y=>by simp[DQ,Cj]
 | (a,b)::r,x,v,y=>by
  rw[DQ];split
  . next e=>subst e;simp only[Cj];split<;>simp
  . next e=>
    simp only[Cj,FL r x v y];split
    . next e2=>subst e2;rw[mw (λg=>e g.symm)]
    rfl
theorem Gp(x v:Int):∀(l:List (Int×Int))(i:Nat),
 (CY (AA x) (EB l) i=some none/\Cj l x=0/\EB l++[(AA x,AA v)]=EB (DQ l x v))\/
 ∃j,CY (AA x) (EB l) i=some (some (i+j,AA (Cj l x)))/\(EB l).modify j (λ_=>(AA x,AA v))=EB (DQ l x v)
 | [],i=>.inl ⟨rfl,rfl,rfl⟩
 | (a,b)::r,i=>by
  by_cases e:x=a;subst e;exact .inr ⟨0,by simp[EB,CY,GJ,Cj],by simp[EB,DQ]⟩;have d:(x==a)=false:=by simpa using e
  have c:¬a=x:=λg=>e g.symm;rcases Gp x v r (i+1)with⟨h1,h2,f⟩|⟨j,h1,h2⟩
  refine .inl ⟨?_,by rw[Cj,mw c];exact h2,by rw[DQ,mw c];exact congrArg _ f⟩;simp only[EB,qi,CY,GJ,if_true,d];exact h1;refine .inr ⟨j+1,?_,by rw[DQ,mw c];exact congrArg _ h2⟩;rw[Cj,mw c,show i+(j+1)=i+1+j by omega];simp only[EB,qi,CY,GJ,if_true,d];exact h1
def Lt:List ((Int×Int)×Int)->Int×Int->Int->List ((Int×Int)×Int)
 | [],m,v=>[(m,v)]
 | (a,b)::r,m,v=>if a=m then(m,v)::r else(a,b)::Lt r m v
def EW(l:List ((Int×Int)×Int)):List (SV×SV):=l.map λp=>(Ba p.1,AA p.2)
theorem Z9(s:List ((Int×Int)×Int)):∀p∈EW s,UQ p:=λp hp=>by
 obtain⟨e,_,rfl⟩:=qa.1 hp;exact⟨e.1.1,e.1.2,rfl⟩
theorem Om(a b v:Int):∀(l:List ((Int×Int)×Int))(i:Nat),
 (EA prog 142 [.int .i64 a,.int .i64 b] (EW l) i=some none/\EW l++[(Ba (a,b),AA v)]=EW (Lt l (a,b) v))\/
 ∃j w,EA prog 142 [.int .i64 a,.int .i64 b] (EW l) i=some (some (i+j,w))/\FY (EW l) j (Ba (a,b)) (AA v)=EW (Lt l (a,b) v)
 | [],i=>.inl ⟨rfl,rfl⟩
 | ((c,d),w)::r,i=>by
  have m:EW (((c,d),w)::r)=(Ba (c,d),AA w)::EW r:=rfl;rw[m];simp only[EA,Ba,Wz];by_cases e:a=c/\b=d;obtain⟨rfl,rfl⟩:=e;have f:(a==a&&b==b)=true:=by simp
  rw[f];exact .inr ⟨0,_,rfl,by simp[Lt,EW,FY,Ba]⟩;have f:(a==c&&b==d)=false:=by
   cases h1:(a==c)<;>cases h2:(b==d)<;>simp_all
  have k:¬((c,d)=(a,b)):=by
   intro h;cases h;exact e ⟨rfl,rfl⟩
  rw[f];have g:EW (Lt (((c,d),w)::r) (a,b) v)=(Ba (c,d),AA w)::EW (Lt r (a,b) v):=by
   rw[Lt,mw k];rfl
  rcases Om a b v r (i+1)with⟨h1,h2⟩|⟨j,n,h1,h2⟩
  exact .inl ⟨h1,by rw[g,<-h2];rfl⟩;exact .inr ⟨j+1,n,by rw[show i+(j+1)=i+1+j by omega];exact h1,by rw[g,<-h2];rfl⟩
theorem aA(l:List ((Int×Int)×Int))(m:Int×Int)(v:Int):∃r,EA prog 142 [.int .i64 m.1,.int .i64 m.2] (EW l) 0=some r/\(match r with|some p=>FY (EW l) p.1 (.agg [.int .i64 m.1,.int .i64 m.2]) (AA v)|none=>EW l++[(.agg [.int .i64 m.1,.int .i64 m.2],AA v)])=EW (Lt l m v):=by
 rcases Om m.1 m.2 v l 0 with⟨h1,h2⟩|⟨j,w,h1,h2⟩
 exact⟨none,h1,h2⟩;rw[qZ]at h1;exact⟨_,h1,h2⟩
def PH(q:List (Int×Int)×List ((Int×Int)×Int))(m:Int×Int):List (Int×Int)×List ((Int×Int)×Int):=
 (DQ q.1 m.1 (Cj q.1 m.1+1),Lt q.2 m (Cj q.1 m.1+1))
def FD(l:List (Int×Int)):List (Int×Int)×List ((Int×Int)×Int):=l.foldl PH ([],[])
theorem Le(l:List (Int×Int))(m:Int×Int):FD (l++[m])=PH (FD l) m:=by rw[FD,vp];rfl
theorem P3:∀(k:Nat)(l:List (Int×Int)),l.length=k->∀x,0<=Cj (FD l).1 x/\Cj (FD l).1 x<=l.length
 | 0,l,h,x=>by rw[vb.1 h];exact⟨Int.le_refl _,Int.le_refl _⟩
 | k + 1, l, h, x => by
  obtain⟨a,m,rfl⟩:∃a m,l=a++[m]:=by
   rcases List.eq_nil_or_concat l with rfl|⟨a,m,rfl⟩
   simp at h;exact⟨a,m,by simp⟩
  have b:a.length=k:=by simpa using h
  have h1:=P3 k a b x;have h2:=P3 k a b m.1;rw[Le,PH];simp only[FL,ql,wl];split<;>omega
def HY(N:Nat)(d:AI):List (Int×Int):=(IT Xo N d []).2
def je(L:List ((Int×Int)×Int))(h:Hp)(n:Nat)(v:SV)(h':Hp)(n':Nat):Prop:=∃r,v=.map r/\n<=r/\r<n'/\h' r=some (.map (EW L))/\∀j y,h j=some y->h' j=some y
theorem w75(d:AI)(hd:d.l){K N:Nat}(hK:K<=1048576)(hl:lim AG.l K N d.W)(hlen:(HY N d).length<=1048576)(h:Hp)(n:Nat):
 BP prog 75 [d.h] h n (je (FD (DS (HY N d))).2 h n):=by
 refine FF func75 rfl λho=>?_;have hHb:=ho.lt;refine Bc 2 [(1,.q ([AH d.W]++d.T0.j++[BV d.V]++d.S.j))] h (λm=>m=n+1) ?_ (λm hm=>?_);simp[go_sem,AI.h];exact⟨Ap (ho.none (IO n)) (by simp[h_]),Aa ho (IO _) AC⟩;subst hm;obtain⟨B,hB⟩:∃B:List (Int×Int)->Hp,∀s,B s=h_ (h_ h (n+1) (some (.map (C3 s)))) (n+2) (some (.cells [.map (n+1)])):=⟨_,λ_=>rfl⟩
 have Bb:∀s j y,B s j=some y->j<n+3:=λs j y e=>by
  rw[hB]at e;have:=hHb j y;simp only[h_]at e;grind
 have B1:∀s,B s (n+1)=some (.map (C3 s)):=λs=>by rw[hB,AD _ _ mq,AE]
 have B2:∀s,B s (n+2)=some (.cells [.map (n+1)]):=λs=>by rw[hB,AE]
 have Bh:∀s j y,h j=some y->B s j=some y:=λs j y e=>by have:=hHb j y e;rw[hB,AD _ _ mq,AD _ _ mq];exact e
 have Bs:∀s1 s2,Az (Yd (n+1)) s2 (B s1)=B s2:=λs1 s2=>by
  rw[Ye _ _ _ (B2 s1),hB,hB];funext j;simp only[h_];grind
 refine Bc 0 [(1,.q ([AH d.W]++d.T0.j++[BV d.V]++d.S.j)),(3,.ptr (n+2) 0)] (B []) (λm=>m=n+3) ?_ (λm hm=>?_)
 . rw[hB];simp[go_sem,Or,Ad,AE,C3,qq]
   done
 subst hm;refine Bc 0 [(1,.q ([AH d.W]++d.T0.j++[BV d.V]++d.S.j)),(3,.ptr (n+2) 0),(4,.ptr (n+3) 0)] (h_ (B []) (n+3) (some (.cells [.fn (.func 113) [] [],.fn (.func 114) [] [],.fn (.func 115) [] []]))) (λm=>n+4=m) ?_ (λm hm=>?_);simp[go_sem];refine qY w46 ?_;simp[go_sem,Or,Ad,AE,SV.cells];subst hm;refine Bc 2 [(1,.q ([AH d.W]++d.T0.j++[BV d.V]++d.S.j)),(3,.ptr (n+2) 0),(4,.q [.fn (.func 113) [] [],.fn (.func 133) [] [.ptr (n+2) 0],.fn (.func 115) [] []])] (B []) (λm=>n+4=m) ?_ (λm hm=>?_);simp[go_sem,Or,Ad,AE,SV.cells];exact⟨Ap (Ai (Bb []) (IO _)) (AE _ _ _),λo y e=>by have:=Bb [] o y e;rw[AD _ _ mq];exact e⟩;subst hm;refine Bc 0 [(3,.ptr (n+2) 0)] (B (HY N d)) (λm=>n+4=m) ?_ (λm hm=>?_)
 . have hc:=gS (lq (k:=n+1) (n0:=n+3) mq hK) d hd hd.T0 N hl [] (IO _) (H:=B []) (n:=n+4) mq (λo y e=>by
    simp only[Yd]at e;split at e
    . next g=>subst g;rw[B1];exact e
    . split at e
      . next g=>subst g;rw[B2];exact e
      cases e)
   have hc2:BP prog 49 [.agg [.fn (.func 113) [] [],.fn (.func 133) [] [.ptr (n+2) 0],.fn (.func 115) [] []],d.h] (B []) (n+4) (λv h' n'=>h'=B (HY N d)/\n'=n+4):=ww hc λv h' n' ⟨_,h1,h2⟩=>⟨by rw[h1,Bs];rfl,h2⟩
   have e:d.h=.agg (AH d.W::AO d.T0.Q::AA d.T0.I::AA d.T0.move::AX d.T0.Y::AN d.T0.Z::BV d.V::AT d.S.A::Bi d.S.L::Af d.S.C::CA d.S.vars::[]):=by simp[AI.h,AG.j,AQ.j]
   rw[e]at hc2;simp[go_sem,AG.j,AQ.j];refine qM hc2 ?_;rintro v h' n' ⟨rfl,rfl⟩;simp[go_sem,Or]
 subst hm;generalize HY N d=S at hlen ⊢;refine Bc 0 [(3,.ptr (n+2) 0),(5,.map (n+4))] (h_ (B S) (n+4) (some (.map []))) (λm=>n+5=m) ?_ (λm hm=>?_);simp[go_sem,Or];subst hm;refine Bc 0 [(3,.ptr (n+2) 0),(5,.map (n+4)),(6,.map (n+5))] (h_ (h_ (B S) (n+4) (some (.map []))) (n+5) (some (.map []))) (λm=>n+6=m) ?_ (λm hm=>?_);simp[go_sem,Or];subst hm;obtain⟨L,hL⟩:∃L,L=DS S:=⟨_,rfl⟩
 have hLl:L.length<=1048576:=by rw[hL];unfold DS;rw[wm];exact hlen
 refine AV 0 (α:=Nat) (λ_=>[(5,.map (n+4))]) (λ_=>h_ h (n+4) (some (.map (EW (FD L).2)))) (λ_ m=>n+4<m) ?_ (λ_ m hm=>?_);refine Bc 2 [(5,.map (n+4)),(6,.map (n+5)),(20,.y 2 (L.map Ba) false),(21,AA L.length),(22,AA 0)] (h_ (h_ h (n+4) (some (.map []))) (n+5) (some (.map []))) (λm=>n+6<=m) ?_ (λm hm=>?_);obtain⟨G,hG⟩:∃G:Hp,G=h_ (h_ (B S) (n+4) (some (.map []))) (n+5) (some (.map [])):=⟨_,rfl⟩
 have G1:G (n+1)=some (.map (C3 S)):=by rw[hG,AD _ _ mq,AD _ _ mq];exact B1 S
 have G2:G (n+2)=some (.cells [.map (n+1)]):=by rw[hG,AD _ _ mq,AD _ _ mq];exact B2 S
 have G3:∀o y,h_ (h_ h (n+4) (some (.map []))) (n+5) (some (.map [])) o=some y->o≠n+1/\o<n+6/\G o=some y:=λo y e=>by
  have h1:=hHb o y;have h2:=Bh S o y;rw[hG];simp only[h_]at e ⊢;grind
 rw[<-hG];simp[go_sem,G2];refine qM (me (H:=G) (n:=n+6) (s:=n+1)) ?_;rintro v h' n' ⟨rfl,rfl,rfl⟩;simp[go_sem];refine qM (mc (C3 S) S (by simp[C3]) hlen (q:=n+6) (s:=n+1) (AE _ _ _) (by rw[AD _ _ mq];exact G1)) ?_;rw[<-hL];rintro v h' n' ⟨hle,BA,hv⟩;have K1:∀o y,h_ (h_ h (n+4) (some (.map []))) (n+5) (some (.map [])) o=some y->h' o=some y:=λo y e=>by
  obtain⟨q1,q2,q3⟩:=G3 o y e;exact BA o y (by rw[AD _ _ q1,AD _ _ mq];exact q3)
 rcases hv with⟨he,z',full,rfl⟩|⟨o,full,h1,h2,rfl,h3⟩
 have he':L=[]:=by simpa using he
 simp[go_sem,Or,he'];exact⟨by omega,Fg mr,K1⟩;simp[go_sem,Or];refine⟨by omega,?_,K1⟩;have:=E7 (h':=h') (h:=h_ (h_ h (n+4) (some (.map []))) (n+5) (some (.map []))) (k:=1) (z:=2) (o:=o) (es:=L.map Ba) (full:=full) (full':=false) (by rw[AD _ _ mq,AD _ _ mq];exact ho.none mq) mr h3 (TN L);simpa using this;obtain⟨U,hU⟩:∃U:Nat->Hp,∀i,U i=h_ (h_ h (n+4) (some (.map (EW (FD (L.take i)).2)))) (n+5) (some (.map (EB (FD (L.take i)).1))):=⟨_,λ_=>rfl⟩
 have U4:∀i,U i (n+4)=some (.map (EW (FD (L.take i)).2)):=λi=>by rw[hU,AD _ _ mq,AE]
 have U5:∀i,U i (n+5)=some (.map (EB (FD (L.take i)).1)):=λi=>by rw[hU,AE]
 have Ub:∀i j y,U i j=some y->j<n+6:=λi j y e=>by
  have:=hHb j y;rw[hU]at e;simp only[h_]at e;grind
 refine AP (Aq 0 (α:=Nat) (λi=>[(5,.map (n+4)),(6,.map (n+5)),(20,.y 2 (L.map Ba) false),(21,AA L.length),(22,AA i)]) U (λi m=>i<=L.length/\n+6<=m) (λi=>L.length-i) 0 ⟨qj _,hm⟩ ?_ ?_ ?_);simp[go_sem,look,Or];rw[hU];exact AC;clear hm m;rintro i m ⟨hi,hnm⟩;by_cases hlt:i<L.length;have w1:=wS i mq;obtain⟨x,hx⟩:∃x,L[i]=x:=⟨_,rfl⟩
 have hsn:FD (L.take (i+1))=PH (FD (L.take i)) x:=by rw[qb hlt,hx,Le]
 obtain⟨b1,b2⟩:=P3 _ (L.take i) rfl x.1;have b3:(L.take i).length<=1048576:=by rw[vu];omega
 have w2:IntKind.i64.wrap (Cj (FD (L.take i)).1 x.1+1)=Cj (FD (L.take i)).1 x.1+1:=EU mq mq;refine Al 0 [(5,.map (n+4)),(6,.map (n+5)),(20,.y 2 (L.map Ba) false),(21,AA L.length),(22,AA i),(23,.bool true)] (U i) m ?_ (λm' hm'=>?_);simp[go_sem,Or,hlt];subst hm';refine Al 0 [(5,.map (n+4)),(6,.map (n+5)),(20,.y 2 (L.map Ba) false),(21,AA L.length),(22,AA i)] (U i) m ?_ (λm' hm'=>?_);simp[go_sem,Or];subst hm';refine AV 0 (α:=Unit) (λ_=>[(5,.map (n+4)),(6,.map (n+5)),(20,.y 2 (L.map Ba) false),(21,AA L.length),(22,AA i)]) (λ_=>U (i+1)) (λ_ m'=>m<=m') (AP ?_) (λ_ m' hm'=>?_);refine As 2 [(5,.map (n+4)),(6,.map (n+5)),(20,.y 2 (L.map Ba) false),(21,AA L.length),(22,AA i),(8,.q [AA x.1,AA x.2])] (U i) m ?_ (λm' hm'=>?_);simp[go_sem,Or,hlt,hx,Ba,Ad,AE];refine⟨Ap (Ai (Ub i) hnm) (AE _ _ _),λj y e=>?_⟩;have:=Ub i j y e;rw[AD _ _ mq];exact e;generalize hq:FD (L.take i)=q at hsn b1 b2 w2;have U4':=U4 i;have U5':=U5 i;rw[hq]at U4' U5';obtain⟨c,hc⟩:∃c,c=Cj q.1 x.1+1:=⟨_,rfl⟩
 rw[<-hc]at w2;obtain⟨W,hW⟩:∃W:Hp,W=h_ (U i) (n+5) (some (.map (EB (DQ q.1 x.1 c)))):=⟨_,rfl⟩
 have W4:W (n+4)=some (.map (EW q.2)):=by rw[hW,AD _ _ mq];exact U4'
 have W5:W (n+5)=some (.map (EB (DQ q.1 x.1 c))):=by rw[hW,AE]
 refine Al 0 [(5,.map (n+4)),(6,.map (n+5)),(20,.y 2 (L.map Ba) false),(21,AA L.length),(22,AA i),(8,.q [AA x.1,AA x.2])] W m' ?_ (λm3 hm3=>?_);rw[hW];rcases Gp x.1 c q.1 0 with⟨h1,h2,h3⟩|⟨j,h1,h2⟩
 have hc1:c=1:=by rw[hc,h2];rfl
 rw[hc1]at h3 ⊢;have hw1:IntKind.i64.wrap 1=1:=EU mq mq;simp[go_sem,Or,U5',h1,BQ,hw1];rw[<-h3];exact AC;rw[qZ]at h1;simp[go_sem,Or,U5',h1,h2,<-hc,w2,BQ];subst hm3;have hget:Cj (DQ q.1 x.1 c) x.1=c:=by rw[FL,my rfl]
 have hfind:∃j,CY (AA x.1) (EB (DQ q.1 x.1 c)) 0=some (some (j,AA c)):=by
  rcases Gp x.1 0 (DQ q.1 x.1 c) 0 with⟨h1,h2,h3⟩|⟨j,h1,h2⟩
  rw[hget]at h2;omega;rw[hget]at h1;exact⟨_,h1⟩
 obtain⟨j,hj⟩:=hfind;obtain⟨r,g1,g2⟩:=aA q.2 x c;refine AK ?_;simp[go_sem,W5,hj,BQ];refine Lr (q:=n+4) (a:=x.1) (b:=x.2) rfl ms W4 ms (Z9 _) (es2:=EW (Lt q.2 x c)) (by simp only[go_sem];cases r<;>exact g2) g1 ?_;simp[go_sem,Or];refine⟨hm',λo y e=>?_⟩;rw[hU,hsn]at e;rw[hW,hU];simp only[PH,<-hc]at e;simp only[h_]at e ⊢;grind;refine AK ?_;simp[go_sem,w1,Or,-Int.natCast_add];exact⟨i+1,by omega,⟨by omega,by omega⟩,Or,AC⟩;have:i=L.length:=by omega
 subst this;refine AK ?_;simp[go_sem];refine⟨by omega,λo y e=>?_⟩;rw[hU,qp];have:=hHb o y;simp only[h_]at e ⊢;grind;refine AK ?_;simp[go_sem];exact .inl ⟨n+4,rfl,by omega,hm,by rw[hL];exact AE _ _ _,λj y e=>by have:=hHb j y e;rw[AD _ _ mq];exact e⟩
def RG(x:AB):Bool:=x.x==8&&(x.code==3||x.code==4)
theorem w48(x:AB):PC 48 [x.h] (.bool (RG x)):=by
 intro h n;refine gq func48 rfl λa=>?_;rw[qy];unfold RG;obtain⟨b1,h1⟩:∃b,b=(x.x==8):=⟨_,rfl⟩
 obtain⟨c,h2⟩:∃b,b=(x.code==3):=⟨_,rfl⟩
 obtain⟨d,e⟩:∃b,b=(x.code==4):=⟨_,rfl⟩
 cases b1<;>cases c<;>cases d<;>simp[go_sem,AE,<-h1,<-h2,<-e]
 all_goals exact Bt a (λj y=>by have:=a j y;simp only[h_];grind) rfl rfl
def G0(x:AB)(i:Int):AB:=.mk x.x x.code i x.J x.H x.W x.R
def EP(l:List (Int×Int))(x v:Int):List (Int×Int):=if Cj l x=0 then DQ l x v else l
def DD(x:AB)(s:List (Int×Int)×List (Int×Int)):AB×List (Int×Int)×List (Int×Int):=
 if x.x=8 then
  if RG x then(G0 x (Cj (EP s.1 x.id s.1.length) x.id),EP s.1 x.id s.1.length,s.2)
  else(G0 x (Cj (EP s.2 x.id (s.2.length+1)) x.id),s.1,EP s.2 x.id (s.2.length+1))
 else(x,s)
theorem GY(x:Int)(l:List (Int×Int)):(CY (AA x) (EB l) 0=some none/\Cj l x=0)\/∃j,CY (AA x) (EB l) 0=some (some (j,AA (Cj l x))):=by
 rcases Gp x 0 l 0 with⟨h1,h2,_⟩|⟨j,h1,_⟩
 exact .inl ⟨h1,h2⟩;exact .inr ⟨_,h1⟩
theorem UR(l:List (Int×Int)):(EB l).length=l.length:=qf _
theorem w77(x:AB)(a b:List (Int×Int))(ha:a.length<=1099511627776){H:Hp}{n p1 p2 k1 k2:Nat}(h1:H p1=some (.cells [.map k1]))(h2:H p2=some (.cells [.map k2]))(h3:H k1=some (.map (EB a)))(h4:H k2=some (.map (EB b)))(hkk:k1≠k2):
 BP prog 77 [x.h,.ptr p1 0,.ptr p2 0] H n (λv h' n'=>v=.tup [(DD x (b,a)).1.h,.bool true]/\h'=h_ (h_ H k1 (some (.map (EB (DD x (b,a)).2.2)))) k2 (some (.map (EB (DD x (b,a)).2.1)))/\n'=n):=by
 refine FF func77 rfl λho=>?_;have l1:=(ho p1 _ h1).1;have l2:=(ho p2 _ h2).1;have l3:=(ho k1 _ h3).1;have l4:=(ho k2 _ h4).1;have hHb:=ho.lt;obtain⟨cz,hcz⟩:∃cz:List SV,cz=[AA 0,AA 0,AA 0,.str .empty,.y 0 [] true,AA 0,AA 0,.y 0 [] true,.y 0 [] true,.y 0 [] true,.y 0 [] true]:=⟨_,rfl⟩
 have hcl:cz.length=11:=by rw[hcz];rfl
 have hdz:cz.drop 11=[]:=by rw[hcz];rfl
 have hsa:h_ H k1 (some (.map (EB a)))=H:=by funext j;simp only[h_];grind
 have hsb:h_ H k2 (some (.map (EB b)))=H:=by funext j;simp only[h_];grind
 obtain⟨U,hU⟩:∃U:Hp->Int->Hp,∀G i,U G i=h_ (h_ G n (some (.cells [AA x.x,AA x.code,AA i,.str x.J,AO x.H.Q,AA x.H.I,AA x.H.move,AX x.H.Y,AN x.H.Z,AH x.W,Au x.R]))) (n+1) (some (.cells cz)):=⟨_,λ_ _=>rfl⟩
 have Un:∀G i,U G i n=some (.cells [AA x.x,AA x.code,AA i,.str x.J,AO x.H.Q,AA x.H.I,AA x.H.move,AX x.H.Y,AN x.H.Z,AH x.W,Au x.R]):=λG i=>by rw[hU,AD _ _ mq,AE]
 have Un1:∀G i,U G i (n+1)=some (.cells cz):=λG i=>by rw[hU,AE]
 have Uo:∀G i j,j<n->U G i j=G j:=λG i j h=>by rw[hU,AD _ _ mq,AD _ _ mq]
 have Us:∀G i j y,j<n->h_ (U G i) j y=U (h_ G j y) i:=λG i j y h=>by rw[hU,hU];funext o;simp only[h_];grind
 refine Bc 0 [(1,.ptr p1 0),(2,.ptr p2 0),(3,.ptr n 0),(4,.ptr (n+1) 0)] (U H x.id) (λm=>n+2=m) ?_ (λm hm=>?_);rw[hU,hcz,qy x];simp[go_sem,Or,SV.cells];subst hm;refine CH 0 [(4,.ptr (n+1) 0),(3,.ptr n 0)] (U (h_ (h_ H k1 (some (.map (EB (DD x (b,a)).2.2)))) k2 (some (.map (EB (DD x (b,a)).2.1)))) (DD x (b,a)).1.id) (λm=>n+2<=m) ?_ (λm hm=>?_);by_cases h8:x.x=8;refine Bc 0 [(1,.ptr p1 0),(2,.ptr p2 0),(3,.ptr n 0),(4,.ptr (n+1) 0),(10,.bool true)] (U H x.id) (λm=>n+2=m) ?_ (λm hm=>?_);simp[go_sem,Un,h8,Or];subst hm;refine BD (b:=true) ms ?_;simp only[if_true];refine Bc 0 [(1,.ptr p1 0),(2,.ptr p2 0),(3,.ptr n 0),(4,.ptr (n+1) 0),(6,.map k1),(7,AA (a.length+1))] (U H x.id) (λm=>n+2=m) ?_ (λm hm=>?_);have w1:IntKind.i64.wrap ((a.length:Int)+1)=(a.length:Int)+1:=EU mq mq;simp[go_sem,Uo _ _ _ l1,Uo _ _ _ l3,h1,h3,UR,w1,Or];subst hm;refine AV 0 (α:=Nat×List (Int×Int)×Int) (λq=>[(3,.ptr n 0),(4,.ptr (n+1) 0),(6,.map q.1),(7,AA q.2.2)]) (λ_=>U H x.id) (λq m=>n+2<=m/\q=if RG x then(k2,b,(b.length:Int))else(k1,a,(a.length:Int)+1)) (AK ?_) (λq m ⟨hm,hqe⟩=>?_);have hc:=w48 x;rw[qy]at hc;simp[go_sem,Un];refine qY hc ?_;cases hb:RG x;simp[go_sem,Or];exact⟨_,_,_,⟨rfl,rfl,rfl⟩,Or,Or⟩;simp[go_sem,Or,Uo _ _ _ l2,Uo _ _ _ l4,h2,h4,UR];exact⟨_,_,_,⟨rfl,rfl,rfl⟩,Or,Or⟩;obtain⟨k,l,v⟩:=q;dsimp only at hqe ⊢;obtain⟨hk,hkn,hcan⟩:H k=some (.map (EB l))/\k<n/\(U (h_ H k (some (.map (EB (EP l x.id v))))) (Cj (EP l x.id v) x.id)=U (h_ (h_ H k1 (some (.map (EB (DD x (b,a)).2.2)))) k2 (some (.map (EB (DD x (b,a)).2.1)))) (DD x (b,a)).1.id):=by
  cases hb:RG x;rw[hb]at hqe;simp only[qt,if_false,Prod.mk.injEq]at hqe;obtain⟨rfl,rfl,rfl⟩:=hqe;refine⟨h3,l3,?_⟩;rw[DD,my h8,mw (by simp[hb])];dsimp only[G0,AB.id];congr 1;funext j;simp only[h_];grind;rw[hb]at hqe;simp only[if_true,Prod.mk.injEq]at hqe;obtain⟨rfl,rfl,rfl⟩:=hqe;refine⟨h4,l4,?_⟩;rw[DD,my h8,my hb];dsimp only[G0,AB.id];rw[hsa]
 rw[<-hcan];refine CH 0 [(3,.ptr n 0),(4,.ptr (n+1) 0),(6,.map k)] (U (h_ H k (some (.map (EB (EP l x.id v))))) x.id) (λm=>n+2<=m) (AK ?_) (λm hm=>?_);by_cases g:Cj l x.id=0;rw[EP,my g];rcases Gp x.id v l 0 with⟨q1,_,q3⟩|⟨j,q1,q2⟩
 simp[go_sem,Un,Uo _ _ _ hkn,hk,q1,BQ,Or,Us _ _ _ _ hkn,hm,q3];rw[qZ,g]at q1;simp[go_sem,Un,Uo _ _ _ hkn,hk,q1,BQ,Or,Us _ _ _ _ hkn,hm,q2];rw[EP,mw g];rcases GY x.id l with⟨q1,q2⟩|⟨j,q1⟩
 exact absurd q2 g;have g':(Cj l x.id==0)=false:=by simpa using g
 have hsk:h_ H k (some (.map (EB l)))=H:=by funext j;simp only[h_];grind
 simp[go_sem,Un,Uo _ _ _ hkn,hk,q1,BQ,Or,hm,g',hsk];refine AK ?_;have hsn:∀G i j,h_ (U G i) n (some (.cells [AA x.x,AA x.code,AA j,.str x.J,AO x.H.Q,AA x.H.I,AA x.H.move,AX x.H.Y,AN x.H.Z,AH x.W,Au x.R]))=U G j:=λG i j=>by rw[hU,hU];funext o;simp only[h_];grind
 rcases GY x.id (EP l x.id v)with⟨q1,q2⟩|⟨j,q1⟩
 have hsn0:=hsn (h_ H k (some (.map (EB (EP l x.id v))))) x.id 0;simp[go_sem,Un,Uo _ _ _ hkn,AE,q1,BQ,Or,q2];exact⟨hm,by rw[<-hsn0];exact AC⟩;simp[go_sem,Un,Uo _ _ _ hkn,AE,q1,BQ,Or,hsn,hm];refine AK ?_;have h8':(x.x==8)=false:=by simpa using h8
 have hcan:DD x (b,a)=(x,b,a):=by rw[DD,mw h8]
 simp[go_sem,Un,h8',Or,hcan,hsa,hsb];refine AK ?_;simp[go_sem,Un,Un1,hcl,hdz,AE];generalize hG:h_ (h_ H k1 (some (.map (EB (DD x (b,a)).2.2)))) k2 (some (.map (EB (DD x (b,a)).2.1)))=G;have hkv:∀l:List (Int×Int),BH n (.map (EB l))=true:=λl=>by
  simp only[BH,qG,EB,qg];intro p hp;obtain⟨z,_,rfl⟩:=qa.1 hp;exact⟨by simp[C_],by simp[C_]⟩
 have he:(DD x (b,a)).1.h=.agg [AA x.x,AA x.code,AA (DD x (b,a)).1.id,.str x.J,AO x.H.Q,AA x.H.I,AA x.H.move,AX x.H.Y,AN x.H.Z,AH x.W,Au x.R]:=by
  rw[qy];unfold DD;split;split<;>rfl;rfl
 rw[<-he];refine .inr ⟨0,.tup [(DD x (b,a)).1.h,.bool true],G,rfl,by rw[he];simp[C_,c_,AB.E.c_,AL.E.c_,Fp.E.c_,Di.E.c_,A3.E.c_],λo y e=>?_,rfl,rfl,rfl⟩;have hon:o<n/\BH n y=true:=by
  rw[<-hG]at e;have h0:=ho o y;have z1:=hkv (DD x (b,a)).2.2;have z2:=hkv (DD x (b,a)).2.1;simp only[h_]at e;split at e
  . next g=>subst g;cases e;exact⟨l4,z2⟩
  . split at e
    . next g=>subst g;cases e;exact⟨l3,z1⟩
    exact h0 e
 refine⟨?_,hon.1,hon.2⟩;rw[AD _ _ mq,Uo _ _ _ hon.1];exact e
def LvH(h:AG)(v:SV)(ob:DA):Prop:=∃vd o1 vl o2,v=.agg [AO h.Q,AA h.I,AA h.move,vd,vl]/\ob=o1++o2/\Ka 2 (h.Y.map Di.h) vd o1/\Ka 4 (h.Z.map A3.h) vl o2
def bl:Tr:=(.pure 0 (.pure 1 (.pure 4 (.pure 5 (.two 2 6 (.two 3 6 (.one 6 (.pure 8 (.pure 9 (.one 7 (.one 10 (.pure 11 (.pure 12 (.one 13 .nil)))))))) (.one 3 (.pure 8 (.pure 9 (.one 7 (.one 10 (.pure 11 (.pure 12 (.one 13 .nil))))))))) (.one 2 (.one 3 (.pure 8 (.pure 9 (.one 7 (.one 10 (.pure 11 (.pure 12 (.one 13 .nil))))))))))))))
theorem n30(x:AG)(M:x.l):NC 30 [x.h] (LvH x):=by
 intro h n;refine FF func30 rfl λS=>?_;have r:=S.lt;obtain⟨X,z⟩:∃X:Hp,X=h_ (h_ h n (some (.cells [AO x.Q,AA x.I,AA x.move,AX x.Y,AN x.Z]))) (n+1) (some (.cells [.y 0 [] true,AA 0,AA 0,.y 0 [] true,.y 0 [] true])):=⟨_,rfl⟩
 refine Bc 0 [(1,.ptr n 0),(2,.ptr (n+1) 0)] X (λm=>n+2=m) ?_ (λm hm=>?_);rw[z];simp[go_sem,AG.h,AG.j,qq,Or,SV.cells];subst hm;have E:X n=some (.cells [AO x.Q,AA x.I,AA x.move,AX x.Y,AN x.Z]):=by rw[z,AD _ _ mq,AE]
 have T:X (n+1)=some (.cells [.y 0 [] true,AA 0,AA 0,.y 0 [] true,.y 0 [] true]):=by rw[z,AE]
 have F:h_ X n (some (.cells [AO x.Q,AA x.I,AA x.move,AX x.Y,AN x.Z]))=X:=by funext j;simp only[h_];grind
 have G:∀j y,h j=some y->X j=some y:=λj y e=>by have:=r j y e;rw[z,AD _ _ mq,AD _ _ mq];exact e
 clear z;have K:n+1≠n:=by omega
 refine Bc 0 [(1,.ptr n 0),(2,.ptr (n+1) 0)] X (λm=>n+2<=m) ?_ (λm hm=>?_);simp[go_sem,E];refine qY (Ze _ M.Q) ?_;simp[go_sem,E,F,Or];refine LK (CN bl rfl mu mu ?_);simp[go_sem,bl,E]
 repeat' (with_reducible refine And.intro ?_ ?_)
 all_goals
  refine wL (gt _ M.Y).nc ?_;rintro o h1 n1 ⟨H,f,s,A,a,c⟩;have D:=wg (_L:=Ha []) (_v:=o) a c (show n<m by omega) E;have O:=wg (_L:=Ha []) (_v:=o) a c (show n+1<m by omega) T;simp[go_sem,D]
 all_goals
  refine wL (gu _ M.Z).nc ?_;rintro q h2 U ⟨J,i,u,C,b,d⟩;have N:=wg (_L:=Ha []) (_v:=q) b d (show n<n1 by omega) D;have P:=wg (_L:=Ha []) (_v:=q) b d (show n+1<n1 by omega) O;have t:IN 2 _ _ o f:=s;have w:IN 4 _ _ q i:=u;obtain⟨s1,s2⟩:=t.st;obtain⟨s3,s4⟩:=w.st;unfold SV.B at s1 s3;unfold SV.cells at s2 s4;obtain⟨R,t2⟩:=No H J A C a b;have Bw:=P6 a c b d;have fin:Ce n (h_ (h_ h2 n (some (.cells [AO x.Q,AA x.I,AA x.move,o,q]))) (n+1) (some (.cells [AO x.Q,AA x.I,AA x.move,o,q]))) U (.agg [AO x.Q,AA x.I,AA x.move,o,q]) (DW (LvH x) h n):=by
   refine .inl ⟨by omega,f++i,⟨o,f,q,i,rfl,rfl,s,u⟩,R,λk hk=>by have:=t2 k hk;omega,UH (λp hp=>?_) λk y e=>?_⟩;have:=t2 p.1 (qa.2 ⟨p,hp,rfl⟩);rw[AD _ _ mq,AD _ _ mq];exact JP R Bw p hp;have:=r k y e;rw[AD _ _ mq,AD _ _ mq];refine Bw k y ?_;rw[Ay (λg=>by have:=t2 k g;omega)];exact G k y e
  simp[go_sem,N,s1,s2,s3,s4,AE,Ad];refine AK ?_;simp[go_sem,AE,AD,P];exact fin
def FK:List ((Int×Int)×Int)->Int×Int->Int
 | [],_=>0
 | (a,b)::r,m=>if a=m then b else FK r m
def L7(mv:List ((Int×Int)×Int))(rv:List (Int×Int))(h:AG):AG:=
 { h with I:=Cj rv h.I,move:=FK mv (h.I,h.move),Y:=h.Y.map λd=>{ d with rev:=Cj rv d.rev,move:=FK mv (d.rev,d.move) },Z:=h.Z.map λl=>{ l with rev:=Cj rv l.rev } }
theorem La(a b:Int):∀(l:List ((Int×Int)×Int))(i:Nat),∃r,EA prog 142 [.int .i64 a,.int .i64 b] (EW l) i=some r/\(match r with|some p=>p.2|none=>BU prog 3)=AA (FK l (a,b))
 | [],i=>⟨none,rfl,by simp[FK,go_sem]⟩
 | ((c,d),w)::r,i=>by
  have j:EW (((c,d),w)::r)=(Ba (c,d),AA w)::EW r:=rfl;rw[j];simp only[EA,Ba,Wz];by_cases e:a=c/\b=d;obtain⟨rfl,rfl⟩:=e;have f:(a==a&&b==b)=true:=by simp
  rw[f];exact⟨_,rfl,by simp[FK]⟩;have f:(a==c&&b==d)=false:=by
   cases h1:(a==c)<;>cases h2:(b==d)<;>simp_all
  have g:¬((c,d)=(a,b)):=by
   intro h;cases h;exact e ⟨rfl,rfl⟩
  rw[f,FK,mw g];exact La a b r (i+1)
def MS(mv:List ((Int×Int)×Int))(rv:List (Int×Int)):PT (List (Int×Int)×List (Int×Int)):=
 ⟨λ_ l s=>(l,s),λh s=>(L7 mv rv h,s),λx s=>((DD x s).1,true,(DD x s).2)⟩
def Dk:List By->Int->List (Int×Int)->List (Int×Int)
 | [],_,m=>m
 | r::l,i,m=>Dk l (i+1) (DQ m r.id (i+1))
def FM:List By->Int->List By
 | [],_=>[]
 | r::l,i=>{ r with id:=i+1 }::FM l (i+1)
def CF:List AR->Int->List (Int×Int)->List AR×List (Int×Int)
 | [],_,m=>([],m)
 | c::l,i,m=>({ c with id:=i+1,parent:=Cj (DQ m c.id (i+1)) c.parent }::(CF l (i+1) (DQ m c.id (i+1))).1,(CF l (i+1) (DQ m c.id (i+1))).2)
def Jg(N:Nat)(e:AI):AI:=
 (IT (MS (FD (DS (HY N e))).2 (Dk e.V 0 [(0,0)])) N ⟨e.W,e.T0,FM e.V 0,{ e.S with C:=(CF e.S.C 0 [(0,0)]).1 }⟩ ((CF e.S.C 0 [(0,0)]).2,[])).1
def Jh(N:Nat)(d:AI):AI:=(Jg N d.normal.renum).normal
abbrev oneB(b:Bool):Nat:=if b then 1 else 0
section
variable(u:AG->Bool)
def val(x:AB):Prop:=Ci x.J=true/\(x.x=7->x.R≠[])
theorem Fw{l:List AL}(h:∀r∈l,r.cells≠[]):(l.map AL.N).filter (λr=>!decide (r.cells.length=0))=l.map AL.N:=by
 rw[vP];intro r hr;obtain⟨r0,h0,rfl⟩:=qa.1 hr;have a:(AL.N r0).cells=r0.cells.map AF.N:=by cases r0;rw[AL.N,ul];rfl
 rw[a,qf];have:=qD.2 (h r0 h0);simp;intro e;rw[e]at this;simp at this
end
section
variable(u:AG->Bool)(w:Bool)(it:Int->List AB->Bool->Nat)(mid:Bool)
end
section
variable(u:AG->Bool)(w:Bool)(sc:DC)
end
abbrev wr(x:Int):Int:=IntKind.i64.wrap x
section
variable(rev:Int)(sc:DC)
end
section
variable(g:Bool->AG->AG)(sc:DC)
def gF(s:Unit)(p:Ed):AG×Bool×Unit:=(g p.mid p.H,true,s)
end
section
variable(g:Bool->AG->AG)(sc:DC)(u:AG->Bool)
end
section
variable(g:Bool->AG->AG)(sc:DC)
variable(u v:AG->Bool)(w:Bool)
end
def jS(hp:AG->Prop)(L T:Nat):Nat->List AB->Prop
 | 0,_=>False
 | N+1,l=>l.length<=L/\Bv l<=T/\∀x∈l,hp x.H/\jS hp L T N x.W/\x.R.length<=L/\∀r∈x.R,hp r.H/\r.cells.length<=L/\∀c∈r.cells,hp c.H/\jS hp L T N c.W
section
variable{hp hp':AG->Prop}(g:Bool->AG->AG)(sc:DC)
end
section
variable{m2:List Int}{rev nx:Int}
end
section
variable(g:Bool->AG->AG)(sc:DC)
end
theorem Pa{c:Nat->Int}{k n:Nat}(h1:∀m,m<k->c m<0)(h2:∀m,k<=m->m<n->¬c m<0):∀(d i j:Nat),j-i<=d->i<=k->k<=j->j<=n->H6 c i j=k
 | d,i,j,hd,hi,hj,hn=>by
  rw[H6];split;rename_i hij;cases d with
  | zero=>omega
  | succ d=>
   split;rename_i a;refine Pa h1 h2 d _ j mq ?_ hj hn;rcases vq ((i+j) / 2) k with h|h;omega;exact absurd a (h2 _ h mq);rename_i a;refine Pa h1 h2 d i _ mq hi ?_ mq;rcases vq ((i+j) / 2) k with h|h;exact absurd (h1 _ h) a;exact h
  omega
theorem WN{f:Nat->Int}{n:Nat}{x:Int}(d:∀i j,i<=j->j<n->f i<=f j)(p:∃j,j<n/\f j=x){c:Nat->Int}(a:∀i,i<n->(c i<0↔f i<x)/\(c i=0↔f i=x)):(BY c n).2=true:=by
 obtain⟨j,b,hfj⟩:=p;have key:∀j,j<n->x<=f j->∃k,k<=j/\x<=f k/\∀m,m<k->f m<x:=by
  intro j
  induction j with
  | zero=>intro _ h;exact⟨0,IO _,h,λm hm=>by omega⟩
  | succ j ih=>
   intro b h;by_cases a:x<=f j;obtain⟨k,l,o,g⟩:=ih mq a;exact⟨k,by omega,o,g⟩;exact⟨j+1,IO _,h,λm hm=>by have:=d m j mq mq;omega⟩
 obtain⟨k,l,o,g⟩:=key j b mq;have hk:k<n:=by omega
 have e:f k=x:=by have:=d k j l b;omega
 have hg:H6 c 0 n=k:=Pa (λm hm=>(a m mq).1.2 (g m hm)) (λm h1 h2=>by rw[(a m h2).1];have:=d k m h1 h2;omega) n 0 n mq (qj _) mq (IO _);unfold BY;rw[hg];simp only[decide_eq_true_eq];exact⟨hk,(a k hk).2.2 e⟩
theorem TE{U:List Int}(c:U.Pairwise (· ≤ ·)){x:Int}(d:x∈U):(BY (IE U x) U.length).2=true:=by
 obtain⟨j,b,e⟩:=List.mem_iff_getElem.1 d;refine WN (f:=λi=>U.getD i 0) (x:=x) (λi k hik hk=>?_) ⟨j,b,by simp[b,e]⟩ λi hi=>?_;have h1:U.getD i 0=U[i]'mq:=by simp[List.getD,show i<U.length by omega]
 have h2:U.getD k 0=U[k]:=by simp[List.getD,hk]
 rw[h1,h2];rcases vq i k with h|h;exact List.pairwise_iff_getElem.1 c i k mq hk h;have:i=k:=by omega
 subst this;omega;have h1:U.getD i 0=U[i]:=by simp[List.getD,hi]
 rw[h1];unfold IE;rw[qk hi];dsimp only;by_cases c1:U[i]<x;rw[my c1];omega;rw[mw c1];by_cases a:U[i]=x;rw[my a];omega;rw[mw a];omega
theorem SI{d:AI}{x:Int}(h0:x≠0)(e:x∈AB.U d.W++d.T0.all):(BY (IE (Et d) x) (Et d).length).2=true:=by
 refine TE ?_ ?_;unfold Et E8;have:=wv (le:=λx y:Int=>decide (x<=y)) (λa b c h1 h2=>by simp at *;omega) (λa b=>by simp;omega) ((BG [] (AB.U d.W++d.T0.all)).filter λx=>decide (x≠0));exact this.imp λh=>by simpa using h
 unfold Et E8;rw[List.mem_mergeSort,qW];exact⟨(Du x _ _).2 (.inr e),by simpa using h0⟩
theorem N1{L:List By}(h:HS L=0):∀i j,(a:i<j)->(b:j<L.length)->(L[i]'mq).id<L[j].id:=by
 have d:¬256<L.length:=λg=>by rw[HS,my g]at h;cases h
 rw[HS,mw d]at h;have step:∀i,(hi:i+1<L.length)->(L[i]'mq).id<L[i+1].id:=λi hi=>by
  have:=GW h (i+1) hi;unfold QG at this;rw[qk hi,Nat.add_sub_cancel,qk (show i<L.length by omega)]at this;dsimp only at this;by_cases e:Jm L[i+1]=0;rw[my e,mw mq]at this;unfold FU at this;by_cases c1:L[i+1].id<(L[i]'mq).id;simp[c1]at this;by_cases c:(L[i]'mq).id<L[i+1].id;exact c;simp[c1,c]at this;rw[mw e]at this;exact absurd this e
 intro i j
 induction j with
 | zero=>intro a;omega
 | succ j ih=>
  intro a b;rcases vq i j with g|g;have:=ih g mq;have:=step j b;omega;have:i=j:=by omega
  subst this;exact step i b
section
variable(u:AG->Bool)(w:Bool)(sc:DC)
end
theorem Yx:∀l:List AB,AB.U l=l.flatMap AB.us
 | []=>by rw[AB.U];rfl
 | x::l=>by rw[AB.U,Yx l];rfl
theorem Uz:∀l:List AL,AL.U l=l.flatMap AL.us
 | []=>by rw[AL.U];rfl
 | x::l=>by rw[AL.U,Uz l];rfl
theorem Uy:∀l:List AF,AF.U l=l.flatMap AF.us
 | []=>by rw[AF.U];rfl
 | x::l=>by rw[AF.U,Uy l];rfl
section
variable(g:AG->AG)
end
theorem AB.zk(x:AB):AB.N x=.mk x.x x.code x.id x.J x.H (AY x.W) ((x.R.map AL.N).filter λr=>!decide (r.cells.length=0)):=by cases x;rw[AB.N,AL.zj];rfl
theorem AL.zk(x:AL):AL.N x=.mk x.H (x.cells.map AF.N):=by cases x;rw[AL.N,ul];rfl
theorem AF.zk(x:AF):AF.N x=.mk x.id x.H (AY x.W):=by cases x;rw[AF.N];rfl
def wf(hp:AG->Prop)(T:Int->Prop):Nat->List AB->Prop
 | 0,_=>False
 | N+1,l=>∀x∈l,hp x.H/\(x.x≠6->x.W=[])/\(x.x≠7->x.R=[])/\(x.x=7->x.R≠[])/\(x.x=6->T x.id)/\wf hp T N x.W/\∀r∈x.R,hp r.H/\r.cells≠[]/\∀c∈r.cells,T c.id/\hp c.H/\wf hp T N c.W
structure en(hp:AG->Prop)(T:Int->Prop)(N:Nat)(x:AB):Prop where
 H:hp x.H
 k6:x.x≠6->x.W=[]
 k7:x.x≠7->x.R=[]
 ne:x.x=7->x.R≠[]
 id:x.x=6->T x.id
 W:wf hp T N x.W
 R:∀r∈x.R,hp r.H/\r.cells≠[]/\∀c∈r.cells,T c.id/\hp c.H/\wf hp T N c.W
section
variable{hp hp':AG->Prop}{T T':Int->Prop}
theorem DG{N:Nat}{l:List AB}:wf hp T (N+1) l↔∀x∈l,en hp T N x:=
 ⟨λH x h=>let⟨a,b,c,d,e,f,g⟩:=H x h;⟨a,b,c,d,e,f,g⟩,λH x h=>let⟨a,b,c,d,e,f,g⟩:=H x h;⟨a,b,c,d,e,f,g⟩⟩
theorem OL(hh:∀x,hp x->hp' x)(ht:∀i,T i->T' i):∀{N:Nat} {l:List AB},wf hp T N l->wf hp' T' N l
 | 0,_,h=>h.elim
 | N+1,l,H=>DG.2 λx m=>by
  obtain⟨a,b,c,d,e,f,g⟩:=DG.1 H x m;exact⟨hh _ a,b,c,d,λk=>ht _ (e k),OL hh ht f,λr hr=>⟨hh _ (g r hr).1,(g r hr).2.1,λc j=>⟨ht _ ((g r hr).2.2 c j).1,hh _ ((g r hr).2.2 c j).2.1,OL hh ht ((g r hr).2.2 c j).2.2⟩⟩⟩
theorem Y2{N:Nat}(x:AB)(t:ByteArray)(H:en hp T N x):en hp T N (.mk x.x x.code x.id t x.H x.W x.R):=by
 obtain⟨a,b,c,d,e,f,g⟩:=H;exact⟨a,b,c,d,e,f,g⟩
theorem JY:∀{N:Nat} {l:List AB},wf hp T N l->wf hp T N (AY l)
 | 0,_,h=>h.elim
 | N+1,l,H=>by
  rw[DG]at H ⊢;unfold AY EM;rw[wH];refine JG (p:=en hp T N) Y2 _ _ (λy g=>by cases g) λy g=>?_;obtain⟨x,j,rfl⟩:=qa.1 g;obtain⟨a,b,c,d,e,f,q⟩:=H x j;have hr:=Fw λr hr=>(q r hr).2.1;rw[AB.zk,hr];refine⟨a,λk=>?_,λk=>?_,λk=>?_,e,JY f,λr hr=>?_⟩;show AY x.W=[];rw[b k];rfl;show x.R.map _=[];rw[c k];rfl;show x.R.map _≠[];simpa using d k;obtain⟨r0,h0,rfl⟩:=qa.1 hr;obtain⟨u,v,w⟩:=q r0 h0;rw[AL.zk];refine⟨u,by show r0.cells.map _≠[];simpa using v,λc i=>?_⟩;obtain⟨c0,h1,rfl⟩:=qa.1 i;obtain⟨m,n,o⟩:=w c0 h1;rw[AF.zk];exact⟨m,n,JY o⟩
theorem eo(N:Nat):wf hp T (N+1) []:=λx a=>by cases a
inductive NF:List AB->Prop where
 | nil:NF []
 | snoc {out:List AB} {y:AB} (h:NF out) (e:Ah out y=out++[y]):NF (out++[y])
theorem P0{out:List AB}{y:AB}(e:Ah out y=out++[y])(t:ByteArray):Ah out (y.zb t)=out++[y.zb t]:=by
 unfold Ah at e ⊢;have nd:¬Bf y:=λc=>by
  rw[my c]at e;have:=congrArg List.length e;simp at this
 have d:¬Bf (y.zb t):=λc=>nd (by
  unfold Bf at c ⊢;rcases c with c|c;exact .inl c;refine .inr ⟨c.1,?_⟩;have:(y.J++t).size=0:=c.2;rw[ByteArray.size_append]at this;omega)
 rw[mw nd]at e;rw[mw d];cases a:out.getLast? with
 | none=>rfl
 | some z=>
  rw[a]at e;dsimp only at e ⊢;by_cases k:y.x=1/\z.x=1/\z.H=y.H;rw[my k]at e;have b:out≠[]:=λh=>by rw[h]at a;cases a
  have:=congrArg List.length e;have:=qD.2 b;simp at *;omega;rw[mw (show ¬((y.zb t).x=1/\z.x=1/\z.H=(y.zb t).H)from k)]
theorem NF.step{out:List AB}(h:NF out)(x:AB):NF (Ah out x):=by
 by_cases c:Bf x;unfold Ah;rw[my c];exact h;by_cases hm:∃y,out.getLast? = some y/\x.x=1/\y.x=1/\y.H=x.H;obtain⟨y,a,k⟩:=hm;have e:Ah out x=out.dropLast++[y.zb x.J]:=by unfold Ah;rw[mw c,a];dsimp only;rw[my k]
 rw[e];cases h with
 | nil=>cases a
 | @snoc o z h e0=>
  rw[wt]at a;cases a;rw[List.dropLast_concat];exact .snoc h (P0 e0 x.J)
 have e:Ah out x=out++[x]:=by
  unfold Ah;rw[mw c];cases b:out.getLast? with
  | none=>rfl
  | some y=>dsimp only;rw[mw λk=>hm ⟨y,b,k⟩]
 rw[e];exact .snoc h e
theorem NF.folds:∀(l:List AB) {out:List AB},NF out->NF (l.foldl Ah out)
 | [],_,h=>h
 | x::l,_,h=>NF.folds l (h.step x)
end
section
variable{hp:AG->Prop}{T:Int->Prop}(g:Bool->AG->AG)
end
theorem Tv{F:Nat->Int}:∀{n:Nat},(∀i,i<n->F i=0)->CI F n=0
 | 0,_=>rfl
 | n+1,h=>by rw[CI,my (Tv λi hi=>h i mq)];exact h n mq
theorem Pt{F:Nat->Int}{i:Nat}(h:HK F i=0):1<=F i/\F i<=1073741824/\(0<i->F (i-1)<F i):=by
 unfold HK at h;by_cases c1:1<=F i/\F i<=1073741824;refine⟨c1.1,c1.2,λhi=>?_⟩;rw[mw (by simpa using c1)]at h;by_cases a:F i=F (i-1);rw[my ⟨hi,a⟩]at h;cases h;rw[mw λg=>a g.2]at h;by_cases b:F i<F (i-1);rw[my ⟨hi,b⟩]at h;cases h;omega;rw[my c1]at h;cases h
theorem TV{l:List By}(h:FO l=0):HS l=0:=by
 have hlen:=MG h;have h2:CI (KH l) (min l.length 256)=0:=by
  have d:=h;unfold FO at d;have n:¬(256:Int)<l.length:=by omega
  simp[BL,n]at d;exact Classical.byContradiction λg=>g (d g)
 rw[HS,mw mq];refine Tv λi hi=>?_;have a:=GW h2 i mq;unfold KH at a;unfold QG;rw[qk hi]at a ⊢;dsimp only at a ⊢;have f:=Fx a;rw[BL,my f]at a;have b:=Fx a;rw[BL,my b]at a;have k:=Fx a;obtain⟨p1,p2,p3⟩:=Pt f
 try dsimp only at p1 p2 p3
 rw[qk hi]at p1 p2 p3
 try dsimp only at p1 p2 p3
 have j:Dw l[i].O=true:=by
  cases m:Dw l[i].O with
  | true=>rfl
  | false=>rw[m]at b;simp at b
 have ht:0<=l[i].time/\l[i].time<=1099511627776:=by
  by_cases c:0<=l[i].time/\l[i].time<=1099511627776;exact c;simp[c]at k
 simp only[Dw,qg,decide_eq_true_eq]at j;have hr:Jm l[i]=0:=by
  unfold Jm;rw[mw mq,mw mq,mw mq,mw (by rw[j.2];decide),mw mq]
 rw[my hr];by_cases c:i=0;rw[my c]
 . rw[mw c];have e:i-1<l.length:=by omega
   have p3:=p3 mq;rw[qk e]at p3 ⊢
   try dsimp only at p3 ⊢
   unfold FU;rw[mw mq,my p3];simp;omega
section
variable{H:Hp}{p q:Nat}{a b:SV}
end
def mY(l:List By):Prop:=l.length<=256/\(∀r∈l,Jm r=0)/\l.Pairwise λa b=>a.id<b.id
theorem eM{l:List By}(h:HS l=0):mY l:=by
 have c:¬256<l.length:=λg=>by rw[HS,my g]at h;cases h
 refine⟨by omega,λr hr=>?_,?_⟩;rw[HS,mw c]at h;obtain⟨i,hi,rfl⟩:=List.mem_iff_getElem.1 hr;have:=GW h i hi;unfold QG at this;rw[qk hi]at this;dsimp only at this;by_cases e:Jm l[i]=0;exact e;rw[mw e]at this;exact this;exact List.pairwise_iff_getElem.2 λi j hi b a=>N1 h i j a b
theorem VT{d:AI}{x:Int}:x∈Et d↔x≠0/\x∈AB.U d.W++d.T0.all:=by
 unfold Et E8;rw[List.mem_mergeSort,qW,Du];simp[and_comm]
theorem Xb{U:List Int}{x:Int}(h:(BY (IE U x) U.length).2=true):x∈U:=by
 have a:=Sb _ _ h;simp only[BY,decide_eq_true_eq]at h a;obtain⟨k,hk⟩:∃k,k=H6 (IE U x) 0 U.length:=⟨_,rfl⟩
 rw[<-hk]at h a;have:=h.2;unfold IE at this;rw[qk a]at this;dsimp only at this;split at this;omega;split at this;rename_i e;rw[<-e];exact qn a;omega
theorem Gx{D:AI}{r:By}(h0:r.id≠0):r∈D.normal.V↔r∈D.V/\r.id∈AB.U (AY D.W)++D.T0.all:=by
 show r∈D.V.filter _↔_;rw[qW];constructor;rintro⟨h1,h2⟩;exact⟨h1,(VT.1 (Xb h2)).2⟩;rintro⟨h1,h2⟩;exact⟨h1,SI h0 h2⟩
section
variable{a id:Int}
end
theorem Sk{a b:AI}(h1:a.W=b.W)(h2:a.T0 = b.T0)(c:a.V=b.V)(d:a.S=b.S):a=b:=by
 cases a;cases b;simp only at h1 h2 c d;subst h1 h2 c d;rfl
theorem HM{h:AG}{y:Int}:y∈h.all↔y=h.I\/(∃d∈h.Y,d.rev=y)\/∃d∈h.Z,d.rev=y:=by
 unfold AG.all;simp only[qe,qd,qa]
section
variable{N K:Nat}{d:AI}{m2:List Int}
theorem JO(hd:bW N d):mY d.V:=eM (TV hd.V)
theorem Xg(a:m2=BG [] (d.V.map (·.id))){id:Int}:id∈m2↔∃r∈d.V,r.id=id:=by
 rw[a,Du];simp
end
section
variable{σ:Type}(R:PT σ)(it:Int->List AB->σ->List AB×σ)
def Qt(x:AB)(s:σ):AB×σ:=
 let f:=it 0 x.W s
 let r:=De R it x.R f.2
 (.mk x.x x.code x.id x.J x.H f.1 r.1,r.2)
def Dl(q:List AB×σ)(x:AB):List AB×σ:=
 let p:=R.item x q.2
 if p.2.1 then
  let h:=R.H p.1.H p.2.2
  let y:=Qt R it (p.1.wHead h.1) h.2
  (q.1++[y.1],y.2)
 else(q.1,p.2.2)
def Bd:Nat->Int->List AB->σ->List AB×σ
 | 0,_,_,s=>([],s)
 | N+1,_,l,s=>l.foldl (Dl R (Bd N)) ([],s)
end
section
variable{σ:Type}{R:PT σ}{it:Int->List AB->σ->List AB×σ}{rk:σ->Nat}
theorem NO:∀(l:List AB)(q:List AB×σ),(l.foldl (Dl R it) q).1.length<=q.1.length+l.length
 | [],_=>IO _
 | c :: l, q => by
  rw[qL];have:=NO l (Dl R it q c);have h2:(Dl R it q c).1.length<=q.1.length+1:=by
   unfold Dl;dsimp only;split<;>simp
  rw[qo];omega
theorem Pf(U:R.Up rk)(hi:∀id l s,rk s<=rk (it id l s).2)(x:AB)(s:σ):rk s<=rk (Qt R it x s).2:=
 qC (hi 0 x.W s) (Lo U hi _ _)
theorem Oe(U:R.Up rk)(hi:∀id l s,rk s<=rk (it id l s).2)(q:List AB×σ)(x:AB):rk q.2<=rk (Dl R it q x).2:=by
 unfold Dl;dsimp only;split;exact qC (qC (U.item _ _) (U.H _ _)) (Pf U hi _ _);exact U.item _ _
theorem NP(U:R.Up rk):∀(N:Nat)(id:Int)(l:List AB)(s:σ),rk s<=rk (Bd R N id l s).2
 | 0,_,_,_=>IO _
 | N+1,_,l,s=>JQ (G:=Dl R (Bd R N)) (Oe U (NP U N)) l ([],s)
end
mutual
def AB.mi(g:AG->AG)(f:Int×Int->Int):AB->AB
 | .mk k c i t h fl r=>.mk k c (if k=8 then f (c,i)else i) t (g h) (AB.miL g f fl) (AL.miL g f r)
def AB.miL(g:AG->AG)(f:Int×Int->Int):List AB->List AB
 | []=>[]
 | x::l=>AB.mi g f x::AB.miL g f l
def AL.mi(g:AG->AG)(f:Int×Int->Int):AL->AL
 | .mk h c=>.mk (g h) (AF.miL g f c)
def AL.miL(g:AG->AG)(f:Int×Int->Int):List AL->List AL
 | []=>[]
 | x::l=>AL.mi g f x::AL.miL g f l
def AF.mi(g:AG->AG)(f:Int×Int->Int):AF->AF
 | .mk i h fl=>.mk i (g h) (AB.miL g f fl)
def AF.miL(g:AG->AG)(f:Int×Int->Int):List AF->List AF
 | []=>[]
 | x::l=>AF.mi g f x::AF.miL g f l
end
mutual
def AB.an:AB->List (Int×Int)
 | .mk k c i _ _ f r=>(if k=8 then[(c,i)]else[])++(AB.anL f++AL.anL r)
def AB.anL:List AB->List (Int×Int)
 | []=>[]
 | x::l=>AB.an x++AB.anL l
def AL.an:AL->List (Int×Int)
 | .mk _ c=>AF.anL c
def AL.anL:List AL->List (Int×Int)
 | []=>[]
 | x::l=>AL.an x++AL.anL l
def AF.an:AF->List (Int×Int)
 | .mk _ _ f=>AB.anL f
def AF.anL:List AF->List (Int×Int)
 | []=>[]
 | x::l=>AF.an x++AF.anL l
end
section
variable(g:AG->AG)(f:Int×Int->Int)
theorem AB.miL_eq:∀l:List AB,AB.miL g f l=l.map (AB.mi g f)
 | []=>by rw[AB.miL];rfl
 | x::l=>by rw[AB.miL,AB.miL_eq l];rfl
theorem AL.miL_eq:∀l:List AL,AL.miL g f l=l.map (AL.mi g f)
 | []=>by rw[AL.miL];rfl
 | x::l=>by rw[AL.miL,AL.miL_eq l];rfl
theorem AF.miL_eq:∀l:List AF,AF.miL g f l=l.map (AF.mi g f)
 | []=>by rw[AF.miL];rfl
 | x::l=>by rw[AF.miL,AF.miL_eq l];rfl
theorem AB.mi_eq(x:AB):AB.mi g f x=.mk x.x x.code (if x.x=8 then f (x.code,x.id)else x.id) x.J (g x.H) (AB.miL g f x.W) (x.R.map (AL.mi g f)):=by cases x;rw[AB.mi,AL.miL_eq];rfl
theorem AL.mi_eq(x:AL):AL.mi g f x=.mk (g x.H) (x.cells.map (AF.mi g f)):=by cases x;rw[AL.mi,AF.miL_eq];rfl
theorem AF.mi_eq(x:AF):AF.mi g f x=.mk x.id (g x.H) (AB.miL g f x.W):=by cases x;rw[AF.mi];rfl
end
theorem AB.anL_eq:∀l:List AB,AB.anL l=l.flatMap AB.an
 | []=>by rw[AB.anL];rfl
 | x::l=>by rw[AB.anL,AB.anL_eq l];rfl
theorem AL.anL_eq:∀l:List AL,AL.anL l=l.flatMap AL.an
 | []=>by rw[AL.anL];rfl
 | x::l=>by rw[AL.anL,AL.anL_eq l];rfl
theorem AF.anL_eq:∀l:List AF,AF.anL l=l.flatMap AF.an
 | []=>by rw[AF.anL];rfl
 | x::l=>by rw[AF.anL,AF.anL_eq l];rfl
theorem AB.an_eq(x:AB):x.an=(if x.x=8 then[(x.code,x.id)]else[])++(AB.anL x.W++AL.anL x.R):=by cases x;rw[AB.an];rfl
theorem AL.an_eq(x:AL):x.an=AF.anL x.cells:=by cases x;rw[AL.an];rfl
theorem AF.an_eq(x:AF):x.an=AB.anL x.W:=by cases x;rw[AF.an];rfl
section
variable{σ:Type}
structure Qe(step:σ->Int×Int->σ)(look:σ->Int×Int->Int)(Inv:σ->Prop)(ok:Int×Int->Prop):Prop where
 inv:∀s a,Inv s->ok a->Inv (step s a)
 keep:∀s a b,Inv s->ok a->look s b≠0->look (step s a) b=look s b
 new:∀s a,Inv s->ok a->look (step s a) a≠0
def Jc(step:σ->Int×Int->σ)(look:σ->Int×Int->Int)(g:AG->AG):PT σ where
 W _ l s:=(l,s)
 H h s:=(g h,s)
 item x s:=if x.x=8 then(G0 x (look (step s (x.code,x.id)) (x.code,x.id)),true,step s (x.code,x.id))else(x,true,s)
variable{step:σ->Int×Int->σ}{look:σ->Int×Int->Int}{Inv:σ->Prop}{ok:Int×Int->Prop}{g:AG->AG}{hp:AG->Prop}{T:Int->Prop}
def Qa(look:σ->Int×Int->Int)(s t:σ):Prop:=∀b,look s b≠0->look t b=look s b
theorem Qa.trans{s t u:σ}(h1:Qa look s t)(h2:Qa look t u):Qa look s u:=λb h=>by rw[h2 b (by rw[h1 b h];exact h),h1 b h]
theorem Qe.fold(M:Qe step look Inv ok):∀(l:List (Int×Int))(s:σ),Inv s->(∀a∈l,ok a)->Inv (l.foldl step s)/\Qa look s (l.foldl step s)
 | [],s,h,_=>⟨h,λ_ _=>rfl⟩
 | a::l,s,h,ha=>by
  obtain⟨h1,h2⟩:=M.fold l (step s a) (M.inv s a h (ha a mr)) λb hb=>ha b (by simp[hb]);exact⟨h1,Qa.trans (λb hb=>M.keep s a b h (ha a mr) hb) h2⟩
def U1(step:σ->Int×Int->σ)(look:σ->Int×Int->Int)(Inv:σ->Prop)(ok:Int×Int->Prop)(g:AG->AG)(it:Int->List AB->σ->List AB×σ)(l:List AB):Prop:=
 ∀id s t,(∀a∈AB.anL l,ok a)->Inv s->Qa look ((AB.anL l).foldl step s) t->it id l s=(AB.miL g (look t) l,(AB.anL l).foldl step s)
variable{it:Int->List AB->σ->List AB×σ}
theorem RN(M:Qe step look Inv ok):∀(l:List AF)(out:List AF)(s t:σ),(∀c∈l,U1 step look Inv ok g it c.W)->(∀a∈AF.anL l,ok a)->Inv s->Qa look ((AF.anL l).foldl step s) t->
 l.foldl (Dd (Jc step look g) it) (out,s)=(out++AF.miL g (look t) l,(AF.anL l).foldl step s)
 | [],out,s,t,_,_,_,_=>by rw[AF.miL,AF.anL];simp
 | c :: l, out, s, t, hc, ha, hi, hl => by
  rw[AF.anL]at ha hl ⊢;rw[vp]at hl ⊢;have a1:∀a∈c.an,ok a:=λa h=>ha a (by simp[h]);obtain⟨b,_⟩:=M.fold c.an s hi a1;obtain⟨_,d⟩:=M.fold (AF.anL l) _ b λa h=>ha a (by simp[h]);rw[qL];have e:Dd (Jc step look g) it (out,s) c=(out++[AF.mi g (look t) c],c.an.foldl step s):=by
   unfold Dd;simp only[Jc];rw[AF.an_eq]at a1 d hl ⊢;rw[hc c mr c.id s t a1 hi (Qa.trans d hl),AF.mi_eq]
  rw[e,RN M l _ _ t (λc h=>hc c (by simp[h])) (λa h=>ha a (by simp[h])) b hl,AF.miL];simp
theorem UU(M:Qe step look Inv ok):∀(l:List AL)(out:List AL)(s t:σ),(∀r∈l,∀c∈r.cells,U1 step look Inv ok g it c.W)->(∀a∈AL.anL l,ok a)->Inv s->Qa look ((AL.anL l).foldl step s) t->
 l.foldl (E6 (Jc step look g) it) (out,s)=(out++AL.miL g (look t) l,(AL.anL l).foldl step s)
 | [],out,s,t,_,_,_,_=>by rw[AL.miL,AL.anL];simp
 | r :: l, out, s, t, hc, ha, hi, hl => by
  rw[AL.anL]at ha hl ⊢;rw[vp]at hl ⊢;have a1:∀a∈r.an,ok a:=λa h=>ha a (by simp[h]);obtain⟨b,_⟩:=M.fold r.an s hi a1;obtain⟨_,d⟩:=M.fold (AL.anL l) _ b λa h=>ha a (by simp[h]);rw[qL];have e:E6 (Jc step look g) it (out,s) r=(out++[AL.mi g (look t) r],r.an.foldl step s):=by
   unfold E6 IF;simp only[Jc];rw[AL.an_eq]at a1 d hl ⊢;have:=RN (g:=g) (it:=it) M r.cells [] s t (hc r mr) a1 hi (Qa.trans d hl);unfold Jc at this;rw[this,AL.mi_eq,AF.miL_eq];simp
  rw[e,UU M l _ _ t (λc h=>hc c (by simp[h])) (λa h=>ha a (by simp[h])) b hl,AL.miL];simp
theorem ZU:AB.anL []=[]:=by rw[AB.anL]
theorem Tx:AL.anL []=[]:=by rw[AL.anL]
theorem Oz(x:AB)(s:σ):(Jc step look g).item x s=(G0 x (if x.x=8 then look (step s (x.code,x.id)) (x.code,x.id)else x.id),true,(if x.x=8 then[(x.code,x.id)]else[]).foldl step s):=by
 unfold Jc;dsimp only;split;rfl;cases x;rfl
theorem Y6(x:AB)(i:Int)(h:AG):((G0 x i).wHead h)=.mk x.x x.code i x.J h x.W x.R:=rfl
theorem XN(x:AB)(i:Int):(G0 x i).H=x.H:=rfl
theorem Uq(R:PT σ)(k c i:Int)(t:ByteArray)(h:AG)(f:List AB)(r:List AL)(s:σ):F8 R it (.mk k c i t h f r) s =
 if k=6 then(.mk k c i t h (it i f s).1 r,(it i f s).2)else if k=7 then(.mk k c i t h f (De R it r s).1,(De R it r s).2)else(.mk k c i t h f r,s):=rfl
theorem Pe(R:PT σ)(k c i:Int)(t:ByteArray)(h:AG)(f:List AB)(r:List AL)(s:σ):Qt R it (.mk k c i t h f r) s =
 (.mk k c i t h (it 0 f s).1 (De R it r (it 0 f s).2).1,(De R it r (it 0 f s).2).2):=rfl
theorem UT(M:Qe step look Inv ok)(x:AB)(k6:x.x≠6->x.W=[])(k7:x.x≠7->x.R=[])(hf:U1 step look Inv ok g it x.W)(hr:∀r∈x.R,∀c∈r.cells,U1 step look Inv ok g it c.W)
 (out:List AB) (s t:σ) (ha:∀a∈x.an,ok a) (hi:Inv s) (hl:Qa look (x.an.foldl step s) t):
 Eg (Jc step look g) it (out,s) x=(out++[AB.mi g (look t) x],x.an.foldl step s)/\Dl (Jc step look g) it (out,s) x=(out++[AB.mi g (look t) x],x.an.foldl step s):=by
 rw[AB.an_eq]at ha hl ⊢;rw[vp,vp]at hl ⊢;obtain⟨s1,hs1⟩:∃s1,(if x.x=8 then[(x.code,x.id)]else[]).foldl step s=s1:=⟨_,rfl⟩
 obtain⟨i1,_⟩:=M.fold (if x.x=8 then[(x.code,x.id)]else[]) s hi λa h=>ha a (qz _ h);have af:∀a∈AB.anL x.W,ok a:=λa h=>ha a (by simp[h]);have ar:∀a∈AL.anL x.R,ok a:=λa h=>ha a (by simp[h]);rw[hs1]at i1 hl ⊢;obtain⟨i2,l2⟩:=M.fold (AB.anL x.W) s1 i1 af;obtain⟨i3,l3⟩:=M.fold (AL.anL x.R) _ i2 ar;have e1:=λid=>hf id s1 t af i1 (Qa.trans l3 hl);have e2:=UU (g:=g) (it:=it) M x.R [] _ t hr ar i2 hl;have hid:(if x.x=8 then look (step s (x.code,x.id)) (x.code,x.id)else x.id)=if x.x=8 then look t (x.code,x.id)else x.id:=by
  split
  . next k=>
    rw[my k]at hs1;have hs1':step s (x.code,x.id)=s1:=hs1;rw[hs1'];refine((Qa.trans (Qa.trans l2 l3) hl) _ ?_).symm;rw[<-hs1'];exact M.new s _ hi (ha _ (by simp[k]))
  rfl
 have hrow:∀h s2,(Jc step look g).H h s2=(g h,s2):=λ_ _=>rfl;rw[AB.mi_eq];constructor;unfold Eg;dsimp only;rw[Oz,hs1,hid];dsimp only;rw[my rfl,XN,hrow];dsimp only;rw[Y6,Uq];unfold De;by_cases h6:x.x=6;rw[my h6,e1,k7 mq,Tx];rfl;rw[mw h6];rw[k6 h6,ZU]at e2 ⊢;by_cases h7:x.x=7;rw[my h7];dsimp only[List.foldl_nil]at e2 ⊢;rw[e2,AL.miL_eq,AB.miL];simp;rw[mw h7,k7 h7,Tx,AB.miL];rfl;unfold Dl;dsimp only;rw[Oz,hs1,hid];dsimp only;rw[my rfl,XN,hrow];dsimp only;rw[Y6,Pe];unfold De;rw[e1];dsimp only;rw[e2,AL.miL_eq];simp
theorem Py(M:Qe step look Inv ok)(F:List AB×σ->AB->List AB×σ):∀(l:List AB)(out:List AB)(s t:σ),
 (∀x∈l,∀out s t,(∀a∈x.an,ok a)->Inv s->Qa look (x.an.foldl step s) t->F (out,s) x=(out++[AB.mi g (look t) x],x.an.foldl step s))->
 (∀a∈AB.anL l,ok a)->Inv s->Qa look ((AB.anL l).foldl step s) t->l.foldl F (out,s)=(out++AB.miL g (look t) l,(AB.anL l).foldl step s)
 | [],out,s,t,_,_,_,_=>by rw[AB.miL,AB.anL];simp
 | x::l,out,s,t,hF,ha,hi,hl=>by
  rw[AB.anL]at ha hl ⊢;rw[vp]at hl ⊢;have a1:∀a∈x.an,ok a:=λa h=>ha a (by simp[h]);obtain⟨b,_⟩:=M.fold x.an s hi a1;obtain⟨_,c⟩:=M.fold (AB.anL l) _ b λa h=>ha a (by simp[h]);rw[qL,hF x mr out s t a1 hi (Qa.trans c hl),Py M F l _ _ t (λx h=>hF x (by simp[h])) (λa h=>ha a (by simp[h])) b hl,AB.miL];simp
theorem Rp(M:Qe step look Inv ok):∀(N:Nat)(l:List AB),wf hp T N l->U1 step look Inv ok g (Aw (Jc step look g) N) l/\U1 step look Inv ok g (Bd (Jc step look g) N) l
 | 0,_,h=>h.elim
 | N+1,l,H=>by
  have key:∀x∈l,_:=λx a=>DG.1 H x a;constructor;intro id s t d hi f;rw[Aw];refine Py (g:=g) M _ l [] s t (λx a out s t h1 h2 b=>?_) d hi f;have w:=key x a;exact(UT M x w.k6 w.k7 (Rp M N _ w.W).1 (λr hr c e=>(Rp M N _ ((w.R r hr).2.2 c e).2.2).1) out s t h1 h2 b).1;intro id s t d hi f;rw[Bd];refine Py (g:=g) M _ l [] s t (λx a out s t h1 h2 b=>?_) d hi f;have w:=key x a;exact(UT M x w.k6 w.k7 (Rp M N _ w.W).2 (λr hr c e=>(Rp M N _ ((w.R r hr).2.2 c e).2.2).2) out s t h1 h2 b).2
end
abbrev ZB(c:Int):Bool:=c==3||c==4
def BI:List Int->Int->Int
 | [],_=>0
 | a::l,x=>if a=x then 1 else if BI l x=0 then 0 else BI l x+1
theorem Fs:∀(l:List Int)(x:Int),0<=BI l x/\BI l x<=l.length
 | [],_=>⟨Int.le_refl _,Int.le_refl _⟩
 | a::l,x=>by
  have:=Fs l x;rw[BI,qo];split;omega;split<;>omega
theorem CZ:∀{l:List Int} {x:Int},BI l x≠0↔x∈l
 | [],_=>by simp[BI]
 | a::l,x=>by
  have h:=@CZ l x;have:=Fs l x;rw[BI];split
  . next e=>simp[e]
  . next e=>
    split
    . next e2=>simp only[ne_eq,not_true_eq_false,qe,false_iff,not_or];exact⟨λg=>e g.symm,λg=>(h.2 g) e2⟩
    . next e2=>simp only[qe];exact⟨λ_=>.inr (h.1 e2),λ_=>by omega⟩
theorem Cd{l:List Int}{x:Int}:BI l x=0↔x∉l:=by rw[<-CZ];simp
theorem Fy{l r:List Int}{x:Int}:BI (l++r) x=if x∈l then BI l x else if x∈r then l.length+BI r x else 0:=by
 induction l with
 | nil=>
  simp only[qI,vG,if_false,vU];split;simp
  . next h=>exact Cd.2 h
 | cons a l ih=>
  rw[qB,BI,BI,ih];by_cases e:a=x;simp[e];have e':¬x=a:=λg=>e g.symm;simp only[e,if_false,qe,e',false_or,qo];by_cases h:x∈l;simp only[h,if_true];simp only[h,if_false];by_cases h2:x∈r;have:=Fs r x;have:=CZ.2 h2;simp only[h2,if_true];rw[mw mq];push_cast;omega;simp[h2]
theorem Gs{l:List Int}{x y:Int}(d:x∈l)(h:BI l x=BI l y):x=y:=by
 induction l with
 | nil=>cases d
 | cons a l ih=>
  have g1:=Fs l x;have g2:=Fs l y;have c:=CZ.2 d;rw[BI]at c;rw[BI,BI]at h;by_cases e:a=x;by_cases b:a=y;exact e.symm.trans b;rw[my e,mw b]at h;split at h<;>omega;rw[mw e]at h c;have hm:x∈l:=by rcases qe.1 d with r|r;exact absurd r.symm e;exact r
  have:=CZ.2 hm;rw[mw this]at h;by_cases b:a=y;rw[my b]at h;omega;rw[mw b]at h;split at h;omega;exact ih hm mq
theorem VR(l:List Int)(x y:Int):BI (DM l x) y=if y∈l then BI l y else if y=x then l.length+1 else 0:=by
 unfold DM;split
 . next h=>
   split;rfl
   . next h2=>
     rw[mw λe=>h2 (by rw[e];exact h)];exact Cd.2 h2
 . next h=>
   rw[Fy];split;rfl
   . next h2=>
     by_cases e:y=x;rw[my (by simp[e]),my e,e];simp[BI];rw[mw (by simpa using e),mw e]
def G4(s:List (Int×Int)×List (Int×Int))(a:Int×Int):List (Int×Int)×List (Int×Int):=if ZB a.1 then(EP s.1 a.2 s.1.length,s.2)else(s.1,EP s.2 a.2 (s.2.length+1))
def Kv(s:List (Int×Int)×List (Int×Int))(a:Int×Int):Int:=if ZB a.1 then Cj s.1 a.2 else Cj s.2 a.2
theorem Nr{l:List (Int×Int)}{x v y:Int}(h:Cj l y≠0):Cj (EP l x v) y=Cj l y:=by
 unfold EP;split
 . next e=>rw[FL,mw λg=>h (by rw[<-g];exact e)]
 rfl
theorem O3{l:List (Int×Int)}{x v:Int}(h:v≠0):Cj (EP l x v) x≠0:=by
 unfold EP;split;rw[FL,my rfl];exact h
 . next e=>exact e
theorem aX:∀(l:List (Int×Int))(x v:Int),DQ l x v≠[]
 | [],_,_=>by simp[DQ]
 | (a,b)::r,x,v=>by rw[DQ];split<;>simp
theorem Xs{l:List (Int×Int)}{x v:Int}(h:l≠[]):EP l x v≠[]:=by
 unfold EP;split;exact aX _ _ _;exact h
theorem iF:Qe G4 Kv (λs=>s.1≠[]) (λ_=>True) where
 inv s a h _:=by
  unfold G4;split;exact Xs h;exact h
 keep s a b h _ hb:=by
  unfold Kv G4 at *;by_cases c:ZB a.1=true;rw[my c];by_cases d:ZB b.1=true;rw[my d]at hb ⊢;rw[my d];exact Nr hb;rw[mw d,mw d];rw[mw c];by_cases d:ZB b.1=true;rw[my d,my d];rw[mw d]at hb ⊢;rw[mw d];exact Nr hb
 new s a h _:=by
  unfold Kv G4;have:(s.1.length:Int)≠0:=by have:=qD.2 h;omega
  by_cases c:ZB a.1=true;rw[my c,my c];exact O3 this;rw[mw c,mw c];exact O3 mq
def MK(s:List Int×List Int)(a:Int×Int):List Int×List Int:=if a.1<=2 then(DM s.1 a.2,s.2)else(s.1,DM s.2 a.2)
def Io(s:List Int×List Int)(a:Int×Int):Int:=if a.1<=2 then BI s.1 a.2 else BI s.2 a.2
theorem YV{l:List (Int×Int)}{x v:Int}(h:∀p∈l,p.1≠x):(DQ l x v).length=l.length+1:=by
 induction l with
 | nil=>rfl
 | cons p l ih=>
  obtain⟨a,b⟩:=p;rw[DQ,mw (h (a,b) mr)];simp[ih λp hp=>h p (by simp[hp])]
theorem Rw:∀{l:List (Int×Int)} {x v:Int} {p:Int×Int},p∈DQ l x v->p.1=x\/∃q∈l,q.1=p.1
 | [],x,v,p,h=>by rw[DQ,qw]at h;exact .inl (by rw[h])
 | (a,b)::r,x,v,p,h=>by
  rw[DQ]at h;split at h;rcases qe.1 h with e|e;exact .inl (by rw[e]);exact .inr ⟨p,by simp[e],rfl⟩;rcases qe.1 h with e|e;exact .inr ⟨(a,b),by simp,by rw[e]⟩;rcases Rw e with g|⟨q,g1,c⟩
  exact .inl g;exact .inr ⟨q,by simp[g1],c⟩
structure If(z:Prop)(k:Nat)(s:List (Int×Int))(t:List Int):Prop where
 get:∀x,Cj s x=BI t x
 len:s.length=t.length+k
 val:∀p∈s,(z/\p.1=0)\/Cj s p.1≠0
theorem If.I{z:Prop}{k:Nat}{s:List (Int×Int)}{t:List Int}(S:If z k s t){x:Int}(hx:z->x≠0)(h:x∉t):If z k (DQ s x (t.length+1)) (t++[x]) where
 get y:=by
  rw[FL,Fy,S.get y];by_cases e:x=y;rw[my e,mw (by rw[<-e];exact h),my (by simp[e]),e];simp[BI]
  . rw[mw e];split;rfl
    . next h2=>rw[mw (by simp;exact λg=>e g.symm)];exact Cd.2 h2
 len:=by
  have:∀p∈s,p.1≠x:=λp hp e=>by
   rcases S.val p hp with⟨g1,g2⟩|g;exact hx g1 (by rw[<-e,g2]);rw[S.get,CZ,e]at g;exact h g
  rw[YV this,S.len];simp;omega
 val p hp:=by
  rcases Rw hp with e|⟨q,h1,h2⟩
  right;rw[FL,my e.symm];omega;rw[FL,<-h2];rcases S.val q h1 with g|g;exact .inl g;split;exact .inr mq;exact .inr g
theorem If.note{z:Prop}{k:Nat}{s:List (Int×Int)}{t:List Int}(S:If z k s t){x:Int}(a:z->x≠0)(v:Int)(hv:v=t.length+1):If z k (EP s x v) (DM t x):=by
 unfold EP DM;by_cases h:x∈t;rw[my h,mw (by rw[S.get];exact CZ.2 h)];exact S;rw[mw h,my (by rw[S.get];exact Cd.2 h),hv];exact S.I a h
structure OO(s:List (Int×Int)×List (Int×Int))(t:List Int×List Int):Prop where
 cm:If True 1 s.1 t.2
 bm:If False 0 s.2 t.1
def ZG(a:Int×Int):Prop:=1<=a.1/\a.1<=4/\a.2≠0
theorem Me{a:Int×Int}(h:ZG a):ZB a.1=true↔¬a.1<=2:=by
 obtain⟨h1,h2,_⟩:=h;simp only[ZB,vV,beq_iff_eq];omega
theorem OO.step{s:List (Int×Int)×List (Int×Int)}{t:List Int×List Int}(S:OO s t){a:Int×Int}(h:ZG a):OO (G4 s a) (MK t a):=by
 unfold G4 MK;by_cases c:a.1<=2;rw[mw (λg=>(Me h).1 g c),my c];exact⟨S.cm,S.bm.note (λg=>g.elim) _ (by rw[S.bm.len];rfl)⟩;rw[my ((Me h).2 c),mw c];exact⟨S.cm.note (λ_=>h.2.2) _ (by rw[S.cm.len];push_cast;rfl),S.bm⟩
theorem OO.fold:∀{l:List (Int×Int)} {s:List (Int×Int)×List (Int×Int)} {t:List Int×List Int},OO s t->(∀a∈l,ZG a)->OO (l.foldl G4 s) (l.foldl MK t)
 | [],_,_,S,_=>S
 | a::l,_,_,S,h=>(S.step (h a mr)).fold λb hb=>h b (by simp[hb])
theorem OO.look{s:List (Int×Int)×List (Int×Int)}{t:List Int×List Int}(S:OO s t){a:Int×Int}(h:ZG a):Kv s a=Io t a:=by
 unfold Kv Io;by_cases c:a.1<=2;rw[mw (λg=>(Me h).1 g c),my c,S.bm.get];rw[my ((Me h).2 c),mw c,S.cm.get]
theorem Jj(l:List (Int×Int)):∀t:List Int×List Int,l.foldl MK t=(BG t.1 ((l.filter λa=>decide (a.1<=2)).map (·.2)),BG t.2 ((l.filter λa=>!decide (a.1<=2)).map (·.2))):=by
 induction l with
 | nil=>intro t;rfl
 | cons a l ih=>
  intro t;rw[qL,ih];unfold MK;by_cases c:a.1<=2;simp[c,BG];simp[c,BG]
theorem WR(x:AB)(s:List (Int×Int)×List (Int×Int)):((DD x s).1,true,(DD x s).2)=if x.x=8 then(G0 x (Kv (G4 s (x.code,x.id)) (x.code,x.id)),true,G4 s (x.code,x.id))else(x,true,s):=by
 unfold DD;by_cases k:x.x=8;rw[my k,my k];have e:RG x=ZB x.code:=by unfold RG;rw[k];rfl
 rw[e];unfold G4 Kv;by_cases c:ZB x.code=true;rw[my c,my c,my c];rw[mw c,mw c,mw c];rw[mw k,mw k]
theorem WT(mv:List ((Int×Int)×Int))(a:List (Int×Int)):MS mv a=Jc G4 Kv (L7 mv a):=by
 unfold MS Jc;congr 1;funext x s;exact WR x s
theorem WU{hp:AG->Prop}{T:Int->Prop}{N:Nat}{l:List AB}(H:wf hp T N l)(mv:List ((Int×Int)×Int))(a:List (Int×Int))(id:Int)(s:List (Int×Int)×List (Int×Int))(b:s.1≠[]):
 Aw (MS mv a) N id l s=(AB.miL (L7 mv a) (Kv ((AB.anL l).foldl G4 s)) l,(AB.anL l).foldl G4 s):=by
 rw[WT];exact(Rp iF N l H).1 id s _ (λ_ _=>trivial) b λ_ _=>rfl
mutual
def AB.hd:AB->List AG
 | .mk _ _ _ _ h f r=>h::(AB.hdL f++AL.hdL r)
def AB.hdL:List AB->List AG
 | []=>[]
 | x::l=>AB.hd x++AB.hdL l
def AL.hd:AL->List AG
 | .mk h c=>h::AF.hdL c
def AL.hdL:List AL->List AG
 | []=>[]
 | x::l=>AL.hd x++AL.hdL l
def AF.hd:AF->List AG
 | .mk _ h f=>h::AB.hdL f
def AF.hdL:List AF->List AG
 | []=>[]
 | x::l=>AF.hd x++AF.hdL l
end
theorem AB.hd_eq(x:AB):x.hd=x.H::(AB.hdL x.W++AL.hdL x.R):=by cases x;rw[AB.hd];rfl
theorem AL.hd_eq(x:AL):x.hd=x.H::AF.hdL x.cells:=by cases x;rw[AL.hd];rfl
theorem AF.hd_eq(x:AF):x.hd=x.H::AB.hdL x.W:=by cases x;rw[AF.hd];rfl
theorem UJ:AB.hdL []=[]:=by rw[AB.hdL]
theorem Pp:AL.hdL []=[]:=by rw[AL.hdL]
section
variable{σ:Type}
def Kq(F:σ->AG->σ):PT σ:=⟨λ_ l s=>(l,s),λh s=>(h,F s h),λx s=>(x,true,s)⟩
def U0(F:σ->AG->σ)(it:Int->List AB->σ->List AB×σ)(l:List AB):Prop:=∀id s,it id l s=(l,(AB.hdL l).foldl F s)
variable{F:σ->AG->σ}{it:Int->List AB->σ->List AB×σ}{hp:AG->Prop}{T:Int->Prop}
theorem RB:∀(l:List AF)(out:List AF)(s:σ),(∀c∈l,U0 F it c.W)->l.foldl (Dd (Kq F) it) (out,s)=(out++l,(AF.hdL l).foldl F s)
 | [],out,s,_=>by rw[AF.hdL];simp
 | c :: l, out, s, hc => by
  rw[AF.hdL,vp,qL];have e:Dd (Kq F) it (out,s) c=(out++[c],c.hd.foldl F s):=by
   unfold Dd;simp only[Kq];rw[hc c mr c.id,AF.hd_eq];cases c;rfl
  rw[e,RB l _ _ λc h=>hc c (by simp[h])];simp
theorem UL:∀(l:List AL)(out:List AL)(s:σ),(∀r∈l,∀c∈r.cells,U0 F it c.W)->l.foldl (E6 (Kq F) it) (out,s)=(out++l,(AL.hdL l).foldl F s)
 | [],out,s,_=>by rw[AL.hdL];simp
 | r :: l, out, s, hc => by
  rw[AL.hdL,vp,qL];have e:E6 (Kq F) it (out,s) r=(out++[r],r.hd.foldl F s):=by
   unfold E6 IF;simp only[Kq];have:=RB (F:=F) (it:=it) r.cells [] (F s r.H) (hc r mr);unfold Kq at this;rw[this,AL.hd_eq];cases r;simp[AL.H,AL.cells]
  rw[e,UL l _ _ λc h=>hc c (by simp[h])];simp
theorem UK(x:AB)(k6:x.x≠6->x.W=[])(k7:x.x≠7->x.R=[])(f:U0 F it x.W)(hr:∀r∈x.R,∀c∈r.cells,U0 F it c.W)(out:List AB)(s:σ):
 Eg (Kq F) it (out,s) x=(out++[x],x.hd.foldl F s)/\Dl (Kq F) it (out,s) x=(out++[x],x.hd.foldl F s):=by
 rw[AB.hd_eq,qL,vp];have hi:∀s,(Kq F).item x s=(x,true,s):=λ_=>rfl;have hh:∀h s,(Kq F).H h s=(h,F s h):=λ_ _=>rfl;have e:=λs=>UL (F:=F) (it:=it) x.R [] s hr;have g:x.wHead x.H=.mk x.x x.code x.id x.J x.H x.W x.R:=rfl;have a:AB.mk x.x x.code x.id x.J x.H x.W x.R=x:=by cases x;rfl
 constructor;unfold Eg;dsimp only;rw[hi];dsimp only;rw[my rfl,hh];dsimp only;rw[g,Uq];unfold De;by_cases b:x.x=6;rw[my b,f];dsimp only;rw[a,k7 mq,Pp];rfl;rw[mw b,k6 b,UJ];by_cases d:x.x=7;rw[my d,e];dsimp only[List.nil_append,List.foldl_nil];rw[k6 b]at a;rw[a];rw[mw d];rw[k6 b]at a;rw[a,k7 d,Pp];rfl;unfold Dl;dsimp only;rw[hi];dsimp only;rw[my rfl,hh];dsimp only;rw[g,Pe];unfold De;rw[f];dsimp only;rw[e];dsimp only[List.nil_append];rw[a]
theorem Pq(G:List AB×σ->AB->List AB×σ):∀(l out:List AB)(s:σ),(∀x∈l,∀out s,G (out,s) x=(out++[x],x.hd.foldl F s))->l.foldl G (out,s)=(out++l,(AB.hdL l).foldl F s)
 | [],out,s,_=>by rw[AB.hdL];simp
 | x::l,out,s,h=>by
  rw[qL,h x mr,Pq G l _ _ λy a=>h y (by simp[a]),AB.hdL,vp];simp
theorem Ro:∀(N:Nat)(l:List AB),wf hp T N l->U0 F (Aw (Kq F) N) l/\U0 F (Bd (Kq F) N) l
 | 0,_,h=>h.elim
 | N+1,l,H=>by
  have key:∀x∈l,_:=λx a=>DG.1 H x a;constructor;intro id s;rw[Aw];refine Pq _ l [] s λx a out s=>?_;have w:=key x a;exact(UK x w.k6 w.k7 (Ro N _ w.W).1 (λr hr c b=>(Ro N _ ((w.R r hr).2.2 c b).2.2).1) out s).1;intro id s;rw[Bd];refine Pq _ l [] s λx a out s=>?_;have w:=key x a;exact(UK x w.k6 w.k7 (Ro N _ w.W).2 (λr hr c b=>(Ro N _ ((w.R r hr).2.2 c b).2.2).2) out s).2
end
def C6(hs:List AG):List (Int×Int):=hs.flatMap AG.mvs
theorem Ns:∀(a:List AG)(s:List (Int×Int)),a.foldl (λs h=>Ef s h.mvs) s=(C6 a).foldl Dx s
 | [],_=>rfl
 | h::a,s=>by rw[qL,Ns a];simp[C6,Ef]
theorem Px{hp:AG->Prop}{T:Int->Prop}{N:Nat}{d:AI}(H:wf hp T N d.W):HY N d=(C6 (AB.hdL d.W++[d.T0])).foldl Dx []:=by
 have e:Xo=Kq λs h=>Ef s h.mvs:=rfl;unfold HY IT;rw[e,(Ro N _ H).1];show Ef _ _=_;rw[Ns,C6,C6,qH,vp];simp[Ef]
theorem Ld:∀(l:List (Int×Int))(s:List (Int×Int)),s.Nodup->(l.foldl Dx s).Nodup/\∀p,p∈l.foldl Dx s↔p∈s\/(p.2≠0/\p∈l)
 | [],s,h=>⟨h,λp=>by simp⟩
 | a :: l, s, h => by
  have hn:(Dx s a).Nodup/\∀p,p∈Dx s a↔p∈s\/(p.2≠0/\p=a):=by
   unfold Dx RE;split
   . next e=>exact⟨h,λp=>⟨.inl,λg=>g.elim id λ⟨g1,g2⟩=>absurd (by rw[g2];exact e) g1⟩⟩
   . next e=>
     split
     . next e2=>exact⟨h,λp=>⟨.inl,λg=>g.elim id λ⟨_,g2⟩=>by rw[g2];exact e2⟩⟩
     . next e2=>
       refine⟨by rw[qu];exact⟨h,by simp,λx hx y hy=>by rw[qw]at hy;rw[hy];exact λg=>e2 (by rw[<-g];exact hx)⟩,λp=>?_⟩;rw[qd,qw];exact⟨λg=>g.imp_right λg=>⟨by rw[g];exact e,g⟩,λg=>g.imp_right λg=>g.2⟩
  obtain⟨h1,h2⟩:=Ld l (Dx s a) hn.1;refine⟨h1,λp=>?_⟩;rw[qL,h2,hn.2,qe];constructor;rintro((g|⟨g1,g2⟩)|⟨g1,g2⟩);exact .inl g;exact .inr ⟨g1,.inl g2⟩;exact .inr ⟨g1,.inr g2⟩;rintro(g|⟨g1,g2|g2⟩);exact .inl (.inl g);exact .inl (.inr ⟨g1,g2⟩);exact .inr ⟨g1,g2⟩
theorem Q7:∀(l:List ((Int×Int)×Int))(m:Int×Int)(v:Int)(y:Int×Int),FK (Lt l m v) y=if m=y then v else FK l y
 | [],m,v,y=>by simp[Lt,FK]
 | (a,b)::r,m,v,y=>by
  rw[Lt];split
  . next e=>subst e;simp only[FK];split<;>simp
  . next e=>
    simp only[FK,Q7 r m v y];split
    . next e2=>subst e2;rw[mw (λg=>e g.symm)]
    rfl
def V0(L:List (Int×Int))(r:Int):List Int:=(L.filter λp=>decide (p.1=r)).map (·.2)
theorem Uc(L M:List (Int×Int))(r:Int):V0 (L++M) r=V0 L r++V0 M r:=by simp[V0]
theorem Pw{L:List (Int×Int)}{r m:Int}:m∈V0 L r↔(r,m)∈L:=by
 unfold V0;simp only[qa,qW,decide_eq_true_eq];constructor;rintro⟨⟨a,b⟩,⟨h1,rfl⟩,rfl⟩;exact h1;intro h;exact⟨(r,m),⟨h,rfl⟩,rfl⟩
theorem RU:∀(n:Nat)(L:List (Int×Int)),L.length=n->L.Nodup->(∀r,Cj (FD L).1 r=(V0 L r).length)/\∀r m,FK (FD L).2 (r,m)=BI (V0 L r) m:=by
 intro n
 induction n with
 | zero=>intro L h _;cases L with|nil=>exact⟨λ_=>rfl,λ_ _=>rfl⟩|cons=>cases h
 | succ n ih =>
  intro L h hn;obtain⟨M,p,rfl⟩:∃M p,L=M++[p]:=by
   rcases List.eq_nil_or_concat L with e|⟨M,p,e⟩
   rw[e]at h;cases h;exact⟨M,p,by rw[e];simp⟩
  obtain⟨a,b⟩:=p;rw[qu]at hn;have hnot:(a,b)∉M:=λg=>hn.2.2 _ g _ mr rfl;obtain⟨h1,h2⟩:=ih M (by simpa using h) hn.1;rw[Le];unfold PH;have hx:∀r,V0 [(a,b)] r=if a=r then[b]else[]:=λr=>by
   unfold V0;by_cases e:a=r<;>simp[e]
  constructor
  . intro r;dsimp only;rw[FL,h1,h1,Uc,hx];split
    . next e=>rw[<-e];simp
    simp
  . intro r m;dsimp only;rw[Q7,h1,h2,Uc,hx];by_cases e:a=r
    . subst e;rw[my rfl];by_cases e2:b=m;subst e2;rw[my rfl,Fy,mw (λg=>hnot (Pw.1 g)),my mr];simp[BI]
      . rw[mw (λg=>e2 (by cases g;rfl)),Fy];split;rfl
        . next h3=>rw[mw (by simpa using λg=>e2 g.symm)];exact Cd.2 h3
    rw[mw e,mw (λg=>e (by cases g;rfl)),qV]
theorem Ps:∀{a b:List Int},a.Pairwise (· < ·)->b.Pairwise (· < ·)->(∀y,y∈a↔y∈b)->a=b
 | [],[],_,_,_=>rfl
 | [],y::b,_,_,h=>absurd ((h y).2 mr) mr
 | x::a,[],_,_,h=>absurd ((h x).1 mr) mr
 | x :: a, y :: b, ha, hb, h => by
  rw[wD]at ha hb;have e:x=y:=by
   rcases qe.1 ((h x).1 mr)with g|g;exact g;rcases qe.1 ((h y).2 mr)with d|d;exact d.symm;have:=ha.1 y d;have:=hb.1 x g;omega
  subst e;congr 1;refine Ps ha.2 hb.2 λz=>⟨λc=>?_,λc=>?_⟩
  rcases qe.1 ((h z).1 (by simp[c]))with g|g;have:=ha.1 z c;omega;exact g;rcases qe.1 ((h z).2 (by simp[c]))with g|g;have:=hb.1 z c;omega;exact g
def jR(x y:Int×Int):Bool:=!(ltOf IX) y x
theorem Ml(x y:Int×Int):jR x y=true↔x.1<y.1\/(x.1=y.1/\x.2<=y.2):=by
 have e:IX y x=if y.1<x.1 then -1 else if x.1<y.1 then 1 else FU y.2 x.2:=by
  unfold IX VX VX VX;by_cases h1:y.1<x.1;simp[FU,h1];by_cases h2:x.1<y.1;simp[FU,h1,h2];simp only[FU,h1,h2,if_false];simp;split<;>simp_all
 unfold jR ltOf;simp only[qS,decide_eq_false_iff_not];rw[e];unfold FU;split;omega;split;omega;split;omega;split<;>omega
theorem QM(l:List (Int×Int)):(DS l).Pairwise λx y=>jR x y=true:=
 wv (le:=λx y=>jR x y) (λa b c h1 h2=>by rw[Ml]at *;omega) (λa b=>by rw[vV,Ml,Ml];omega) l
theorem Hu(l:List (Int×Int)):(DS l).Perm l:=List.mergeSort_perm l _
theorem aI{l:List (Int×Int)}(h:l.Nodup)(r:Int):(V0 (DS l) r).Pairwise (· < ·):=by
 have h1:=(QM l).and ((Hu l).nodup_iff.2 h);unfold V0;rw[List.pairwise_map];refine(List.Pairwise.filter _ h1).imp_of_mem ?_;intro a b c hb ⟨g1,d⟩;rw[Ml]at g1;simp only[qW,decide_eq_true_eq]at c hb;have:a.2≠b.2:=λe=>d (Prod.ext (c.2.trans hb.2.symm) e);omega
def Pu:List Int->Int->List Int
 | [],n=>[n]
 | a::l,n=>if a<n then a::Pu l n else if a=n then a::l else n::a::l
theorem Iq:∀{l:List Int} {n x:Int},x∈Pu l n↔x=n\/x∈l
 | [],n,x=>by simp[Pu]
 | a::l,n,x=>by
  rw[Pu];split;rw[qe,Iq,qe];exact or_left_comm
  . split
    . next e=>rw[<-e,qe,<-or_assoc,or_self]
    rw[qe]
theorem RF:∀{l:List Int} {n:Int},l.Pairwise (· < ·)->(Pu l n).Pairwise (· < ·)
 | [],n,_=>by simp[Pu]
 | a::l,n,h=>by
  rw[wD]at h;rw[Pu];split
  . next e=>
    rw[wD];refine⟨λb hb=>?_,RF h.2⟩;rcases Iq.1 hb with g|g;omega;exact h.1 b g
  . next e=>
    split;exact wD.2 h;rw[wD];refine⟨λb hb=>?_,wD.2 h⟩;rcases qe.1 hb with g|g;omega;have:=h.1 b g;omega
def E3(R:List Int)(s:List (List Int))(p:Int×Int):List (List Int):=if BI R p.1≠0/\p.2≠0 then s.modify ((BI R p.1-1).toNat) λl=>Pu l p.2 else s
def G8(s:List (List Int))(k:Nat):List Int:=(s[k]?).getD []
def Dy(R:List Int)(s:List (List Int))(r m:Int):Int:=if BI R r≠0 then BI (G8 s (BI R r-1).toNat) m else 0
theorem PI(R:List Int)(s:List (List Int))(p:Int×Int)(k:Nat)(hk:k<s.length):G8 (E3 R s p) k=if BI R p.1=k+1/\p.2≠0 then Pu (G8 s k) p.2 else G8 s k:=by
 have:=Fs R p.1;unfold E3;by_cases h:BI R p.1≠0/\p.2≠0;rw[my h];unfold G8;rw[List.getElem?_modify,qk hk];by_cases e:(BI R p.1-1).toNat=k;rw[my ⟨by omega,h.2⟩];simp[e];rw[mw mq];simp only[e,if_false];rfl;rw[mw h,mw mq]
theorem OC(R:List Int)(s:List (List Int))(p:Int×Int):(E3 R s p).length=s.length:=by unfold E3;split<;>simp
theorem Ng(R:List Int):∀(M:List (Int×Int))(s:List (List Int)),(∀k,(G8 s k).Pairwise (· < ·))->
 (M.foldl (E3 R) s).length=s.length/\∀k,k<s.length->(G8 (M.foldl (E3 R) s) k).Pairwise (· < ·)/\∀m,m∈G8 (M.foldl (E3 R) s) k↔m∈G8 s k\/(m≠0/\∃p∈M,BI R p.1=k+1/\p.2=m)
 | [],s,h=>⟨rfl,λk _=>⟨h k,λm=>by simp⟩⟩
 | p :: M, s, h => by
  have h1:∀k,(G8 (E3 R s p) k).Pairwise (· < ·):=λk=>by
   by_cases hk:k<s.length;rw[PI R s p k hk];split;exact RF (h k);exact h k;unfold G8;rw[List.getElem?_eq_none (by rw[OC];omega)];simp
  obtain⟨g1,g2⟩:=Ng R M (E3 R s p) h1;rw[OC]at g1 g2;refine⟨g1,λk hk=>⟨(g2 k hk).1,λm=>?_⟩⟩;rw[qL,(g2 k hk).2 m,PI R s p k hk];constructor
  . rintro(g|⟨g3,q,hq,g4⟩)
    . split at g
      . next c=>
        rcases Iq.1 g with e|e;exact .inr ⟨by rw[e];exact c.2,p,by simp,c.1,e.symm⟩;exact .inl e
      exact .inl g
    exact .inr ⟨g3,q,by simp[hq],g4⟩
  rintro(g|⟨g3,q,hq,g4,g5⟩);left;split;exact Iq.2 (.inr g);exact g;rcases qe.1 hq with e|e;subst e;left;rw[my ⟨g4,by rw[g5];exact g3⟩];exact Iq.2 (.inl g5.symm);exact .inr ⟨g3,q,e,g4,g5⟩
theorem dL{R:List Int}{M S:List (Int×Int)}(e:S.Nodup)(hm:∀p,p∈S↔p.2≠0/\p∈M){r:Int}(hr:r∈R)(m:Int):
 FK (FD (DS S)).2 (r,m)=Dy R (M.foldl (E3 R) (List.replicate R.length [])) r m:=by
 have hk:=CZ.2 hr;have hg:=Fs R r;have c:∀k,G8 (List.replicate R.length []) k=[]:=λk=>by
  unfold G8;rw[List.getElem?_replicate];split<;>rfl
 obtain⟨h1,h2⟩:=Ng R M (List.replicate R.length []) λk=>by rw[c];exact List.Pairwise.nil
 rw[(RU _ _ rfl ((Hu S).nodup_iff.2 e)).2];unfold Dy;rw[my hk];obtain⟨g1,f⟩:=h2 (BI R r-1).toNat (by rw[List.length_replicate];omega);congr 1;refine Ps (aI e r) g1 λy=>?_;rw[f,c,Pw,(Hu S).mem_iff,hm];constructor;rintro⟨g3,d⟩;exact .inr ⟨g3,(r,y),d,by dsimp only;omega,rfl⟩;rintro(g|⟨g3,⟨a,b⟩,d,h,g6⟩);cases g;dsimp only at h g6;have:a=r:=(Gs hr mq).symm;subst this;subst g6;exact⟨g3,d⟩
theorem Xt{S:List (Int×Int)}(a:S.Nodup){p:Int×Int}(h:p∉S):FK (FD (DS S)).2 p=0:=by
 rw[(RU _ _ rfl ((Hu S).nodup_iff.2 a)).2 p.1 p.2];exact Cd.2 λg=>h ((Hu S).mem_iff.1 (Pw.1 g))
end Go.Proofs.YthinbkgpjmjfeaaGreatDoor.Sh
