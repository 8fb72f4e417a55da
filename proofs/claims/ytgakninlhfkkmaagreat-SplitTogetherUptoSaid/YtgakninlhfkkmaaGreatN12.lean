/- A part of the proof (part 12 of 18). -/
import Derived.Test.YtgakninlhfkkmaaGreatN11
import Derived.Sort.Grow
import Derived.Deep.Draws
import Derived.Shelf.SlSortCmp.WholeK
import Derived.Test.YtgakninlhfkkmaaGreatProg
import Derived.Sort.LotA
namespace Go.Proofs.YtgakninlhfkkmaaGreat.Sh
open Go.Proofs.Tryz
abbrev Tq:=@cr.nrm_all
abbrev qW:=@Cp.cons
abbrev vK:=@Rd.zero
abbrev vX:=@Cp.nil
abbrev wb:=@AP.nrm_cells
abbrev wm:=@Cp.rd
open Proofs
set_option maxRecDepth 10000
set_option maxHeartbeats 4000000
theorem jC(a b c d:Int):CS prog [.int .i64 a,.int .i64 b] [.int .i64 c,.int .i64 d] (Bt prog 89)=some (a==c&&b==d):=by
 rw[Ch,cj];have f:(L6 prog 3).isSome=true:=by simp[go_sem]
 have g:Br prog 3=1:=by simp[go_sem]
 have e:Gl prog 3=some false:=by simp[go_sem]
 have one:∀x y:Int,DX prog 3 (.int .i64 x) (.int .i64 y)=some (x==y):=λx y=>by simp[DX,f,g,e]
 simp only[DG,qn,if_false,vw,List.getElem?_cons_succ,one];cases h1:(a==c)<;>cases h2:(b==d)<;>simp
def zD:AG:=⟨[],z0,[],HL⟩
theorem Fy(n:Nat)(E:AG)(e:Int):cc n (.tup [E.e,AA e])=true:=by
 simp[AG.e,AF.g,AI.g,cc,ca,AB.E.ca,Bi.E.ca,Bs.E.ca,AM.E.ca,BC.E.ca,A7.E.ca,GQ.E.ca,A9.E.ca,GY.E.ca]
section
variable(u:AF->Bool)(w:Bool)(sc:BH)
end
theorem L9:∀l:List AB,AB.U l=l.flatMap AB.us
 | []=>by rw[AB.U];rfl
 | x::l=>by rw[AB.U,L9 l];rfl
theorem Ji:∀l:List AP,AP.U l=l.flatMap AP.us
 | []=>by rw[AP.U];rfl
 | x::l=>by rw[AP.U,Ji l];rfl
theorem LN:∀l:List cr,cr.U l=l.flatMap cr.us
 | []=>by rw[cr.U];rfl
 | x::l=>by rw[cr.U,LN l];rfl
def gR(rev nx:Int)(mid:Bool)(h:AF):AF:=if mid then E3 (λy=>y==rev) nx h else h
theorem OC{r:BC}(h:Cn r=0):1<=r.id:=by
 unfold Cn at h;split at h;cases h;omega
section
variable(g:AF->AF)
end
theorem AB.qF(x:AB):AB.N x=.mk x.k x.code x.id x.x x.H (AO x.W) ((x.R.map AP.N).filter λr=>!decide (r.cells.length=0)):=by cases x;rw[AB.N,AP.qA];rfl
theorem AP.qF(x:AP):AP.N x=.mk x.H (x.cells.map cr.N):=by cases x;rw[AP.N,Ta];rfl
theorem cr.qF(x:cr):cr.N x=.mk x.id x.H (AO x.W):=by cases x;rw[cr.N];rfl
def wf(hp:AF->Prop)(T:Int->Prop):Nat->List AB->Prop
 | 0,_=>False
 | N+1,l=>∀x∈l,hp x.H/\(x.k≠6->x.W=[])/\(x.k≠7->x.R=[])/\(x.k=7->x.R≠[])/\(x.k=6->T x.id)/\wf hp T N x.W/\∀r∈x.R,hp r.H/\r.cells≠[]/\∀c∈r.cells,T c.id/\hp c.H/\wf hp T N c.W
structure bG(hp:AF->Prop)(T:Int->Prop)(N:Nat)(x:AB):Prop where
 H:hp x.H
 k6:x.k≠6->x.W=[]
 k7:x.k≠7->x.R=[]
 ne:x.k=7->x.R≠[]
 id:x.k=6->T x.id
 W:wf hp T N x.W
 R:∀r∈x.R,hp r.H/\r.cells≠[]/\∀c∈r.cells,T c.id/\hp c.H/\wf hp T N c.W
section
variable{hp hp':AF->Prop}{T T':Int->Prop}
theorem DR{N:Nat}{l:List AB}:wf hp T (N+1) l↔∀x∈l,bG hp T N x:=
 ⟨λH x h=>let⟨a,b,c,d,e,f,g⟩:=H x h;⟨a,b,c,d,e,f,g⟩,λH x h=>let⟨a,b,c,d,e,f,g⟩:=H x h;⟨a,b,c,d,e,f,g⟩⟩
theorem Qa(j:∀x,hp x->hp' x)(ht:∀i,T i->T' i):∀{N:Nat} {l:List AB},wf hp T N l->wf hp' T' N l
 | 0,_,h=>h.elim
 | N+1,l,H=>DR.2 λx n=>by
  obtain⟨a,b,c,d,e,f,g⟩:=DR.1 H x n;exact⟨j _ a,b,c,d,λk=>ht _ (e k),Qa j ht f,λr m=>⟨j _ (g r m).1,(g r m).2.1,λc hc=>⟨ht _ ((g r m).2.2 c hc).1,j _ ((g r m).2.2 c hc).2.1,Qa j ht ((g r m).2.2 c hc).2.2⟩⟩⟩
theorem SX{N:Nat}(x:AB)(t:ByteArray)(H:bG hp T N x):bG hp T N (.mk x.k x.code x.id t x.H x.W x.R):=by
 obtain⟨a,b,c,d,e,f,g⟩:=H;exact⟨a,b,c,d,e,f,g⟩
theorem Jl:∀{N:Nat} {l:List AB},wf hp T N l->wf hp T N (AO l)
 | 0,_,h=>h.elim
 | N+1,l,H=>by
  rw[DR]at H ⊢;unfold AO Cy;rw[Ve];refine Gr (p:=bG hp T N) SX _ _ (λy i=>by cases i) λy i=>?_;obtain⟨x,j,rfl⟩:=ql.1 i;obtain⟨a,b,c,d,e,f,q⟩:=H x j;have g:=GG λr g=>(q r g).2.1;rw[AB.qF,g];refine⟨a,λk=>?_,λk=>?_,λk=>?_,e,Jl f,λr g=>?_⟩;show AO x.W=[];rw[b k];rfl;show x.R.map _=[];rw[c k];rfl;show x.R.map _≠[];simpa using d k;obtain⟨r0,h0,rfl⟩:=ql.1 g;obtain⟨u,v,w⟩:=q r0 h0;rw[AP.qF];refine⟨u,by show r0.cells.map _≠[];simpa using v,λc hc=>?_⟩;obtain⟨c0,h1,rfl⟩:=ql.1 hc;obtain⟨m,n,o⟩:=w c0 h1;rw[cr.qF];exact⟨m,n,Jl o⟩
theorem Ts(N:Nat):wf hp T (N+1) []:=λx a=>by cases a
theorem Um{m2:List Int}{K:Nat}:∀{N:Nat} {l:List AB},Xr m2 N l->Dq hp K N l->(∀i∈GU N l,T i)->wf (λh=>hp h/\Hd m2 h) T N l
 | 0,_,_,h,_=>h.elim
 | N + 1, l, hk, hl, hT => DR.2 fun x hx => by
  obtain⟨⟨f6,f7,_⟩,m,j,e,d⟩:=hk x hx;obtain⟨n,g,_,f⟩:=hl.2.2 x hx;have hI:∀i∈GT N x,T i:=λi hi=>hT i (by rw[JW];exact QD.2 ⟨x,hx,hi⟩);have nil:wf (λh=>hp h/\Hd m2 h) T N []:=by
   cases N with
   | zero=>exact g.elim
   | succ N=>exact Ts N
  refine⟨⟨n,m⟩,f6,f7,e,λk=>hI _ (by simp[GT,k]),?_,λr a=>?_⟩;by_cases k6:x.k=6;exact Um j g λi hi=>hI i (by simp[GT,k6,hi]);rw[f6 k6];exact nil;by_cases k7:x.k=7;refine⟨⟨(f r a).1,(d r a).1.1⟩,(d r a).1.2,λc hc=>?_⟩;have b:∀i,i=c.id\/i∈GU N c.W->T i:=λi hi=>hI i (by
   simp only[GT,k7,show ¬(7:Int)=6 by decide,if_false,if_true];refine Q9 _ (QD.2 ⟨r,a,QD.2 ⟨c,hc,qt.2 hi⟩⟩))
  exact⟨b _ (.inl rfl),⟨((f r a).2.2 c hc).1,((d r a).2 c hc).1⟩,Um ((d r a).2 c hc).2 ((f r a).2.2 c hc).2 λi hi=>b i (.inr hi)⟩;rw[f7 k7]at a;cases a
end
section
variable{hp:AF->Prop}{T:Int->Prop}(g:Bool->AF->AF)
end
section
variable{hp0:AF->Prop}{m2:List Int}{g g':Bool->AF->AF}
end
section
variable{E:CC}{P:Program}{N:Nat}{code:Code}{Q:Cu}{sa:SA}{h h':Hp}{n n':Nat}{c:Cx}
theorem k9(hn:n<=n')(hg:∀c,CF h c->Fr n c->∃b:Cx,b.w=c.w/\EH c b/\CF h' b/\Fr n' b/\∀j,j<n->b.ρ j=c.ρ j)(H:Ic E P N code Q sa h' n'):Ic E P N code Q sa h n:=by
 intro r c a I R F A;obtain⟨b,hw,X,m,l,hρ⟩:=hg c R F;rw[<-hw];refine wpIn_mono (H r b a (E.ext X I) m l (A.ext X)) ?_;rintro e a' w' ⟨i,h2,t,p,q,g,o,d,k,f⟩;exact⟨i,h2,t,p,q,g,o,d,k,⟨X.trans f.ext,qI hn f.le,λj s=>(f.same j (by omega)).trans (hρ j s)⟩⟩
theorem CF.pack{p q z:Nat}{es:List SV}{full:Bool}{ty ty2:Option TypeId}(R:CF h c)(hp:h p=some (.cells [.sl q 0 z es.length full] ty))(G:h q=some (.cells (es.flatMap SV.cells) ty2))(N:es≠[])(C:p≠q):
 ∃k:Cx,k.w=c.w/\k.ρ=c.ρ/\EH c k/\CF (h_ (h_ h p (some (.list z es))) q none) k:=by
 obtain⟨b,st,arr,e,vs,a1,a2,a3,a4,a5,_⟩:=R.obj p _ hp;obtain⟨B,I,u,d,us,b1,S,W,Y,Z,_⟩:=R.obj q _ G;obtain⟨v,rfl,T⟩:=a4.single;rw[V]at T;obtain⟨B',st',cap,c1,c2,c3,_,c5⟩:=T;rw[b1]at c1;cases c1;have O:rm c.w B=u.size:=by simp[rm,S]
 rw[O]at c5;obtain⟨k,t⟩:∃k:Cx,k={ c with bk:=λj=>if j=p then some B else c.bk j }:=⟨_,rfl⟩
 have r:k.w=c.w:=by rw[t]
 have D:k.ρ=c.ρ:=by rw[t]
 have U:k.own=c.own:=by rw[t]
 have E:∀j,k.bk j=if j=p then some B else c.bk j:=λj=>by rw[t]
 have X:EH c k:=⟨λ_ _ e=>by rw[D];exact e,by rw[r];exact qa _,λb _ ho=>⟨by rw[U];exact ho,by rw[r]⟩,λ_=>by rw[r];exact qa _,by rw[r],by rw[r],by rw[r];exact⟨rfl,qa _⟩⟩
 have get:∀j y,h_ (h_ h p (some (.list z es))) q none j=some y->(j=p/\y=.list z es)\/(j≠p/\j≠q/\h j=some y):=λj y e=>by
  simp only[h_]at e;split at e;cases e;split at e;cases e;exact .inl ⟨by assumption,rfl⟩;exact .inr ⟨by assumption,by assumption,e⟩
 have f:∀j y a,j≠p->BV k j y a->BV c j y a:=λj y a l H=>by
  simp only[BV,D,E,l,if_false]at H;exact H
 have A:∀a,BV k p (.list z es) a->a=b\/a=B:=λa H=>by
  rcases H with⟨s,H⟩|⟨_,H⟩
  rw[D,a1]at H;cases H;exact .inl rfl;rw[E,if_pos rfl]at H;cases H;exact .inr rfl
 have m:∀j y a,j≠p->j≠q->h j=some y->BV c j y a->a≠b/\a≠B:=λj y a h1 h2 e H=>
  ⟨λg=>h1 (R.inj2 j p y _ a e hp H (.inl ⟨st,by rw[g];exact a1⟩)),λg=>h2 (R.inj2 j q y _ a e G H (.inl ⟨I,by rw[g];exact b1⟩))⟩
 refine⟨k,r,D,X,⟨λj y J=>?_,λi j y F a n d K L=>?_,λa=>?_⟩⟩;rcases get j y J with⟨rfl,rfl⟩|⟨l,_,J⟩
 refine⟨b,st,arr,e,v,by rw[D];exact a1,by rw[r];exact a2,by simpa using a3 0 v rfl,a5 v (by simp),.inr ⟨B,I+0,u,d,us,cap,N,λg=>C (R.inj j q _ _ b st I hp G a1 (by rw[<-g];exact b1)),by rw[E,if_pos rfl],by rw[r];exact S,c2,c3,by omega,λi x hx=>by simpa using W i x hx,wa X Y,Z⟩⟩;exact(R.obj j y J).mono X (λ_ _=>by rw[r]) (by rw[E,if_neg l]);rcases get i y n with⟨rfl,rfl⟩|⟨hi,M,f1⟩
 rcases get j F d with⟨rfl,rfl⟩|⟨l,o,f2⟩
 rfl;obtain⟨P,Q⟩:=m j F a l o f2 (f j F a l L);rcases A a K with g|g;exact absurd g P;exact absurd g Q;rcases get j F d with⟨rfl,rfl⟩|⟨l,o,f2⟩
 obtain⟨P,Q⟩:=m i y a hi M f1 (f i y a hi K);rcases A a L with g|g;exact absurd g P;exact absurd g Q;exact R.inj2 i j y F a f1 f2 (f i y a hi K) (f j F a l L);rw[U,R.own2 a];constructor;rintro⟨j,y,n,d⟩;by_cases l:j=p;subst l;rw[hp]at n;cases n;rcases d with⟨s,d⟩|⟨d,_⟩
 exact⟨j,.list z es,by simp[h_,C],.inl ⟨s,by rw[D];exact d⟩⟩;cases d;by_cases o:j=q;subst o;rw[G]at n;cases n;rcases d with⟨s,d⟩|⟨d,_⟩
 rw[b1]at d;cases d;exact⟨p,.list z es,by simp[h_,C],.inr ⟨rfl,by rw[E,if_pos rfl]⟩⟩;cases d;exact⟨j,y,by simp[h_,l,o,n],by simpa only[BV,D,E,l,if_false]using d⟩;rintro⟨j,y,n,d⟩;rcases get j y n with⟨rfl,rfl⟩|⟨l,_,n⟩
 rcases A a d with rfl|rfl;exact⟨j,_,hp,.inl ⟨st,a1⟩⟩;exact⟨q,_,G,.inl ⟨I,b1⟩⟩;exact⟨j,y,n,f j y a l d⟩
theorem CF.unpack{p k z:Nat}{es:List SV}(R:CF h c)(Q:c.ρ k=none)(hp:h p=some (.list z es))(W:es≠[]):
 ∃m:Cx,m.w=c.w/\(∀j,j≠k->m.ρ j=c.ρ j)/\EH c m/\CF (h_ (h_ h p (some (.cells [.sl k 0 z es.length false]))) k (some (.cells (es.flatMap SV.cells)))) m:=by
 have K:=R.none_of Q;have O:p≠k:=by rintro rfl;rw[hp]at K;cases K
 obtain⟨b,st,arr,e,v,a1,a2,a3,a4,⟨g,_⟩|⟨B,P,G,n,us,cap,_,N,b1,b2,c2,c3,c5,b3,b4,b5⟩⟩:=R.obj p _ hp;exact absurd g W;obtain⟨m,E⟩:∃m:Cx,m={ c with ρ:=λj=>if j=k then some (B,P)else c.ρ j,bk:=λj=>if j=p then none else c.bk j }:=⟨_,rfl⟩
 have C:m.w=c.w:=by rw[E]
 have A:∀j,m.ρ j=if j=k then some (B,P)else c.ρ j:=λj=>by rw[E]
 have ko:m.own=c.own:=by rw[E]
 have Z:∀j,m.bk j=if j=p then none else c.bk j:=λj=>by rw[E]
 have X:EH c m:=⟨λj q e=>by rw[A];split;(subst_vars;rw[Q]at e;cases e);exact e,by rw[C];exact qa _,λb _ ho=>⟨by rw[ko];exact ho,by rw[C]⟩,λ_=>by rw[C];exact qa _,by rw[C],by rw[C],by rw[C];exact⟨rfl,qa _⟩⟩
 have Y:rm m.w B=G.size:=by rw[C];simp[rm,b2]
 have get:∀j y,h_ (h_ h p (some (.cells [.sl k 0 z es.length false]))) k (some (.cells (es.flatMap SV.cells))) j=some y->(j=k/\y=.cells (es.flatMap SV.cells))\/(j=p/\y=.cells [.sl k 0 z es.length false])\/(j≠p/\j≠k/\h j=some y):=λj y e=>by
  simp only[h_]at e;split at e;cases e;exact .inl ⟨by assumption,rfl⟩;split at e;cases e;exact .inr (.inl ⟨by assumption,rfl⟩);exact .inr (.inr ⟨by assumption,by assumption,e⟩)
 have f:∀j y a,j≠p->j≠k->BV m j y a->BV c j y a:=λj y a l Q H=>by
  simp only[BV,A,Z,l,Q,if_false]at H;exact H
 have o:∀a,BV m k (.cells (es.flatMap SV.cells)) a->BV c p (.list z es) a/\a=B:=λa H=>by
  rcases H with⟨s,H⟩|⟨H,_⟩
  rw[A,if_pos rfl]at H;cases H;exact⟨.inr ⟨rfl,b1⟩,rfl⟩;cases H
 have r:∀a,BV m p (.cells [.sl k 0 z es.length false]) a->BV c p (.list z es) a/\a=b:=λa H=>by
  rcases H with⟨s,H⟩|⟨H,_⟩
  rw[A,if_neg O,a1]at H;cases H;exact⟨.inl ⟨st,a1⟩,rfl⟩;cases H
 have D:∀j y a,h j=some y->BV c p (.list z es) a->BV c j y a->j=p:=λj y a e L H2=>R.inj2 j p y _ a e hp H2 L;refine⟨m,C,λj l=>by rw[A,if_neg l],X,⟨λj y T=>?_,λi j y F a u n M I=>?_,λa=>?_⟩⟩;rcases get j y T with⟨rfl,rfl⟩|⟨rfl,rfl⟩|⟨l,d,T⟩
 exact⟨B,P,G,n,us,by rw[A,if_pos rfl],by rw[C];exact b2,b3,wa X b4,b5,λt h=>by cases h⟩;refine⟨b,st,arr,e,[v],by rw[A,if_neg O];exact a1,by rw[C];exact a2,λi x S=>?_,⟨?_,trivial⟩,λx S=>?_,λt h=>by cases h⟩;cases i with
 | zero=>cases S;exact a3
 | succ i=>simp at S
 rw[V];exact⟨B,P,cap,by rw[A,if_pos rfl],c2,c3,by simp,by rw[Y];omega⟩;rw[qy.1 S];exact a4;exact(R.obj j y T).mono X (λ_ _=>by rw[C]) (by rw[Z,if_neg l]);rcases get i y u with⟨rfl,rfl⟩|⟨rfl,rfl⟩|⟨hi,J,f1⟩
 obtain⟨L,U⟩:=o a M;rcases get j F n with⟨rfl,rfl⟩|⟨rfl,rfl⟩|⟨l,d,f2⟩
 rfl;exact absurd ((r a I).2.symm.trans U).symm N;exact absurd (D j F a f2 L (f j F a l d I)) l;obtain⟨L,U⟩:=r a M;rcases get j F n with⟨rfl,rfl⟩|⟨rfl,rfl⟩|⟨l,d,f2⟩
 exact absurd ((o a I).2.symm.trans U) N;rfl;exact absurd (D j F a f2 L (f j F a l d I)) l;rcases get j F n with⟨rfl,rfl⟩|⟨rfl,rfl⟩|⟨l,d,f2⟩
 exact absurd (D i y a f1 (o a I).1 (f i y a hi J M)) hi;exact absurd (D i y a f1 (r a I).1 (f i y a hi J M)) hi;exact R.inj2 i j y F a f1 f2 (f i y a hi J M) (f j F a l d I);rw[ko,R.own2 a];constructor;rintro⟨j,y,u,n⟩;have d:j≠k:=by rintro rfl;rw[K]at u;cases u
 by_cases l:j=p;subst l;rw[hp]at u;cases u;rcases n with⟨s,n⟩|⟨_,n⟩
 exact⟨j,_,by simp only[h_,d,if_false,if_true];rfl,.inl ⟨s,by rw[A,if_neg d];exact n⟩⟩;rw[b1]at n;cases n;exact⟨k,_,by simp only[h_,if_true];rfl,.inl ⟨P,by rw[A,if_pos rfl]⟩⟩;exact⟨j,y,by simp[h_,l,d,u],by simpa only[BV,A,Z,l,d,if_false]using n⟩;rintro⟨j,y,u,n⟩;rcases get j y u with⟨rfl,rfl⟩|⟨rfl,rfl⟩|⟨l,d,u⟩
 exact⟨p,_,hp,(o a n).1⟩;exact⟨j,_,hp,(r a n).1⟩;exact⟨j,y,u,f j y a l d n⟩
theorem CF.swap0{p:Nat}{x y:Bb}(R:CF h c)(hp:h p=some x)(B:∀b,BV c p x b->∃st,c.ρ p=some (b,st))(H:∀a:Cx,a.w=c.w->a.ρ=c.ρ->a.bk p=none->EH c a->EJ a p y):
 ∃a:Cx,a.w=c.w/\a.ρ=c.ρ/\EH c a/\CF (h_ h p (some y)) a:=by
 obtain⟨a,f⟩:∃a:Cx,a={ c with bk:=λj=>if j=p then none else c.bk j }:=⟨_,rfl⟩
 have g:a.w=c.w:=by rw[f]
 have l:a.ρ=c.ρ:=by rw[f]
 have t:a.own=c.own:=by rw[f]
 have o:∀j,a.bk j=if j=p then none else c.bk j:=λj=>by rw[f]
 have X:EH c a:=⟨λ_ _ e=>by rw[l];exact e,by rw[g];exact qa _,λb _ A=>⟨by rw[t];exact A,by rw[g]⟩,λ_=>by rw[g];exact qa _,by rw[g],by rw[g],by rw[g];exact⟨rfl,qa _⟩⟩
 have get:∀j z,h_ h p (some y) j=some z->∃z0,h j=some z0/\(∀b,BV a j z b->BV c j z0 b)/\(j=p/\z=y\/j≠p/\z=z0):=λj z e=>by
  simp only[h_]at e;split at e;rename_i d;cases e;subst d;refine⟨x,hp,λb H=>?_,.inl ⟨rfl,rfl⟩⟩;rcases H with⟨s,H⟩|⟨_,H⟩
  exact .inl ⟨s,by rw[<-l];exact H⟩;rw[o,if_pos rfl]at H;cases H;rename_i d;exact⟨z,e,λb H=>by simpa only[BV,l,o,d,if_false]using H,.inr ⟨d,rfl⟩⟩
 refine⟨a,g,l,X,⟨λj z e=>?_,λi j z D b k m q u=>?_,λb=>?_⟩⟩;obtain⟨z0,n,_,⟨rfl,rfl⟩|⟨d,rfl⟩⟩:=get j z e;exact H a g l (by rw[o,if_pos rfl]) X;exact(R.obj j z n).mono X (λ_ _=>by rw[g]) (by rw[o,if_neg d]);obtain⟨z0,n,r,_⟩:=get i z k;obtain⟨E,v,C,_⟩:=get j D m;exact R.inj2 i j z0 E b n v (r b q) (C b u);rw[t,R.own2 b];constructor;rintro⟨j,z,k,m⟩;by_cases d:j=p;subst d;rw[hp]at k;cases k;obtain⟨s,q⟩:=B b m;exact⟨j,y,by simp[h_],.inl ⟨s,by rw[l];exact q⟩⟩;exact⟨j,z,by simp[h_,d,k],by simpa only[BV,l,o,d,if_false]using m⟩;rintro⟨j,z,k,m⟩;obtain⟨z0,n,r,_⟩:=get j z k;exact⟨j,z0,n,r b m⟩
theorem CF.pack0{p z:Nat}{ty:Option TypeId}(R:CF h c)(hp:h p=some (.cells [.i 0 [] true] ty)):∃a:Cx,a.w=c.w/\a.ρ=c.ρ/\EH c a/\CF (h_ h p (some (.list z []))) a:=by
 refine R.swap0 hp (λb H=>H.elim id λg=>by cases g.1) λa j i f X=>?_;obtain⟨b,st,arr,e,vs,a1,a2,a3,a4,a5,_⟩:=R.obj p _ hp;obtain⟨v,rfl,d⟩:=a4.single;exact⟨b,st,arr,e,v,by rw[i];exact a1,by rw[j];exact a2,by simpa using a3 0 v rfl,a5 v (by simp),.inl ⟨rfl,f,d.mono X⟩⟩
theorem CF.unpack0{p z:Nat}(R:CF h c)(hp:h p=some (.list z [])):∃a:Cx,a.w=c.w/\a.ρ=c.ρ/\EH c a/\CF (h_ h p (some (.cells [.i 0 [] true]))) a:=by
 obtain⟨b,st,arr,e,v,a1,a2,a3,a4,⟨_,b1,f⟩|⟨B,sB,arr2,e2,us,cap,g,_⟩⟩:=R.obj p _ hp;refine R.swap0 hp (λb H=>H.elim id λg=>by rw[b1]at g;cases g.2) λa k j kb X=>?_;refine⟨b,st,arr,e,[v],by rw[j];exact a1,by rw[k];exact a2,λi x d=>?_,⟨f.mono X,trivial⟩,λx d=>?_,λt h=>by cases h⟩;cases i with
 | zero=>cases d;exact a3
 | succ i=>simp at d
 rw[qy.1 d];exact a4;exact absurd rfl g
theorem nO(p z:Nat)(ty:Option TypeId)(hp:h p=some (.cells [.i 0 [] true] ty))(H:Ic E P N code Q sa (h_ h p (some (.list z []))) n):Ic E P N code Q sa h n:=
 k9 (qa _) (λ_ R F=>let⟨c',e1,e2,X,R'⟩:=R.pack0 hp;⟨c',e1,X,R',λj a=>by rw[e2];exact F j a,λj _=>by rw[e2]⟩) H
theorem mM(p z:Nat)(hp:h p=some (.list z []))(H:Ic E P N code Q sa (h_ h p (some (.cells [.i 0 [] true]))) n):Ic E P N code Q sa h n:=
 k9 (qa _) (λ_ R F=>let⟨c',e1,e2,X,R'⟩:=R.unpack0 hp;⟨c',e1,X,R',λj a=>by rw[e2];exact F j a,λj _=>by rw[e2]⟩) H
theorem mZ(p z:Nat)(es:List SV)(hp:h p=some (.list z es))(a:es≠[])(H:Ic E P N code Q sa (h_ (h_ h p (some (.cells [.sl n 0 z es.length false]))) n (some (.cells (es.flatMap SV.cells)))) (n+1)):Ic E P N code Q sa h n:=
 k9 (Zc _) (λ_ R F=>let⟨c',e1,e2,X,R'⟩:=R.unpack (F n (qa _)) hp a;⟨c',e1,X,R',λj b=>by rw[e2 j (by omega)];exact F j (by omega),λj b=>e2 j (by omega)⟩) H
end
section
variable{E:CC}{P:Program}{N:Nat}{code:Code}{Q:Cu}{sa:SA}{G:Hp}{n m p z:Nat}{es:List SV}
theorem mn(p:Nat)(b:∀e∈es,e.B=true/\e.cells.length=z)(hp:G p=some (.list z es))(H:∀o m,n<=m->BR n m z o es->(es=[]->o=none)->Ic E P N code Q sa (AV o es (h_ G p (some (.cells [AW z o es])))) m):Ic E P N code Q sa G n:=by
 by_cases a:es=[];subst a;refine mM p z hp ?_;exact H none n (qa _) (vA _ _ _) λ_=>rfl;refine mZ p z es hp a ?_;exact H (some n) (n+1) (Zc _) ⟨by simp,λj e=>by cases e;omega,b⟩ λg=>absurd g a
end
def oC:Tr:=.pure 1<|.pure 2<|.two 0 3 (.one 3<|.one 4<|.one 5 .nil) (.one 0<|.one 4<|.one 5 .nil)
theorem mj{α:Type}{f g:α->Nat}:∀{l:List α},(∀x∈l,f x<=g x)->(l.map f).sum<=(l.map g).sum
 | [],_=>by simp
 | a::l,h=>by
  have h1:=h a (by simp);have h2:=mj (l:=l) λx b=>h x (by simp[b]);simp only[qr,XW];omega
theorem mJ{α:Type}(f:α->Nat):∀l:List α,2*(l.map f).sum=(l.map λx=>2*f x).sum
 | []=>rfl
 | a::l=>by
  have:=mJ f l;simp only[qr,XW];omega
def wN:Nat->List AB->Nat
 | 0,_=>0
 | N+1,l=>(l.map λx=>1+wN N x.W+(x.R.map λr=>1+(r.cells.map λc=>1+wN N c.W).sum).sum).sum
def wC(N:Nat)(c:cr):Nat:=1+wN N c.W
def wR(N:Nat)(r:AP):Nat:=1+(r.cells.map (wC N)).sum
def wI(N:Nat)(x:AB):Nat:=1+wN N x.W+(x.R.map (wR N)).sum
theorem nM(N:Nat)(l:List AB):wN (N+1) l=(l.map (wI N)).sum:=rfl
theorem oF{hp:AF->Prop}{T:Int->Prop}:∀{N:Nat} {l:List AB},wf hp T N l->wN N l<=2*Tm N l
 | 0,_,h=>h.elim
 | N + 1, l, H => by
  have H:=DR.1 H;have e:2*Tm (N+1) l=(l.map λx=>2*(1+Tm N x.W+QW N x.R)).sum:=mJ _ l;rw[e,nM];refine mj λx b=>?_;have b:=H x b;have h1:=oF b.W;have h2:(x.R.map (wR N)).sum<=2*QW N x.R:=by
   have d:2*QW N x.R=(x.R.map λr=>2*Tn N r.cells).sum:=mJ _ x.R;rw[d];refine mj λr i=>?_;obtain⟨_,u,v⟩:=b.R r i;have f:∀l:List cr,(∀c∈l,wN N c.W<=2*Tm N c.W)->(l.map (wC N)).sum+l.length<=2*Tn N l:=λl=>by
    induction l with
    | nil=>intro _;simp[Tn]
    | cons a l ih=>
     intro h;have j:=ih λc hc=>h c (by simp[hc]);have i2:=h a (by simp);simp only[Tn,qr,XW,qJ,wC]at j ⊢;omega
   have:=f r.cells λc hc=>oF (v c hc).2.2;have:r.cells.length≠0:=λg=>u (vu g);unfold wR;omega
  unfold wI;omega
section
variable{hp:AF->Prop}{T:Int->Prop}{σ:Type}{f:σ->CI->AF×Bool×σ}{rk:σ->Nat}{c:Nat}
theorem lQ{α β:Type}{G:β×σ->α->β×σ}{v:α->Nat}{k:Nat}:∀(l:List α)(q:β×σ),(∀x∈l,∀q,rk (G q x).2<=rk q.2+k*v x)->rk (l.foldl G q).2<=rk q.2+k*(l.map v).sum
 | [],_,_=>by simp
 | x::l,q,h=>by
  have h1:=lQ l (G q x) λy a=>h y (by simp[a]);have h2:=h x (by simp) q;simp only[J5,qr,XW,Nat.mul_add];omega
theorem n7{fl:Int->List AB->BH->Bool->σ->List AB×σ}{sc:BH}{mid:Bool}{N k:Nat}{l:List AB}(c:∀s p,hp p.H->rk (f s p).2.2<=rk s+k)(H:wf hp T (N+1) l)
 (b:∀id l,T id->wf hp T N l->∀s,rk (fl id l sc mid s).2<=rk s+k*wN N l) (s:σ):rk (kh f fl sc mid l s).2<=rk s+k*wN (N+1) l:=by
 rw[nM];refine lQ (G:=mP f fl sc mid) l ([],s) λx m q=>?_;obtain⟨a,_,_,_,e,g,o⟩:=DR.1 H x m;have h1:=c q.2 ⟨x.H,mid,(BF [x]).1⟩ a;have h2:∀s,rk (oQ fl sc mid x s).2<=rk s+k*wN N x.W:=λs=>by
  unfold oQ;split;rename_i k6;exact b _ _ (e k6) g s;exact Nat.le_add_right _ _
 have h:∀s,rk (lp f fl sc mid x.R s).2<=rk s+k*(x.R.map (wR N)).sum:=λs=>by
  refine lQ (G:=kP f fl sc mid) x.R ([],s) λr j q=>?_;obtain⟨u,_,w⟩:=o r j;have i1:=c q.2 ⟨r.H,mid,1⟩ u;have n:∀s,rk (lE f fl sc mid r.cells s).2<=rk s+k*(r.cells.map (wC N)).sum:=λs=>by
   refine lQ (G:=kM f fl sc mid) r.cells ([],s) λd i q=>?_;obtain⟨t,u,w⟩:=w d i;have j1:=c q.2 ⟨d.H,mid,1⟩ u;have j2:=b _ _ t w (f q.2 ⟨d.H,mid,1⟩).2.2;show rk (fl d.id d.W sc mid (f q.2 ⟨d.H,mid,1⟩).2.2).2<=_;unfold wC;rw[Nat.mul_add];omega
  have i3:=n (f q.2 ⟨r.H,mid,1⟩).2.2;show rk (lE f fl sc mid r.cells (f q.2 ⟨r.H,mid,1⟩).2.2).2<=_;unfold wR;rw[Nat.mul_add];omega
 have h4:=h2 (f q.2 ⟨x.H,mid,(BF [x]).1⟩).2.2;have h5:=h (oQ fl sc mid x (f q.2 ⟨x.H,mid,(BF [x]).1⟩).2.2).2;show rk (lp f fl sc mid x.R (oQ fl sc mid x (f q.2 ⟨x.H,mid,(BF [x]).1⟩).2.2).2).2<=_;unfold wI;rw[Nat.mul_add,Nat.mul_add];omega
theorem lF{k:Nat}(b:∀s p,hp p.H->rk (f s p).2.2<=rk s+k)(a:∀i,T i->i ≠ -1):∀(N:Nat)(id:Int)(l:List AB)(mid:Bool)(s:σ),wf hp T N l->(mid=true\/id ≠ -1)->rk (ch f N id l Sd mid s).2<=rk s+k*wN N l
 | 0,_,_,_,_,h,_=>h.elim
 | N+1,id,l,mid,s,H,hid=>by
  have c:¬(id=Sd.id/\mid=false):=by rcases hid with rfl|h<;>simp[Sd, *]
  rw[ch,if_neg c];exact n7 b H (λid l t w s=>lF b a N id l mid s w (.inr (a _ t))) s
end
theorem Ln{Z:List AB}{x:AB}(a:¬BS x):AQ Z x=match Z.getLast? with
 | some y=>if x.k=1/\y.k=1/\y.H=x.H then Z.dropLast++[y.cz x.x]else Z++[x]
 | none=>Z++[x]:=by unfold AQ;rw[if_neg a];cases Z.getLast? <;> rfl
theorem Xy(z:AB)(s t:ByteArray):(z.cz s).cz t=z.cz (s++t):=by
 unfold AB.cz;show AB.mk _ _ _ (z.x++s++t) _ _ _=_;rw[ByteArray.append_assoc];rfl
theorem TO{Z:List AB}{w x:AB}(hw:¬BS w)(a:¬BS x)(k:x.k=1/\w.k=1/\w.H=x.H):AQ (AQ Z w) x=AQ Z (w.cz x.x):=by
 have nd:¬BS (w.cz x.x):=λc=>by
  rcases c with c|c;have:(w.cz x.x).k=w.k:=rfl;rw[this,k.2.1]at c;exact absurd c.1 (by decide);refine hw (.inr ⟨k.2.1,?_⟩);have:(w.x++x.x).size=0:=c.2;rw[XJ]at this;omega
 have a1:(w.cz x.x).k=w.k/\(w.cz x.x).H=w.H/\(w.cz x.x).x=w.x++x.x:=⟨rfl,rfl,rfl⟩
 have step:∀(Y:List AB)(y:AB),y.k=1->y.H=x.H->AQ (Y++[y]) x=Y++[y.cz x.x]:=λY y h1 h2=>by
  rw[Ln a,List.getLast?_concat];dsimp only;rw[if_pos ⟨k.1,h1,h2⟩,List.dropLast_concat]
 rw[Ln hw,Ln nd,a1.1,a1.2.1,a1.2.2];cases hl:Z.getLast? with
 | none=>exact step Z w k.2.1 k.2.2
 | some z=>
  dsimp only;by_cases c:w.k=1/\z.k=1/\z.H=w.H;rw[if_pos c,if_pos c,step _ _ (show(z.cz w.x).k=1 from c.2.1) (show(z.cz w.x).H=x.H by show z.H=_;rw[c.2.2,k.2.2]),Xy];rw[if_neg c,if_neg c];exact step Z w k.2.1 k.2.2
def F3(P Q:List AB):Prop:=∀Z,(P.map AB.N).foldl AQ Z=(Q.map AB.N).foldl AQ Z
theorem F3.refl(P:List AB):F3 P P:=λ_=>rfl
theorem F3.symm{P Q:List AB}(h:F3 P Q):F3 Q P:=λZ=>(h Z).symm
theorem F3.trans{P Q R:List AB}(h:F3 P Q)(g:F3 Q R):F3 P R:=λZ=>(h Z).trans (g Z)
theorem F3.app{P a Q b:List AB}(h:F3 P a)(g:F3 Q b):F3 (P++Q) (a++b):=λZ=>by
 rw[qc,qc,UU,UU,h,g]
theorem F3.normal{P Q:List AB}(h:F3 P Q):AO P=AO Q:=by
 unfold AO Cy;rw[Ve,Ve];exact h []
section
variable{hp:AF->Prop}{T:Int->Prop}
end
section
variable{hp:AF->Prop}{T:Int->Prop}
end
mutual
def AB.dc(δ:AF->Option AF):AB->Option AB
 | .mk k c i t h f r=>(δ h).map λh'=>.mk k c i t h' (AB.dcL δ f) (AP.dcL δ r)
def AB.dcL(δ:AF->Option AF):List AB->List AB
 | []=>[]
 | x::l=>(AB.dc δ x).toList++AB.dcL δ l
def AP.dc(δ:AF->Option AF):AP->Option AP
 | .mk h c=>(δ h).map λh'=>.mk h' (cr.dcL δ c)
def AP.dcL(δ:AF->Option AF):List AP->List AP
 | []=>[]
 | x::l=>(AP.dc δ x).toList++AP.dcL δ l
def cr.dc(δ:AF->Option AF):cr->Option cr
 | .mk i h f=>(δ h).map λh'=>.mk i h' (AB.dcL δ f)
def cr.dcL(δ:AF->Option AF):List cr->List cr
 | []=>[]
 | x::l=>(cr.dc δ x).toList++cr.dcL δ l
end
theorem CN{α β:Type}(f:α->Option β)(x:α)(l:List α):(x::l).filterMap f=(f x).toList++l.filterMap f:=by
 rw[List.filterMap_cons];cases f x<;>rfl
theorem Le{α β:Type}(f:α->Option β)(a b:List α):(a++b).filterMap f=a.filterMap f++b.filterMap f:=List.filterMap_append
theorem GI{α β:Type}{f g:α->Option β}:∀{l:List α},(∀x∈l,f x=g x)->l.filterMap f=l.filterMap g
 | [],_=>rfl
 | x::l,h=>by rw[CN,CN,h x (qV ..),GI λy a=>h y (Q9 _ a)]
theorem Il{α β γ:Type}(f:β->Option γ)(g:α->β):∀l:List α,(l.map g).filterMap f=l.filterMap λx=>f (g x)
 | []=>rfl
 | x::l=>by rw[qr,CN,CN,Il f g l]
theorem He{α β γ:Type}(f:α->Option β)(g:β->γ):∀l:List α,(l.filterMap f).map g=l.filterMap λx=>(f x).map g
 | []=>rfl
 | x::l=>by rw[CN,CN,qc,He f g l];cases f x<;>rfl
section
variable(δ:AF->Option AF)
theorem AB.qG:∀l:List AB,AB.dcL δ l=l.filterMap (AB.dc δ)
 | []=>by rw[AB.dcL];rfl
 | x::l=>by rw[AB.dcL,AB.qG l,CN]
theorem AP.qG:∀l:List AP,AP.dcL δ l=l.filterMap (AP.dc δ)
 | []=>by rw[AP.dcL];rfl
 | x::l=>by rw[AP.dcL,AP.qG l,CN]
theorem cr.qG:∀l:List cr,cr.dcL δ l=l.filterMap (cr.dc δ)
 | []=>by rw[cr.dcL];rfl
 | x::l=>by rw[cr.dcL,cr.qG l,CN]
theorem AB.dc_eq(x:AB):AB.dc δ x=(δ x.H).map λh=>.mk x.k x.code x.id x.x h (AB.dcL δ x.W) (x.R.filterMap (AP.dc δ)):=by cases x;rw[AB.dc,AP.qG];rfl
theorem AP.dc_eq(x:AP):AP.dc δ x=(δ x.H).map λh=>.mk h (x.cells.filterMap (cr.dc δ)):=by cases x;rw[AP.dc,cr.qG];rfl
theorem cr.dc_eq(x:cr):cr.dc δ x=(δ x.H).map λh=>.mk x.id h (AB.dcL δ x.W):=by cases x;rw[cr.dc];rfl
end
def Cs(l:List AP):List AP:=l.filter λr=>!decide (r.cells.length=0)
theorem AB.nrm_mk(k c i:Int)(t:ByteArray)(h:AF)(f:List AB)(r:List AP):AB.N (.mk k c i t h f r)=.mk k c i t h (AO f) (Cs (r.map AP.N)):=by rw[AB.qF];rfl
theorem Hr(a b:List AP):Cs (a++b)=Cs a++Cs b:=QN ..
theorem Nj{p:AB->Option AB}(i:∀y z,p y=some z->z.k=y.k/\z.x=y.x)
 (l:∀a b:AB,a.k=1->b.k=1->a.H=b.H->(p a=none/\p b=none)\/∃z w,p a=some z/\p b=some w/\z.H=w.H)
 (j:∀y t,p (y.cz t)=(p y).map λz=>z.cz t) (n:∀y z,p y=some z->BS y->BS z):
 ∀(m o Z:List AB),(∀y∈o,¬BS y)->((m.foldl AQ o).filterMap p).foldl AQ Z=(m.filterMap p).foldl AQ ((o.filterMap p).foldl AQ Z)
 | [],_,_,_=>rfl
 | x :: m, o, Z, ho => by
  have key:((AQ o x).filterMap p).foldl AQ Z=((p x).toList).foldl AQ ((o.filterMap p).foldl AQ Z)/\∀y∈AQ o x,¬BS y:=by
   by_cases c:BS x;have d:AQ o x=o:=by unfold AQ;rw[if_pos c]
   rw[d];refine⟨?_,ho⟩;cases e:p x with
   | none=>rfl
   | some z=>
    show _=AQ _ z;unfold AQ;rw[if_pos (n x z e c)]
   have push:((o++[x]).filterMap p).foldl AQ Z=((p x).toList).foldl AQ ((o.filterMap p).foldl AQ Z)/\∀y∈o++[x],¬BS y:=by
    refine⟨by rw[Le,UU,CN,List.filterMap_nil,JP],λy A=>?_⟩;rcases qd.1 A with g|g;exact ho y g;rw[qy.1 g];exact c
   rw[Ln c];rcases List.eq_nil_or_concat o with e|⟨ys,y,e⟩
   subst e;exact push;rw[List.concat_eq_append]at e;subst e;rw[vg];dsimp only;by_cases k:x.k=1/\y.k=1/\y.H=x.H;have h:=ho y (by simp);rw[if_pos k,List.dropLast_concat];refine⟨?_,λz B=>?_⟩;rw[Le,Le,UU,UU,CN,CN,List.filterMap_nil,JP,JP,j];rcases l y x k.2.1 k.1 k.2.2 with⟨d,f⟩|⟨z,w,d,f,v⟩
   rw[d,f];rfl;rw[d,f];obtain⟨q,C⟩:=i _ _ d;obtain⟨r,t2⟩:=i _ _ f;have u:¬BS z:=λg=>by
    rcases g with g|g;rw[q,k.2.1]at g;exact absurd g.1 (by decide);exact h (.inr ⟨k.2.1,by rw[<-C];exact g.2⟩)
   have s:¬BS w:=λg=>by
    rcases g with g|g;rw[r,k.1]at g;exact absurd g.1 (by decide);exact c (.inr ⟨k.1,by rw[<-t2];exact g.2⟩)
   show AQ _ (z.cz x.x)=AQ (AQ _ z) w;rw[TO u s ⟨by rw[r];exact k.1,by rw[q];exact k.2.1,v⟩,t2];rcases qd.1 B with g|g;exact ho z (by simp[g]);rw[qy.1 g];intro g;rcases g with g|g;exact h (.inl g);refine h (.inr ⟨g.1,?_⟩);have:(y.x++x.x).size=0:=g.2;rw[XJ]at this;omega;rw[if_neg k];exact push
  rw[J5,CN,UU,Nj i l j n m _ Z key.2,key.1]
section
variable(δ:AF->Option AF)
def AB.dn(x:AB):Option AB:=(AB.dc δ x).map AB.N
theorem Jz(x:AB):AB.dn δ x=(δ x.H).map λh=>.mk x.k x.code x.id x.x h (AO (AB.dcL δ x.W)) (Cs ((x.R.filterMap (AP.dc δ)).map AP.N)):=by
 unfold AB.dn;rw[AB.dc_eq];cases δ x.H with
 | none=>rfl
 | some h=>simp only[qO];rw[AB.nrm_mk]
theorem JN(l Z:List AB):((AB.dcL δ l).map AB.N).foldl AQ Z=(l.filterMap (AB.dn δ)).foldl AQ Z:=by
 rw[AB.qG,He];rfl
theorem Pz(m Z:List AB):((m.foldl AQ []).filterMap (AB.dn δ)).foldl AQ Z=(m.filterMap (AB.dn δ)).foldl AQ Z:=by
 refine Nj (p:=AB.dn δ) (λy z e=>?_) (λa b _ _ e=>?_) (λy t=>?_) (λy z e g=>?_) m [] Z λy c=>by cases c
 rw[Jz,qN]at e;obtain⟨h,_,rfl⟩:=e;exact⟨rfl,rfl⟩;rw[Jz,Jz,e];cases δ b.H with
 | none=>exact .inl ⟨rfl,rfl⟩
 | some h=>exact .inr ⟨_,_,rfl,rfl,rfl⟩
 rw[Jz,Jz,Option.map_map];rfl;rw[Jz,qN]at e;obtain⟨h,_,rfl⟩:=e;rcases g with g|g;refine .inl ⟨g.1,?_⟩;show Cs ((y.R.filterMap (AP.dc δ)).map AP.N)=[];rw[g.2];rfl;exact .inr g
theorem IN(r:AP):(AP.N r).cells.length=r.cells.length:=by
 rw[AP.qF];exact qf ..
theorem Wu(δ:AF->Option AF)(l:List AP)(h:∀r∈l,(AP.dc δ (AP.N r)).map AP.N=(AP.dc δ r).map AP.N):
 Cs (((Cs (l.map AP.N)).filterMap (AP.dc δ)).map AP.N)=Cs ((l.filterMap (AP.dc δ)).map AP.N):=by
 induction l with
 | nil=>rfl
 | cons r l a=>
  have a:=a λx e=>h x (Q9 _ e);have d:=h r (qV ..);have b:Cs ((r::l).map AP.N)=Cs [AP.N r]++Cs (l.map AP.N):=Hr [AP.N r] _;rw[b,Le,qc,Hr,a,CN,qc,Hr];congr 1;by_cases c:r.cells.length=0;have a1:Cs [AP.N r]=[]:=by
   unfold Cs;rw[VX (by rw[IN,c];simp)];rfl
  rw[a1,AP.dc_eq];cases δ r.H with
  | none=>rfl
  | some h'=>
   have:r.cells=[]:=List.length_eq_zero_iff.1 c;rw[this];show[]=Cs [AP.N _];unfold Cs;rw[VX (by rw[IN];simp[AP.cells])];rfl
  have a1:Cs [AP.N r]=[AP.N r]:=by
   unfold Cs;rw[List.filter_cons_of_pos (by rw[IN];simp[c])];rfl
  have a2:∀o:Option AP,o.toList.map AP.N=(o.map AP.N).toList:=λo=>by cases o<;>rfl
  rw[a1,CN,List.filterMap_nil,JP,a2,a2,d]
mutual
theorem Z0:∀x:AB,AB.dn δ (AB.N x)=AB.dn δ x
 | .mk k c i t h f r => by
  have h1:F3 (AB.dcL δ (AO f)) (AB.dcL δ f):=λZ=>by
   rw[JN,JN];unfold AO Cy;rw[Pz,Ve,Il,GI (Mx f)]
  have h2:=Wu δ r (Q6 r);rw[AB.nrm_mk,Jz,Jz];show(δ h).map (λh=>AB.mk k c i t h (AO (AB.dcL δ (AO f))) (Cs (((Cs (r.map AP.N)).filterMap (AP.dc δ)).map AP.N)))=(δ h).map λh=>AB.mk k c i t h (AO (AB.dcL δ f)) (Cs ((r.filterMap (AP.dc δ)).map AP.N));rw[h1.normal,h2]
theorem Mx:∀l:List AB,∀x∈l,AB.dn δ (AB.N x)=AB.dn δ x
 | [],x,hx=>by cases hx
 | y::l,x,hx=>by
  rcases qt.1 hx with e|e;rw[e];exact Z0 y;exact Mx l x e
theorem YN:∀r:AP,(AP.dc δ (AP.N r)).map AP.N=(AP.dc δ r).map AP.N
 | .mk h c => by
  have e:=Q5 c;rw[AP.qF,AP.dc_eq,AP.dc_eq];show((δ h).map λh=>AP.mk h ((c.map cr.N).filterMap (cr.dc δ))).map AP.N=((δ h).map λh=>AP.mk h (c.filterMap (cr.dc δ))).map AP.N;cases δ h with
  | none=>rfl
  | some h'=>
   simp only[qO];rw[AP.qF,AP.qF];show some (AP.mk h' (((c.map cr.N).filterMap (cr.dc δ)).map cr.N))=some (AP.mk h' ((c.filterMap (cr.dc δ)).map cr.N));rw[He,He,Il,GI e]
theorem Q6:∀l:List AP,∀r∈l,(AP.dc δ (AP.N r)).map AP.N=(AP.dc δ r).map AP.N
 | [],x,hx=>by cases hx
 | y::l,x,hx=>by
  rcases qt.1 hx with e|e;rw[e];exact YN y;exact Q6 l x e
theorem YM:∀c:cr,(cr.dc δ (cr.N c)).map cr.N=(cr.dc δ c).map cr.N
 | .mk i h f => by
  have h1:F3 (AB.dcL δ (AO f)) (AB.dcL δ f):=λZ=>by
   rw[JN,JN];unfold AO Cy;rw[Pz,Ve,Il,GI (Mx f)]
  rw[cr.qF,cr.dc_eq,cr.dc_eq];show((δ h).map λh=>cr.mk i h (AB.dcL δ (AO f))).map cr.N=((δ h).map λh=>cr.mk i h (AB.dcL δ f)).map cr.N;cases δ h with
  | none=>rfl
  | some h'=>
   simp only[qO];rw[cr.qF,cr.qF];show some (cr.mk i h' (AO (AB.dcL δ (AO f))))=some (cr.mk i h' (AO (AB.dcL δ f)));rw[h1.normal]
theorem Q5:∀l:List cr,∀c∈l,(cr.dc δ (cr.N c)).map cr.N=(cr.dc δ c).map cr.N
 | [],x,hx=>by cases hx
 | y::l,x,hx=>by
  rcases qt.1 hx with e|e;rw[e];exact YM y;exact Q5 l x e
end
theorem LZ(l:List AB):F3 (AB.dcL δ (AO l)) (AB.dcL δ l):=λZ=>by
 rw[JN,JN];unfold AO Cy;rw[Pz,Ve,Il,GI (Mx δ l)]
theorem Zz{P Q:List AB}(h:F3 P Q):F3 (AB.dcL δ P) (AB.dcL δ Q):=((LZ δ P).symm).trans (by rw[h.normal];exact LZ δ Q)
theorem Mw(P Q:List AB):AB.dcL δ (P++Q)=AB.dcL δ P++AB.dcL δ Q:=by rw[AB.qG,AB.qG,AB.qG,Le]
end
theorem F3.fm{f g:AB->Option AB}:∀{l:List AB},(∀x∈l,F3 (f x).toList (g x).toList)->F3 (l.filterMap f) (l.filterMap g)
 | [],_=>.refl _
 | x::l,h=>by rw[CN,CN];exact F3.app (h x (qV ..)) (F3.fm λy a=>h y (Q9 _ a))
theorem F3.one{f g:Option AB}(h:f.map AB.N=g.map AB.N):F3 f.toList g.toList:=λZ=>by
 have e:∀o:Option AB,o.toList.map AB.N=(o.map AB.N).toList:=λo=>by cases o<;>rfl
 rw[e,e,h]
section
variable{hp:AF->Prop}{T:Int->Prop}
end
theorem Ag.pre{α β:Type}{R:α->β->Prop}:∀{l t:List α} {m:List β},Ag R (l++t) m->Ag R l (m.take l.length)
 | [],_,_,_=>trivial
 | _a::_l,_t,[],h=>h.elim
 | _a::_l,_t,_b::_m,h=>⟨h.1,Ag.pre h.2⟩
section
variable{E:CC}{P:Program}{N:Nat}{code:Code}{Q:Cu}{sa:SA}{h:Hp}{n:Nat}
end
def pz(w:World):Cx:=⟨λ_=>none,λ_=>False,w,λ_=>none⟩
theorem p8(W:World):CF (λ_=>none) (pz W):=⟨λ_ _ h=>(by cases h),λ_ _ _ _ _ h=>(by cases h),λb=>⟨λh=>h.elim,λ⟨_,_,h,_⟩=>(by cases h)⟩⟩
theorem nr{W a:World}(hs:W.heap.size<=a.heap.size)(f:∀b,b<W.heap.size->a.heap[b]? = W.heap[b]?)(d:a.os=W.os)(hp:a.output=W.output)(ht:Td W a):∃q os,a=Go.Sort.grow (W.drewN q) os:=by
 refine⟨a.drawn-W.drawn,a.heap.extract W.heap.size a.heap.size,?_⟩;obtain⟨h1,h2⟩:=ht;have e:a.heap=W.heap++a.heap.extract W.heap.size a.heap.size:=by
  apply Array.ext_getElem?;intro i;by_cases hi:i<W.heap.size;rw[Uo hi,f i hi];rw[Array.getElem?_append_right (by omega)];by_cases c:i<a.heap.size;rw[KN c,KN (by simp;omega)];simp only[Array.getElem_extract];congr 2;omega;rw[Yv (by omega),Yv (by simp;omega)]
 cases a with
 | mk heap tape drawn os output=>
  simp only at e h1 h2 d hp ⊢;subst h1 d hp;rw[e];simp only[Go.Sort.grow,World.drewN];congr 1;congr 1;rw[<-e];omega
theorem PC.grown{f:FuncId}{a:List SV}{v:SV}(h:PC f a v){W:World}{vs:List Value}(k:Ag (V (pz W)) a vs):Calls prog f vs.toArray W λe i=>(∃u d,e=.returned u/\V d v u)/\∃q os,i=Go.Sort.grow (W.drewN q) os:=by
 have:=(h (λ_=>none) 0).2 (pz W) vs trivial (p8 W) (λ_ _=>rfl) k;refine this.mono ?_;rintro e i ⟨u,v',h',n',d,rfl,⟨rfl,_⟩,rfl,j,_,_,c⟩;exact⟨⟨u,d,rfl,j⟩,nr c.ext.size (λb hb=>(c.ext.keep b hb (λg=>g)).2) c.ext.os c.ext.out c.ext.td⟩
end Go.Proofs.YtgakninlhfkkmaaGreat.Sh
namespace Go.Proofs
open Go.Shelf
def Tryz.sortB_ren:Go.Shelf.Ren:=⟨fun|6=>97|15=>169|14=>168|28=>245|29=>246|20=>237|21=>238|22=>239|23=>240|24=>241|25=>242|26=>243|27=>244|46=>280|47=>281|48=>282|49=>283|50=>284|57=>311|n=>n,fun|22=>86|24=>89|25=>154|3=>3|39=>213|0=>0|53=>306|55=>308|4=>4|46=>300|45=>299|50=>123|5=>5|9=>9|66=>342|70=>72|76=>373|77=>374|n=>n,fun|n=>n⟩
theorem Tryz.sortB:Go.Proofs.SlLaysF0.n6 prog Tryz.sortB_ren:={
 mixed:=by kernel_rfl
 f6:=⟨Tryz.f97.name,by decide,func97.trans (congrArg some (by kernel_rfl))⟩
 f14:=⟨Tryz.f168.name,by decide,func168.trans (congrArg some (by kernel_rfl))⟩
 f15:=func169.trans (congrArg some (by kernel_rfl))
 f20:=⟨Tryz.f237.name,by decide,func237.trans (congrArg some (by kernel_rfl))⟩
 f21:=⟨Tryz.f238.name,by decide,func238.trans (congrArg some (by kernel_rfl))⟩
 f22:=⟨Tryz.f239.name,by decide,func239.trans (congrArg some (by kernel_rfl))⟩
 f23:=⟨Tryz.f240.name,by decide,func240.trans (congrArg some (by kernel_rfl))⟩
 f24:=⟨Tryz.f241.name,by decide,func241.trans (congrArg some (by kernel_rfl))⟩
 f25:=⟨Tryz.f242.name,by decide,func242.trans (congrArg some (by kernel_rfl))⟩
 f26:=⟨Tryz.f243.name,by decide,func243.trans (congrArg some (by kernel_rfl))⟩
 f27:=⟨Tryz.f244.name,by decide,func244.trans (congrArg some (by kernel_rfl))⟩
 f28:=func245.trans (congrArg some (by kernel_rfl))
 f29:=func246.trans (congrArg some (by kernel_rfl))
 f46:=⟨Tryz.f280.name,by decide,func280.trans (congrArg some (by kernel_rfl))⟩
 f47:=func281.trans (congrArg some (by kernel_rfl))
 f48:=func282.trans (congrArg some (by kernel_rfl))
 f49:=⟨Tryz.f283.name,by decide,func283.trans (congrArg some (by kernel_rfl))⟩
 f50:=⟨Tryz.f284.name,by decide,func284.trans (congrArg some (by kernel_rfl))⟩
 f57:=⟨Tryz.f311.name,by decide,func311.trans (congrArg some (by kernel_rfl))⟩
 t0:=Tryz.underlying0
 a0:=Tryz.isAgg0
 z0:=Tryz.sizeOf0
 v0:=Tryz.zeroValue0
 t3:=Tryz.underlying3
 a3:=Tryz.isAgg3
 z3:=Tryz.sizeOf3
 v3:=Tryz.zeroValue3
 t4:=Tryz.underlying4
 a4:=Tryz.isAgg4
 z4:=Tryz.sizeOf4
 v4:=Tryz.zeroValue4
 t5:=Tryz.underlying5
 a5:=Tryz.isAgg5
 z5:=Tryz.sizeOf5
 v5:=Tryz.zeroValue5
 t9:=Tryz.underlying9
 a9:=Tryz.isAgg9
 z9:=Tryz.sizeOf9
 v9:=Tryz.zeroValue9
 t22:=Tryz.underlying86
 a22:=Tryz.isAgg86
 z22:=Tryz.sizeOf86
 v22:=Tryz.zeroValue86
 t25:=Tryz.underlying154
 a25:=Tryz.isAgg154
 z25:=Tryz.sizeOf154
 v25:=Tryz.zeroValue154
 t39:=Tryz.underlying213
 a39:=Tryz.isAgg213
 z39:=Tryz.sizeOf213
 v39:=Tryz.zeroValue213
 t45:=Tryz.underlying299
 a45:=Tryz.isAgg299
 z45:=Tryz.sizeOf299
 v45:=Tryz.zeroValue299
 t46:=Tryz.underlying300
 a46:=Tryz.isAgg300
 z46:=Tryz.sizeOf300
 v46:=Tryz.zeroValue300
 t50:=Tryz.underlying123
 a50:=Tryz.isAgg123
 z50:=Tryz.sizeOf123
 v50:=Tryz.zeroValue123
 t53:=Tryz.underlying306
 a53:=Tryz.isAgg306
 z53:=Tryz.sizeOf306
 v53:=Tryz.zeroValue306
 t55:=Tryz.underlying308
 a55:=Tryz.isAgg308
 z55:=Tryz.sizeOf308
 v55:=Tryz.zeroValue308
 t66:=Tryz.underlying342
 a66:=Tryz.isAgg342
 z66:=Tryz.sizeOf342
 v66:=Tryz.zeroValue342
 t70:=Tryz.underlying72
 a70:=Tryz.isAgg72
 z70:=Tryz.sizeOf72
 v70:=Tryz.zeroValue72
 t76:=Tryz.underlying373
 a76:=Tryz.isAgg373
 z76:=Tryz.sizeOf373
 v76:=Tryz.zeroValue373
 t77:=Tryz.underlying374
 a77:=Tryz.isAgg374
 z77:=Tryz.sizeOf374
 v77:=Tryz.zeroValue374 }
end Go.Proofs
namespace Go.Proofs.YtgakninlhfkkmaaGreat.Sh
open Go.Proofs.Tryz
open Proofs
set_option maxRecDepth 10000
set_option maxHeartbeats 4000000
theorem pn(l:List Int)(hl:l.length<=1073741824)(x:Int)(full:Bool):PC 236 [.i 1 (l.map AA) full,AA x] (AA (BI (λi=>l[i]? == some x) l.length 0)):=by
 intro h n;refine gq func236 rfl λf=>?_;simp[go_sem];refine Av 1 (α:=Nat) (λk=>[(0,.i 1 (l.map AA) full),(1,AA x),(7,AA l.length),(8,AA k)]) (λ_=>h) (λk m=>k<=l.length/\n<=m/\BI (λi=>l[i]? == some x) l.length 0=BI (λi=>l[i]? == some x) l.length k) (λk=>l.length-k) 0 ?_ ?_ AC ?_;simp;simp[Ao];rintro k m ⟨hk,d,b⟩;rw[BI.eq_def _ _ k]at b;by_cases a:k<l.length;have w1:=wS k (by omega);obtain⟨y,c⟩:∃y,l[k]=y:=⟨_,rfl⟩
 by_cases e:x=y;subst e;simp[go_sem,a,c];exact As f rfl (by rw[b];simp[a,c]);have j:¬y=x:=λg=>e g.symm;simp[go_sem,a,c,e,w1,-Int.natCast_add];exact⟨k+1,by omega,⟨by omega,d,by rw[b];simp[a,c,j]⟩,IO⟩;simp[go_sem,a];exact As f rfl (by rw[b];simp[a])
theorem oN(l:List Int)(x:Int):decide (0<=BI (λi=>l[i]? == some x) l.length 0)=decide (x∈l):=by
 rcases Ei (λi=>l[i]? == some x) l.length 0 with e|⟨i0,_,hi0,e,a⟩
 rw[e];have:x∉l:=λb=>by
  obtain⟨i,hi,h⟩:=Kw b;have:=HT e i (qg _) hi;simp[hi,h]at this
 simp[this];rw[e];have b:x∈l:=by
  simp only[beq_iff_eq]at a;exact U1 a
 simp[b]
theorem pm(l:List Int)(hl:l.length<=1073741824)(x:Int)(full:Bool):PC 166 [.i 1 (l.map AA) full,AA x] (.bool (decide (x∈l))):=by
 intro h n;refine gq func166 rfl λa=>?_;simp[go_sem];refine qz (pn l hl x full) ?_;simp[go_sem];exact As a rfl (by rw[<-oN])
def jF(l:List Int)(x:Int):Bool:=decide (x≠0)&&decide (x∈l)
theorem pZ(l:List Int)(hl:l.length<=1073741824)(x:Int)(full:Bool):PC 92 [.i 1 (l.map AA) full,AA x] (.bool (jF l x)):=by
 intro h n;refine gq func92 rfl λa=>?_;by_cases e:x=0;simp[go_sem,e];exact As a rfl (by simp[jF]);simp[go_sem,e];refine qz (pm l hl x full) ?_;simp[go_sem];exact As a rfl (by simp[jF,e])
def oG:List Int->Int
 | []=>0
 | x::l=>if x≠0 then x else oG l
theorem c99(l:List Int)(hl:l.length<=1073741824)(full:Bool):PC 99 [.i 1 (l.map AA) full] (AA (oG l)):=by
 intro h n;refine gq func99 rfl λf=>?_;simp[go_sem];refine Av 1 (α:=Nat) (λk=>[(3,AA 0),(6,.i 1 (l.map AA) full),(7,AA l.length),(8,AA k)]) (λ_=>h) (λk m=>k<=l.length/\n<=m/\oG l=oG (l.drop k)) (λk=>l.length-k) 0 ?_ ?_ AC ?_;simp;simp[Ao];rintro k m ⟨hk,c,b⟩;by_cases a:k<l.length;have w1:=wS k (by omega);obtain⟨y,d⟩:∃y,l[k]=y:=⟨_,rfl⟩
 have g:l.drop k=y::l.drop (k+1):=by rw[qQ a,d]
 rw[g,oG]at b;by_cases e:y=0;rw[if_neg (by simpa using e)]at b;simp[go_sem,a,d,e,w1,-Int.natCast_add];exact⟨k+1,by omega,⟨by omega,c,b⟩,IO⟩;rw[if_pos e]at b;simp[go_sem,a,d,e];exact As f rfl (by rw[b]);rw[Vk (by omega)]at b;simp[go_sem,a];exact As f rfl (by rw[b];rfl)
def lX(a b:Int×Int):Int:=oG [GD a.1 b.1,GD a.2 b.2]
def pU:Tr:=.pure 0<|.pure 1<|.pure 2<|.pure 3<|.pure 5<|.pure 6<|.pure 7<|.pure 8<|.one 4<|.one 9<|.one 10<|.one 11<|.one 12 .nil
theorem c98(a b:Int×Int):PC 98 [Gf a,Gf b] (AA (lX a b)):=by
 intro h n;refine DO func98 rfl λf=>?_;have c:=f.lt;refine Aa 1 [(2,.q [AA a.1,AA a.2]),(3,.q [AA b.1,AA b.2])] h n ?_ (λm i=>?_);simp[go_sem,Gf];refine⟨by omega,⟨AZ (f.none (by omega)) (by simp[h_]),AZ (f.none (by omega)) (by simp[h_])⟩,λj y e=>by have:=c j y e;simp only[h_];grind⟩;have d:∀j y,h j=some y->j<m:=λj y e=>by have:=c j y e;omega
 refine AX 0 (α:=Unit) (λ_=>[(4,AA (lX a b))]) (λ_=>h) (λ_ m=>n<=m) (CK pU rfl (by kernel_rfl) (by kernel_rfl) ?_) (λ_ m i=>?_);simp[go_sem,pU];refine qz (V4 a.1 b.1) ?_;simp[go_sem];refine qz (V4 a.2 b.2) ?_;simp[go_sem];have g:Fz (h_ h m (some (.cells [AA (GD a.1 b.1),AA (GD a.2 b.2)]))) h 1 (.sl m 0 1 2 true) (.i 1 ([GD a.1 b.1,GD a.2 b.2].map AA) false):=
  Cz (h':=h_ h m (some (.cells [AA (GD a.1 b.1),AA (GD a.2 b.2)]))) (h:=h) (k:=0) (z:=1) (o:=m) (full:=true) (full':=false) (es:=[AA (GD a.1 b.1),AA (GD a.2 b.2)]) (AS d (qa _)) (by simp) (by rw[AD];simp[SV.cells]) (by simp[SV.B,SV.cells])
 refine wn (bs:=[.i 1 ([GD a.1 b.1,GD a.2 b.2].map AA) false]) (h2:=h) 1 (AL d AC) ⟨g,trivial⟩ ((c99 [GD a.1 b.1,GD a.2 b.2] (by simp) false).use ?_);simp[go_sem,IO,lX];omega;refine AJ ?_;simp[go_sem];exact As f rfl rfl
theorem kQ(x:Int×Int):Gf x=.agg [AA x.1,AA x.2]:=rfl
theorem oW(x:Int×Int):(Gf x).cells.length=2:=rfl
theorem pB(x:Int×Int):(Gf x).B=true:=rfl
theorem lH(n:Nat)(l:List (Int×Int)):ca n ((l.map Gf).flatMap SV.cells)=true:=by
 rw[EO];intro e a;obtain⟨x,b,h2⟩:=QD.1 a;obtain⟨p,_,rfl⟩:=ql.1 b;simp only[Gf,SV.cells]at h2;rcases qt.1 h2 with rfl|h2;rfl;rw[qy.1 h2];rfl
def pa(r:List (Int×Int))(H:Hp)(o n:Nat):SV->Hp->Nat->Prop:=λv h' n'=>∃f2 t,v=.sl o 0 2 r.length f2/\h'=h_ H o (some (.cells ((r.map Gf).flatMap SV.cells++t)))/\n'=n
theorem c96(l:List Int)(hl:l.length<=1073741824)(x:Int×Int)(full:Bool):PC 96 [Gf x,.q [.i 1 (l.map AA) full]] (.bool (!jF l x.1)):=by
 intro h n;refine gq func96 rfl λa=>?_;simp[go_sem,kQ,AD];refine qz (pZ l hl x.1 full) ?_;simp[go_sem];exact A3 a (AL (λj y e=>(a j y e).1) AC) rfl rfl
theorem pH(l:List (Int×Int))(hl:l.length<=1048576)(g:FuncId)(a b:List SV)(p:Nat->Bool)(hp:∀(i:Nat)(h:i<l.length),PC g (a++[Gf l[i]]++b) (.bool (p i))):
 PC 167 [.i 2 (l.map Gf) false,.fn (.func g) a b] (AA (BI p l.length 0)):=by
 intro h n;refine gq func167 rfl λf=>?_;simp[go_sem];refine Av 1 (α:=Nat) (λk=>[(0,.i 2 (l.map Gf) false),(1,.fn (.func g) a b),(7,AA l.length),(8,AA k)]) (λ_=>h) (λk m=>k<=l.length/\n<=m/\BI p l.length 0=BI p l.length k) (λk=>l.length-k) 0 ?_ ?_ AC ?_;simp;simp[Ao];rintro k m ⟨hk,e,d⟩;rw[BI.eq_def _ _ k]at d;by_cases c:k<l.length;have w1:=wS k (by omega);have H:=hp k c;simp only[qj,qx,qE]at H;simp[go_sem,c,kQ];refine qz (by simpa[kQ]using H) ?_;by_cases h0:p k=true;simp[go_sem,h0];exact As f rfl (by rw[d];simp[c,h0]);simp[go_sem,h0,w1,-Int.natCast_add];exact⟨k+1,by omega,⟨by omega,e,by rw[d];simp[c,h0]⟩,IO⟩;simp[go_sem,c];exact As f rfl (by rw[d];simp[c])
theorem d95(l:List (Int×Int))(hl:l.length<=1048576)(g:FuncId)(a b:List SV)(p:(Int×Int)->Bool)(hp:∀x∈l,PC g (a++[(Gf x)]++b) (.bool (p x))){H:Hp}{n o:Nat}{full:Bool}(U:H o=some (.cells ((l.map Gf).flatMap SV.cells))):
 BL prog 95 [.sl o 0 2 l.length full,.fn (.func g) a b] H n (pa (l.filter λx=>!p x) H o n):=by
 refine gq func95 rfl λV=>?_;have S:o<n:=(V o _ U).1;have hI:=pH l hl g a b (λi=>match l[i]? with|some x=>p x|none=>false) (λi hi=>by simpa[hi]using hp l[i] (qi hi));have fin:∀(c:List (Int×Int))(h':Hp)(n':Nat)(cs t:List SV)(f2:Bool),(l.filter λx=>!p x)=c->(∀j y,j≠o->H j=some y->h' j=some y)->h' o=some (.cells cs)->cs=(c.map Gf).flatMap SV.cells++t->ca n t=true->
  CO n h' n' (.sl o 0 2 c.length f2) (pa (l.filter λx=>!p x) H o n):=λc h' n' cs t f2 hk hh hc h1 h2=>by
  refine .inr ⟨0,.sl o 0 2 c.length f2,h_ H o (some (.cells cs)),IO,by simpa[cc]using S,λj y e=>?_,f2,t,by rw[hk],by rw[hk,h1],rfl⟩;by_cases A:j=o;subst A;rw[AD]at e;cases e;refine⟨hc,S,?_⟩;show ca n cs=true;rw[h1,EO];intro e O;rcases qd.1 O with O|O;exact EO.1 (lH n c) e O;exact EO.1 h2 e O;rw[AE _ _ A]at e;exact⟨hh j y A e,V j y e⟩
 simp[go_sem];refine hI.lend 2 rfl ⟨?_,IO,trivial⟩ ?_;have:=Cz (h':=H) (h:=λ_=>none) (k:=1) (z:=2) (es:=l.map Gf) (full:=full) (full':=false) (o:=o) rfl (by simp) U (kB l);rw[qf]at this;exact this;rcases Ei (λi=>match l[i]? with|some x=>p x|none=>false) l.length 0 with e|⟨f,_,v,e,hpi⟩
 simp[go_sem,e];have N:(l.filter λx=>!p x)=l:=UF.2 λx J=>by
  obtain⟨i,hi,rfl⟩:=Kw J;have:=HT e i (qg _) hi;simpa[hi]using this
 exact fin l H n _ [] full N (λj y _ e=>e) U (by simp) rfl;have w0:=wS f (by omega);have ne1:¬((f:Int) = -1):=by omega
 simp[go_sem,e,w0,ne1,-Int.natCast_add];have D:p l[f]=true:=by simpa[v]using hpi
 have d:(l.take f).filter (λx=>!p x)=l.take f:=UF.2 λx J=>by
  obtain⟨i,hi,rfl⟩:=Kw J;have Q:i<f:=by simp at hi;omega
  have:=Ip e i (qg _) Q;simpa[show i<l.length by omega]using this
 refine Av 1 (α:=Nat) (λi=>[(0,.sl o 0 2 l.length full),(1,.fn (.func g) a b),(5,AA ((l.take i).filter λx=>!p x).length),(6,AA i)]) (λi=>h_ H o (some (.cells (((B6 p l i).map Gf).flatMap SV.cells))))
  (λi m=>f<i/\i<=l.length/\n<=m) (λi=>l.length-i) (f+1) ?_ ?_ ?_ ?_
 exact⟨qY _,v,qa _⟩;have:((l.take (f+1)).filter λx=>!p x).length=f:=by
  rw[qb v,QN,d];simp[D];omega
 simp[Ao,this,-Int.natCast_add];have:B6 p l (f+1)=l:=by
  unfold B6;rw[qb v,QN,d];simp[D,Ut (vV v)]
 rw[this];intro j y e;simp only[h_]at e;split at e;rename_i h;subst h;rw[U];exact e;exact e;rintro i m ⟨hi1,Q,hnm⟩;have Y:((l.take i).filter λx=>!p x).length<i:=by
  have h1:l.take i=l.take (f+1)++(l.drop (f+1)).take (i-(f+1)):=by
   rw[<-List.take_add];congr 1;omega
  have h2:((l.take (f+1)).filter λx=>!p x).length=f:=by
   rw[qb v,QN,d];simp[D];omega
  rw[h1,QN,qq,h2];have:=JM (λx=>!p x) ((l.drop (f+1)).take (i-(f+1)));simp at this ⊢;omega
 have r:(B6 p l i).length=l.length:=by unfold B6;simp;omega
 generalize q:(l.take i).filter (λx=>!p x)=c at Y ⊢;have w:o≠m:=by omega
 have G:=kB (B6 p l i);by_cases C:i<l.length;have w1:=wS i (by omega);have w2:IntKind.i64.wrap ((c.length:Int)+1)=((c.length+1:Nat):Int):=by rw[DA]<;>omega
 obtain⟨x,J⟩:∃x,l[i]=x:=⟨_,rfl⟩
 have P:(B6 p l i)[i]? = some x:=by
  unfold B6;rw[q,qT (by omega),Km];have:c.length+(i-c.length)=i:=by omega
  rw[this,qe C,J]
 obtain⟨g1,W⟩:=Nh G (i:=i) (e:=(Gf x)) (by simp[P]);have u:=RI G (j:=c.length) (e:=(Gf x)) (by simp[r];omega);have g3:c.length*2+2<=(((B6 p l i).map Gf).flatMap SV.cells).length:=by
  rw[BO G,qf,r];omega
 have hcl:=oW x;generalize X:((B6 p l i).map Gf).flatMap SV.cells=F at g1 W g3 u ⊢;have H1:=hp x (by rw[<-J];exact qi C);simp only[qj,qx,qE]at H1;have hpre:=pB x;simp[kQ,SV.cells]at W;simp[go_sem,C,AD,g1,W];refine qz (by simpa[kQ]using H1) ?_;by_cases L:p x=true;simp[go_sem,L,w1,-Int.natCast_add];have B:(l.take (i+1)).filter (λx=>!p x)=c:=by rw[qb C,QN,q,J];simp[L]
 have E:B6 p l (i+1)=B6 p l i:=by unfold B6;rw[B,q]
 refine⟨i+1,by omega,⟨by omega,by omega,by omega⟩,⟨by rw[B];exact IO,IO⟩,λj y e=>?_⟩;rw[E,X]at e;by_cases A:j=o;subst A;rw[AD]at e;rw[AE _ _ w,AE _ _ w,AD];exact e;rw[AE _ _ A]at e;have:=(V j y e).1;rw[AE _ _ (by omega),AE _ _ (by omega),AE _ _ A];exact e;have I:p x=false:=by simpa using L
 have R:(c.length:Int)<l.length:=by omega
 simp[kQ,SV.cells]at u;simp[go_sem,I,AD,AE,w,R,g3,u,w1,w2,-Int.natCast_add];have B:(l.take (i+1)).filter (λx=>!p x)=c++[x]:=by rw[qb C,QN,q,J];simp[I]
 have E:(B6 p l (i+1)).map Gf=((B6 p l i).map Gf).set c.length (Gf x):=by
  have:B6 p l (i+1)=(B6 p l i).set c.length x:=by
   unfold B6;rw[B,q,Vs _ _ (qa _),vU];simp;rw[qQ (show c.length<l.length by omega),List.set_cons_zero]
  rw[this,List.map_set]
 rw[kQ]at E;refine⟨i+1,by omega,⟨by omega,by omega,by omega⟩,⟨by rw[B,qq];exact IO,IO⟩,λj y e=>?_⟩;rw[E]at e;by_cases A:j=o;subst A;rw[AD]at e ⊢;exact e;rw[AE _ _ A]at e ⊢;have:=(V j y e).1;rw[AE _ _ (by omega),AE _ _ (by omega),AE _ _ A];exact e;have:i=l.length:=by omega
 subst this;have q1:c.length<=l.length:=by omega
 have q2:¬((c.length:Int)=l.length):=by omega
 have q3:¬(l.length-c.length=0):=by omega
 rw[qm]at q;have X:((B6 p l l.length).map Gf).flatMap SV.cells=(c.map Gf).flatMap SV.cells++((l.drop c.length).map Gf).flatMap SV.cells:=by unfold B6;rw[qm,q];simp
 have Z:((c.map Gf).flatMap SV.cells).length=c.length*2:=by rw[BO (kB c),qf]
 have K:(((B6 p l l.length).map Gf).flatMap SV.cells).length=l.length*2:=by rw[BO G,qf,r]
 have q4:c.length*2+(l.length-c.length)*2<=(((B6 p l l.length).map Gf).flatMap SV.cells).length:=by rw[K,<-UI];apply YR;omega
 have T:(((B6 p l l.length).map Gf).flatMap SV.cells).take (c.length*2)=(c.map Gf).flatMap SV.cells:=by rw[X,<-Z,List.take_left]
 generalize((B6 p l l.length).map Gf).flatMap SV.cells=F at q4 T K ⊢;simp[go_sem,AD,q1,q2,q3,q4];refine fin c _ _ _ _ _ q (λj y hj e=>by rw[AE _ _ hj,AE _ _ hj];exact e) (AD _ _ _) (by rw[T]) ?_;simp[EO];rintro s (⟨_,⟨_,rfl⟩,M⟩|M);rcases qt.1 M with rfl|M;rfl;rw[qy.1 M];rfl;rw[Vk (by rw[K];omega)]at M;cases M
def kg(l:List (Int×Int)):Nat->List (Int×Int)
 | 0=>[]
 | i+1=>if 0<i/\l[i]? = l[i-1]? then kg l i else kg l i++(l[i]?).toList
theorem mB(l:List (Int×Int)):∀i,(kg l i).length<=i
 | 0=>qa _
 | i+1=>by
  have:=mB l i;rw[kg];split;omega;rw[qq];cases l[i]? <;> simp<;>omega
theorem pJ(a b:Int×Int):CS prog [AA a.1,AA a.2] [AA b.1,AA b.2] (Bt prog 89)=some (a==b):=by
 rw[show CS prog [AA a.1,AA a.2] [AA b.1,AA b.2] (Bt prog 89)=_ from jC a.1 a.2 b.1 b.2];congr 1
def kC(l:List (Int×Int)):List SV:=(l.map Gf).flatMap SV.cells
theorem kE(l:List (Int×Int)):(kC l).length=l.length*2:=by unfold kC;rw[BO (kB l),qf]
theorem lR(a b:List (Int×Int)):kC (a++b)=kC a++kC b:=by simp[kC]
theorem pA(l:List (Int×Int))(t:List SV){i:Nat}(hi:i<l.length):(kC l++t).drop (i*2)=AA l[i].1::AA l[i].2::(kC l++t).drop (i*2+2):=by
 have h:l=l.take i++l[i]::l.drop (i+1):=by rw[List.getElem_cons_drop,qM]
 have e:kC l=kC (l.take i)++(AA l[i].1::AA l[i].2::kC (l.drop (i+1))):=by
  conv=>lhs;rw[h]
  rw[lR];rfl
 have n:(kC (l.take i)).length=i*2:=by rw[kE,vD];omega
 rw[e,qj,<-n];generalize kC (l.take i)=A;simp
theorem oV(l:List (Int×Int))(t:List SV){i:Nat}(hi:i<l.length)(x:Int×Int):(kC l++t).take (i*2)++(AA x.1::AA x.2::(kC l++t).drop (i*2+2))=kC (l.set i x)++t:=by
 have h:l=l.take i++l[i]::l.drop (i+1):=by rw[List.getElem_cons_drop,qM]
 have e:kC l=kC (l.take i)++(AA l[i].1::AA l[i].2::kC (l.drop (i+1))):=by
  conv=>lhs;rw[h]
  rw[lR];rfl
 have n:(kC (l.take i)).length=i*2:=by rw[kE,vD];omega
 have a:l.set i x=l.take i++x::l.drop (i+1):=by rw[WK,if_pos hi]
 rw[a,lR,e,qj,<-n];generalize kC (l.take i)=A;simp[kC,Gf,SV.cells]
theorem lZ(l:List (Int×Int)){i:Nat}(h0:0<i)(h:i<l.length):kg l (i+1)=if l[i]=l[i-1]then kg l i else kg l i++[l[i]]:=by
 rw[kg,qe h,qe (by omega)];simp[h0]
theorem lT(l:List (Int×Int))(t:List SV){i:Nat}(hi:i<l.length):i*2+2<=(kC l++t).length/\((kC l++t).drop (i*2)).take 2=[AA l[i].1,AA l[i].2]:=by
 refine⟨by rw[qq,kE];omega,?_⟩;rw[pA l t hi];rfl
theorem p5(l:List (Int×Int))(hl:l.length<=1048576){H:Hp}{n o:Nat}{full:Bool}{t:List SV}(B:H o=some (.cells (kC l++t))):
 BL prog 101 [.sl o 0 2 l.length full] H n (pa (kg l l.length) H o n):=by
 refine gq func101 rfl λY=>?_;have N:o<n:=(Y o _ B).1;have ht:ca n t=true:=by
  have:=(Y o _ B).2;change ca n (kC l++t)=true at this;rw[EO]at this ⊢;exact λe p=>this e (Qj _ p)
 have fin:∀(c:List (Int×Int))(h':Hp)(n':Nat)(cs t:List SV)(f2:Bool),kg l l.length=c->(∀j y,j≠o->H j=some y->h' j=some y)->h' o=some (.cells cs)->cs=kC c++t->ca n t=true->
  CO n h' n' (.sl o 0 2 c.length f2) (pa (kg l l.length) H o n):=λc h' n' cs t f2 hk hh hc h1 h2=>by
  refine .inr ⟨0,.sl o 0 2 c.length f2,h_ H o (some (.cells cs)),IO,by simpa[cc]using N,λj y e=>?_,f2,t,by rw[hk],by rw[hk,h1];rfl,rfl⟩;by_cases E:j=o;subst E;rw[AD]at e;cases e;refine⟨hc,N,?_⟩;show ca n cs=true;rw[h1,EO];intro e p;rcases qd.1 p with p|p;exact EO.1 (lH n c) e p;exact EO.1 h2 e p;rw[AE _ _ E]at e;exact⟨hh j y E e,Y j y e⟩
 by_cases h2:l.length<2;have z:(l.length:Int)<2:=by omega
 have hd:kg l l.length=l:=by
  rcases l with _|⟨a,_|⟨b,l⟩⟩
  rfl;rfl;simp at h2;omega
 simp[go_sem,z];exact fin l H n _ t full hd (λj y _ e=>e) B rfl ht;have z:¬(l.length:Int)<2:=by omega
 simp[go_sem,z];refine Av 0 (α:=Nat) (λk=>[(0,.sl o 0 2 l.length full),(3,AA k)]) (λ_=>H) (λk m=>1<=k/\k<=l.length/\n<=m/\kg l k=l.take k) (λk=>l.length-k) 1 ?_ ?_ AC ?_;refine⟨by omega,by omega,by omega,?_⟩;rcases l with _|⟨a,l⟩
 rfl;rfl;simp[Ao,IO];rintro k m ⟨hk1,hk2,hnm,I⟩;by_cases q:k<l.length
 . have w1:=wS k (by omega);have w2:IntKind.i64.wrap ((k:Int)-1)=((k-1:Nat):Int):=by rw[DA]<;>omega
   have b1:(k:Int)<l.length:=by omega
   have b2:((k-1:Nat):Int)<l.length:=by omega
   obtain⟨g1,T⟩:=lT l t q;obtain⟨g3,U⟩:=lT l t (show k-1<l.length by omega);have g:=lZ l (by omega) q;obtain⟨x,Z⟩:∃x,l[k]=x:=⟨_,rfl⟩
   obtain⟨y,hy⟩:∃y,l[k-1]=y:=⟨_,rfl⟩
   rw[Z,hy]at g;rw[Z]at T;rw[hy]at U;generalize hF:kC l++t=F at B g1 T g3 U;simp[go_sem,B,g1,T,g3,U,w1,w2,b1,b2,-Int.natCast_add]
   repeat first|refine nq ?_|refine sq ?_|refine aq ?_
   refine⟨_,Dx rfl (.inl rfl) (by kernel_rfl) (by kernel_rfl) (by kernel_rfl) rfl rfl (pJ x y),?_⟩;simp[go_sem]
   repeat first|refine nq ?_|refine sq ?_|refine aq ?_
   by_cases p:x=y
   . have J:k<=l.length:=by omega
     have ne:¬((k:Int)=l.length):=by omega
     rw[if_pos p]at g;simp[go_sem,p,J,ne,-Int.natCast_add];refine Av 0 (α:=Nat) (λj=>[(0,.sl o 0 2 l.length full),(3,AA (kg l (k+j)).length),(4,.sl o (k*2) 2 (l.length-k) full),(5,AA j)]) (λj=>h_ H o (some (.cells (kC (kg l (k+j)++l.drop (kg l (k+j)).length)++t))))
      (λj m=>1<=j/\k+j<=l.length/\n<=m/\(kg l (k+j)).length<k+j) (λj=>l.length-(k+j)) 1 ?_ ?_ ?_ ?_
     refine⟨by omega,by omega,by omega,?_⟩;rw[g,I,vD];omega;have:((kg l (k+1)).length:Int)=k:=by rw[g,I,vD];omega
     simp[Ao,IO,this,-Int.natCast_add];have:kg l (k+1)++l.drop (kg l (k+1)).length=l:=by
      rw[g,I,vD,Ut J,qM]
     rw[this,hF];intro j y e;simp only[h_]at e;split at e;rename_i h;subst h;rw[B];exact e;exact e;rintro j m2 ⟨hj1,hj2,hnm2,X⟩;have hkj:k<=k+j:=by omega
     generalize K:kg l (k+j)=c at X ⊢;obtain⟨L,C⟩:∃L,L=c++l.drop c.length:=⟨_,rfl⟩
     rw[<-C];have W:L.length=l.length:=by rw[C];simp;omega
     by_cases M:k+j<l.length
     . have v1:=wS j (by omega);have v2:IntKind.i64.wrap ((j:Int)-1)=((j-1:Nat):Int):=by rw[DA]<;>omega
       have v3:IntKind.i64.wrap ((c.length:Int)+1)=((c.length+1:Nat):Int):=by rw[DA]<;>omega
       have c1:(j:Int)<(l.length-k:Nat):=by omega
       have c2:((j-1:Nat):Int)<(l.length-k:Nat):=by omega
       have c3:j<l.length-k:=by omega
       have c4:j-1<l.length-k:=by omega
       have c5:(c.length:Int)<l.length:=by omega
       obtain⟨R,P⟩:=lT L t (show k+j<L.length by omega);obtain⟨q3,S⟩:=lT L t (show k+j-1<L.length by omega);have d:=lZ l (show 0<k+j by omega) M;obtain⟨u,hu⟩:∃u,l[k+j]=u:=⟨_,rfl⟩
       obtain⟨w,hw⟩:∃w,l[k+j-1]=w:=⟨_,rfl⟩
       have E:L[k+j]'(by omega)=u:=by rw[<-hu];simp only[C];rw[List.getElem_append_right (by omega)];simp;congr 1;omega
       have e2:L[k+j-1]'(by omega)=w:=by rw[<-hw];simp only[C];rw[List.getElem_append_right (by omega)];simp;congr 1;omega
       rw[hu,hw,K]at d;rw[E]at P;rw[e2]at S;rw[UI]at R P;rw[show(k+j-1)*2=k*2+(j-1)*2 by omega]at q3 S;have q5:=oV L t (show c.length<L.length by omega) u;have q6:c.length*2+2<=(kC L++t).length:=by rw[qq,kE];omega
       generalize A:kC L++t=FL at R P q3 S q5 q6 ⊢;simp[go_sem,AD,c1,c2,R,P,q3,S,v1,v2,-Int.natCast_add]
       repeat first|refine nq ?_|refine sq ?_|refine aq ?_
       refine⟨_,Dx rfl (.inr rfl) (by kernel_rfl) (by kernel_rfl) (by kernel_rfl) rfl rfl (pJ u w),?_⟩;simp[go_sem]
       repeat first|refine nq ?_|refine sq ?_|refine aq ?_
       by_cases r:u=w;rw[if_pos r];rw[if_pos r]at d;have f:kg l (k+(j+1))=c:=d;refine⟨j+1,by omega,⟨by omega,by omega,by omega,by rw[f];omega⟩,⟨by rw[f];exact IO,IO⟩,λi y e=>?_⟩;rw[f,<-C,A]at e;exact e;rw[if_neg r];rw[if_neg r]at d;have f:kg l (k+(j+1))=c++[u]:=d;have V:c++[u]++l.drop (c++[u]).length=L.set c.length u:=by
        rw[C,Vs _ _ (qa _),vU,qQ (show c.length<l.length by omega),List.set_cons_zero];simp
       have c6:c.length<l.length:=by omega
       simp[go_sem,AD,c6,q5,q6,v3,-Int.natCast_add];have v:(c++[u]).length=c.length+1:=by simp
       refine⟨j+1,by omega,⟨by omega,by omega,by omega,by rw[f,v];omega⟩,⟨by rw[f,v];exact IO,IO⟩,λi y e=>?_⟩;rw[f,V]at e;simp only[h_]at e ⊢;split at e;rename_i h;rw[if_pos h];exact e;rename_i h;rw[if_neg h,if_neg h];exact e
     have:k+j=l.length:=by omega
     have d1:¬((j:Int)<(l.length-k:Nat)):=by omega
     have d2:c.length<=l.length:=by omega
     have d3:¬((c.length:Int)=l.length):=by omega
     have d4:¬(l.length-c.length=0):=by omega
     have G:(kC L).length=l.length*2:=by rw[kE,W]
     have O:(kC L++t).take (c.length*2)=kC c:=by rw[C,lR,<-kE c,qj,List.take_left]
     have d5:c.length*2+(l.length-c.length)*2<=(kC L++t).length:=by rw[qq,G];omega
     generalize A:kC L++t=FL at O d5 ⊢;simp[go_sem,AD,d1,d2,d3,d4,d5,-Int.natCast_add];refine fin c _ _ _ _ _ (by rw[<-this];exact K) (λi y hi e=>by rw[AE _ _ hi,AE _ _ hi];exact e) (AD _ _ _) (by rw[O]) ?_;rw[EO];intro s D;rcases qd.1 D with D|D;obtain⟨l1,h1,Q⟩:=List.mem_flatten.1 D;rw[(List.mem_replicate.1 h1).2]at Q;rcases qt.1 Q with rfl|Q;rfl;rw[qy.1 Q];rfl;rw[<-A,List.drop_append,Vk (by rw[G];omega),qE]at D;exact EO.1 ht s (JJ D)
   simp[go_sem,p,-Int.natCast_add];exact⟨k+1,by omega,⟨by omega,by omega,by omega,by rw[g,if_neg p,I,qb q,Z]⟩,IO⟩
 have:k=l.length:=by omega
 subst this;simp[go_sem];exact fin l H m _ t full (by rw[I,qm]) (λj y _ e=>e) B rfl ht
open Go.Sort (SWO)
def kv(x:Int×Int):List Value:=[.int .i64 x.1,.int .i64 x.2]
def mL(l:List (Int×Int)):List Int:=l.flatMap λx=>[x.1,x.2]
theorem kY:∀l:List (Int×Int),(mL l).length=l.length*2
 | []=>rfl
 | x::l=>by have:=kY l;simp only[mL,QZ,qq,qJ,vI]at *;omega
theorem mD:∀l:List (Int×Int),kC l=(mL l).map AA
 | []=>rfl
 | x::l=>by
  have:=mD l;unfold kC mL at *;simp only[qr,QZ,qc,this];rfl
theorem nA:∀(l:List (Int×Int))(t:Nat)(h:t<l.length*2),((mL l).map (Value.int .i64))[t]? = (kv l[t / 2])[t % 2]?
 | [],t,h=>by simp at h
 | x::l,0,h=>rfl
 | x::l,1,h=>rfl
 | x::l,t+2,h=>by
  have a:(t+2) / 2=t / 2+1:=by omega
  have b:(t+2) % 2=t % 2:=by omega
  have h2:t<l.length*2:=by simp at h;omega
  have:=nA l t h2;simp only[a,b,vB];rw[<-this];rfl
theorem oo(l:List (Int×Int)):Go.Sort.flatK kv 2 l.toArray=((mL l).map (Value.int .i64)).toArray:=by
 refine Go.Sort.ext_get! (by simp[kY]) λt ht=>?_;have a:t<l.length*2:=by simpa using ht
 rw[Go.Sort.get_flatK _ _ _ _ (by simpa using a)];have h1:=nA l t a;have h2:t / 2<l.length:=by omega
 have f:t % 2<2:=Nat.mod_lt _ (by omega);have d:(l.toArray)[t / 2]! = l[t / 2]:=by rw[getElem!_pos _ _ (by simpa using h2)];simp
 rw[d];have b:t<((mL l).map (Value.int .i64)).length:=by rw[qf,kY];exact a
 have c:t % 2<(kv l[t / 2]).length:=f;have e:((mL l).map (Value.int .i64)).toArray[t]! = ((mL l).map (Value.int .i64))[t]:=by
  rw[getElem!_pos ((mL l).map (Value.int .i64)).toArray t (by simpa using b)];simp
 rw[e,getElem!_pos (kv l[t / 2]) (t % 2) c];rw[qe b,qe c]at h1;exact(Option.some.inj h1).symm
theorem pM(x y:Int×Int):ltOf lX x y=decide (x.1<y.1\/(x.1=y.1/\x.2<y.2)):=by
 unfold ltOf lX GD;by_cases h1:x.1<y.1;simp[h1,oG];by_cases h2:y.1<x.1;have:¬x.1=y.1:=by omega
 simp[h1,h2,oG,this];have:x.1=y.1:=by omega
 by_cases a:x.2<y.2;simp[this,a,oG];by_cases b:y.2<x.2<;>simp[this,a,b,oG]
theorem pT:SWO (ltOf lX) where
 irrefl x:=by rw[pM];simp
 trans x y z h1 h2:=by rw[pM]at *;simp at *;omega
 ntrans x y z h1 h2:=by rw[pM]at *;simp at *;omega
def jw(l:List (Int×Int)):List (Int×Int):=l.mergeSort λx y=>!(ltOf lX) y x
theorem oe(c:Cx)(x:Int×Int):V c (Gf x) (.agg (kv x).toArray):=by
 rw[kQ,V];exact⟨kv x,rfl,BP.2 ⟨by simp[V],by simp[V],trivial⟩,λv a=>by simp[kv]at a;rcases a with rfl|rfl<;>rfl⟩
theorem pL(a off size:Nat)(w:World):CmpLays prog 98 #[] kv 2 lX a off size w:=by
 intro m os c _ x y;have:=(c98 x y).grown (W:=sortWorldK kv 2 w a off m c os) (vs:=[.agg (kv x).toArray,.agg (kv y).toArray]) ⟨oe _ x,oe _ y,trivial⟩;refine this.mono ?_;rintro e w' ⟨⟨u,c',rfl,d⟩,q,b,rfl⟩;rw[DF d];exact⟨rfl,q,b,rfl⟩
theorem pQ:Ok prog 97=true:=by unfold Ok;rw[func97];kernel_rfl
theorem mV(c:Cx):∀l:List Int,Ag (V c) (l.map AA) (l.map (Value.int .i64))
 | []=>trivial
 | x::l=>⟨by simp[V],mV c l⟩
theorem d97(l:List (Int×Int))(hl:l.length<=1048576){H:Hp}{n o:Nat}{full:Bool}{t:List SV}(Q:H o=some (.cells (kC l++t))):
 BL prog 97 [.sl o 0 2 l.length full,.fn (.func 98) [] []] H n (λv h' n'=>v=.tup []/\h'=h_ H o (some (.cells (kC (jw l)++t)))/\n'=n):=by
 refine⟨pQ,λc vs _ R F A=>?_⟩;have⟨u,rs,ev,r,A2⟩:∃u rs,vs=u::rs/\V c (.sl o 0 2 l.length full) u/\Ag (V c) [.fn (.func 98) [] []] rs:=by
  cases vs with
  | nil=>exact A.elim
  | cons u rs=>exact⟨u,rs,rfl,A.1,A.2⟩
 obtain⟨u2,rfl,s⟩:=A2.single;subst ev;simp only[V,VL]at r s;obtain⟨xs,ys,rfl,B,hy⟩:=s;subst B hy;obtain⟨b,st,cap,hρ,rfl,hcap,_,hroom⟩:=r;obtain⟨Y,st',arr,e,vs,M,p,g3,N,g5,_⟩:=R.obj o _ Q;rw[hρ]at M;cases M;have O:=Ag.pre N;rw[mD,qf,kY]at O;have K:=UR O;have P:=Ag.drop (l.length*2) N;rw[List.drop_left' (by rw[kE])]at P;have a:b<c.w.heap.size:=(qp.1 p).1;have d:∀j (x:Value),((mL l).map (Value.int .i64))[j]? = some x->arr[st+j]? = some x:=λj x e=>by
  rw[<-K]at e;exact g3 j x (by rw[JY]at e;split at e;exact e;cases e)
 have G:Go.Sort.HoldsK kv 2 c.w b (st+0) l.toArray:=by
  unfold Go.Sort.HoldsK;rw[oo];intro j S;have I:j<((mL l).map (Value.int .i64)).length:=by simpa using S
  have Z:((mL l).map (Value.int .i64)).toArray[j]! = ((mL l).map (Value.int .i64))[j]:=by
   rw[getElem!_pos ((mL l).map (Value.int .i64)).toArray j S];simp
  rw[Z];exact⟨by simp[World.cell?,p,d j _ (qe I)],by simp[World.frozen?,p]⟩
 have eg:∀args w,(callFunc 98 args).run prog w=.ok (.enter 98 args) w:=enters_of func98 (by kernel_rfl) rfl;have T:=AnyQ.slices_SortFunc Tryz.sortB 2 Tryz.isAgg89 Tryz.sizeOf89 kv (λ_=>rfl) (λx v r=>by simp[kv]at r;rcases r with rfl|rfl<;>rfl) lX pT 98 #[] b (st+0) cap l.toArray c.w eg (pL _ _ _ _) G a (by simp;omega);have D:Calls prog 97 #[.slice (some ⟨b,st+0,none⟩) l.length cap,.func (.func 98) #[] #[]] c.w λe w'=>e=.returned (.tuple #[])/\∃k os,w'=Go.Sort.grow (Go.Sort.putRow id (Go.Sort.ahead c.w k) b (st+0) ((mL (jw l)).map (Value.int .i64)).toArray) os:=by
  refine T.mono ?_;rintro e w' ⟨rfl,E,k,os,h1,h2,rfl⟩;refine⟨rfl,k,os,?_⟩;have h3:=Go.Sort.sorted_unique_holds pT (λx y h1 h2=>by
   rw[pM]at h1 h2;simp at h1 h2;exact Prod.ext (by omega) (by omega)) l.toArray E h1 h2
  have h6:E=(jw l).toArray:=by rw[<-Array.toArray_toList (xs:=E),h3];rfl
  unfold sortWorldK Go.Sort.putRowK;rw[h6,oo]
 refine D.mono ?_;rintro e w' ⟨rfl,k,os,rfl⟩;have q:(jw l).length=l.length:=XI _;obtain⟨L,C⟩:∃L,L=(mL (jw l)).map (Value.int .i64):=⟨_,rfl⟩
 have hLl:L.length=l.length*2:=by rw[C,qf,kY,q]
 have hfl:((mL l).map (Value.int .i64)).length=l.length*2:=by rw[qf,kY]
 rw[<-C];have m:(Go.Sort.grow (Go.Sort.putRow id (Go.Sort.ahead c.w k) b (st+0) L.toArray) os).heap=(c.w.heap.modify b (Go.Sort.onCells (Go.Sort.putCells id (st+0) L.toArray)))++os:=rfl;have f:(Go.Sort.grow (Go.Sort.putRow id (Go.Sort.ahead c.w k) b (st+0) L.toArray) os).heap[b]? = some (.cells (Go.Sort.putCells id (st+0) L.toArray arr) e (0,0)):=by
  rw[m,Uo (by simpa using a),Vx,if_pos rfl,p];rfl
 obtain⟨U,W⟩:=R.write2 (w':=Go.Sort.grow (Go.Sort.putRow id (Go.Sort.ahead c.w k) b (st+0) L.toArray) os) (y:=.cells (kC (jw l)++t)) Q hρ
  (by rw[m];simp) (λY hb J=>by rw[m,Uo (by simpa using J),Vx,if_neg (Ne.symm hb)])
  (by unfold rm; rw [f, p]; simp [Go.Sort.putCells]) rfl rfl (fun X => by
    refine⟨b,st,_,e,L++vs.drop (l.length*2),hρ,f,λi x hi=>?_,?_,λx B=>?_,Ty.none⟩;simp only[Go.Sort.putCells,Array.getElem?_mapIdx,UO,List.size_toArray];by_cases g:i<L.length;rw[qZ g]at hi;have B:L[i]=x:=by rw[qe g]at hi;exact Option.some.inj hi
    have h7:=d i _ (qe (by omega));rw[h7,qO,if_pos ⟨by omega,by omega⟩,show st+i-st=i by omega];rw[getElem!_pos L.toArray i (by simpa using g)];simp[B];rw[qT (by omega),Km,show l.length*2+(i-L.length)=i by omega]at hi;rw[g3 i x hi,qO,if_neg (by omega)];rw[mD];refine vh ?_ (wa X P);rw[C];exact mV _ _;rcases qd.1 B with h|h;rw[C]at h;obtain⟨z,_,rfl⟩:=ql.1 h;rfl;exact g5 x (JJ h))
 exact⟨.tuple #[],.tup [],_,n,_,rfl,⟨rfl,rfl,rfl⟩,rfl,by simp[V,VL],U,F,⟨W,qa _,λ_ _=>rfl⟩⟩
end Go.Proofs.YtgakninlhfkkmaaGreat.Sh
namespace Go.Proofs.YtgakninlhfkkmaaGreat.Sh
open Go.Proofs.Tryz
open Proofs
set_option maxRecDepth 10000
set_option maxHeartbeats 4000000
theorem Mp{F:Nat->Int}:∀{n:Nat},(∀i,i<n->F i=0)->CD F n=0
 | 0,_=>rfl
 | n+1,h=>by rw[CD,if_pos (Mp λi hi=>h i (by omega))];exact h n (by omega)
theorem YU{F:Nat->Int}{i:Nat}(h:Gb F i=0):1<=F i/\F i<=1073741824/\(0<i->F (i-1)<F i):=by
 unfold Gb at h;by_cases c1:1<=F i/\F i<=1073741824;refine⟨c1.1,c1.2,λhi=>?_⟩;rw[if_neg (by simpa using c1)]at h;by_cases a:F i=F (i-1);rw[if_pos ⟨hi,a⟩]at h;cases h;rw[if_neg λg=>a g.2]at h;by_cases b:F i<F (i-1);rw[if_pos ⟨hi,b⟩]at h;cases h;omega;rw[if_pos c1]at h;cases h
theorem OB{l:List BC}(h:El l=0):Ct l=0:=by
 have hlen:=GK h;have h2:CD (IQ l) (min l.length 256)=0:=by
  have e:=h;unfold El at e;have hl:¬(256:Int)<l.length:=by omega
  simp[Bc,hl]at e;exact Classical.byContradiction λg=>g (e g)
 rw[Ct,if_neg (by omega)];refine Mp λi hi=>?_;have a:=JK h2 i (by omega);unfold IQ at a;unfold Fg;rw[qe hi]at a ⊢;dsimp only at a ⊢;have m:=Ik a;rw[Bc,if_pos m]at a;have d:=Ik a;rw[Bc,if_pos d]at a;have o:=Ik a;obtain⟨j,k,b⟩:=YU m
 try dsimp only at j k b
 rw[qe hi]at j k b
 try dsimp only at j k b
 have n:Dc l[i].O=true:=by
  cases p:Dc l[i].O with
  | true=>rfl
  | false=>rw[p]at d;simp at d
 have ht:0<=l[i].time/\l[i].time<=1099511627776:=by
  by_cases c:0<=l[i].time/\l[i].time<=1099511627776;exact c;simp[c]at o
 simp only[Dc,qo,decide_eq_true_eq]at n;have q:Cn l[i]=0:=by
  unfold Cn;rw[if_neg (by omega),if_neg (by omega),if_neg (by omega),if_neg (by rw[n.2];decide),if_neg (by omega)]
 rw[if_pos q];by_cases c:i=0;rw[if_pos c]
 . rw[if_neg c];have f:i-1<l.length:=by omega
   have b:=b (by omega);rw[qe f]at b ⊢
   try dsimp only at b ⊢
   unfold GD;rw[if_neg (by omega),if_pos b];simp;omega
section
variable{H:Hp}{p q:Nat}{a b:SV}
end
theorem c67:PC 67 [] Sd.e:=by
 intro h n;refine gq func67 rfl λa=>?_;simp[go_sem,AD];exact A3 a (by repeat(first|exact AC|refine AR a (by omega) ?_)) rfl rfl
def kU(l:List BC)(ids:List Int):List BC:=l.filter λr=>!decide (r.id∈ids)
theorem oz{H:Hp}{n m k p:Nat}{es:List SV}{x:BC}{o:Option Nat}(a:BR n m 3 o es)(hl:es.length<=1073741823)(h1:H k=some (.cells [AA x.id,.str x.O,AA x.time]))(h2:∀j,o=some j->H j=some (.cells (es.flatMap SV.cells))):
 Al prog H p .append [30,30] [AW 3 o es,.sl k 0 3 1 true]=some { val:=.sl p 0 3 (es.length+1) false,upd:=o.map λj=>(j,none),new:=some (.cells (es.flatMap SV.cells++[AA x.id,.str x.O,AA x.time])) }:=by
 have:=Fa (P:=prog) (H:=H) (t:=30) (t2:=30) (el:=42) (z:=3) (by simp[go_sem]) (by simp[go_sem]) (by simp[go_sem]) (by simp) (by simp[go_sem]) (by simp[go_sem]) (by simp[go_sem]) (by omega) a (e:=x.e) rfl h1 h2 p;exact this
theorem c64(l:List BC)(hl:l.length<=1048576)(ids:List Int)(hi:ids.length<=1048576):PC 64 [BE l,.i 1 (ids.map AA) false] (BE (kU l ids)):=by
 intro h n;refine DO func64 rfl λL=>?_;have d:=L.lt;obtain⟨I,hI⟩:∃I:SV,I=.i 1 (ids.map AA) false:=⟨_,rfl⟩
 refine Aa 0 [(0,BE l),(1,I)] h n ?_ (λm f=>?_);simp[go_sem,hI,IO];refine Aa 0 [(0,BE l),(1,I),(5,.i 0 [] true)] h n ?_ (λm f=>?_);simp[go_sem,IO,f];obtain⟨M,u⟩:∃M:Nat->List SV,∀i,M i=(kU (l.take i) ids).map BC.e:=⟨_,λ_=>rfl⟩
 have w:M 0=[]:=by rw[u];rfl
 have G:∀i r,(hi:i<l.length)->l[i]=r->M (i+1)=M i++if r.id∈ids then[]else[r.e]:=λi r hi e=>by
  rw[u,u,qb hi,e,kU,QN,qc];by_cases c:r.id∈ids<;>simp[c,kU]
 have D:M l.length=(kU l ids).map BC.e:=by rw[u,qm]
 have F:∀i,(M i).length<=i:=λi=>by
  rw[u,qf];exact qI (JM _ _) (vz i l)
 refine AX 0 (α:=Option Nat) (λo=>[(5,AW 3 o (M l.length))]) (λo=>AV o (M l.length) h) (λo m=>n<=m/\BR n m 3 o (M l.length)) ?_ (λo m f=>?_);refine Aa 0 [(1,I),(5,AW 3 none (M 0)),(8,BE l),(9,AA l.length),(10,AA 0)] (AV none (M 0) h) m ?_ (λm2 a=>?_);rw[w];simp[go_sem,IO,AW,AV];refine AY (BT 0 (α:=Nat×Option Nat) (λq=>[(1,I),(5,AW 3 q.2 (M q.1)),(8,BE l),(9,AA l.length),(10,AA q.1)]) (λq=>AV q.2 (M q.1) h)
  (λq m=>q.1<=l.length/\n<=m/\BR n m 3 q.2 (M q.1)) (λq=>l.length-q.1) (0,none) ⟨qg _,by omega,by rw[w];exact vA _ _ _⟩ ?_ AC ?_)
 simp[go_sem,Ao,IO];clear f a m2 m;rintro⟨i,o⟩ m ⟨J,A,b⟩;dsimp only at J b ⊢;have C:=F i;by_cases s:i<l.length;have w1:=wS i (by omega);obtain⟨r,N⟩:∃r,l[i]=r:=⟨_,rfl⟩
 have B:=G i r s N;generalize hE:M i=E at b C B;have g:∀j y,AV o E h j=some y->j<m:=G0 d A b;refine B5 0 [(1,I),(5,AW 3 o E),(8,BE l),(9,AA l.length),(10,AA i),(11,.bool true)] (AV o E h) m ?_ (λm2 a=>?_);simp[go_sem,IO,s];subst a;refine B5 0 [(1,I),(5,AW 3 o E),(8,BE l),(9,AA l.length),(10,AA i)] (AV o E h) m ?_ (λm2 a=>?_);simp[go_sem,IO];subst a;refine AX 0 (α:=Option Nat) (λo=>[(1,I),(5,AW 3 o (M (i+1))),(8,BE l),(9,AA l.length),(10,AA i)]) (λo=>AV o (M (i+1)) h) (λo m=>n<=m/\BR n m 3 o (M (i+1))) (AY ?_) (λo m f=>?_);refine Aa 1 [(1,I),(5,AW 3 o E),(8,BE l),(9,AA l.length),(10,AA i),(7,.q [AA r.id,.str r.O,AA r.time])] (AV o E h) m ?_ (λm2 a=>?_);simp[go_sem,IO,s,N,BC.e,AD];exact⟨AZ (AS g (qa _)) (AD _ _ _),AL g (AL g AC)⟩;rw[B,hI];refine AJ ?_;simp[go_sem];refine(bQ ids r.id hi).use ?_;by_cases c:r.id∈ids;simp[go_sem,c,IO];exact⟨o,⟨by omega,b.mono a⟩,rfl,AC⟩;simp[go_sem,c];rw[oz (x:=r) b (by omega) (by simp[AD]) (by
  intro j e;have:=(b.lt j e).2;rw[AE _ _ (by omega)];exact FX j e)]
 have t:=b.push (j:=m2+1) (m':=m2+1+1) (e:=r.e) rfl rfl (by omega) (by omega);have k:=D7 (p:=m2+1) (v:=.sl (m2+1) 0 3 (E.length+1) false) (e:=r.e) d (by omega) b (H:=h_ (AV o E h) m2 (some (.cells [AA r.id,.str r.O,AA r.time]))) (AL (λj z e=>by have:=d j z e;omega) (Eb d b));have K:AW 3 (some (m2+1)) (E++[r.e])=.sl (m2+1) 0 3 (E.length+1) false:=by simp[AW]
 simp[go_sem];exact⟨some (m2+1),⟨by omega,t⟩,K.symm,by simpa[C5.app,SV.cells,BC.e]using k⟩;refine AJ ?_;simp[go_sem,w1,IO,-Int.natCast_add];exact⟨i+1,by omega,o,⟨by omega,f.1,f.2⟩,⟨IO,IO⟩,AC⟩;have:i=l.length:=by omega
 subst this;refine AJ ?_;simp[go_sem];exact⟨o,⟨A,b⟩,rfl,AC⟩;refine AJ ?_;simp[go_sem];rw[D]at f ⊢;exact I1 L f.2 (λe O=>by obtain⟨p,_,rfl⟩:=ql.1 O;simp[BC.e,cc,ca])
def SK(l:List BC):Prop:=l.length<=256/\(∀r∈l,Cn r=0)/\l.Pairwise λa b=>a.id<b.id
theorem af{l:List BC}(h:Ct l=0):SK l:=by
 have hl:¬256<l.length:=λg=>by rw[Ct,if_pos g]at h;cases h
 refine⟨by omega,λr c=>?_,?_⟩;rw[Ct,if_neg hl]at h;obtain⟨i,hi,rfl⟩:=VO.1 c;have:=JK h i hi;unfold Fg at this;rw[qe hi]at this;dsimp only at this;by_cases e:Cn l[i]=0;exact e;rw[if_neg e]at this;exact this;exact J9.2 λi j hi b a=>I6 h i j a b
theorem Vc{l:List BC}(h:SK l):Ct l=0:=by
 obtain⟨h1,h2,b⟩:=h;rw[Ct,if_neg (by omega)];refine Mp λi hi=>?_;unfold Fg;rw[qe hi];dsimp only;rw[if_pos (h2 _ (qi hi))];by_cases c:i=0;rw[if_pos c];rw[if_neg c];have a:i-1<l.length:=by omega
 rw[qe a];dsimp only;have:=J9.1 b (i-1) i a hi (by omega);unfold GD;rw[if_neg (by omega),if_pos this];simp;omega
theorem IS{l:List BC}(h:SK l)(p:BC->Bool):SK (l.filter p):=
 ⟨qI (JM _ _) h.1,λr a=>h.2.1 r (Kq.1 a).1,h.2.2.sublist List.filter_sublist⟩
theorem XL:∀{a b:List BC},a.Pairwise (λa b=>a.id<b.id)->b.Pairwise (λa b=>a.id<b.id)->(∀y,y∈a↔y∈b)->a=b
 | [],[],_,_,_=>rfl
 | [],y::_,_,_,h=>absurd ((h y).2 (by simp)) (by simp)
 | x::_,[],_,_,h=>absurd ((h x).1 (by simp)) (by simp)
 | x :: a, y :: b, ha, hb, h => by
  obtain⟨a1,a2⟩:=ve.1 ha;obtain⟨b1,d⟩:=ve.1 hb;have e:x=y:=by
   rcases qt.1 ((h x).1 (by simp))with e|e;exact e;rcases qt.1 ((h y).2 (by simp))with g|g;exact g.symm;have:=b1 x e;have:=a1 y g;omega
  subst e;rw[XL a2 d λz=>?_];constructor;intro c;rcases qt.1 ((h z).1 (by simp[c]))with e|e;subst e;have:=a1 z c;omega;exact e;intro c;rcases qt.1 ((h z).2 (by simp[c]))with e|e;subst e;have:=b1 z c;omega;exact e
theorem WF:∀{l:List BC},l.Pairwise (λa b=>a.id<b.id)->∀x:Int,∃k,k<=l.length/\(∀r∈l.take k,r.id<x)/\∀r∈l.drop k,x<=r.id
 | [],_,_=>⟨0,qa _,by simp,by simp⟩
 | a::l,h,x=>by
  obtain⟨h1,h2⟩:=ve.1 h;by_cases c:a.id<x;obtain⟨k,k1,e,k3⟩:=WF h2 x;refine⟨k+1,by simp;omega,λr d=>?_,λr d=>k3 r (by simpa using d)⟩;rw[YP]at d;rcases qt.1 d with rfl|d;exact c;exact e r d;refine⟨0,qg _,by simp,λr d=>?_⟩;rw[vt]at d;rcases qt.1 d with rfl|d;omega;have:=h1 r d;omega
def Ud(l:List BC)(r:BC):Nat:=(Az (F6 l r.id) l.length).1
theorem HD{l:List BC}{k:Nat}{r x:BC}:x∈FB l k r↔x=r\/x∈l:=by
 unfold FB
 conv=>rhs;rw[<-qM k l]
 simp only[qd,qt];exact⟨λh=>h.elim (λh=>.inr (.inl h)) λh=>h.elim .inl λh=>.inr (.inr h),λh=>h.elim (λh=>.inr (.inl h)) λh=>h.elim .inl λh=>.inr (.inr h)⟩
theorem UQ{l:List BC}(h:SK l){r:BC}(hn:∀x∈l,x.id≠r.id):Az (F6 l r.id) l.length=(Ud l r,false)/\Ud l r<=l.length/\(l.length<256->Cn r=0->SK (FB l (Ud l r) r)):=by
 obtain⟨k,f,g,k3⟩:=WF h.2.2 r.id;have hc:∀m,(b:m<l.length)->F6 l r.id m=GD l[m].id r.id:=λm b=>by unfold F6;rw[qe b]
 have c1:∀m,m<k->F6 l r.id m<0:=λm b=>by
  have:=g (l[m]'(by omega)) (VO.2 ⟨m,by rw[vD];omega,by rw[List.getElem_take]⟩);rw[hc m (by omega)];unfold GD;rw[if_pos this];omega
 have i:∀m,k<=m->m<l.length->¬F6 l r.id m<0:=λm h1 b=>by
  have:=k3 l[m] (VO.2 ⟨m-k,by rw[vf];omega,by rw[List.getElem_drop];congr 1;omega⟩);rw[hc m b];unfold GD;rw[if_neg (by omega)];split<;>omega
 have e:EI (F6 l r.id) 0 l.length=k:=Mt c1 i l.length 0 l.length (by omega) (qg _) f (qa _);have j:Ud l r=k:=e;rw[j];refine⟨?_,f,λhl n=>⟨?_,λx a=>?_,?_⟩⟩;unfold Az;rw[e];have:¬(k<l.length/\F6 l r.id k=0):=λ⟨u,v⟩=>by
  rw[hc k u]at v;have:=hn l[k] (qi u);unfold GD at v;split at v;omega;split at v;omega;omega
 rw[decide_eq_false this];rw[RR _ _ _ f];omega;rcases HD.1 a with rfl|a;exact n;exact h.2.1 x a;unfold FB;have c:=h.2.2;rw[<-qM k l,List.pairwise_append]at c;refine List.pairwise_append.2 ⟨c.1,ve.2 ⟨λx a=>?_,c.2.1⟩,λx a y d=>?_⟩;have:=k3 x a;have:=hn x (JJ a);omega;rcases qt.1 d with rfl|d;exact g x a;exact c.2.2 x a y d
theorem mU{l:List BC}{ids:List Int}{x:BC}:x∈kU l ids↔x∈l/\x.id∉ids:=by
 unfold kU;rw[Kq];simp
theorem oZ{l:List BC}{ids:List Int}{r:BC}(a:r∈l)(h:r.id∈ids):(kU l ids).length<l.length:=by
 unfold kU;rcases YV (l.filter λr=>!decide (r.id∈ids)).length l.length with g|g;exact g;have:=List.filter_sublist (p:=λr:BC=>!decide (r.id∈ids)) (l:=l);have e:=this.eq_of_length_le g;rw[<-e]at a;have:=(Kq.1 a).2;simp[h]at this
theorem U8{d:AG}{x:Int}:x∈Gc d↔x≠0/\x∈AB.U d.W++d.T0.all:=by
 unfold Gc C9;rw[List.mem_mergeSort,Kq,Id];simp[and_comm]
theorem RX{U:List Int}{x:Int}(h:(Az (Js U x) U.length).2=true):x∈U:=by
 have a:=Fw _ _ h;simp only[Az,decide_eq_true_eq]at h a;obtain⟨k,b⟩:∃k,k=EI (Js U x) 0 U.length:=⟨_,rfl⟩
 rw[<-b]at h a;have:=h.2;unfold Js at this;rw[qe a]at this;dsimp only at this;split at this;omega;split at this;rename_i e;rw[<-e];exact qi a;omega
theorem IM{D:AG}{r:BC}(h0:r.id≠0):r∈D.normal.V↔r∈D.V/\r.id∈AB.U (AO D.W)++D.T0.all:=by
 show r∈D.V.filter _↔_;rw[Kq];constructor;rintro⟨h1,h2⟩;exact⟨h1,(U8.1 (RX h2)).2⟩;rintro⟨h1,h2⟩;exact⟨h1,SU h0 h2⟩
theorem p7(h:Hp)(n:Nat):BL prog 76 [.i 3 [] false] h n (λv h' n'=>(∃z,v=.i z [] true)/\h'=h/\n'=n):=by
 refine gq func76 rfl λho=>?_;simp[go_sem];refine Cj rfl (by kernel_rfl) rfl (λe=>?_) ?_;simp[go_sem];exact .inl ⟨⟨_,rfl⟩,rfl,rfl⟩;simp[go_sem];refine DP (z:=3) rfl rfl (by kernel_rfl) ?_;simp[go_sem];exact .inl ⟨⟨_,rfl⟩,rfl,rfl⟩
theorem nf(z:Nat)(r:BC){H:Hp}{n k:Nat}(i:H k=some (.cells [AA r.id,.str r.O,AA r.time])):
 BL prog 117 [.i z [] true,AA 0,.sl k 0 3 1 true] H n (λv h' n'=>v=BE [r]/\h'=H/\n'=n):=by
 refine DO func117 rfl λd=>?_;have b:=d.lt;have a:flat H (.sl k 0 3 1 true)=some [AA r.id,.str r.O,AA r.time]:=by simp[flat,i,Bz]
 have ht:BA prog 30=some 42:=by simp[go_sem]
 have c:∀z,Al prog H n .append [30,30] [.i z [] true,.sl k 0 3 1 true]=some { val:=.sl n 0 3 1 false,new:=some (.cells [AA r.id,.str r.O,AA r.time]) }:=λz=>by
  have l:Br prog 42=3:=by simp[go_sem]
  have g:(BK prog 42).B=true:=by simp[go_sem]
  have h:(BK prog 42).cells.length=3:=by simp[go_sem]
  have hb:Bw prog 42<=65536:=by simp[go_sem]
  have f:EF 1 (Bw prog 42)=true:=by simp[EF,hb]
  simp[Al,ht,Ec,l,g,h,GW,a,LT,f,Ib]
 have fin:∀n',CO n (h_ H n (some (.cells [AA r.id,.str r.O,AA r.time]))) n' (.sl n 0 3 1 false) (λv h' n'=>v=BE [r]/\h'=H/\n'=n):=λn'=>
  .inr ⟨1,BE [r],H,Cz (k:=0) (z:=3) (es:=[r].map BC.e) (full:=false) (full':=false) (o:=n) (d.none (qa n)) (by simp) (by rw[AD];simp[BC.e,SV.cells]) (BC.E.size _),BC.E.i _ _ _ _,λj y e=>⟨AL b AC j y e,d j y e⟩,rfl,rfl,rfl⟩
 refine AJ ?_;simp[go_sem];rw[c];simp[go_sem];exact fin _
theorem pp(r:BC)(h1:Cn r=0):PC 45 [BE [],r.e] (.tup [BE [r],AA 0]):=by
 intro h n;refine DO func45 rfl λi=>?_;have b:=i.lt;refine Aa 1 [(0,BE []),(3,.q [AA r.id,.str r.O,AA r.time])] h n ?_ (λm a=>?_);simp[go_sem,BC.e,IO];exact⟨AZ (AS b (qa _)) (AD _ _ _),AL b AC⟩;refine CW 0 [(0,BE []),(3,.q [AA r.id,.str r.O,AA r.time])] h n (AJ ?_) (λm a=>?_);have c:=pq [] (by simp);rw[show Ct []=0 from rfl]at c;simp[go_sem];refine qz c ?_;simp[go_sem,IO,a];refine CW 0 [(0,BE []),(3,.q [AA r.id,.str r.O,AA r.time])] h n (AJ ?_) (λm a=>?_);simp[go_sem];refine qz (by simpa[BC.e]using d7 r) ?_;rw[h1];simp[go_sem,IO,a];refine Aa 0 [(0,BE []),(3,.q [AA r.id,.str r.O,AA r.time]),(8,AA 0),(9,.bool false)] h n ?_ (λm a=>?_);have c:=pv [] (by simp) r.id;rw[show Az (F6 [] r.id) [].length=(0,false)by unfold Az;rw[EI];simp]at c;simp[go_sem];refine qz c ?_;simp[go_sem,IO,a];refine CW 0 [(0,BE []),(3,.q [AA r.id,.str r.O,AA r.time]),(8,AA 0)] h n (AJ ?_) (λm a=>?_);simp[go_sem,IO,a];refine AX 0 (α:=Unit) (λ_=>[(4,BE [r]),(5,AA 0)]) (λ_=>h) (λ_ m=>n<=m) (CK dP rfl (by kernel_rfl) (by kernel_rfl) ?_) (λ_ m a=>?_);have d:∀j y,h j=some y->j<m:=λj y e=>by have:=b j y e;omega
 simp[go_sem,dP];refine⟨?_,?_,?_⟩;refine qP (p7 _ _) ?_;rintro v f n' ⟨⟨z,rfl⟩,rfl,rfl⟩;simp[go_sem];refine qP (nf z r (AD _ _ _)) ?_;rintro v g k ⟨rfl,rfl,rfl⟩;simp[go_sem,IO];exact⟨by omega,AL d AC⟩;refine qP (p7 _ _) ?_;rintro v f n' ⟨⟨z,rfl⟩,rfl,rfl⟩;simp[go_sem];refine qP (nf z r (AD _ _ _)) ?_;rintro v g k ⟨rfl,rfl,rfl⟩;simp[go_sem,IO];exact⟨by omega,AL d AC⟩;refine qP (p7 _ _) ?_;rintro v f n' ⟨⟨z,rfl⟩,rfl,rfl⟩;simp[go_sem];refine qP (nf z r (AD _ _ _)) ?_;rintro v g k ⟨rfl,rfl,rfl⟩;simp[go_sem,IO];exact⟨by omega,AL d AC⟩;refine AJ ?_;simp[go_sem];exact A3 i AC rfl (by rw[cc,ca,ca,BC.E.i _ _ [r]];rfl)
theorem po{l:List BC}(h:SK l)(hl:l.length<256){r:BC}(h1:Cn r=0)(hn:∀x∈l,x.id≠r.id):PC 45 [BE l,r.e] (.tup [BE (FB l (Ud l r) r),AA 0]):=by
 cases l with
 | nil=>
  have:FB [] (Ud [] r) r=[r]:=by simp[FB]
  rw[this];exact pp r h1
 | cons a l=>
  obtain⟨b,c,_⟩:=UQ h hn;exact b9 (a::l) (by simp) hl r (Vc h) h1 _ c b
def K4(l:List Bs):Prop:=l.Pairwise λa b=>a.rev<b.rev
theorem TG:∀{a b:List Bs},K4 a->K4 b->(∀y,y∈a↔y∈b)->a=b
 | [],[],_,_,_=>rfl
 | [],y::_,_,_,h=>absurd ((h y).2 (by simp)) (by simp)
 | x::_,[],_,_,h=>absurd ((h x).1 (by simp)) (by simp)
 | x :: a, y :: b, ha, hb, h => by
  obtain⟨a1,a2⟩:=ve.1 ha;obtain⟨b1,d⟩:=ve.1 hb;have e:x=y:=by
   rcases qt.1 ((h x).1 (by simp))with e|e;exact e;rcases qt.1 ((h y).2 (by simp))with g|g;exact g.symm;have:=b1 x e;have:=a1 y g;omega
  subst e;rw[TG a2 d λz=>?_];constructor;intro c;rcases qt.1 ((h z).1 (by simp[c]))with e|e;subst e;have:=a1 z c;omega;exact e;intro c;rcases qt.1 ((h z).2 (by simp[c]))with e|e;subst e;have:=b1 z c;omega;exact e
def IW:List Bs->Bs->List Bs
 | [],x=>[x]
 | a::A,x=>if x.rev<a.rev then a::IW A x else x::a::A
theorem PN:∀(A:List Bs)(x:Bs),(IW A x).length=A.length+1
 | [],_=>rfl
 | a::A,x=>by rw[IW];split<;>simp[PN A x]
theorem Lj:∀{A:List Bs} {x y:Bs},y∈IW A x↔y=x\/y∈A
 | [],x,y=>by simp[IW]
 | a::A,x,y=>by
  rw[IW];split;rw[qt,Lj,qt];exact⟨λg=>g.elim (λe=>.inr (.inl e)) λg=>g.elim .inl λe=>.inr (.inr e),λg=>g.elim (λe=>.inr (.inl e)) λg=>g.elim .inl λe=>.inr (.inr e)⟩;simp
theorem PM:∀{A:List Bs} {x:Bs},A.Pairwise (λa b=>b.rev<a.rev)->(∀y∈A,y.rev≠x.rev)->(IW A x).Pairwise λa b=>b.rev<a.rev
 | [],x,_,_=>by simp[IW]
 | a::A,x,h,g=>by
  obtain⟨h1,h2⟩:=ve.1 h;rw[IW];split;rename_i e;refine ve.2 ⟨λy c=>?_,PM h2 λy c=>g y (by simp[c])⟩;rcases Lj.1 c with rfl|c;exact e;exact h1 y c;refine ve.2 ⟨λy c=>?_,h⟩;have:=g a (by simp);rcases qt.1 c with rfl|c;omega;have:=h1 y c;omega
theorem UA(A B:List Bs)(x:Bs):H3 (A++x::B) A.length=x:=by simp[H3,List.getD]
theorem Rv:∀(A:List Bs)(x:Bs)(B:List Bs),Fj (A.reverse++x::B) A.length=(IW A x).reverse++B
 | [],x,B=>rfl
 | a :: A, x, B => by
  have d:(a::A).reverse++x::B=A.reverse++a::x::B:=by simp
  have b:H3 (A.reverse++a::x::B) (A.length+1)=x:=by
   have:=UA (A.reverse++[a]) B x;simpa using this
  have c:H3 (A.reverse++a::x::B) A.length=a:=by
   have:=UA A.reverse (x::B) a;simpa using this
  rw[d,qJ,Fj,b,c,IW];split;have e:JG (A.reverse++a::x::B) A.length=A.reverse++x::a::B:=by
   unfold JG;rw[b,c];have h1:(A.reverse++a::x::B).set (A.length+1) a=A.reverse++a::a::B:=by
    rw[Vs _ _ (by simp)];simp
   rw[h1,Vs _ _ (by simp)];simp
  rw[e,Rv A x (a::B)];simp;simp
theorem Pf:∀(i:Nat)(l:List Bs),i<=l.length->l.Pairwise (λa b=>a.rev≠b.rev)->∃A:List Bs,Co l i=A.reverse++l.drop i/\A.length=i/\A.Pairwise (λa b=>b.rev<a.rev)/\∀y,y∈A↔y∈l.take i
 | 0,l,_,_=>⟨[],by simp[Co],rfl,List.Pairwise.nil,by simp⟩
 | i+1,l,hi,hp=>by
  obtain⟨A,h1,h2,f,d⟩:=Pf i l (by omega) hp;have c:i<l.length:=by omega
  refine⟨IW A l[i],?_,by rw[PN,h2],PM f λy h=>?_,λy=>?_⟩;rw[Co,h1,qQ c];have:=Rv A l[i] (l.drop (i+1));rw[h2]at this;exact this;obtain⟨j,g,e⟩:=VO.1 ((d y).1 h);rw[List.getElem_take]at e;rw[vD]at g;rw[<-e];exact J9.1 hp j i (by omega) c (by omega);rw[Lj,d,qb c,qd,qy];exact Or.comm
theorem L3{l:List Bs}(hp:l.Pairwise (λa b=>a.rev≠b.rev)):K4 (Co l l.length):=by
 obtain⟨A,h1,_,c,_⟩:=Pf l.length l (qa _) hp;rw[h1,List.drop_length,JP,K4,List.pairwise_reverse];exact c
theorem TH{l:List Bs}(h:K4 l):l.Pairwise λa b=>a.rev≠b.rev:=
 List.Pairwise.imp (R:=λa b:Bs=>a.rev<b.rev) (S:=λa b:Bs=>a.rev≠b.rev) (fun {a b} g=>by have:a.rev<b.rev:=g;omega) h
section
variable{a id:Int}
end
theorem Z3{a b:AG}(h1:a.W=b.W)(h2:a.T0 = b.T0)(c:a.V=b.V)(d:a.S=b.S):a=b:=by
 cases a;cases b;simp only at h1 h2 c d;subst h1 h2 c d;rfl
theorem JZ{h:AF}{y:Int}:y∈h.all↔y=h.I\/(∃d∈h.Y,d.rev=y)\/∃d∈h.Z,d.rev=y:=by
 unfold AF.all;simp only[qt,qd,ql]
theorem Wo{l:List Bs}(h:∀i (hi:i<l.length),0<i->l[i-1].rev<l[i].rev):K4 l:=by
 refine J9.2 λi j hi a hij=>?_
 induction j with
 | zero=>omega
 | succ j ih=>
  have h1:=h (j+1) a (by omega);simp only[Nat.add_sub_cancel]at h1;rcases YV i j with c|c;have:=ih (by omega) c;omega;have:i=j:=by omega
  subst this;exact h1
def jJ(m2:List Int)(h:AF):Prop:=HK m2 h/\Hd m2 h
section
variable{N K:Nat}{d:AG}{m2:List Int}
theorem Rf(a:m2=BU [] (d.V.map (·.id)))(b:Re N d)(hl:Dq (HK m2) K N d.W):wf (jJ m2) (λi=>i ≠ -1) N d.W:=
 Um (a▸b.W) hl λi hi=>by have:=(b.ids i hi).1;omega
theorem Jb(a:Re N d):SK d.V:=af (OB a.V)
theorem Wz(a:m2=BU [] (d.V.map (·.id))){id:Int}:id∈m2↔∃r∈d.V,r.id=id:=by
 rw[a,Id];simp
theorem Tl{l:List BC}(h:SK l){r:BC}(a:r∈l):r.id≠0:=by have:=OC (h.2.1 r a);omega
end
def pV:Tr:=.pure 0<|.pure 1<|.pure 3<|.one 2<|.one 4<|.one 5<|.one 6 .nil
theorem aK{h' h:Hp}{k o:Nat}{x:Int}{full full':Bool}(hn:h o=none)(a:full'=true->full=true)(b:h' o=some (.cells [AA x])):Fz h' h (k+1) (.sl o 0 1 1 full) (.i 1 [AA x] full'):=by
 have:=Cz (h':=h') (h:=h) (k:=k) (z:=1) (o:=o) (full:=full) (full':=full') (es:=[AA x]) hn a (by rw[b];simp[SV.cells]) (by simp[SV.B,SV.cells]);exact this
def nH(x y:Int×Int):Prop:=x.1<y.1\/(x.1=y.1/\x.2<y.2)
def o9(l:List (Int×Int)):Prop:=l.Pairwise nH
theorem oS{x y:Int×Int}(h:nH x y):x≠y:=by rintro rfl;unfold nH at h;omega
theorem oB(l:List (Int×Int)):(jw l).Pairwise λa b=>¬nH b a:=by
 have h:∀x y,(!(ltOf lX) y x)=true↔¬nH y x:=λx y=>by rw[pM];unfold nH;simp;omega
 have:=List.pairwise_mergeSort (le:=λx y=>!(ltOf lX) y x) (λa b c h1 h2=>by
  rw[h]at h1 h2 ⊢;unfold nH at *;omega) (λa b=>by
  rw[vJ,h,h];unfold nH;omega) l
 exact this.imp fun {a b} g=>(h a b).1 g
theorem ni{l:List (Int×Int)}(hl:l.Pairwise λa b=>¬nH b a):∀i,i<=l.length->o9 (kg l i)/\∀y,y∈kg l i↔y∈l.take i
 | 0,_=>⟨List.Pairwise.nil,by simp[kg]⟩
 | i+1,hi=>by
  obtain⟨h1,h2⟩:=ni hl i (by omega);have d:i<l.length:=by omega
  have f:l.take (i+1)=l.take i++[l[i]]:=qb d;rcases Nat.eq_zero_or_pos i with e|e;subst e;have p:kg l (0+1)=[l[0]]:=by simp[kg,d]
  rw[p,f];exact⟨List.pairwise_singleton _ _,by simp⟩;rw[lZ l e d,f];have k:l[i-1]∈l.take i:=List.mem_take_iff_getElem.2 ⟨i-1,by omega,rfl⟩;by_cases c:l[i]=l[i-1];rw[if_pos c];refine⟨h1,λy=>?_⟩;rw[h2,qd,qy];exact⟨.inl,λg=>g.elim id λg=>by rw[g,c];exact k⟩;rw[if_neg c];refine⟨List.pairwise_append.2 ⟨h1,List.pairwise_singleton _ _,λa n b hb=>?_⟩,λy=>by rw[qd,qd,h2]⟩;rw[qy]at hb;subst hb;rw[h2]at n;obtain⟨j,hj,rfl⟩:=List.mem_take_iff_getElem.1 n;have hj':j<i:=by omega
  have o:¬nH l[i] l[i-1]:=J9.1 hl (i-1) i (by omega) d (by omega);have h:j=i-1\/¬nH l[i-1] l[j]:=by
   rcases YV j (i-1)with q|q;exact .inr (J9.1 hl j (i-1) (by omega) (by omega) q);exact .inl (by omega)
  have g3:l[i-1]≠l[i]:=λq=>c q.symm;have m:nH l[i-1] l[i]:=by
   unfold nH at o ⊢;by_cases r:l[i-1].1=l[i].1;have q2:l[i-1].2≠l[i].2:=λq=>g3 (Prod.ext r q);omega;omega
  rcases h with rfl|h;exact m;unfold nH at h m ⊢;omega
def pP(l:List Int)(M:List (Int×Int)):List (Int×Int):=kg (jw (M.filter λx=>jF l x.1)) (jw (M.filter λx=>jF l x.1)).length
theorem oX(l:List Int)(M:List (Int×Int)):o9 (pP l M):=(ni (oB _) _ (qa _)).1
section
variable{σ τ:Type}
theorem lb{α β γ:Type}(R:β->γ->Prop)(a:β->α->β)(b:γ->α->γ):∀(l:List α)(p:β)(q:γ),(∀x∈l,∀p q,R p q->R (a p x) (b q x))->R p q->R (l.foldl a p) (l.foldl b q)
 | [],_,_,_,g=>g
 | x::l,p,q,h,g=>lb R a b l _ _ (λy c=>h y (Q9 _ c)) (h x (qV ..) p q g)
theorem ld(R:σ->τ->Prop)(f1:σ->CI->AF×Bool×σ)(f2:τ->CI->AF×Bool×τ)(h:∀s t p,R s t->R (f1 s p).2.2 (f2 t p).2.2):∀(N:Nat)(id:Int)(l:List AB)(sc:BH)(mid:Bool)(s:σ)(t:τ),R s t->R (ch f1 N id l sc mid s).2 (ch f2 N id l sc mid t).2
 | 0,_,_,_,_,_,_,g=>g
 | N + 1, id, l, sc, mid, s, t, g => by
  have d:=ld R f1 f2 h N;have fr:∀{α β γ:Type} (a:β×σ->α->β×σ) (b:γ×τ->α->γ×τ),(∀x p q,R p.2 q.2->R (a p x).2 (b q x).2)->∀(l:List α)(p:β×σ)(q:γ×τ),R p.2 q.2->R (l.foldl a p).2 (l.foldl b q).2:=λa b hg l p q g=>
   lb (λp q=>R p.2 q.2) a b l p q (λx _ p q g=>hg x p q g) g
  have q:∀sc mid l s t,R s t->R (kh f1 (ch f1 N) sc mid l s).2 (kh f2 (ch f2 N) sc mid l t).2:=λsc mid l s t g=>by
   refine fr (mP f1 (ch f1 N) sc mid) (mP f2 (ch f2 N) sc mid) (λx p q g=>?_) l ([],s) ([],t) g;refine(fr (kP f1 (ch f1 N) sc mid) (kP f2 (ch f2 N) sc mid) (λr p q g=>?_) x.R ([],(oQ (ch f1 N) sc mid x (f1 p.2 ⟨x.H,mid,(BF [x]).1⟩).2.2).2) ([],(oQ (ch f2 N) sc mid x (f2 q.2 ⟨x.H,mid,(BF [x]).1⟩).2.2).2) ?_:_);refine(fr (kM f1 (ch f1 N) sc mid) (kM f2 (ch f2 N) sc mid) (λc p q g=>?_) r.cells ([],(f1 p.2 ⟨r.H,mid,1⟩).2.2) ([],(f2 q.2 ⟨r.H,mid,1⟩).2.2) (h _ _ _ g):_);exact d _ _ _ _ _ _ (h _ _ _ g);unfold oQ;split;exact d _ _ _ _ _ _ (h _ _ _ g);exact h _ _ _ g
  rw[ch,ch];split;exact q _ _ _ _ _ (q _ _ _ _ _ (q _ _ _ _ _ g));exact q _ _ _ _ _ g
end
section
variable{σ τ:Type}{hp:AF->Prop}{T:Int->Prop}{f1:σ->CI->AF×Bool×σ}{f2:τ->CI->AF×Bool×τ}{sc:BH}
end
end Go.Proofs.YtgakninlhfkkmaaGreat.Sh
