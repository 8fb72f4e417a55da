/- A part of the proof (part 10 of 18). -/
import Derived.Test.YthinbkgpjmjfeaaGreatDoorM9
import Derived.Sort.Grow
import Derived.Deep.Draws
import Derived.Shelf.SlSortCmp.WholeK
import Derived.Test.YthinbkgpjmjfeaaGreatDoorProg
namespace Go.Proofs.YthinbkgpjmjfeaaGreatDoor.Sh
open Go.Proofs.Tryz
section
variable{E:BU}{P:Program}{N:Nat}{code:Code}{Q:Ca}{sa:SA}{h h':Hp}{n n':Nat}{c:Cx}
theorem Hi(s:n<=n')(hg:∀c,Bk h c->Fr n c->∃b:Cx,b.w=c.w/\DF c b/\Bk h' b/\Fr n' b/\∀j,j<n->b.ρ j=c.ρ j)(H:Fc E P N code Q sa h' n'):Fc E P N code Q sa h n:=by
 intro hd c a I R F A;obtain⟨b,hw,X,m,l,hρ⟩:=hg c R F;rw[<-hw];refine wpIn_mono (H hd b a (E.ext X I) m l (A.ext X)) ?_;rintro e a' w' ⟨i,h2,t,p,q,g,o,d,k,f⟩;exact⟨i,h2,t,p,q,g,o,d,k,⟨X.trans f.ext,qy s f.le,λj r=>(f.same j nN).trans (hρ j r)⟩⟩
theorem Bk.pack{p q z:Nat}{es:List SV}{full:Bool}{ty jn:Option TypeId}(R:Bk h c)(hp:h p=some (.cells [.sl q 0 z es.length full] ty))(D:h q=some (.cells (es.flatMap SV.cells) jn))(K:es≠[])(u:p≠q):
 ∃f:Cx,f.w=c.w/\f.ρ=c.ρ/\DF c f/\Bk (h_ (h_ h p (some (.list z es))) q none) f:=by
 obtain⟨b,st,arr,e,vs,a1,a2,a3,a4,a5,_⟩:=R.obj p _ hp;obtain⟨B,E,t,d,us,b1,N,P,Q,S,_⟩:=R.obj q _ D;obtain⟨v,rfl,hv⟩:=a4.single;rw[V]at hv;obtain⟨B',st',cap,c1,T,U,_,W⟩:=hv;rw[b1]at c1;cases c1;have L:rm c.w B=t.size:=by simp[rm,N]
 rw[L]at W;obtain⟨f,r⟩:∃f:Cx,f={ c with bk:=λj=>if j=p then some B else c.bk j }:=⟨_,rfl⟩
 have o:f.w=c.w:=by rw[r]
 have A:f.ρ=c.ρ:=by rw[r]
 have O:f.own=c.own:=by rw[r]
 have kb:∀j,f.bk j=if j=p then some B else c.bk j:=λj=>by rw[r]
 have X:DF c f:=⟨λ_ _ e=>by rw[A];exact e,by rw[o];exact IO _,λb _ Y=>⟨by rw[O];exact Y,by rw[o]⟩,λ_=>by rw[o];exact IO _,by rw[o],by rw[o],by rw[o];exact⟨rfl,IO _⟩⟩
 have get:∀j y,h_ (h_ h p (some (.list z es))) q none j=some y->(j=p/\y=.list z es)\/(j≠p/\j≠q/\h j=some y):=λj y e=>by
  simp only[h_]at e;split at e;cases e;split at e;cases e;exact .inl ⟨by assumption,rfl⟩;exact .inr ⟨by assumption,by assumption,e⟩
 have hne':∀j y a,j≠p->Ar f j y a->Ar c j y a:=λj y a k H=>by
  simp only[Ar,A,kb,k,if_false]at H;exact H
 have hat:∀a,Ar f p (.list z es) a->a=b\/a=B:=λa H=>by
  rcases H with⟨s,H⟩|⟨_,H⟩
  rw[A,a1]at H;cases H;exact .inl rfl;rw[kb,nS rfl]at H;cases H;exact .inr rfl
 have l:∀j y a,j≠p->j≠q->h j=some y->Ar c j y a->a≠b/\a≠B:=λj y a h1 h2 e H=>
  ⟨λg=>h1 (R.inj2 j p y _ a e hp H (.inl ⟨st,by rw[g];exact a1⟩)),λg=>h2 (R.inj2 j q y _ a e D H (.inl ⟨E,by rw[g];exact b1⟩))⟩
 refine⟨f,o,A,X,⟨λj y F=>?_,λi j y C a m d G I=>?_,λa=>?_⟩⟩;rcases get j y F with⟨rfl,rfl⟩|⟨k,_,F⟩
 refine⟨b,st,arr,e,v,by rw[A];exact a1,by rw[o];exact a2,by simpa using a3 0 v rfl,a5 v nO,.inr ⟨B,E+0,t,d,us,cap,K,λg=>u (R.inj j q _ _ b st E hp D a1 (by rw[<-g];exact b1)),by rw[kb,nS rfl],by rw[o];exact N,T,U,by omega,λi x Z=>by simpa using P i x Z,wP X Q,S⟩⟩;exact(R.obj j y F).mono X (λ_ _=>by rw[o]) (by rw[kb,nR k]);rcases get i y m with⟨rfl,rfl⟩|⟨hi,J,f1⟩
 rcases get j C d with⟨rfl,rfl⟩|⟨k,n,f2⟩
 rfl;obtain⟨n1,M⟩:=l j C a k n f2 (hne' j C a k I);rcases hat a G with g|g;exact absurd g n1;exact absurd g M;rcases get j C d with⟨rfl,rfl⟩|⟨k,n,f2⟩
 obtain⟨n1,M⟩:=l i y a hi J f1 (hne' i y a hi G);rcases hat a I with g|g;exact absurd g n1;exact absurd g M;exact R.inj2 i j y C a f1 f2 (hne' i y a hi G) (hne' j C a k I);rw[O,R.own2 a];constructor;rintro⟨j,y,m,d⟩;by_cases k:j=p;subst k;rw[hp]at m;cases m;rcases d with⟨s,d⟩|⟨d,_⟩
 exact⟨j,.list z es,by simp[h_,u],.inl ⟨s,by rw[A];exact d⟩⟩;cases d;by_cases n:j=q;subst n;rw[D]at m;cases m;rcases d with⟨s,d⟩|⟨d,_⟩
 rw[b1]at d;cases d;exact⟨p,.list z es,by simp[h_,u],.inr ⟨rfl,by rw[kb,nS rfl]⟩⟩;cases d;exact⟨j,y,by simp[h_,k,n,m],by simpa only[Ar,A,kb,k,if_false]using d⟩;rintro⟨j,y,m,d⟩;rcases get j y m with⟨rfl,rfl⟩|⟨k,_,m⟩
 rcases hat a d with rfl|rfl;exact⟨j,_,hp,.inl ⟨st,a1⟩⟩;exact⟨q,_,D,.inl ⟨E,b1⟩⟩;exact⟨j,y,m,hne' j y a k d⟩
theorem Bk.unpack{p k z:Nat}{es:List SV}(R:Bk h c)(hk:c.ρ k=none)(hp:h p=some (.list z es))(S:es≠[]):
 ∃l:Cx,l.w=c.w/\(∀j,j≠k->l.ρ j=c.ρ j)/\DF c l/\Bk (h_ (h_ h p (some (.cells [.sl k 0 z es.length false]))) k (some (.cells (es.flatMap SV.cells)))) l:=by
 have J:=R.none_of hk;have N:p≠k:=by rintro rfl;rw[hp]at J;cases J
 obtain⟨b,st,arr,e,v,a1,a2,a3,a4,⟨g,_⟩|⟨B,O,F,m,us,cap,_,M,b1,U,c2,c3,c5,Z,b4,b5⟩⟩:=R.obj p _ hp;exact absurd g S;obtain⟨l,D⟩:∃l:Cx,l={ c with ρ:=λj=>if j=k then some (B,O)else c.ρ j,bk:=λj=>if j=p then none else c.bk j }:=⟨_,rfl⟩
 have A:l.w=c.w:=by rw[D]
 have u:∀j,l.ρ j=if j=k then some (B,O)else c.ρ j:=λj=>by rw[D]
 have W:l.own=c.own:=by rw[D]
 have kb:∀j,l.bk j=if j=p then none else c.bk j:=λj=>by rw[D]
 have X:DF c l:=⟨λj q e=>by rw[u];split;(subst_vars;rw[hk]at e;cases e);exact e,by rw[A];exact IO _,λb _ ho=>⟨by rw[W];exact ho,by rw[A]⟩,λ_=>by rw[A];exact IO _,by rw[A],by rw[A],by rw[A];exact⟨rfl,IO _⟩⟩
 have T:rm l.w B=F.size:=by rw[A];simp[rm,U]
 have get:∀j y,h_ (h_ h p (some (.cells [.sl k 0 z es.length false]))) k (some (.cells (es.flatMap SV.cells))) j=some y->(j=k/\y=.cells (es.flatMap SV.cells))\/(j=p/\y=.cells [.sl k 0 z es.length false])\/(j≠p/\j≠k/\h j=some y):=λj y e=>by
  simp only[h_]at e;split at e;cases e;exact .inl ⟨by assumption,rfl⟩;split at e;cases e;exact .inr (.inl ⟨by assumption,rfl⟩);exact .inr (.inr ⟨by assumption,by assumption,e⟩)
 have hne':∀j y a,j≠p->j≠k->Ar l j y a->Ar c j y a:=λj y a f hk H=>by
  simp only[Ar,u,kb,f,hk,if_false]at H;exact H
 have n:∀a,Ar l k (.cells (es.flatMap SV.cells)) a->Ar c p (.list z es) a/\a=B:=λa H=>by
  rcases H with⟨s,H⟩|⟨H,_⟩
  rw[u,nS rfl]at H;cases H;exact⟨.inr ⟨rfl,b1⟩,rfl⟩;cases H
 have o:∀a,Ar l p (.cells [.sl k 0 z es.length false]) a->Ar c p (.list z es) a/\a=b:=λa H=>by
  rcases H with⟨s,H⟩|⟨H,_⟩
  rw[u,nR N,a1]at H;cases H;exact⟨.inl ⟨st,a1⟩,rfl⟩;cases H
 have C:∀j y a,h j=some y->Ar c p (.list z es) a->Ar c j y a->j=p:=λj y a e K Y=>R.inj2 j p y _ a e hp Y K;refine⟨l,A,λj f=>by rw[u,nR f],X,⟨λj y Q=>?_,λi j y E a r m L G=>?_,λa=>?_⟩⟩;rcases get j y Q with⟨rfl,rfl⟩|⟨rfl,rfl⟩|⟨f,d,Q⟩
 exact⟨B,O,F,m,us,by rw[u,nS rfl],by rw[A];exact U,Z,wP X b4,b5,λt h=>by cases h⟩;refine⟨b,st,arr,e,[v],by rw[u,nR N];exact a1,by rw[A];exact a2,λi x P=>?_,⟨?_,trivial⟩,λx P=>?_,λt h=>by cases h⟩;cases i with
 | zero=>cases P;exact a3
 | succ i=>simp at P
 rw[V];exact⟨B,O,cap,by rw[u,nS rfl],c2,c3,by simp,by rw[T];omega⟩;rw[qA.1 P];exact a4;exact(R.obj j y Q).mono X (λ_ _=>by rw[A]) (by rw[kb,nR f]);rcases get i y r with⟨rfl,rfl⟩|⟨rfl,rfl⟩|⟨hi,I,f1⟩
 obtain⟨K,g1⟩:=n a L;rcases get j E m with⟨rfl,rfl⟩|⟨rfl,rfl⟩|⟨f,d,f2⟩
 rfl;exact absurd ((o a G).2.symm.trans g1).symm M;exact absurd (C j E a f2 K (hne' j E a f d G)) f;obtain⟨K,g1⟩:=o a L;rcases get j E m with⟨rfl,rfl⟩|⟨rfl,rfl⟩|⟨f,d,f2⟩
 exact absurd ((n a G).2.symm.trans g1) M;rfl;exact absurd (C j E a f2 K (hne' j E a f d G)) f;rcases get j E m with⟨rfl,rfl⟩|⟨rfl,rfl⟩|⟨f,d,f2⟩
 exact absurd (C i y a f1 (n a G).1 (hne' i y a hi I L)) hi;exact absurd (C i y a f1 (o a G).1 (hne' i y a hi I L)) hi;exact R.inj2 i j y E a f1 f2 (hne' i y a hi I L) (hne' j E a f d G);rw[W,R.own2 a];constructor;rintro⟨j,y,r,m⟩;have d:j≠k:=by rintro rfl;rw[J]at r;cases r
 by_cases f:j=p;subst f;rw[hp]at r;cases r;rcases m with⟨s,m⟩|⟨_,m⟩
 exact⟨j,_,by simp only[h_,d,if_false,if_true];rfl,.inl ⟨s,by rw[u,nR d];exact m⟩⟩;rw[b1]at m;cases m;exact⟨k,_,by simp only[h_,if_true];rfl,.inl ⟨O,by rw[u,nS rfl]⟩⟩;exact⟨j,y,by simp[h_,f,d,r],by simpa only[Ar,u,kb,f,d,if_false]using m⟩;rintro⟨j,y,r,m⟩;rcases get j y r with⟨rfl,rfl⟩|⟨rfl,rfl⟩|⟨f,d,r⟩
 exact⟨p,_,hp,(n a m).1⟩;exact⟨j,_,hp,(o a m).1⟩;exact⟨j,y,r,hne' j y a f d m⟩
theorem Bk.swap0{p:Nat}{x y:A7}(R:Bk h c)(hp:h p=some x)(v:∀b,Ar c p x b->∃st,c.ρ p=some (b,st))(H:∀a:Cx,a.w=c.w->a.ρ=c.ρ->a.bk p=none->DF c a->D0 a p y):
 ∃a:Cx,a.w=c.w/\a.ρ=c.ρ/\DF c a/\Bk (h_ h p (some y)) a:=by
 obtain⟨a,f⟩:∃a:Cx,a={ c with bk:=λj=>if j=p then none else c.bk j }:=⟨_,rfl⟩
 have g:a.w=c.w:=by rw[f]
 have l:a.ρ=c.ρ:=by rw[f]
 have q:a.own=c.own:=by rw[f]
 have kb:∀j,a.bk j=if j=p then none else c.bk j:=λj=>by rw[f]
 have X:DF c a:=⟨λ_ _ e=>by rw[l];exact e,by rw[g];exact IO _,λb _ u=>⟨by rw[q];exact u,by rw[g]⟩,λ_=>by rw[g];exact IO _,by rw[g],by rw[g],by rw[g];exact⟨rfl,IO _⟩⟩
 have get:∀j z,h_ h p (some y) j=some z->∃z0,h j=some z0/\(∀b,Ar a j z b->Ar c j z0 b)/\(j=p/\z=y\/j≠p/\z=z0):=λj z e=>by
  simp only[h_]at e;split at e;rename_i d;cases e;subst d;refine⟨x,hp,λb H=>?_,.inl ⟨rfl,rfl⟩⟩;rcases H with⟨s,H⟩|⟨_,H⟩
  exact .inl ⟨s,by rw[<-l];exact H⟩;rw[kb,nS rfl]at H;cases H;rename_i d;exact⟨z,e,λb H=>by simpa only[Ar,l,kb,d,if_false]using H,.inr ⟨d,rfl⟩⟩
 refine⟨a,g,l,X,⟨λj z e=>?_,λi j z B b k m n r=>?_,λb=>?_⟩⟩;obtain⟨z0,g1,_,⟨rfl,rfl⟩|⟨d,rfl⟩⟩:=get j z e;exact H a g l (by rw[kb,nS rfl]) X;exact(R.obj j z g1).mono X (λ_ _=>by rw[g]) (by rw[kb,nR d]);obtain⟨z0,g1,o,_⟩:=get i z k;obtain⟨C,t,A,_⟩:=get j B m;exact R.inj2 i j z0 C b g1 t (o b n) (A b r);rw[q,R.own2 b];constructor;rintro⟨j,z,k,m⟩;by_cases d:j=p;subst d;rw[hp]at k;cases k;obtain⟨s,n⟩:=v b m;exact⟨j,y,by simp[h_],.inl ⟨s,by rw[l];exact n⟩⟩;exact⟨j,z,by simp[h_,d,k],by simpa only[Ar,l,kb,d,if_false]using m⟩;rintro⟨j,z,k,m⟩;obtain⟨z0,g1,o,_⟩:=get j z k;exact⟨j,z0,g1,o b m⟩
theorem Bk.pack0{p z:Nat}{i:Option TypeId}(R:Bk h c)(hp:h p=some (.cells [.x 0 [] true] i)):∃a:Cx,a.w=c.w/\a.ρ=c.ρ/\DF c a/\Bk (h_ h p (some (.list z []))) a:=by
 refine R.swap0 hp (λb H=>H.elim id λg=>by cases g.1) λa f d kb X=>?_;obtain⟨b,st,arr,e,vs,a1,a2,a3,a4,a5,_⟩:=R.obj p _ hp;obtain⟨v,rfl,hv⟩:=a4.single;exact⟨b,st,arr,e,v,by rw[d];exact a1,by rw[f];exact a2,by simpa using a3 0 v rfl,a5 v nO,.inl ⟨rfl,kb,hv.mono X⟩⟩
theorem Bk.unpack0{p z:Nat}(R:Bk h c)(hp:h p=some (.list z [])):∃a:Cx,a.w=c.w/\a.ρ=c.ρ/\DF c a/\Bk (h_ h p (some (.cells [.x 0 [] true]))) a:=by
 obtain⟨b,st,arr,e,v,a1,a2,a3,a4,⟨_,b1,f⟩|⟨B,sB,arr2,e2,us,cap,g,_⟩⟩:=R.obj p _ hp;refine R.swap0 hp (λb H=>H.elim id λg=>by rw[b1]at g;cases g.2) λa k j kb X=>?_;refine⟨b,st,arr,e,[v],by rw[j];exact a1,by rw[k];exact a2,λi x d=>?_,⟨f.mono X,trivial⟩,λx d=>?_,λt h=>by cases h⟩;cases i with
 | zero=>cases d;exact a3
 | succ i=>simp at d
 rw[qA.1 d];exact a4;exact absurd rfl g
theorem WE(p q z:Nat)(es:List SV)(full:Bool)(e jn:Option TypeId)(hp:h p=some (.cells [.sl q 0 z es.length full] e))(d:h q=some (.cells (es.flatMap SV.cells) jn))(a:es≠[])(b:p≠q)
 (H:Fc E P N code Q sa (h_ (h_ h p (some (.list z es))) q none) n):Fc E P N code Q sa h n:=
 Hi (IO _) (λ_ R F=>let⟨c',e1,e2,X,R'⟩:=R.pack hp d a b;⟨c',e1,X,R',λj c=>by rw[e2];exact F j c,λj _=>by rw[e2]⟩) H
theorem Of(p z:Nat)(b:Option TypeId)(hp:h p=some (.cells [.x 0 [] true] b))(H:Fc E P N code Q sa (h_ h p (some (.list z []))) n):Fc E P N code Q sa h n:=
 Hi (IO _) (λ_ R F=>let⟨c',e1,e2,X,R'⟩:=R.pack0 hp;⟨c',e1,X,R',λj a=>by rw[e2];exact F j a,λj _=>by rw[e2]⟩) H
theorem Qt(p z:Nat)(hp:h p=some (.list z []))(H:Fc E P N code Q sa (h_ h p (some (.cells [.x 0 [] true]))) n):Fc E P N code Q sa h n:=
 Hi (IO _) (λ_ R F=>let⟨c',e1,e2,X,R'⟩:=R.unpack0 hp;⟨c',e1,X,R',λj a=>by rw[e2];exact F j a,λj _=>by rw[e2]⟩) H
theorem Sb(p z:Nat)(es:List SV)(hp:h p=some (.list z es))(a:es≠[])(H:Fc E P N code Q sa (h_ (h_ h p (some (.cells [.sl n 0 z es.length false]))) n (some (.cells (es.flatMap SV.cells)))) (n+1)):Fc E P N code Q sa h n:=
 Hi (vP _) (λ_ R F=>let⟨c',e1,e2,X,R'⟩:=R.unpack (F n (IO _)) hp a;⟨c',e1,X,R',λj b=>by rw[e2 j nN];exact F j nN,λj b=>e2 j nN⟩) H
end
open Proofs
theorem AT.pre{α β:Type}{R:α->β->Prop}:∀{l t:List α} {m:List β},AT R (l++t) m->AT R l (m.take l.length)
 | [],_,_,_=>trivial
 | _a::_l,_t,[],h=>h.elim
 | _a::_l,_t,_b::_m,h=>⟨h.1,AT.pre h.2⟩
section
variable{E:BU}{P:Program}{N:Nat}{code:Code}{Q:Ca}{sa:SA}{h:Hp}{n:Nat}
end
def lN(w:World):Cx:=⟨λ_=>none,λ_=>False,w,λ_=>none⟩
theorem m9(W:World):Bk (λ_=>none) (lN W):=⟨λ_ _ h=>(by cases h),λ_ _ _ _ _ h=>(by cases h),λb=>⟨λh=>h.elim,λ⟨_,_,h,_⟩=>(by cases h)⟩⟩
theorem XO{W a:World}(hs:W.heap.size<=a.heap.size)(hk:∀b,b<W.heap.size->a.heap[b]? = W.heap[b]?)(d:a.os=W.os)(hp:a.output=W.output)(ht:Td W a):∃q os,a=Go.Sort.grow (W.drewN q) os:=by
 refine⟨a.drawn-W.drawn,a.heap.extract W.heap.size a.heap.size,?_⟩;obtain⟨h1,h2⟩:=ht;have e:a.heap=W.heap++a.heap.extract W.heap.size a.heap.size:=by
  apply Array.ext_getElem?;intro i;by_cases hi:i<W.heap.size;rw[vN hi,hk i hi];rw[Array.getElem?_append_right nN];by_cases c:i<a.heap.size;rw[vh c,vh (by simp;omega)];simp only[Array.getElem_extract];congr 2;omega;rw[vo nN,vo (by simp;omega)]
 cases a with
 | mk heap tape drawn os output=>
  simp only at e h1 h2 d hp ⊢;subst h1 d hp;rw[e];simp only[Go.Sort.grow,World.drewN];congr 1;congr 1;rw[<-e];omega
theorem PC.grown{f:FuncId}{a:List SV}{v:SV}(h:PC f a v){W:World}{vs:List Value}(hv:AT (V (lN W)) a vs):Calls prog f vs.toArray W λe i=>(∃u d,e=.returned u/\V d v u)/\∃q os,i=Go.Sort.grow (W.drewN q) os:=by
 have:=(h (λ_=>none) 0).2 (lN W) vs trivial (m9 W) (λ_ _=>rfl) hv;refine this.mono ?_;rintro e i ⟨u,v',h',n',d,rfl,⟨rfl,_⟩,rfl,j,_,_,c⟩;exact⟨⟨u,d,rfl,j⟩,XO c.ext.size (λb hb=>(c.ext.keep b hb (λg=>g)).2) c.ext.os c.ext.out c.ext.td⟩
end Go.Proofs.YthinbkgpjmjfeaaGreatDoor.Sh
namespace Go.Proofs
open Go.Shelf
def Tryz.sortB_ren:Go.Shelf.Ren:=⟨fun|6=>183|15=>243|14=>242|28=>278|29=>266|20=>270|21=>271|22=>272|23=>273|24=>274|25=>275|26=>276|27=>277|46=>302|47=>303|48=>304|49=>305|50=>306|57=>318|n=>n,fun|22=>209|24=>142|25=>215|3=>3|39=>236|0=>0|53=>328|55=>307|4=>4|46=>345|45=>344|50=>188|5=>5|9=>9|66=>369|70=>177|76=>387|77=>388|n=>n,fun|n=>n⟩
theorem Tryz.sortB:Go.Proofs.SlLaysF0.n6 prog Tryz.sortB_ren:={
 mixed:=by kernel_rfl
 f6:=⟨Tryz.f183.name,by decide,func183.trans (congrArg some (by kernel_rfl))⟩
 f14:=⟨Tryz.f242.name,by decide,func242.trans (congrArg some (by kernel_rfl))⟩
 f15:=func243.trans (congrArg some (by kernel_rfl))
 f20:=⟨Tryz.f270.name,by decide,func270.trans (congrArg some (by kernel_rfl))⟩
 f21:=⟨Tryz.f271.name,by decide,func271.trans (congrArg some (by kernel_rfl))⟩
 f22:=⟨Tryz.f272.name,by decide,func272.trans (congrArg some (by kernel_rfl))⟩
 f23:=⟨Tryz.f273.name,by decide,func273.trans (congrArg some (by kernel_rfl))⟩
 f24:=⟨Tryz.f274.name,by decide,func274.trans (congrArg some (by kernel_rfl))⟩
 f25:=⟨Tryz.f275.name,by decide,func275.trans (congrArg some (by kernel_rfl))⟩
 f26:=⟨Tryz.f276.name,by decide,func276.trans (congrArg some (by kernel_rfl))⟩
 f27:=⟨Tryz.f277.name,by decide,func277.trans (congrArg some (by kernel_rfl))⟩
 f28:=func278.trans (congrArg some (by kernel_rfl))
 f29:=func266.trans (congrArg some (by kernel_rfl))
 f46:=⟨Tryz.f302.name,by decide,func302.trans (congrArg some (by kernel_rfl))⟩
 f47:=func303.trans (congrArg some (by kernel_rfl))
 f48:=func304.trans (congrArg some (by kernel_rfl))
 f49:=⟨Tryz.f305.name,by decide,func305.trans (congrArg some (by kernel_rfl))⟩
 f50:=⟨Tryz.f306.name,by decide,func306.trans (congrArg some (by kernel_rfl))⟩
 f57:=⟨Tryz.f318.name,by decide,func318.trans (congrArg some (by kernel_rfl))⟩
 t0:=Tryz.underlying0
 a0:=Tryz.isAgg0
 z0:=Tryz.sizeOf0
 v0:=Tryz.zeroValue0
 t3:=Tryz.underlying3
 a3:=Tryz.isAgg3
 z3:=Tryz.sizeOf3
 v3:=Tryz.zeroValue3
 t4:=Tryz.underlying4
 a4:=Tryz.isAgg4
 z4:=Tryz.sizeOf4
 v4:=Tryz.zeroValue4
 t5:=Tryz.underlying5
 a5:=Tryz.isAgg5
 z5:=Tryz.sizeOf5
 v5:=Tryz.zeroValue5
 t9:=Tryz.underlying9
 a9:=Tryz.isAgg9
 z9:=Tryz.sizeOf9
 v9:=Tryz.zeroValue9
 t22:=Tryz.underlying209
 a22:=Tryz.isAgg209
 z22:=Tryz.sizeOf209
 v22:=Tryz.zeroValue209
 t25:=Tryz.underlying215
 a25:=Tryz.isAgg215
 z25:=Tryz.sizeOf215
 v25:=Tryz.zeroValue215
 t39:=Tryz.underlying236
 a39:=Tryz.isAgg236
 z39:=Tryz.sizeOf236
 v39:=Tryz.zeroValue236
 t45:=Tryz.underlying344
 a45:=Tryz.isAgg344
 z45:=Tryz.sizeOf344
 v45:=Tryz.zeroValue344
 t46:=Tryz.underlying345
 a46:=Tryz.isAgg345
 z46:=Tryz.sizeOf345
 v46:=Tryz.zeroValue345
 t50:=Tryz.underlying188
 a50:=Tryz.isAgg188
 z50:=Tryz.sizeOf188
 v50:=Tryz.zeroValue188
 t53:=Tryz.underlying328
 a53:=Tryz.isAgg328
 z53:=Tryz.sizeOf328
 v53:=Tryz.zeroValue328
 t55:=Tryz.underlying307
 a55:=Tryz.isAgg307
 z55:=Tryz.sizeOf307
 v55:=Tryz.zeroValue307
 t66:=Tryz.underlying369
 a66:=Tryz.isAgg369
 z66:=Tryz.sizeOf369
 v66:=Tryz.zeroValue369
 t70:=Tryz.underlying177
 a70:=Tryz.isAgg177
 z70:=Tryz.sizeOf177
 v70:=Tryz.zeroValue177
 t76:=Tryz.underlying387
 a76:=Tryz.isAgg387
 z76:=Tryz.sizeOf387
 v76:=Tryz.zeroValue387
 t77:=Tryz.underlying388
 a77:=Tryz.isAgg388
 z77:=Tryz.sizeOf388
 v77:=Tryz.zeroValue388 }
end Go.Proofs
namespace Go.Proofs.YthinbkgpjmjfeaaGreatDoor.Sh
open Go.Proofs.Tryz
open Proofs
set_option maxRecDepth 10000
set_option maxHeartbeats 4000000
abbrev DN:=List (Nat×A7)
def By(ob:DN)(h:Hp):Hp:=λk=>match ob.lookup k with|some y=>some y|none=>h k
abbrev AK(ob:DN):List Nat:=ob.map (·.1)
theorem Cg{ob:DN}{k:Nat}:ob.lookup k=none↔k∉AK ob:=by
 induction ob with
 | nil=>simp
 | cons p l ih=>
  rcases p with⟨j,y⟩
  by_cases e:k=j;subst e;simp[List.lookup];have:(k==j)=false:=by simpa using e
  simp[List.lookup,this,ih,e]
theorem TH(a b:DN)(k:Nat):(a++b).lookup k=(a.lookup k).or (b.lookup k):=by
 induction a with
 | nil=>simp
 | cons p l ih=>
  rcases p with⟨j,y⟩
  by_cases e:k=j;subst e;simp[List.lookup];have:(k==j)=false:=by simpa using e
  simp[List.lookup,this,ih]
theorem TI{ob:DN}(a:(AK ob).Nodup){k:Nat}{y:A7}(h:(k,y)∈ob):ob.lookup k=some y:=by
 induction ob with
 | nil=>cases h
 | cons p l ih=>
  rcases p with⟨j,z⟩
  simp only[AK,qg,qY]at a;rcases qd.1 h with h0|h';cases h0;simp[List.lookup];have:k≠j:=by rintro rfl;exact a.1 (qb.2 ⟨(k,y),h',rfl⟩)
  have:(k==j)=false:=by simpa using this
  simp[List.lookup,this,ih a.2 h']
theorem RW{ob:DN}{k:Nat}{y:A7}(h:ob.lookup k=some y):(k,y)∈ob:=by
 induction ob with
 | nil=>cases h
 | cons p l ih=>
  rcases p with⟨j,z⟩
  by_cases e:k=j;subst e;simp[List.lookup]at h;subst h;simp;have:(k==j)=false:=by simpa using e
  simp[List.lookup,this]at h;exact qT _ (ih h)
theorem Nr(h:Hp):By [] h=h:=by funext k;rfl
theorem It(a b:DN)(h:Hp):By (a++b) h=By a (By b h):=by
 funext k;simp only[By,TH];cases a.lookup k<;>rfl
theorem Z8{ob:DN}(a:(AK ob).Nodup){k:Nat}{y:A7}(h:(k,y)∈ob)(H:Hp):By ob H k=some y:=by simp[By,TI a h]
theorem Aw{ob:DN}{k:Nat}(h:k∉AK ob)(H:Hp):By ob H k=H k:=by simp[By,Cg.2 h]
def BL(ob:DN)(H:Hp):Prop:=∀p∈ob,H p.1=some p.2
theorem BL.app{a b:DN}{H:Hp}:BL (a++b) H↔BL a H/\BL b H:=
 ⟨λh=>⟨λp hp=>h p (qx _ hp),λp hp=>h p (qt _ hp)⟩,λh p hp=>(qf.1 hp).elim (h.1 p) (h.2 p)⟩
def JG(z len:Nat)(L:List SV->DN->Prop)(v:SV)(ob:DN):Prop:=
 (len=0/\(∃z' full,v=.x z' [] full)/\ob=[])\/∃j full cs sub,v=.sl j 0 z len full/\ob=(j,.cells cs)::sub/\L cs sub
mutual
def EE:AD->List SV->DN->Prop
 | .mk k c i t h f r,cs,ob=>∃vf o1 vr o2,cs=[AA k,AA c,AA i,.str t]++h.j++[vf,vr]/\ob=o1++o2/\JG 11 f.length (λcs ob=>BQ f cs ob) vf o1/\JG 6 r.length (λcs ob=>Bw r cs ob) vr o2
def BQ:List AD->List SV->DN->Prop
 | [],cs,ob=>cs=[]/\ob=[]
 | x::l,cs,ob=>∃c1 c2 o1 o2,cs=c1++c2/\ob=o1++o2/\EE x c1 o1/\BQ l c2 o2
def HP:AM->List SV->DN->Prop
 | .mk h c,cs,ob=>∃vc,cs=h.j++[vc]/\JG 7 c.length (λcs ob=>BP c cs ob) vc ob
def Bw:List AM->List SV->DN->Prop
 | [],cs,ob=>cs=[]/\ob=[]
 | x::l,cs,ob=>∃c1 c2 o1 o2,cs=c1++c2/\ob=o1++o2/\HP x c1 o1/\Bw l c2 o2
def FM:AG->List SV->DN->Prop
 | .mk i h f,cs,ob=>∃vf,cs=[AA i]++h.j++[vf]/\JG 11 f.length (λcs ob=>BQ f cs ob) vf ob
def BP:List AG->List SV->DN->Prop
 | [],cs,ob=>cs=[]/\ob=[]
 | x::l,cs,ob=>∃c1 c2 o1 o2,cs=c1++c2/\ob=o1++o2/\FM x c1 o1/\BP l c2 o2
end
theorem M6:∀(x:AD)(a:List SV)(ob:DN),EE x a ob->a.length=11
 | .mk _ _ _ _ _ _ _,_,_,h=>by rw[EE]at h;obtain⟨vf,o1,vr,o2,rfl,_⟩:=h;simp[AF.j]
theorem Od:∀(x:AM)(a:List SV)(ob:DN),HP x a ob->a.length=6
 | .mk _ _,_,_,h=>by rw[HP]at h;obtain⟨vf,rfl,_⟩:=h;simp[AF.j]
theorem M4:∀(x:AG)(a:List SV)(ob:DN),FM x a ob->a.length=7
 | .mk _ _ _,_,_,h=>by rw[FM]at h;obtain⟨vf,rfl,_⟩:=h;simp[AF.j]
theorem Fy:∀(l:List AD)(a:List SV)(ob:DN),BQ l a ob->a.length=l.length*11
 | [],_,_,h=>by rw[BQ]at h;rw[h.1];rfl
 | x::l,_,_,h=>by
  rw[BQ]at h;obtain⟨c1,c2,o1,o2,rfl,rfl,h1,h2⟩:=h;rw[qk,M6 _ _ _ h1,Fy _ _ _ h2,qo];omega
theorem Jo:∀(l:List AM)(a:List SV)(ob:DN),Bw l a ob->a.length=l.length*6
 | [],_,_,h=>by rw[Bw]at h;rw[h.1];rfl
 | x::l,_,_,h=>by
  rw[Bw]at h;obtain⟨c1,c2,o1,o2,rfl,rfl,h1,h2⟩:=h;rw[qk,Od _ _ _ h1,Jo _ _ _ h2,qo];omega
theorem Ij:∀(l:List AG)(a:List SV)(ob:DN),BP l a ob->a.length=l.length*7
 | [],_,_,h=>by rw[BP]at h;rw[h.1];rfl
 | x::l,_,_,h=>by
  rw[BP]at h;obtain⟨c1,c2,o1,o2,rfl,rfl,h1,h2⟩:=h;rw[qk,M4 _ _ _ h1,Ij _ _ _ h2,qo];omega
theorem HN:∀(a b:List AD)(d:List SV)(ob:DN),BQ (a++b) d ob↔∃c1 c o1 o2,d=c1++c/\ob=o1++o2/\BQ a c1 o1/\BQ b c o2
 | [],b,d,ob=>by
  constructor;intro h;exact⟨[],d,[],ob,rfl,rfl,by rw[BQ];exact⟨rfl,rfl⟩,h⟩;rintro⟨c1,c,o1,o2,rfl,rfl,h1,h2⟩;rw[BQ]at h1;obtain⟨rfl,rfl⟩:=h1;exact h2
 | x::a,b,d,ob=>by
  rw[qB,BQ];constructor;rintro⟨c1,c,o1,o2,rfl,rfl,h1,h2⟩;obtain⟨e,f,g,i,rfl,rfl,j,k⟩:=(HN a b _ _).1 h2;exact⟨c1++e,f,o1++g,i,by simp,by simp,by rw[BQ];exact⟨c1,e,o1,g,rfl,rfl,h1,j⟩,k⟩;rintro⟨c1,c,o1,o2,rfl,rfl,h1,h2⟩;rw[BQ]at h1;obtain⟨e,f,g,i,rfl,rfl,j,k⟩:=h1;exact⟨e,f++c,g,i++o2,by simp,by simp,j,(HN a b _ _).2 ⟨f,c,i,o2,rfl,rfl,k,h2⟩⟩
theorem ID:∀(a b:List AM)(d:List SV)(ob:DN),Bw (a++b) d ob↔∃c1 c o1 o2,d=c1++c/\ob=o1++o2/\Bw a c1 o1/\Bw b c o2
 | [],b,d,ob=>by
  constructor;intro h;exact⟨[],d,[],ob,rfl,rfl,by rw[Bw];exact⟨rfl,rfl⟩,h⟩;rintro⟨c1,c,o1,o2,rfl,rfl,h1,h2⟩;rw[Bw]at h1;obtain⟨rfl,rfl⟩:=h1;exact h2
 | x::a,b,d,ob=>by
  rw[qB,Bw];constructor;rintro⟨c1,c,o1,o2,rfl,rfl,h1,h2⟩;obtain⟨e,f,g,i,rfl,rfl,j,k⟩:=(ID a b _ _).1 h2;exact⟨c1++e,f,o1++g,i,by simp,by simp,by rw[Bw];exact⟨c1,e,o1,g,rfl,rfl,h1,j⟩,k⟩;rintro⟨c1,c,o1,o2,rfl,rfl,h1,h2⟩;rw[Bw]at h1;obtain⟨e,f,g,i,rfl,rfl,j,k⟩:=h1;exact⟨e,f++c,g,i++o2,by simp,by simp,j,(ID a b _ _).2 ⟨f,c,i,o2,rfl,rfl,k,h2⟩⟩
theorem HM:∀(a b:List AG)(d:List SV)(ob:DN),BP (a++b) d ob↔∃c1 c o1 o2,d=c1++c/\ob=o1++o2/\BP a c1 o1/\BP b c o2
 | [],b,d,ob=>by
  constructor;intro h;exact⟨[],d,[],ob,rfl,rfl,by rw[BP];exact⟨rfl,rfl⟩,h⟩;rintro⟨c1,c,o1,o2,rfl,rfl,h1,h2⟩;rw[BP]at h1;obtain⟨rfl,rfl⟩:=h1;exact h2
 | x::a,b,d,ob=>by
  rw[qB,BP];constructor;rintro⟨c1,c,o1,o2,rfl,rfl,h1,h2⟩;obtain⟨e,f,g,i,rfl,rfl,j,k⟩:=(HM a b _ _).1 h2;exact⟨c1++e,f,o1++g,i,by simp,by simp,by rw[BP];exact⟨c1,e,o1,g,rfl,rfl,h1,j⟩,k⟩;rintro⟨c1,c,o1,o2,rfl,rfl,h1,h2⟩;rw[BP]at h1;obtain⟨e,f,g,i,rfl,rfl,j,k⟩:=h1;exact⟨e,f++c,g,i++o2,by simp,by simp,j,(HM a b _ _).2 ⟨f,c,i,o2,rfl,rfl,k,h2⟩⟩
section
variable{h' h2:Hp}
def Jc(h' h2:Hp)(cs ds:List SV):Prop:=∃K0,∀K,K0<=K->AT (Fz h' h2 K) cs ds
theorem AT.app{α β:Type}{R:α->β->Prop}:∀{a b:List α} {c d:List β},AT R a c->AT R b d->AT R (a++b) (c++d)
 | [],_,[],_,_,g=>g
 | _::_,_,_::_,_,h,g=>⟨h.1,AT.app h.2 g⟩
 | [],_,_::_,_,h,_=>h.elim
 | _::_,_,[],_,h,_=>h.elim
theorem Jc.app{a b c d:List SV}(h:Jc h' h2 a c)(g:Jc h' h2 b d):Jc h' h2 (a++b) (c++d):=by
 obtain⟨e,h⟩:=h;obtain⟨f,g⟩:=g;exact⟨max e f,λK hK=>AT.app (h K nN) (g K nN)⟩
theorem Jc.same{a:List SV}:Jc h' h2 a a:=⟨0,λK _=>by
 induction a with
 | nil=>trivial
 | cons x l ih=>exact⟨Or,ih⟩⟩
theorem Lf{z len:Nat}{L:List SV->DN->Prop}{v:SV}{ob:DN}{es:List SV}(H:JG z len L v ob)(b:es.length=len)(n:∀e∈es,e.B=true/\e.cells.length=z)
 (h:BL ob h') (g:∀k∈AK ob,h2 k=none) (l:∀a sub,L a sub->BL sub h'->(∀k∈AK sub,h2 k=none)->a.length=len*z/\Jc h' h2 a (es.flatMap SV.cells)):Jc h' h2 [v] [.x z es false]:=by
 rcases H with⟨h0,⟨z',full,rfl⟩,rfl⟩|⟨j,full,a,sub,rfl,rfl,c⟩
 have:es=[]:=vg.1 nN;subst this;exact⟨1,λK d=>by
  obtain⟨K,rfl⟩:∃k,K=k+1:=⟨K-1,by omega⟩
  exact⟨.inr ⟨by simp,.inl rfl,trivial,by simp⟩,trivial⟩⟩
 obtain⟨f,i,d⟩:=l a sub c (λp hp=>h p (by simp[hp])) (λk hk=>g k (by simp only[AK,qg,qd];exact .inr hk));have m:=h (j,.cells a) nO;exact⟨i+1,λK hK2=>by
  obtain⟨K,rfl⟩:∃k,K=k+1:=⟨K-1,by omega⟩
  refine⟨.inr ⟨g j nO,by simp,b,rfl,a,a,m,by simp[CP,f];rw[<-f,qn],n,d K nN⟩,trivial⟩⟩
mutual
theorem Xj:∀(x:AD)(a:List SV)(ob:DN),EE x a ob->BL ob h'->(∀k∈AK ob,h2 k=none)->Jc h' h2 a x.h.cells
 | .mk k c i t h f r,_,_,H,ho,hn=>by
  rw[EE]at H;obtain⟨vf,o1,vr,o2,rfl,rfl,h1,h2⟩:=H;obtain⟨d,e⟩:=BL.app.1 ho;have a1:=Lf h1 (es:=f.map AD.h) nO (AD.E.size f) d (λk hk=>hn k (by simp only[AK,qc,qf];exact .inl hk)) λa sub g1 b g3=>⟨Fy _ _ _ g1,JQ f a sub g1 b g3⟩
  have a2:=Lf h2 (es:=r.map AM.h) nO (AM.E.size r) e (λk hk=>hn k (by simp only[AK,qc,qf];exact .inr hk)) λa sub g1 b g3=>⟨Jo _ _ _ g1,RX r a sub g1 b g3⟩
  rw[AD.h,AD.encL_eq,AM.encL_eq];exact Jc.app Jc.same (Jc.app a1 a2)
theorem JQ:∀(l:List AD)(c:List SV)(ob:DN),BQ l c ob->BL ob h'->(∀k∈AK ob,h2 k=none)->Jc h' h2 c ((l.map AD.h).flatMap SV.cells)
 | [],_,_,H,_,_=>by rw[BQ]at H;rw[H.1];exact Jc.same
 | x::l,_,_,H,ho,hn=>by
  rw[BQ]at H;obtain⟨c1,d,o1,o2,rfl,rfl,h1,h2⟩:=H;obtain⟨a,b⟩:=BL.app.1 ho;rw[qg,qV];exact Jc.app (Xj x c1 o1 h1 a λk hk=>hn k (by simp only[AK,qc,qf];exact .inl hk)) (JQ l d o2 h2 b λk hk=>hn k (by simp only[AK,qc,qf];exact .inr hk))
theorem aL:∀(x:AM)(a:List SV)(ob:DN),HP x a ob->BL ob h'->(∀k∈AK ob,h2 k=none)->Jc h' h2 a x.h.cells
 | .mk h c,_,_,H,ho,hn=>by
  rw[HP]at H;obtain⟨vc,rfl,h1⟩:=H;have a1:=Lf h1 (es:=c.map AG.h) nO (AG.E.size c) ho hn λa sub g1 b g3=>⟨Ij _ _ _ g1,O6 c a sub g1 b g3⟩
  rw[AM.h,AG.encL_eq];exact Jc.app Jc.same a1
theorem RX:∀(l:List AM)(c:List SV)(ob:DN),Bw l c ob->BL ob h'->(∀k∈AK ob,h2 k=none)->Jc h' h2 c ((l.map AM.h).flatMap SV.cells)
 | [],_,_,H,_,_=>by rw[Bw]at H;rw[H.1];exact Jc.same
 | x::l,_,_,H,ho,hn=>by
  rw[Bw]at H;obtain⟨c1,d,o1,o2,rfl,rfl,h1,h2⟩:=H;obtain⟨a,b⟩:=BL.app.1 ho;rw[qg,qV];exact Jc.app (aL x c1 o1 h1 a λk hk=>hn k (by simp only[AK,qc,qf];exact .inl hk)) (RX l d o2 h2 b λk hk=>hn k (by simp only[AK,qc,qf];exact .inr hk))
theorem Xi:∀(x:AG)(a:List SV)(ob:DN),FM x a ob->BL ob h'->(∀k∈AK ob,h2 k=none)->Jc h' h2 a x.h.cells
 | .mk i h f,_,_,H,ho,hn=>by
  rw[FM]at H;obtain⟨vf,rfl,h1⟩:=H;have a1:=Lf h1 (es:=f.map AD.h) nO (AD.E.size f) ho hn λa sub g1 b g3=>⟨Fy _ _ _ g1,JQ f a sub g1 b g3⟩
  rw[AG.h,AD.encL_eq];exact Jc.app Jc.same a1
theorem O6:∀(l:List AG)(c:List SV)(ob:DN),BP l c ob->BL ob h'->(∀k∈AK ob,h2 k=none)->Jc h' h2 c ((l.map AG.h).flatMap SV.cells)
 | [],_,_,H,_,_=>by rw[BP]at H;rw[H.1];exact Jc.same
 | x::l,_,_,H,ho,hn=>by
  rw[BP]at H;obtain⟨c1,d,o1,o2,rfl,rfl,h1,h2⟩:=H;obtain⟨a,b⟩:=BL.app.1 ho;rw[qg,qV];exact Jc.app (Xi x c1 o1 h1 a λk hk=>hn k (by simp only[AK,qc,qf];exact .inl hk)) (O6 l d o2 h2 b λk hk=>hn k (by simp only[AK,qc,qf];exact .inr hk))
end
end
def IV(l:List AD)(v:SV)(ob:DN):Prop:=JG 11 l.length (λcs ob=>BQ l cs ob) v ob
theorem dY{h' h2:Hp}{l:List AD}{v:SV}{ob:DN}(H:IV l v ob)(f:BL ob h')(e:∀k∈AK ob,h2 k=none):∃a,∀K,a<=K->Fz h' h2 K v (AI l):=by
 obtain⟨a,d⟩:=Lf H (es:=l.map AD.h) nO (AD.E.size l) f e λb sub g1 c g3=>⟨Fy _ _ _ g1,JQ l b sub g1 c g3⟩
 exact⟨a,λK h=>(d K h).1⟩
mutual
def Ft:Int->AD->AD×Int
 | c,.mk k co i t h f r=>if k=6 then(.mk k co (c+1) t h (Cz (c+1) f).1 r,(Cz (c+1) f).2)else if k=7 then(.mk k co (c+1) t h f (Dh (c+1) r).1,(Dh (c+1) r).2)else(.mk k co i t h f r,c)
def Cz:Int->List AD->List AD×Int
 | c,[]=>([],c)
 | c,x::l=>((Ft c x).1::(Cz (Ft c x).2 l).1,(Cz (Ft c x).2 l).2)
def Ii:Int->AM->AM×Int
 | c,.mk h cs=>(.mk h (Dg c cs).1,(Dg c cs).2)
def Dh:Int->List AM->List AM×Int
 | c,[]=>([],c)
 | c,x::l=>((Ii c x).1::(Dh (Ii c x).2 l).1,(Dh (Ii c x).2 l).2)
def Ih:Int->AG->AG×Int
 | c,.mk _ h f=>(.mk (c+1) h (Cz (c+1) f).1,(Cz (c+1) f).2)
def Dg:Int->List AG->List AG×Int
 | c,[]=>([],c)
 | c,x::l=>((Ih c x).1::(Dg (Ih c x).2 l).1,(Dg (Ih c x).2 l).2)
end
mutual
theorem YH:∀(x:AD)(c:Int),c<=(Ft c x).2
 | .mk k co i t h f r,c=>by
  rw[Ft];split;have:=Lm f (c+1);dsimp only;omega;split;have:=QH r (c+1);dsimp only;omega;exact Int.le_refl _
theorem Lm:∀(l:List AD)(c:Int),c<=(Cz c l).2
 | [],c=>by rw[Cz];exact Int.le_refl _
 | x::l,c=>by rw[Cz];have:=YH x c;have:=Lm l (Ft c x).2;dsimp only;omega
theorem eD:∀(x:AM)(c:Int),c<=(Ii c x).2
 | .mk h cs,c=>by rw[Ii];exact QF cs c
theorem QH:∀(l:List AM)(c:Int),c<=(Dh c l).2
 | [],c=>by rw[Dh];exact Int.le_refl _
 | x::l,c=>by rw[Dh];have:=eD x c;have:=QH l (Ii c x).2;dsimp only;omega
theorem d9:∀(x:AG)(c:Int),c<=(Ih c x).2
 | .mk i h f,c=>by rw[Ih];have:=Lm f (c+1);dsimp only;omega
theorem QF:∀(l:List AG)(c:Int),c<=(Dg c l).2
 | [],c=>by rw[Dg];exact Int.le_refl _
 | x::l,c=>by rw[Dg];have:=d9 x c;have:=QF l (Ih c x).2;dsimp only;omega
end
theorem QG:∀(l:List AD)(c:Int),(Cz c l).1.length=l.length
 | [],c=>by rw[Cz]
 | x::l,c=>by rw[Cz];simp[QG l]
theorem Mx:∀(l:List AM)(c:Int),(Dh c l).1.length=l.length
 | [],c=>by rw[Dh]
 | x::l,c=>by rw[Dh];simp[Mx l]
theorem Mu:∀(l:List AG)(c:Int),(Dg c l).1.length=l.length
 | [],c=>by rw[Dg]
 | x::l,c=>by rw[Dg];simp[Mu l]
theorem Rw:∀(a:List AD)(c:Int)(x:AD),Cz c (a++[x])=((Cz c a).1++[(Ft (Cz c a).2 x).1],(Ft (Cz c a).2 x).2)
 | [],c,x=>by simp[Cz]
 | y::a,c,x=>by rw[qB,Cz,Rw a,Cz];simp
theorem Rx:∀(a:List AM)(c:Int)(x:AM),Dh c (a++[x])=((Dh c a).1++[(Ii (Dh c a).2 x).1],(Ii (Dh c a).2 x).2)
 | [],c,x=>by simp[Dh]
 | y::a,c,x=>by rw[qB,Dh,Rx a,Dh];simp
theorem Rv:∀(a:List AG)(c:Int)(x:AG),Dg c (a++[x])=((Dg c a).1++[(Ih (Dg c a).2 x).1],(Ih (Dg c a).2 x).2)
 | [],c,x=>by simp[Dg]
 | y::a,c,x=>by rw[qB,Dg,Rv a,Dg];simp
theorem YJ{l:List AD}{i:Nat}{x:AD}(h:i<l.length)(a:l[i]=x)(c:Int):Cz c (l.take (i+1))=((Cz c (l.take i)).1++[(Ft (Cz c (l.take i)).2 x).1],(Ft (Cz c (l.take i)).2 x).2):=by
 rw[qa h,a,Rw]
theorem YL{l:List AM}{i:Nat}{x:AM}(h:i<l.length)(a:l[i]=x)(c:Int):Dh c (l.take (i+1))=((Dh c (l.take i)).1++[(Ii (Dh c (l.take i)).2 x).1],(Ii (Dh c (l.take i)).2 x).2):=by
 rw[qa h,a,Rx]
theorem YG{l:List AG}{i:Nat}{x:AG}(h:i<l.length)(a:l[i]=x)(c:Int):Dg c (l.take (i+1))=((Dg c (l.take i)).1++[(Ih (Dg c (l.take i)).2 x).1],(Ih (Dg c (l.take i)).2 x).2):=by
 rw[qa h,a,Rv]
theorem Ur:∀(a b:List AD)(c:Int),(Cz c (a++b)).2=(Cz (Cz c a).2 b).2
 | [],b,c=>by rw[Cz];rfl
 | x::a,b,c=>by rw[qB,Cz,Cz,Ur a b]
theorem Ut:∀(a b:List AM)(c:Int),(Dh c (a++b)).2=(Dh (Dh c a).2 b).2
 | [],b,c=>by rw[Dh];rfl
 | x::a,b,c=>by rw[qB,Dh,Dh,Ut a b]
theorem Um:∀(a b:List AG)(c:Int),(Dg c (a++b)).2=(Dg (Dg c a).2 b).2
 | [],b,c=>by rw[Dg];rfl
 | x::a,b,c=>by rw[qB,Dg,Dg,Um a b]
theorem eB(l:List AD)(i:Nat)(c:Int):(Cz c (l.take i)).2<=(Cz c l).2:=by
 have:(Cz c l).2=(Cz (Cz c (l.take i)).2 (l.drop i)).2:=by rw[<-Ur,vy]
 rw[this];exact Lm _ _
theorem eC(l:List AM)(i:Nat)(c:Int):(Dh c (l.take i)).2<=(Dh c l).2:=by
 have:(Dh c l).2=(Dh (Dh c (l.take i)).2 (l.drop i)).2:=by rw[<-Ut,vy]
 rw[this];exact QH _ _
theorem d8(l:List AG)(i:Nat)(c:Int):(Dg c (l.take i)).2<=(Dg c l).2:=by
 have:(Dg c l).2=(Dg (Dg c (l.take i)).2 (l.drop i)).2:=by rw[<-Um,vy]
 rw[this];exact QF _ _
theorem B9{A L:List SV}{p:Nat}(h:A.length=p)(m:Nat):(A++L).drop (p+m)=L.drop m:=by
 subst h;rw[List.drop_append,List.drop_eq_nil_of_le nN,qK];congr 1;omega
theorem BW{A L:List SV}{p:Nat}(h:A.length=p):(A++L).drop p=L:=B9 h 0
theorem CG{A L:List SV}{p:Nat}(h:A.length=p)(m:Nat):(A++L).take (p+m)=A++L.take m:=by
 subst h;rw[List.take_append,qD nN];congr 2;omega
theorem BZ{A L:List SV}{p:Nat}(h:A.length=p):(A++L).take p=A:=by
 subst h;simp
theorem BL.off{ob:DN}{H a:Hp}(h:BL ob H)(hk:∀k∈AK ob,a k=H k):BL ob a:=λp hp=>by
 rw[hk p.1 (qb.2 ⟨p,hp,rfl⟩)];exact h p hp
def AD.wHead(x:AD)(h:AF):AD:=.mk x.l x.code x.id x.J h x.W x.R
def AD.wFlow(x:AD)(l:List AD):AD:=.mk x.l x.code x.id x.J x.H l x.R
def AD.wRows(x:AD)(l:List AM):AD:=.mk x.l x.code x.id x.J x.H x.W l
structure Pa(σ:Type) where
 W:Int->List AD->σ->List AD×σ
 H:AF->σ->AF×σ
 item:AD->σ->AD×Bool×σ
section
variable{σ:Type}(R:Pa σ)(it:Int->List AD->σ->List AD×σ)
def EQ(q:List AG×σ)(c:AG):List AG×σ:=
 let h:=R.H c.H q.2
 let f:=it c.id c.W h.2
 (q.1++[.mk c.id h.1 f.1],f.2)
def JU(l:List AG)(s:σ):List AG×σ:=l.foldl (EQ R it) ([],s)
def GG(q:List AM×σ)(r:AM):List AM×σ:=
 let h:=R.H r.H q.2
 let c:=JU R it r.cells h.2
 (q.1++[.mk h.1 c.1],c.2)
def Di(l:List AM)(s:σ):List AM×σ:=l.foldl (GG R it) ([],s)
def GF(x:AD)(s:σ):AD×σ:=
 if x.l=6 then(x.wFlow (it x.id x.W s).1,(it x.id x.W s).2)else if x.l=7 then(x.wRows (Di R it x.R s).1,(Di R it x.R s).2)else(x,s)
def Ej(q:List AD×σ)(x:AD):List AD×σ:=
 let p:=R.item x q.2
 if p.2.1 then
  let h:=R.H p.1.H p.2.2
  let y:=GF R it (p.1.wHead h.1) h.2
  (q.1++[y.1],y.2)
 else(q.1,p.2.2)
def Au:Nat->Int->List AD->σ->List AD×σ
 | 0,_,_,s=>([],s)
 | N+1,id,l,s=>(R.W id l s).1.foldl (Ej R (Au N)) ([],(R.W id l s).2)
end
section
variable{σ:Type}{R:Pa σ}{it:Int->List AD->σ->List AD×σ}
theorem JA:∀(l:List AG)(q:List AG×σ),(l.foldl (EQ R it) q).1.length=q.1.length+l.length
 | [],_=>rfl
 | c::l,q=>by rw[qH,JA l];simp[EQ];omega
theorem KM:∀(l:List AM)(q:List AM×σ),(l.foldl (GG R it) q).1.length=q.1.length+l.length
 | [],_=>rfl
 | c::l,q=>by rw[qH,KM l];simp[GG];omega
theorem OA:∀(l:List AD)(q:List AD×σ),(l.foldl (Ej R it) q).1.length<=q.1.length+l.length
 | [],_=>IO _
 | c :: l, q => by
  rw[qH];have:=OA l (Ej R it q c);have h2:(Ej R it q c).1.length<=q.1.length+1:=by
   unfold Ej;dsimp only;split<;>simp
  rw[qo];omega
end
section
variable{σ:Type}{R:Pa σ}{it:Int->List AD->σ->List AD×σ}{rk:σ->Nat}
structure Pa.Up(R:Pa σ)(rk:σ->Nat):Prop where
 W:∀id l s,rk s<=rk (R.W id l s).2
 H:∀h s,rk s<=rk (R.H h s).2
 item:∀x s,rk s<=rk (R.item x s).2.2
theorem Lr(U:R.Up rk)(hi:∀id l s,rk s<=rk (it id l s).2)(q:List AG×σ)(c:AG):rk q.2<=rk (EQ R it q c).2:=
 qy (U.H _ _) (hi _ _ _)
theorem KL(U:R.Up rk)(hi:∀id l s,rk s<=rk (it id l s).2)(l:List AG)(s:σ):rk s<=rk (JU R it l s).2:=JS (G:=EQ R it) (Lr U hi) l ([],s)
theorem OC(U:R.Up rk)(hi:∀id l s,rk s<=rk (it id l s).2)(q:List AM×σ)(r:AM):rk q.2<=rk (GG R it q r).2:=
 qy (U.H _ _) (KL U hi _ _)
theorem Ls(U:R.Up rk)(hi:∀id l s,rk s<=rk (it id l s).2)(l:List AM)(s:σ):rk s<=rk (Di R it l s).2:=JS (G:=GG R it) (OC U hi) l ([],s)
theorem QP(U:R.Up rk)(hi:∀id l s,rk s<=rk (it id l s).2)(x:AD)(s:σ):rk s<=rk (GF R it x s).2:=by
 unfold GF;split;exact hi _ _ _;split;exact Ls U hi _ _;exact IO _
theorem PI(U:R.Up rk)(hi:∀id l s,rk s<=rk (it id l s).2)(q:List AD×σ)(x:AD):rk q.2<=rk (Ej R it q x).2:=by
 unfold Ej;dsimp only;split;exact qy (qy (U.item _ _) (U.H _ _)) (QP U hi _ _);exact U.item _ _
theorem OB(U:R.Up rk):∀(N:Nat)(id:Int)(l:List AD)(s:σ),rk s<=rk (Au R N id l s).2
 | 0,_,_,_=>IO _
 | N+1,id,l,s=>qy (U.W id l s) (JS (G:=Ej R (Au R N)) (PI U (OB U N)) _ ([],_))
end
section
variable{σ:Type}
def dQ(pf:Nat->List AD->Prop)(hp:AF->Prop)(N:Nat)(x:AD):Prop:=
 hp x.H/\(x.l=6->pf N x.W)/\(x.l=7->x.R.length<=1048576/\∀r∈x.R,hp r.H/\r.cells.length<=1048576/\∀c∈r.cells,hp c.H/\pf N c.W)
abbrev MX(st:σ->Nat->Option A7)(s:σ)(H:Hp):Prop:=∀o y,st s o=some y->H o=some y
structure Zb(st:σ->Nat->Option A7)(n0:Nat)(gF gH gI:FuncId)(bF bH bI:List SV)(R:Pa σ)(pf:Nat->List AD->Prop)(pi:Nat->AD->Prop)(hp:AF->Prop)(rk:σ->Nat)(top:Nat):Prop where
 up:R.Up rk
 lt:∀s o,n0<=o->st s o=none
 dom:∀s s' o,st s o=none->st s' o=none
 cl:∀s o y,st s o=some y->Ay n0 y=true
 zero:∀l,¬pf 0 l
 W:∀N id l s H n,pf (N+1) l->rk (R.W id l s).2<=top->n0<=n->MX st s H->BF prog gF ([AA id,AI l]++bF) H n (λv h' n'=>v=AI (R.W id l s).1/\h'=Aq st (R.W id l s).2 H/\n'=n)
 H:∀x s H n,hp x->rk (R.H x s).2<=top->n0<=n->MX st s H->BF prog gH ([x.h]++bH) H n (λv h' n'=>v=(R.H x s).1.h/\h'=Aq st (R.H x s).2 H/\n'=n)
 item:∀N x s H n,pi N x->rk (R.item x s).2.2<=top->n0<=n->MX st s H->BF prog gI ([x.h]++bI) H n (λv h' n'=>v=.tup [(R.item x s).1.h,.bool (R.item x s).2.1]/\h'=Aq st (R.item x s).2.2 H/\n'=n)
 flow_ok:∀N id l s,pf (N+1) l->(R.W id l s).1.length<=1048576/\∀x∈(R.W id l s).1,pi N x
 item_ok:∀N x s,pi N x->(R.item x s).2.1=true->dQ pf hp N (R.item x s).1
variable{st:σ->Nat->Option A7}{n0:Nat}{gF gH gI:FuncId}{bF bH bI:List SV}{R:Pa σ}{pf:Nat->List AD->Prop}{pi:Nat->AD->Prop}{hp:AF->Prop}{rk:σ->Nat}{top:Nat}
theorem Zb.clo(C:Zb st n0 gF gH gI bF bH bI R pf pi hp rk top):Tn st n0 0 [] [] (λs _=>(⟨[],0,0,[],[]⟩,true,s)) (λ_=>False) where
 lt:=C.lt
 dom:=C.dom
 cl:=C.cl
 call:=λ_ _ _ _ h=>h.elim
theorem Tn.ltU{g:FuncId}{a b:List SV}{f:σ->Ef->AF×Bool×σ}{ok:AF->Prop}{i:σ->Nat}{d:Nat}(C:Tn st n0 g a b f ok i d){B:Hp}{m:Nat}(hn:n0<=m)(hb:∀j y,B j=some y->j<m)(s:σ):∀j y,Aq st s B j=some y->j<m:=λj y e=>by
 simp only[Aq]at e;cases c:st s j with
 | some z=>
  by_cases h:n0<=j;rw[C.lt s j h]at c;cases c;omega
 | none=>rw[c]at e;exact hb j y e
def itW(gF gH gI:FuncId)(bF bH bI:List SV)(st:σ->Nat->Option A7)(n0:Nat)(it:Int->List AD->σ->List AD×σ)(P:List AD->Prop)(rk:σ->Nat)(top:Nat):Prop:=
 ∀id l s H n,P l->rk (it id l s).2<=top->n0<=n->MX st s H->BF prog 116 [.agg [.fn (.func gF) [] bF,.fn (.func gH) [] bH,.fn (.func gI) [] bI],AA id,AI l] H n (λv h' n'=>v=AI (it id l s).1/\h'=Aq st (it id l s).2 H/\n'=n)
theorem F5{X h:Hp}{n m k p z:Nat}{es:List SV}{e:SV}{o:Option Nat}{t t2 el:TypeId}(ht:Ax prog t=some el)(g:(Ax prog t2).isSome=true)(w:Bd prog el=z)(i:z≠0)(f:(BO prog el).B=true)(l:(BO prog el).cells.length=z)
 (hb:Ce prog el<=65536) (a:es.length+1<=1073741824) (d:BG n m z o es) (v:e.B=true) (s:e.cells.length=z) (h1:X k=some (.cells e.cells)) (r:∀j y,AS o es h j=some y->X j=some y) (hh:∀j y,h j=some y->j<n) (b:n<=p) (_hmp:m<=p) (c:HE el=none:=by rfl):
 ∃out,Af prog X p .append [t,t2] [AQ z o es,.sl k 0 z 1 true]=some out/\out.val=.sl p 0 z (es.length+1) false/\out.new.isSome=true/\BG n (p+1) z (some p) (es++[e])/\(∀j y,AS (some p) (es++[e]) h j=some y->CS.app X p out j=some y)/\(∀j,j≠p->o≠some j->CS.app X p out j=X j):=by
 refine⟨_,Hl ht g w i f l hb a d s h1 (λj e=>r j _ (GN j e)) p c,rfl,rfl,d.push v s b nN,Gf hh b d λj y e=>r j y (D6 hh d j y e),λj h1 h2=>?_⟩;cases o with
 | none=>simp[CS.app,AB _ _ h1]
 | some q=>
  have u:j≠q:=λe=>h2 (by rw[e]);simp[CS.app,AB _ _ h1,AB _ _ u]
theorem Pe{X Y:Hp}{p k:Nat}{es:List SV}{a bn:Option A7}(hpk:p≠k)(h:∀j y,AS (some p) es (h_ X k a) j=some y->Y j=some y):∀j y,AS (some p) es (h_ X k bn) j=some y->h_ Y k bn j=some y:=λj y e=>by
 have:=h j y;simp only[AS,h_]at e this ⊢;split at e;rename_i h1;rw[nR nN];rw[nS h1]at this;exact this e;rename_i h1;rw[nR h1]at this;split at e;rename_i h2;rw[nS h2];exact e;rename_i h2;rw[nR h2];rw[nR h2]at this;exact this e
theorem Pi{h' h2:Hp}{k j:Nat}{pre:List SV}{v w:SV}(h1:h2 k=none)(hh:h' k=some (.cells (pre++[v])))(hv:Fz h' h2 (j+1) v w):Fz h' h2 (j+2) (.ptr k 0) (.q (pre++[w])):=by
 refine .inr ⟨h1,_,hh,by simp,?_⟩;rw[wq];have:∀l,AT (Fz h' h2 (j+1)) (l++[v]) (l++[w]):=by
  intro l
  induction l with
  | nil=>exact⟨hv,trivial⟩
  | cons a l ih=>exact⟨Or,ih⟩
 exact this pre
theorem Sd{h2 h':Hp}{n m z k:Nat}{o:Option Nat}{es:List SV}(H:BG n m z o es)(c:∀j,n<=j->j<m->h2 j=none)(hh:∀j,o=some j->h' j=some (.cells (es.flatMap SV.cells))):Fz h' h2 (k+1) (AQ z o es) (.x z es false):=by
 cases o with
 | none=>rw[H.none rfl];exact .inr ⟨by simp,.inl rfl,trivial,by simp⟩
 | some j =>
  have b:=hh j rfl;refine .inr ⟨c j (H.lt j rfl).1 (H.lt j rfl).2,by simp,rfl,rfl,_,_,b,by simp[CP,Bv H.size];rfl,H.size,?_⟩;have:∀l:List SV,AT (Fz h' h2 k) l l:=by
   intro l;induction l with
   | nil=>trivial
   | cons a l ih=>exact⟨Or,ih⟩
  simp only[<-Bv H.size,qn];exact this _
def Y5:Tr:=.pure 0<|.pure 2<|.pure 3<|.pure 4<|.pure 5<|.pure 6<|.pure 7<|.pure 9<|.pure 10<|.pure 11<|.pure 12<|.pure 13 <|
 .two 1 8 (.one 8<|.one 14<|.one 15<|.one 16<|.one 17<|.one 18<|.one 19 .nil)
  (.two 1 14 (.one 14<|.one 15<|.one 16<|.one 17<|.one 18<|.one 19 .nil)
    (.two 1 15 (.one 15<|.one 16<|.one 17<|.one 18<|.one 19 .nil)
      (.two 1 16 (.one 16<|.one 17<|.one 18<|.one 19 .nil) (.one 1<|.one 17<|.one 18<|.one 19 .nil))))
theorem gQ(C:Zb st n0 gF gH gI bF bH bI R pf pi hp rk top):∀N,itW gF gH gI bF bH bI st n0 (Au R N) (pf N) rk top
 | 0=>λid l s H n h=>(C.zero l h).elim
 | N + 1 => fun id l s H n hl ht hn hs => by
  have ih:=gQ C N;have iu:=OB C.up N;have K:=C.clo;obtain⟨hfl,hfi⟩:=C.flow_ok N id l s hl;refine E8 func116 rfl λho=>?_;have hU:∀s',HQ (Aq st s' H) n:=λs'=>K.old s' hn ho;have hUb:∀s' j y,Aq st s' H j=some y->j<n:=λs' j y e=>(hU s' j y e).1;have hHb:=ho.lt;obtain⟨L,hL⟩:∃L,L=(R.W id l s).1:=⟨_,rfl⟩
  obtain⟨s1,hs1⟩:∃s1,s1=(R.W id l s).2:=⟨_,rfl⟩
  rw[<-hL]at hfl hfi;obtain⟨Q,hQ⟩:∃Q:Nat->List AD×σ,∀i,Q i=(L.take i).foldl (Ej R (Au R N)) ([],s1):=⟨_,λ_=>rfl⟩
  have hQ0:Q 0=([],s1):=by rw[hQ];rfl
  have hQs:∀i x,(h:i<L.length)->L[i]=x->Q (i+1)=Ej R (Au R N) (Q i) x:=λi x h hx=>by rw[hQ,hQ,Fq _ _ _ _ _ h hx]
  have hQl:Q L.length=Au R (N+1) id l s:=by rw[hQ,qn,hL,hs1];rfl
  have hQn:∀i,(Q i).1.length<=i:=λi=>by rw[hQ];have:=OA (R:=R) (it:=Au R N) (L.take i) ([],s1);simp at this;omega
  have hQt:∀i,rk (Q i).2<=top:=λi=>by
   rw[hQ];refine qy (JT (PI C.up iu) _ _ i) ?_;rw[hL,hs1];exact ht
  have ht1:rk s1<=top:=by have:=hQt 0;rwa [hQ0]at this
  clear hQ;refine Ao 1 [(1,AA id),(2,AI l),(3,.q [.fn (.func gF) [] bF,.fn (.func gH) [] bH,.fn (.func gI) [] bI])] (Aq st s H) n ?_ (λm hm=>?_);simp[go_sem,Or,Cs s H hs];refine⟨Ak (ho.none (IO n)) (by simp[h_]),λj y e=>by rw[AB _ _ (by have:=(ho j y e).1;omega)];exact e⟩;refine Ai 0 [(1,AA id),(2,AI l),(3,.q [.fn (.func gF) [] bF,.fn (.func gH) [] bH,.fn (.func gI) [] bI]),(7,.x 0 [] true)] (Aq st s H) m ?_ (λm' hm'=>?_);simp[go_sem,Or];subst hm';refine AR 0 (α:=Option Nat) (λo=>[(7,AQ 11 o ((Q L.length).1.map AD.h))]) (λo=>AS o ((Q L.length).1.map AD.h) (Aq st (Q L.length).2 H)) (λo m=>n<=m/\BG n m 11 o ((Q L.length).1.map AD.h)) ?_ (λo m hm=>?_)
  . refine Ai 0 [(3,.q [.fn (.func gF) [] bF,.fn (.func gH) [] bH,.fn (.func gI) [] bI]),(7,.x 0 [] true),(22,AI L),(23,AA L.length),(24,AA 0)] (Aq st s1 H) m ?_ (λm' hm'=>?_);have hc:=C.W N id l s (Aq st s H) m hl (by rw[<-hs1];exact ht1) nN CZ;rw[K.up2,<-hL,<-hs1]at hc;simp[go_sem];refine qI (by simpa using hc) ?_;rintro v H' n' ⟨rfl,rfl,rfl⟩;simp[go_sem,Or];subst hm';refine AP (As 0 (α:=Nat×Option Nat) (λq=>[(3,.q [.fn (.func gF) [] bF,.fn (.func gH) [] bH,.fn (.func gI) [] bI]),(7,AQ 11 q.2 ((Q q.1).1.map AD.h)),(22,AI L),(23,AA L.length),(24,AA q.1)])
     (λq=>AS q.2 ((Q q.1).1.map AD.h) (Aq st (Q q.1).2 H)) (λq m=>q.1<=L.length/\n<=m/\BG n m 11 q.2 ((Q q.1).1.map AD.h)) (λq=>L.length-q.1) (0,none) ⟨qi _,hm,by simp only[hQ0];exact wF _ _ _⟩ ?_ ?_ ?_)
    simp[go_sem,look,AQ,Or];simp only[hQ0];exact AE;clear hm m;rintro⟨i,o⟩ m1 ⟨hi,hm1,hA⟩;dsimp only at hi hm1 hA ⊢;have hEn:((Q i).1.map AD.h).length<=i:=by rw[qj];exact hQn i
    by_cases hlt:i<L.length
    · have w1 := wS i nN
      obtain⟨x,hx⟩:∃x,L[i]=x:=⟨_,rfl⟩
      have hpi:pi N x:=hfi x (hx▸qp hlt);have hst:=hQs i x hlt hx;have htop:=hQt (i+1);generalize hSi:(Q i).2=si at hst;generalize hEi:(Q i).1.map AD.h=E at hA hEn ⊢;have hXb:∀s' j y,AS o E (Aq st s' H) j=some y->j<m1:=λs'=>EH (hUb s') hm1 hA;refine Ai 0 [(3,.q [.fn (.func gF) [] bF,.fn (.func gH) [] bH,.fn (.func gI) [] bI]),(7,AQ 11 o E),(22,AI L),(23,AA L.length),(24,AA i),(25,.bool true)] (AS o E (Aq st si H)) m1 ?_ (λm' hm'=>?_);simp[go_sem,Or,hlt];subst hm';refine Ai 0 [(3,.q [.fn (.func gF) [] bF,.fn (.func gH) [] bH,.fn (.func gI) [] bI]),(7,AQ 11 o E),(22,AI L),(23,AA L.length),(24,AA i)] (AS o E (Aq st si H)) m1 ?_ (λm2 hm2=>?_);simp[go_sem,Or];subst hm2;refine AR 0 (α:=Option Nat) (λo=>[(3,.q [.fn (.func gF) [] bF,.fn (.func gH) [] bH,.fn (.func gI) [] bI]),(7,AQ 11 o ((Q (i+1)).1.map AD.h)),(22,AI L),(23,AA L.length),(24,AA i)]) (λo=>AS o ((Q (i+1)).1.map AD.h) (Aq st (Q (i+1)).2 H)) (λo m=>n<=m/\BG n m 11 o ((Q (i+1)).1.map AD.h)) ?_ (λo m hm=>?_)
      . refine AP ?_;refine Ao 1 [(3,.q [.fn (.func gF) [] bF,.fn (.func gH) [] bH,.fn (.func gI) [] bI]),(7,AQ 11 o E),(22,AI L),(23,AA L.length),(24,AA i),(9,.q [AA x.l,AA x.code,AA x.id,.str x.J,AU x.H.Q,AA x.H.I,AA x.H.move,Aa x.H.Y,AN x.H.Z,AI x.W,Ap x.R])] (AS o E (Aq st si H)) m1 ?_ (λm2 hm2=>?_);simp[go_sem,Or,hlt,hx,qz,AC];refine⟨Ak (Ac (hXb _) (IO m1)) (AC _ _ _),AV (hXb _) (AV (hXb _) AE)⟩;have hXb2:∀s' j y,AS o E (Aq st s' H) j=some y->j<m2:=λs' j y e=>by have:=hXb s' j y e;omega
        have hci:=C.item N x si (AS o E (Aq st si H)) m2 hpi (by
         rw[hst]at htop;refine qy ?_ htop;unfold Ej;rw[hSi];dsimp only;split;exact qy (C.up.H _ _) (QP C.up iu _ _);exact IO _) nN (K.has hn hA CZ)
        have hok:=C.item_ok N x si hpi;rw[K.acc hn hA,K.up2]at hci;have hst':Q (i+1)=if(R.item x si).2.1=true then((Q i).1++[(GF R (Au R N) ((R.item x si).1.wHead (R.H (R.item x si).1.H (R.item x si).2.2).1) (R.H (R.item x si).1.H (R.item x si).2.2).2).1],(GF R (Au R N) ((R.item x si).1.wHead (R.H (R.item x si).1.H (R.item x si).2.2).1) (R.H (R.item x si).1.H (R.item x si).2.2).2).2)else((Q i).1,(R.item x si).2.2):=by rw[hst,Ej,hSi]
        clear hst hSi;rcases hf:R.item x si with⟨x1,k,s2⟩
        rw[hf]at hci hst' hok;dsimp only at hci hst' hok;refine A6 0 [(3,.q [.fn (.func gF) [] bF,.fn (.func gH) [] bH,.fn (.func gI) [] bI]),(7,AQ 11 o E),(22,AI L),(23,AA L.length),(24,AA i),(10,.ptr m2 0),(11,.bool k)] (h_ (AS o E (Aq st s2 H)) m2 (some (.cells [AA x1.l,AA x1.code,AA x1.id,.str x1.J,AU x1.H.Q,AA x1.H.I,AA x1.H.move,Aa x1.H.Y,AN x1.H.Z,AI x1.W,Ap x1.R]))) (λm3=>m2+1=m3) ?_ (λm3 hm3=>?_);rw[qz,qz]at hci;simp[go_sem];refine qI (by simpa using hci) ?_;rintro v H' n' ⟨rfl,rfl,rfl⟩;simp[go_sem,Or,AC,AZ];subst hm3;cases k with
        | false=>
         have hst3:Q (i+1)=((Q i).1,s2):=by simpa using hst'
         simp only[hst3,hEi];refine AJ ?_;simp[go_sem,Or];exact⟨o,⟨by omega,hA.mono nN⟩,rfl,AV (hXb2 _) AE⟩
        | true=>
         rw[nS rfl]at hst';have hst3:=hst';obtain⟨hk1,hk6,hk7⟩:=hok rfl;rcases hh:R.H x1.H s2 with⟨h3,s3⟩
         rw[hh]at hst3;dsimp only at hst3;obtain⟨y,hy⟩:∃y,y=x1.wHead h3:=⟨_,rfl⟩
         rw[<-hy]at hst3;have hit3:rk (GF R (Au R N) y s3).2<=top:=by have:=htop;rwa [hst3]at this
         have ht3:rk s3<=top:=qy (QP C.up iu y s3) hit3;simp only[hst3,qc,hEi,qg,vW];have hB0:∀(s:σ)(z:A7),h_ (AS o E (Aq st s H)) m2 (some z)=Aq st s (h_ (AS o E H) m2 (some z)):=λs z=>by rw[<-K.acc hn hA,K.h_ _ _ nN]
         refine A6 0 [(3,.q [.fn (.func gF) [] bF,.fn (.func gH) [] bH,.fn (.func gI) [] bI]),(7,AQ 11 o E),(22,AI L),(23,AA L.length),(24,AA i),(10,.ptr m2 0)] (h_ (AS o E (Aq st s2 H)) m2 (some (.cells [AA x1.l,AA x1.code,AA x1.id,.str x1.J,AU x1.H.Q,AA x1.H.I,AA x1.H.move,Aa x1.H.Y,AN x1.H.Z,AI x1.W,Ap x1.R]))) (λm3=>m2+1=m3) ?_ (λm3 hm3=>?_);simp[go_sem,Or];subst hm3;have hch:=C.H x1.H s2 (h_ (AS o E (Aq st s2 H)) m2 (some (.cells [AA x1.l,AA x1.code,AA x1.id,.str x1.J,AU x1.H.Q,AA x1.H.I,AA x1.H.move,Aa x1.H.Y,AN x1.H.Z,AI x1.W,Ap x1.R]))) (m2+1) hk1 (by rw[hh];exact ht3) nN (by rw[hB0];exact CZ);rw[hh,hB0,K.up2,<-hB0 s2,<-hB0 s3]at hch;dsimp only at hch;refine A6 0 [(3,.q [.fn (.func gF) [] bF,.fn (.func gH) [] bH,.fn (.func gI) [] bI]),(7,AQ 11 o E),(22,AI L),(23,AA L.length),(24,AA i),(10,.ptr m2 0)] (h_ (AS o E (Aq st s3 H)) m2 (some (.cells [AA y.l,AA y.code,AA y.id,.str y.J,AU y.H.Q,AA y.H.I,AA y.H.move,Aa y.H.Y,AN y.H.Z,AI y.W,Ap y.R]))) (λm3=>m2+1=m3) ?_ (λm3 hm3=>?_);simp[go_sem,AC];refine qI (by simpa[AF.h,AF.j]using hch) ?_;rintro v H' n' ⟨rfl,rfl,rfl⟩;simp[go_sem,Or,AC,AZ,hy,AD.wHead,AD.l,AD.code,AD.id,AD.J,AD.H,AD.W,AD.R];subst hm3;have hyk:y.l=x1.l/\y.W=x1.W/\y.R=x1.R/\y.id=x1.id:=by rw[hy];cases x1;exact⟨rfl,rfl,rfl,rfl⟩
         obtain⟨y1,y2,y3,y4⟩:=hyk;rw[<-y1,<-y2]at hk6;rw[<-y1,<-y3]at hk7;clear hch hh hst' hf hci hok;refine Bz 1 [(3,.q [.fn (.func gF) [] bF,.fn (.func gH) [] bH,.fn (.func gI) [] bI]),(7,AQ 11 o E),(22,AI L),(23,AA L.length),(24,AA i),(10,.q [AA (GF R (Au R N) y s3).1.l,AA (GF R (Au R N) y s3).1.code,AA (GF R (Au R N) y s3).1.id,.str (GF R (Au R N) y s3).1.J,AU (GF R (Au R N) y s3).1.H.Q,AA (GF R (Au R N) y s3).1.H.I,AA (GF R (Au R N) y s3).1.H.move,Aa (GF R (Au R N) y s3).1.H.Y,AN (GF R (Au R N) y s3).1.H.Z,AI (GF R (Au R N) y s3).1.W,Ap (GF R (Au R N) y s3).1.R])] (AS o E (Aq st (GF R (Au R N) y s3).2 H)) (λm3=>m2+1<=m3) ?_ (λm3 hm3=>?_)
         . refine A6 0 [(3,.q [.fn (.func gF) [] bF,.fn (.func gH) [] bH,.fn (.func gI) [] bI]),(7,AQ 11 o E),(22,AI L),(23,AA L.length),(24,AA i),(10,.ptr m2 0),(44,AA y.l)] (h_ (AS o E (Aq st s3 H)) m2 (some (.cells [AA y.l,AA y.code,AA y.id,.str y.J,AU y.H.Q,AA y.H.I,AA y.H.move,Aa y.H.Y,AN y.H.Z,AI y.W,Ap y.R]))) (λm3=>m2+1=m3) ?_ (λm3 hm3=>?_);simp[go_sem,Or,AC];subst hm3;by_cases h6:y.l=6;have hw:GF R (Au R N) y s3=(y.wFlow (Au R N y.id y.W s3).1,(Au R N y.id y.W s3).2):=by unfold GF;rw[nS h6]
           rw[hw]at hit3 ⊢;dsimp only at hit3 ⊢;have hcf:=ih y.id y.W s3 (h_ (AS o E (Aq st s3 H)) m2 (some (.cells [AA y.l,AA y.code,AA y.id,.str y.J,AU y.H.Q,AA y.H.I,AA y.H.move,Aa y.H.Y,AN y.H.Z,AI y.W,Ap y.R]))) (m2+1) (hk6 h6) hit3 nN (by rw[hB0];exact CZ);rw[hB0,K.up2,<-hB0 s3,<-hB0 (Au R N y.id y.W s3).2]at hcf;refine AJ ?_;simp[go_sem,h6,AC];refine qI (by simpa[h6]using hcf) ?_;rintro v H' n' ⟨rfl,rfl,rfl⟩;simp[go_sem,Or,AC,AZ];refine⟨Ak (Ac (hXb2 _) (IO m2)) ?_,AV (hXb2 _) AE⟩;rw[AC];cases y;simp[AD.wFlow,AD.l,AD.code,AD.id,AD.J,AD.H,AD.W,AD.R]at h6 ⊢;exact h6.symm
           . by_cases h7:y.l=7
             . have hw:GF R (Au R N) y s3=(y.wRows (Di R (Au R N) y.R s3).1,(Di R (Au R N) y.R s3).2):=by unfold GF;rw[nR h6,nS h7]
               obtain⟨hr1,hr2⟩:=hk7 h7;rw[hw]at hit3 ⊢;dsimp only at hit3 ⊢;obtain⟨B,hB⟩:∃B:Hp,B=h_ (AS o E H) m2 (some (.cells [AA y.l,AA y.code,AA y.id,.str y.J,AU y.H.Q,AA y.H.I,AA y.H.move,Aa y.H.Y,AN y.H.Z,AI y.W,Ap y.R])):=⟨_,rfl⟩
               have hBs:∀s,h_ (AS o E (Aq st s H)) m2 (some (.cells [AA y.l,AA y.code,AA y.id,.str y.J,AU y.H.Q,AA y.H.I,AA y.H.move,Aa y.H.Y,AN y.H.Z,AI y.W,Ap y.R]))=Aq st s B:=λs=>by rw[hB0,hB]
               have hBb:∀s' j z,Aq st s' B j=some z->j<m2+1:=λs'=>K.ltU nN (λj z e=>by
                rw[hB]at e;by_cases e1:j=m2;omega;rw[AB _ _ e1]at e;have:=EH hHb hm1 hA j z e;omega) s'
               rw[hBs];obtain⟨Rr,hRr⟩:∃Rr:Nat->List AM×σ,∀i,Rr i=(y.R.take i).foldl (GG R (Au R N)) ([],s3):=⟨_,λ_=>rfl⟩
               have hRr0:Rr 0=([],s3):=by rw[hRr];rfl
               have hRrs:∀i r,(h:i<y.R.length)->y.R[i]=r->Rr (i+1)=GG R (Au R N) (Rr i) r:=λi x h hx=>by rw[hRr,hRr,Fq _ _ _ _ _ h hx]
               have hRrl:Rr y.R.length=Di R (Au R N) y.R s3:=by rw[hRr,qn];rfl
               have hRrn:∀i,(Rr i).1.length<=i:=λi=>by rw[hRr];have:=KM (R:=R) (it:=Au R N) (y.R.take i) ([],s3);simp at this;omega
               have hRrt:∀i,rk (Rr i).2<=top:=λi=>by rw[hRr];exact qy (JT (OC C.up iu) _ _ i) hit3
               clear hRr;refine AP ?_;refine A6 0 [(3,.q [.fn (.func gF) [] bF,.fn (.func gH) [] bH,.fn (.func gI) [] bI]),(7,AQ 11 o E),(22,AI L),(23,AA L.length),(24,AA i),(10,.ptr m2 0),(44,AA y.l),(45,.bool false)] (Aq st s3 B) (λm3=>m2+1=m3) ?_ (λm3 hm3=>?_);simp[go_sem,Or,show(y.l==6)=false by simpa using h6];subst hm3;refine Av (b:=false) nP ?_;rw[nR nO];refine A6 0 [(3,.q [.fn (.func gF) [] bF,.fn (.func gH) [] bH,.fn (.func gI) [] bI]),(7,AQ 11 o E),(22,AI L),(23,AA L.length),(24,AA i),(10,.ptr m2 0),(54,.bool true)] (Aq st s3 B) (λm3=>m2+1=m3) ?_ (λm3 hm3=>?_);simp[go_sem,Or,h7];subst hm3;refine Av (b:=true) nP ?_;rw[nS rfl];refine A6 0 [(3,.q [.fn (.func gF) [] bF,.fn (.func gH) [] bH,.fn (.func gI) [] bI]),(7,AQ 11 o E),(22,AI L),(23,AA L.length),(24,AA i),(10,.ptr m2 0),(12,.x 0 [] true)] (Aq st s3 B) (λm3=>m2+1=m3) ?_ (λm3 hm3=>?_);simp[go_sem,Or];subst hm3;refine Bz 1 [(3,.q [.fn (.func gF) [] bF,.fn (.func gH) [] bH,.fn (.func gI) [] bI]),(7,AQ 11 o E),(22,AI L),(23,AA L.length),(24,AA i),(10,.ptr m2 0),(12,Ap (Rr y.R.length).1)] (Aq st (Rr y.R.length).2 B) (λm3=>m2+1<=m3) ?_ (λm3 hm3=>?_)
               . refine A6 0 [(3,.q [.fn (.func gF) [] bF,.fn (.func gH) [] bH,.fn (.func gI) [] bI]),(7,AQ 11 o E),(22,AI L),(23,AA L.length),(24,AA i),(10,.ptr m2 0),(12,.x 0 [] true),(57,Ap y.R),(58,AA y.R.length),(59,AA 0)] (Aq st s3 B) (λm3=>m2+1=m3) ?_ (λm3 hm3=>?_);rw[<-hBs];simp[go_sem,Or,AC];subst hm3;refine AP (As 0 (α:=Nat×Option Nat) (λq=>[(3,.q [.fn (.func gF) [] bF,.fn (.func gH) [] bH,.fn (.func gI) [] bI]),(7,AQ 11 o E),(22,AI L),(23,AA L.length),(24,AA i),(10,.ptr m2 0),(12,AQ 6 q.2 ((Rr q.1).1.map AM.h)),(57,Ap y.R),(58,AA y.R.length),(59,AA q.1)])
                  (λq=>AS q.2 ((Rr q.1).1.map AM.h) (Aq st (Rr q.1).2 B)) (λq m=>q.1<=y.R.length/\m2+1<=m/\BG (m2+1) m 6 q.2 ((Rr q.1).1.map AM.h)) (λq=>y.R.length-q.1) (0,none) ⟨qi _,IO _,by simp only[hRr0];exact wF _ _ _⟩ ?_ ?_ ?_)
                 simp[go_sem,look,AQ,Or];simp only[hRr0];exact AE;rintro⟨a,o2⟩ m3 ⟨ha,hm3,hA2⟩;dsimp only at ha hm3 hA2 ⊢;have hGn:((Rr a).1.map AM.h).length<=a:=by rw[qj];exact hRrn a
                 by_cases halt:a<y.R.length
                 · have w2 := wS a nN
                   obtain⟨r,hr⟩:∃r,y.R[a]=r:=⟨_,rfl⟩
                   obtain⟨g1,g2,g3⟩:=hr2 r (hr▸qp halt);have hrst:=hRrs a r halt hr;have hrtop:=hRrt (a+1);generalize hSr:(Rr a).2=sr at hrst;generalize hGi:(Rr a).1.map AM.h=G at hA2 hGn ⊢;have hGb:∀s' j z,AS o2 G (Aq st s' B) j=some z->j<m3:=λs'=>EH (hBb s') hm3 hA2;refine Ai 0 [(3,.q [.fn (.func gF) [] bF,.fn (.func gH) [] bH,.fn (.func gI) [] bI]),(7,AQ 11 o E),(22,AI L),(23,AA L.length),(24,AA i),(10,.ptr m2 0),(12,AQ 6 o2 G),(57,Ap y.R),(58,AA y.R.length),(59,AA a),(60,.bool true)] (AS o2 G (Aq st sr B)) m3 ?_ (λm' hm'=>?_);simp[go_sem,Or,halt];subst hm';refine Ai 0 [(3,.q [.fn (.func gF) [] bF,.fn (.func gH) [] bH,.fn (.func gI) [] bI]),(7,AQ 11 o E),(22,AI L),(23,AA L.length),(24,AA i),(10,.ptr m2 0),(12,AQ 6 o2 G),(57,Ap y.R),(58,AA y.R.length),(59,AA a)] (AS o2 G (Aq st sr B)) m3 ?_ (λm' hm'=>?_);simp[go_sem,Or];subst hm';refine AR 0 (α:=Option Nat) (λo2=>[(3,.q [.fn (.func gF) [] bF,.fn (.func gH) [] bH,.fn (.func gI) [] bI]),(7,AQ 11 o E),(22,AI L),(23,AA L.length),(24,AA i),(10,.ptr m2 0),(12,AQ 6 o2 ((Rr (a+1)).1.map AM.h)),(57,Ap y.R),(58,AA y.R.length),(59,AA a)]) (λo2=>AS o2 ((Rr (a+1)).1.map AM.h) (Aq st (Rr (a+1)).2 B)) (λo2 m=>m2+1<=m/\BG (m2+1) m 6 o2 ((Rr (a+1)).1.map AM.h)) ?_ (λo2 m hm=>?_)
                   . refine AP ?_;refine Ao 1 [(3,.q [.fn (.func gF) [] bF,.fn (.func gH) [] bH,.fn (.func gI) [] bI]),(7,AQ 11 o E),(22,AI L),(23,AA L.length),(24,AA i),(10,.ptr m2 0),(12,AQ 6 o2 G),(57,Ap y.R),(58,AA y.R.length),(59,AA a),(14,.q (r.H.j++[Bf r.cells]))] (AS o2 G (Aq st sr B)) m3 ?_ (λm4 hm4=>?_);simp[go_sem,Or,halt,hr,qR,AF.j,AC];refine⟨Ak (Ac (hGb _) (IO m3)) (AC _ _ _),AV (hGb _) (AV (hGb _) AE)⟩;have hGb2:∀s' j z,AS o2 G (Aq st s' B) j=some z->j<m4:=λs' j z e=>by have:=hGb s' j z e;omega
                     rw[GG,hSr]at hrst;rcases hh:R.H r.H sr with⟨h4,sr1⟩
                     rw[hh]at hrst;dsimp only at hrst;rw[hrst]at hrtop;dsimp only at hrtop;have hct1:rk sr1<=top:=qy (KL C.up iu r.cells sr1) hrtop;have hch:=C.H r.H sr (AS o2 G (Aq st sr B)) m4 g1 (by rw[hh];exact hct1) nN (K.has nN hA2 CZ);rw[hh,K.acc nN hA2,K.up2]at hch;dsimp only at hch;refine A6 0 [(3,.q [.fn (.func gF) [] bF,.fn (.func gH) [] bH,.fn (.func gI) [] bI]),(7,AQ 11 o E),(22,AI L),(23,AA L.length),(24,AA i),(10,.ptr m2 0),(12,AQ 6 o2 G),(57,Ap y.R),(58,AA y.R.length),(59,AA a),(14,.q (r.H.j++[Bf r.cells])),(15,.ptr m4 0)] (h_ (AS o2 G (Aq st sr1 B)) m4 (some (.cells (h4.j++[.x 0 [] true])))) (λm5=>m4+1=m5) ?_ (λm5 hm5=>?_);simp[go_sem,AF.j];refine qI (by simpa[AF.h,AF.j]using hch) ?_;rintro v H' n' ⟨rfl,rfl,rfl⟩;simp[go_sem,Or,AC,AZ];subst hm5;clear hch hh;obtain⟨B1,hB1⟩:∃B1:Hp,B1=AS o2 G B:=⟨_,rfl⟩
                     have hB1s:∀s,AS o2 G (Aq st s B)=Aq st s B1:=λs=>by rw[hB1,K.acc nN hA2]
                     have hB1b:∀s' j z,Aq st s' B1 j=some z->j<m4:=λs' j z e=>hGb2 s' j z (by rw[hB1s];exact e);obtain⟨Rc,hRc⟩:∃Rc:Nat->List AG×σ,∀i,Rc i=(r.cells.take i).foldl (EQ R (Au R N)) ([],sr1):=⟨_,λ_=>rfl⟩
                     have hRc0:Rc 0=([],sr1):=by rw[hRc];rfl
                     have hRcs:∀i c,(h:i<r.cells.length)->r.cells[i]=c->Rc (i+1)=EQ R (Au R N) (Rc i) c:=λi x h hx=>by rw[hRc,hRc,Fq _ _ _ _ _ h hx]
                     have hRcl:Rc r.cells.length=JU R (Au R N) r.cells sr1:=by rw[hRc,qn];rfl
                     have hRcn:∀i,(Rc i).1.length<=i:=λi=>by rw[hRc];have:=JA (R:=R) (it:=Au R N) (r.cells.take i) ([],sr1);simp at this;omega
                     have hRct:∀i,rk (Rc i).2<=top:=λi=>by rw[hRc];exact qy (JT (Lr C.up iu) _ _ i) hrtop
                     clear hRc;rw[<-hRcl]at hrst;refine Bz 3 [(3,.q [.fn (.func gF) [] bF,.fn (.func gH) [] bH,.fn (.func gI) [] bI]),(7,AQ 11 o E),(22,AI L),(23,AA L.length),(24,AA i),(10,.ptr m2 0),(12,AQ 6 o2 G),(57,Ap y.R),(58,AA y.R.length),(59,AA a),(15,.q (h4.j++[Bf (Rc r.cells.length).1]))] (AS o2 G (Aq st (Rc r.cells.length).2 B)) (λm5=>m4+1<=m5) ?_ (λm5 hm5=>?_);refine A6 0 [(3,.q [.fn (.func gF) [] bF,.fn (.func gH) [] bH,.fn (.func gI) [] bI]),(7,AQ 11 o E),(22,AI L),(23,AA L.length),(24,AA i),(10,.ptr m2 0),(12,AQ 6 o2 G),(57,Ap y.R),(58,AA y.R.length),(59,AA a),(15,.ptr m4 0),(70,Bf r.cells),(71,AA r.cells.length),(72,AA 0)] (h_ (AS o2 G (Aq st sr1 B)) m4 (some (.cells (h4.j++[.x 0 [] true])))) (λm5=>m4+1=m5) ?_ (λm5 hm5=>?_);simp[go_sem,Or,AF.j];subst hm5;rw[hB1s];refine AP (As 0 (α:=Nat×Option Nat) (λq=>[(3,.q [.fn (.func gF) [] bF,.fn (.func gH) [] bH,.fn (.func gI) [] bI]),(7,AQ 11 o E),(22,AI L),(23,AA L.length),(24,AA i),(10,.ptr m2 0),(12,AQ 6 o2 G),(57,Ap y.R),(58,AA y.R.length),(59,AA a),(15,.ptr m4 0),(70,Bf r.cells),(71,AA r.cells.length),(72,AA q.1)])
                      (λq=>AS q.2 ((Rc q.1).1.map AG.h) (h_ (Aq st (Rc q.1).2 B1) m4 (some (.cells (h4.j++[AQ 7 q.2 ((Rc q.1).1.map AG.h)]))))) (λq m=>q.1<=r.cells.length/\m4+1<=m/\BG (m4+1) m 7 q.2 ((Rc q.1).1.map AG.h)) (λq=>r.cells.length-q.1) (0,none) ⟨qi _,IO _,by simp only[hRc0];exact wF _ _ _⟩ ?_ ?_ ?_)
                     simp[go_sem,look,Or];simp only[hRc0,hB1s];exact AE;rintro⟨b,o3⟩ m5 ⟨hb,hm5,hA3⟩;dsimp only at hb hm5 hA3 ⊢;have hDn:((Rc b).1.map AG.h).length<=b:=by rw[qj];exact hRcn b
                     by_cases hblt:b<r.cells.length;have w3:=wS b nN;obtain⟨c,hc⟩:∃c,r.cells[b]=c:=⟨_,rfl⟩
                     obtain⟨c1,c2⟩:=g3 c (hc▸qp hblt);have hcst:=hRcs b c hblt hc;have hctop:=hRct (b+1);generalize hSc:(Rc b).2=sc at hcst;generalize hCi:(Rc b).1.map AG.h=D at hA3 hDn ⊢;have hYb:∀s' z,∀j w,h_ (Aq st s' B1) m4 z j=some w->j<m4+1:=λs' z j w e=>by
                      by_cases e1:j=m4;omega;rw[AB _ _ e1]at e;have:=hB1b s' j w e;omega
                     have hZb:∀s' z,∀j w,AS o3 D (h_ (Aq st s' B1) m4 z) j=some w->j<m5:=λs' z=>EH (hYb s' z) hm5 hA3;refine Ai 0 [(3,.q [.fn (.func gF) [] bF,.fn (.func gH) [] bH,.fn (.func gI) [] bI]),(7,AQ 11 o E),(22,AI L),(23,AA L.length),(24,AA i),(10,.ptr m2 0),(12,AQ 6 o2 G),(57,Ap y.R),(58,AA y.R.length),(59,AA a),(15,.ptr m4 0),(70,Bf r.cells),(71,AA r.cells.length),(72,AA b),(73,.bool true)] (AS o3 D (h_ (Aq st sc B1) m4 (some (.cells (h4.j++[AQ 7 o3 D]))))) m5 ?_ (λm' hm'=>?_);simp[go_sem,Or,hblt];subst hm';refine Ai 0 [(3,.q [.fn (.func gF) [] bF,.fn (.func gH) [] bH,.fn (.func gI) [] bI]),(7,AQ 11 o E),(22,AI L),(23,AA L.length),(24,AA i),(10,.ptr m2 0),(12,AQ 6 o2 G),(57,Ap y.R),(58,AA y.R.length),(59,AA a),(15,.ptr m4 0),(70,Bf r.cells),(71,AA r.cells.length),(72,AA b)] (AS o3 D (h_ (Aq st sc B1) m4 (some (.cells (h4.j++[AQ 7 o3 D]))))) m5 ?_ (λm' hm'=>?_);simp[go_sem,Or];subst hm';refine AR 0 (α:=Option Nat) (λ_=>[(3,.q [.fn (.func gF) [] bF,.fn (.func gH) [] bH,.fn (.func gI) [] bI]),(7,AQ 11 o E),(22,AI L),(23,AA L.length),(24,AA i),(10,.ptr m2 0),(12,AQ 6 o2 G),(57,Ap y.R),(58,AA y.R.length),(59,AA a),(15,.ptr m4 0),(70,Bf r.cells),(71,AA r.cells.length),(72,AA b)]) (λo3=>AS o3 ((Rc (b+1)).1.map AG.h) (h_ (Aq st (Rc (b+1)).2 B1) m4 (some (.cells (h4.j++[AQ 7 o3 ((Rc (b+1)).1.map AG.h)]))))) (λo3 m=>m4+1<=m/\BG (m4+1) m 7 o3 ((Rc (b+1)).1.map AG.h)) ?_ (λo3 m hm=>?_);refine AP ?_;refine Ao 1 [(3,.q [.fn (.func gF) [] bF,.fn (.func gH) [] bH,.fn (.func gI) [] bI]),(7,AQ 11 o E),(22,AI L),(23,AA L.length),(24,AA i),(10,.ptr m2 0),(12,AQ 6 o2 G),(57,Ap y.R),(58,AA y.R.length),(59,AA a),(15,.ptr m4 0),(70,Bf r.cells),(71,AA r.cells.length),(72,AA b),(17,.q ([AA c.id]++c.H.j++[AI c.W]))] (AS o3 D (h_ (Aq st sc B1) m4 (some (.cells (h4.j++[AQ 7 o3 D]))))) m5 ?_ (λm6 hm6=>?_);simp[go_sem,Or,hblt,hc,vB,AF.j,AC];refine⟨Ak (Ac (hZb _ _) (IO m5)) (AC _ _ _),AV (hZb _ _) (AV (hZb _ _) AE)⟩;rw[EQ,hSc]at hcst;rcases hh:R.H c.H sc with⟨h5,sc1⟩
                     rw[hh]at hcst;dsimp only at hcst;rcases hi5:Au R N c.id c.W sc1 with⟨q5,sc2⟩
                     rw[hi5]at hcst;dsimp only at hcst;rw[hcst]at hctop;dsimp only at hctop;have hct1:rk sc1<=top:=by have:=iu c.id c.W sc1;rw[hi5]at this;exact qy this hctop
                     obtain⟨B2,hB2⟩:∃B2:Hp,B2=AS o3 D (h_ B1 m4 (some (.cells (h4.j++[AQ 7 o3 D])))):=⟨_,rfl⟩
                     have hB2s:∀s,AS o3 D (h_ (Aq st s B1) m4 (some (.cells (h4.j++[AQ 7 o3 D]))))=Aq st s B2:=λs=>by rw[hB2,K.h_ _ _ nN,<-K.acc nN hA3]
                     have hch:=C.H c.H sc (Aq st sc B2) m6 c1 (by rw[hh];exact hct1) nN CZ;rw[hh,K.up2]at hch;dsimp only at hch;have hcf:=ih c.id c.W sc1 (Aq st sc1 B2) m6 c2 (by rw[hi5];exact hctop) nN CZ;rw[hi5,K.up2]at hcf;dsimp only at hcf;have hk4:∀s,Aq st s B2 m4=some (.cells (h4.j++[AQ 7 o3 D])):=λs=>by
                      rw[<-hB2s];cases o3 with
                      | none=>exact AC _ _ _
                      | some j=>have:=(hA3.lt j rfl).1;simp only[AS];rw[AB _ _ nN,AC]
                     have hk5:∀s j,o3=some j->Aq st s B2 j=some (.cells (D.flatMap SV.cells)):=λs j e=>by rw[<-hB2s];exact GN j e
                     have h46:m4≠m6:=by omega
                     have h47:m4≠m6+1:=by omega
                     rw[hB2s];rw[hcst];simp only[qc,hCi,qg,vW];obtain⟨out,ho1,ho2,ho3,ho4,ho5,ho6⟩:=F5 (X:=h_ (Aq st sc2 B2) m6 (some (.cells (AG.mk c.id h5 q5).h.cells))) (h:=h_ (Aq st sc2 B1) m4 (some (.cells (h4.j++[AQ 7 o3 D])))) (k:=m6) (p:=m6+1) (t:=169) (t2:=169) (el:=173) (z:=7) (e:=(AG.mk c.id h5 q5).h) nP nP nP nO nP nP nP nN hA3 (AG.E.st _) (AG.E.len _) (AC _ _ _)
                      (λj w e=>by
                        have:=hZb sc2 _ j w e;rw[AB _ _ nN,<-hB2s];exact e) (hYb _ _) nN nN
                     have hkA:CS.app (h_ (Aq st sc2 B2) m6 (some (.cells (AG.mk c.id h5 q5).h.cells))) (m6+1) out m4=some (.cells (h4.j++[AQ 7 o3 D])):=by
                      rw[ho6 m4 h47 (λe=>by have:=(hA3.lt m4 e).1;omega),AB _ _ h46,hk4]
                     have fin:=Pe (bn:=some (.cells (h4.j++[AQ 7 (some (m6+1)) (D++[(AG.mk c.id h5 q5).h])]))) (show m6+1≠m4 by omega) ho5;have hce:(AG.mk c.id h5 q5).h.cells=[AA c.id,AU h5.Q,AA h5.I,AA h5.move,Aa h5.Y,AN h5.Z,AI q5]:=by rw[vB];rfl
                     have hvv:AQ 7 (some (m6+1)) (D++[(AG.mk c.id h5 q5).h])=.sl (m6+1) 0 7 (D.length+1) false:=by simp[AQ]
                     rw[hvv]at fin;simp only[CS.app,hce,AF.j,qB,qK]at hkA fin ho1;refine CJ Y5 rfl nQ nQ ?_;simp[go_sem,Y5,hk4,AF.j];refine⟨?_,?_⟩;refine qI (by simpa[AF.h,AF.j]using hch) ?_;rintro v H' n' ⟨rfl,rfl,rfl⟩;simp[go_sem];refine qI hcf ?_;rintro v H' n' ⟨rfl,rfl,rfl⟩;simp[go_sem];rw[ho1];simp[go_sem,hkA,ho2,ho3];exact⟨some (n'+1),⟨by omega,ho4⟩,by rw[hvv];exact fin⟩;refine qI (by simpa[AF.h,AF.j]using hch) ?_;rintro v H' n' ⟨rfl,rfl,rfl⟩;have h46':=Ne.symm h46;simp[go_sem,AF.j,hk4];refine⟨?_,?_⟩;refine qI hcf ?_;rintro v H' n' ⟨rfl,rfl,rfl⟩;simp[go_sem];rw[ho1];simp[go_sem,hkA,ho2,ho3];exact⟨some (n'+1),⟨by omega,ho4⟩,by rw[hvv];exact fin⟩;refine qI hcf ?_;rintro v H' n' ⟨rfl,rfl,rfl⟩;simp[go_sem,AF.j,hk4,AB _ _ h46];rw[ho1];simp[go_sem,hkA,ho2,ho3];exact⟨some (n'+1),⟨by omega,ho4⟩,by rw[hvv];exact fin⟩;refine AJ ?_;simp[go_sem,w3,Or,-Int.natCast_add];exact⟨b+1,by omega,o3,⟨by omega,hm.1,hm.2⟩,rfl,AE⟩;have hbe:b=r.cells.length:=by omega
                     subst hbe;refine AJ ?_;simp[go_sem,Or];have hYb:∀s' z,∀j w,h_ (Aq st s' B1) m4 z j=some w->j<m4+1:=λs' z j w e=>by
                      by_cases e1:j=m4;omega;rw[AB _ _ e1]at e;have:=hB1b s' j w e;omega
                     refine⟨by omega,Pi (Ac (hB1b _) (IO _)) ?_ (Sd hA3 (λj h1 h2=>Ac (hB1b _) nN) λj e=>GN j e),λj w e=>?_⟩;cases o3 with
                     | none=>exact AC _ _ _
                     | some j=>have:=(hA3.lt j rfl).1;simp only[AS];rw[AB _ _ nN,AC]
                     refine D6 (hYb _ _) hA3 _ _ ?_;rw[AB _ _ (by have:=hB1b _ j w e;omega)];exact e
                     . generalize Rc r.cells.length=rc at hrst ⊢;obtain⟨q2,sr2⟩:=rc;dsimp only at hrst ⊢;rw[hrst];simp only[qc,hGi,qg,vW];refine AJ ?_;simp[go_sem,AF.j];have hpush:=hA2.push (j:=m5+1) (m':=m5+1+1) (e:=(AM.mk h4 q2).h) (AM.E.st _) (AM.E.len _) nN nN;rw[Hl (es:=G) (e:=(AM.mk h4 q2).h) (o:=o2) (t:=78) (t2:=78) (el:=171) (z:=6) nP nP nP nO nP nP nP nN (hA2.mono nN) (AM.E.len _) ?a1 ?a2]
                       case a1=>simp[AC,qR,SV.cells,AM.H,AM.cells]
                       case a2=>
                        intro j e;have:=(hA2.lt j e).2;rw[AB _ _ nN];exact GN j e
                       have hlive:=Gf (p:=m5+1) (v:=.sl (m5+1) 0 6 (G.length+1) false) (e:=(AM.mk h4 q2).h) (hBb sr2) nN (hA2.mono (m':=m5) nN) (H:=h_ (AS o2 G (Aq st sr2 B)) m5 (some (.cells [AU h4.Q,AA h4.I,AA h4.move,Aa h4.Y,AN h4.Z,Bf q2]))) (AV (λj z e=>by have:=hBb sr2 j z e;omega) (D6 (hBb sr2) hA2));have hvv:AQ 6 (some (m5+1)) (G++[(AM.mk h4 q2).h])=.sl (m5+1) 0 6 (G.length+1) false:=by simp[AQ]
                       simp[go_sem];exact⟨some (m5+1),⟨by omega,hpush⟩,hvv.symm,by simpa[CS.app,SV.cells,qR,AM.H,AM.cells]using hlive⟩
                   refine AJ ?_;simp[go_sem,w2,Or,-Int.natCast_add];exact⟨a+1,by omega,o2,⟨by omega,hm.1,hm.2⟩,⟨rfl,rfl⟩,AE⟩
                 have hae:a=y.R.length:=by omega
                 subst hae;refine AJ ?_;simp[go_sem,Or];exact⟨by omega,AQ.fz' (λj hj=>Ac (hBb _) hj) hA2 AE,D6 (hBb _) hA2⟩
               rw[hRrl]at *;rw[<-hBs];refine AJ ?_;simp[go_sem,Or,AC,AZ];refine⟨by omega,Ak (Ac (hXb2 _) (IO m2)) ?_,AV (hXb2 _) AE⟩;rw[AC];cases y;simp[AD.wRows,AD.l,AD.code,AD.id,AD.J,AD.H,AD.W,AD.R]
             have hw:GF R (Au R N) y s3=(y,s3):=by unfold GF;rw[nR h6,nR h7]
             rw[hw];refine AJ ?_;simp[go_sem,h6,h7];exact⟨Ak (Ac (hXb2 _) (IO m2)) (AC _ _ _),AV (hXb2 _) AE⟩
         . generalize GF R (Au R N) y s3=r2 at hit3 hst3 ⊢;obtain⟨z,s4⟩:=r2;dsimp only at hit3 hst3 ⊢;refine AJ ?_;simp[go_sem];have hpush:=hA.push (j:=m3+1) (m':=m3+1+1) (e:=z.h) (AD.E.st _) (AD.E.len _) nN nN;rw[Hl (es:=E) (e:=z.h) (o:=o) (t:=22) (t2:=22) (el:=80) (z:=11) nP nP nP nO nP nP nP nN (hA.mono nN) (AD.E.len _) ?a1 ?a2]
           case a1=>simp[AC,qz,SV.cells]
           case a2=>
            intro j e;have:=(hA.lt j e).2;rw[AB _ _ nN];exact GN j e
           have hlive:=Gf (p:=m3+1) (v:=.sl (m3+1) 0 11 (E.length+1) false) (e:=z.h) (hUb s4) nN (hA.mono (m':=m3) nN) (H:=h_ (AS o E (Aq st s4 H)) m3 (some (.cells [AA z.l,AA z.code,AA z.id,.str z.J,AU z.H.Q,AA z.H.I,AA z.H.move,Aa z.H.Y,AN z.H.Z,AI z.W,Ap z.R]))) (AV (λj z e=>by have:=hUb s4 j z e;omega) (D6 (hUb s4) hA));have hvv:AQ 11 (some (m3+1)) (E++[z.h])=.sl (m3+1) 0 11 (E.length+1) false:=by simp[AQ]
           simp[go_sem];exact⟨some (m3+1),⟨by omega,hpush⟩,hvv.symm,by simpa[CS.app,SV.cells,qz]using hlive⟩
      refine AJ ?_;simp[go_sem,w1,Or,-Int.natCast_add];exact⟨i+1,by omega,o,⟨by omega,hm.1,hm.2⟩,⟨rfl,rfl⟩,AE⟩
    have hie:i=L.length:=by omega
    subst hie;refine AJ ?_;simp[go_sem];exact⟨o,⟨hm1,hA⟩,rfl,AE⟩
  refine AJ ?_;simp[go_sem];rw[hQl]at hm ⊢;exact Rq (hU _) hm.2 (λe he=>by obtain⟨x,_,rfl⟩:=qb.1 he;exact AD.cl n x)
end
def Dm(L:SV->DN->Prop)(h:Hp)(n:Nat)(v:SV)(h':Hp)(n':Nat):Prop:=
 n<=n'/\∃ob,L v ob/\(AK ob).Nodup/\(∀k∈AK ob,n<=k/\k<n')/\∀k y,By ob h k=some y->h' k=some y
def NC(f:FuncId)(args:List SV)(L:SV->DN->Prop):Prop:=∀h n,BF prog f args h n (Dm L h n)
theorem NC.use{f:FuncId}{args:List SV}{L:SV->DN->Prop}(H:NC f args L){E:BU}{h:Hp}{n:Nat}{K:SV->Hp->Nat->Prop}(hk:∀v h' n',Dm L h n v h' n'->K v h' n'):Ab E prog f args h n K:=qI (H h n) hk
def SU(L:List SV->DN->Prop)(v:SV)(ob:DN):Prop:=∃cs,v=.agg cs/\L cs ob
structure KZ where
 k:Nat
 o:Option Nat
 es:List SV
 ob:DN
theorem NK(es:List SV)(a:List SV):(es++[SV.agg a]).flatMap SV.cells=es.flatMap SV.cells++a:=by simp[SV.cells]
def KY(z n m:Nat)(L:List SV->DN->Prop)(len:Nat)(o:Option Nat)(es:List SV)(ob:DN):Prop:=
 n<=m/\BG n m z o es/\es.length=len/\L (es.flatMap SV.cells) ob/\(AK ob).Nodup/\(∀k∈AK ob,n<=k/\k<m)/\∀j,o=some j->j∉AK ob
theorem mO(l:List AD)(hl:l.length<=1048576)(g:FuncId)(H:∀(i:Nat)(h:i<l.length),NC g [(l[i]).h] (SU λs ob=>EE l[i] s ob)):NC 155 [AI l,.fn (.func g) [] []] (JG 11 l.length λs ob=>BQ l s ob):=by
 intro h n;refine E8 func155 rfl λho=>?_;have w:=ho.lt;refine Ai 0 [(0,AI l),(1,.fn (.func g) [] [])] h n ?_ (λm hm=>?_);simp[go_sem,Or];subst hm;refine Ai 0 [(0,AI l),(1,.fn (.func g) [] []),(5,.x 0 [] true)] h n ?_ (λm hm=>?_);simp[go_sem,Or];subst hm;refine AR 0 (α:=KZ) (λq=>[(5,AQ 11 q.o q.es)]) (λq=>AS q.o q.es (By q.ob h)) (λq m=>KY 11 n m (λs ob=>BQ l s ob) l.length q.o q.es q.ob) ?_ (λq m hq=>?_);refine Ai 0 [(1,.fn (.func g) [] []),(5,.x 0 [] true),(8,AI l),(9,AA l.length),(10,AA 0)] h n ?_ (λm hm=>?_);simp[go_sem,Or];subst hm;refine AP (As 0 (α:=KZ) (λq=>[(1,.fn (.func g) [] []),(5,AQ 11 q.o q.es),(8,AI l),(9,AA l.length),(10,AA q.k)]) (λq=>AS q.o q.es (By q.ob h))
  (λq m=>q.k<=l.length/\KY 11 n m (λs ob=>BQ (l.take q.k) s ob) q.k q.o q.es q.ob) (λq=>l.length-q.k) ⟨0,none,[],[]⟩ ?_ ?_ ?_ ?_)
 exact⟨qi _,IO _,wF _ _ _,rfl,by show BQ (l.take 0) _ _;rw[vt,BQ];exact⟨rfl,rfl⟩,by simp,by simp,by simp⟩;simp[go_sem,look,AQ,Or];simp only[AS,Nr];exact AE;rintro⟨i,o,es,ob⟩ m ⟨hi,hm,I,A,r,B,c,C⟩;dsimp only at hi hm I A r B c C ⊢;by_cases K:i<l.length;have w1:=wS i nN;obtain⟨x,hx⟩:∃x,l[i]=x:=⟨_,rfl⟩
 have Z:=H i K;rw[hx]at Z;have O:∀j y,By ob h j=some y->j<m:=λj y e=>by
  by_cases f:j∈AK ob;exact(c j f).2;rw[Aw f]at e;have:=w j y e;omega
 have V:∀j,o=some j->n<=j/\j<m:=λj e=>I.lt j e;have L:∀j y,AS o es (By ob h) j=some y->j<m:=λj y e=>by
  cases o with
  | none=>exact O j y e
  | some q=>
   simp only[AS]at e;by_cases D:j=q;have:=V q rfl;omega;rw[AB _ _ D]at e;exact O j y e
 refine Ai 0 [(1,.fn (.func g) [] []),(5,AQ 11 o es),(8,AI l),(9,AA l.length),(10,AA i),(11,.bool true)] (AS o es (By ob h)) m ?_ (λm' N=>?_);simp[go_sem,Or,K];subst N;refine Ai 0 [(1,.fn (.func g) [] []),(5,AQ 11 o es),(8,AI l),(9,AA l.length),(10,AA i)] (AS o es (By ob h)) m ?_ (λm' N=>?_);simp[go_sem,Or];subst N;refine AR 0 (α:=KZ) (λq=>[(1,.fn (.func g) [] []),(5,AQ 11 q.o q.es),(8,AI l),(9,AA l.length),(10,AA i)]) (λq=>AS q.o q.es (By q.ob h)) (λq m=>KY 11 n m (λs ob=>BQ (l.take (i+1)) s ob) (i+1) q.o q.es q.ob) (AP ?_) (λq m hq=>?_);refine Ao 1 [(1,.fn (.func g) [] []),(5,AQ 11 o es),(7,.q x.h.cells),(8,AI l),(9,AA l.length),(10,AA i)] (AS o es (By ob h)) m ?_ (λm1 hm1=>?_);rw[qz];simp[go_sem,Or,K,hx,qz,AC];refine⟨Ak (Ac L (IO m)) (AC _ _ _),AV L (AV L AE)⟩;refine AJ ?_;have W:x.h=.agg x.h.cells:=by rw[qz];rfl
 have Y:x.h.cells.length=11:=AD.E.len x;generalize x.h.cells=xc at W Y ⊢;rw[W]at Z;have hxt:List.take 11 xc=xc:=qD nN;simp[go_sem,Y,hxt];refine NC.use Z ?_;rintro v h1 n1 ⟨hn1,d,⟨s,rfl,Q⟩,S,u,R⟩;have P:=M6 _ _ _ Q;have M:∀j y,AS o es h j=some y->h_ h1 n1 (some (.cells s)) j=some y:=λj y e=>by
  have f:j<m:=EH w hm I j y e;rw[AB _ _ nN];refine R j y ?_;have hj1:j∉AK d:=λg=>by have:=(u j g).1;omega
  rw[Aw hj1];cases o with
  | none=>
   have:j∉AK ob:=λg=>by have:=(c j g).1;have:=w j y e;omega
   simp only[AS]at e ⊢;rw[Aw this];exact e
  | some q=>
   simp only[AS]at e ⊢;by_cases D:j=q;subst D;rw[AC]at e ⊢;exact e;rw[AB _ _ D]at e ⊢;have:j∉AK ob:=λg=>by have:=(c j g).1;have:=w j y e;omega
   rw[Aw this];exact e
 obtain⟨out,ho1,ho2,ho3,ho4,ho5,ho6⟩:=F5 (X:=h_ h1 n1 (some (.cells s))) (h:=h) (k:=n1) (p:=n1+1) (t:=22) (t2:=22) (el:=80) (z:=11) (e:=.agg s) (es:=es) nP nP nP nO nP nP nP nN I rfl P (AC _ _ _) M w nN nN;have hvv:AQ 11 (some (n1+1)) (es++[.agg s])=.sl (n1+1) 0 11 (es.length+1) false:=by simp[AQ]
 have T:(AK (ob++d)).Nodup:=by
  rw[AK,qc,qr];exact⟨B,S,λa ha b hb e=>by have:=(c a ha).2;have:=(u b hb).1;omega⟩
 have F:∀k∈AK (ob++d),n<=k/\k<n1:=λk hk=>by
  rw[AK,qc,qf]at hk;rcases hk with hk|hk;have:=c k hk;omega;have:=u k hk;omega
 have fin:∀j y,AS (some (n1+1)) (es++[.agg s]) (By (ob++d) h) j=some y->CS.app (h_ h1 n1 (some (.cells s))) (n1+1) out j=some y:=λj y e=>by
  by_cases D:j=n1+1;refine ho5 j y ?_;subst D;simp only[AS,AC]at e ⊢;exact e;simp only[AS]at e;rw[AB _ _ D]at e;have hjb:j<n1:=by
   by_cases f:j∈AK (ob++d);exact(F j f).2;rw[Aw f]at e;have:=w j y e;omega
  have U:o≠some j:=λg=>by
   have h3:=V j g;by_cases f:j∈AK (ob++d);rw[AK,qc,qf]at f;rcases f with f|f;exact C j g f;have:=(u j f).1;omega;rw[Aw f]at e;have:=w j y e;omega
  rw[ho6 j D U,AB _ _ nN];refine R j y ?_;rw[It]at e;by_cases f:j∈AK d;have J:j∉AK ob:=λg=>by have:=(c j g).2;have:=(u j f).1;omega
  rw[Aw J]at e;simp only[By]at e ⊢;cases G:d.lookup j with
  | none=>exact absurd f (Cg.1 G)
  | some z=>rw[G]at e;exact e
  rw[Aw f];have G:By ob h j=some y:=by
   by_cases J:j∈AK ob;simp only[By]at e ⊢;cases G:ob.lookup j with
   | none=>exact absurd J (Cg.1 G)
   | some z=>rw[G]at e;exact e
   rw[Aw J]at e ⊢;rw[Aw f]at e;exact e
  cases o with
  | none=>exact G
  | some q=>
   simp only[AS];rw[AB _ _ (λg=>U (by rw[g]))];exact G
 simp only[CS.app]at fin;simp[go_sem,P];rw[ho1];simp[go_sem,ho2,ho3];refine⟨⟨i+1,some (n1+1),es++[.agg s],ob++d⟩,⟨by omega,ho4,by rw[qk,A];rfl,?_,T,λk hk=>by have:=F k hk;omega,λj e=>by cases e;exact λg=>by have:=(F _ g).2;omega⟩,?_,?_⟩;simp only[NK];rw[qa K,hx,HN];exact⟨_,_,_,_,rfl,rfl,r,by rw[BQ];exact⟨s,[],d,[],by simp,by simp,Q,by rw[BQ];exact⟨rfl,rfl⟩⟩⟩;simp[hvv,Or];exact fin;refine AJ ?_;simp[go_sem,w1,Or,-Int.natCast_add];exact⟨⟨i+1,q.o,q.es,q.ob⟩,by simp only;omega,⟨by simp only;omega,hq⟩,⟨rfl,rfl⟩,AE⟩;have hie:i=l.length:=by omega
 subst hie;rw[qn]at r;refine AJ ?_;simp[go_sem];exact⟨⟨l.length,o,es,ob⟩,⟨hm,I,A,r,B,c,C⟩,rfl,AE⟩;rcases q with⟨_,o,es,ob⟩
 obtain⟨hm,I,A,r,B,c,C⟩:=hq;dsimp only at hm I A r B c C ⊢;refine AJ ?_;simp[go_sem];refine .inl ⟨by omega,?_⟩;cases o with
 | none =>
  have he:=I.none rfl;subst he;have hl0:l=[]:=vg.1 A.symm;subst hl0;exact⟨[],.inl ⟨rfl,⟨0,true,rfl⟩,rfl⟩,by simp,by simp,λk y e=>by
   rw[BQ]at r;rw[r.2];exact e⟩
 | some j=>
  have f:=I.lt j rfl;refine⟨(j,.cells (es.flatMap SV.cells))::ob,.inr ⟨j,false,_,ob,by rw[AQ,A],rfl,r⟩,?_,?_,λk y e=>?_⟩;simp only[AK,qg,qY];exact⟨C j rfl,B⟩;intro k hk;simp only[AK,qg,qd]at hk;rcases hk with rfl|hk;omega;exact c k hk;simp only[AS,h_];by_cases D:k=j;subst D;simp[By,List.lookup]at e;rw[nS rfl,e];have G:(k==j)=false:=by simpa using D
  rw[nR D];simpa[By,List.lookup,G]using e
theorem mQ(l:List AM)(hl:l.length<=1048576)(g:FuncId)(H:∀(i:Nat)(h:i<l.length),NC g [(l[i]).h] (SU λs ob=>HP l[i] s ob)):NC 157 [Ap l,.fn (.func g) [] []] (JG 6 l.length λs ob=>Bw l s ob):=by
 intro h n;refine E8 func157 rfl λho=>?_;have w:=ho.lt;refine Ai 0 [(0,Ap l),(1,.fn (.func g) [] [])] h n ?_ (λm hm=>?_);simp[go_sem,Or];subst hm;refine Ai 0 [(0,Ap l),(1,.fn (.func g) [] []),(5,.x 0 [] true)] h n ?_ (λm hm=>?_);simp[go_sem,Or];subst hm;refine AR 0 (α:=KZ) (λq=>[(5,AQ 6 q.o q.es)]) (λq=>AS q.o q.es (By q.ob h)) (λq m=>KY 6 n m (λs ob=>Bw l s ob) l.length q.o q.es q.ob) ?_ (λq m hq=>?_);refine Ai 0 [(1,.fn (.func g) [] []),(5,.x 0 [] true),(8,Ap l),(9,AA l.length),(10,AA 0)] h n ?_ (λm hm=>?_);simp[go_sem,Or];subst hm;refine AP (As 0 (α:=KZ) (λq=>[(1,.fn (.func g) [] []),(5,AQ 6 q.o q.es),(8,Ap l),(9,AA l.length),(10,AA q.k)]) (λq=>AS q.o q.es (By q.ob h))
  (λq m=>q.k<=l.length/\KY 6 n m (λs ob=>Bw (l.take q.k) s ob) q.k q.o q.es q.ob) (λq=>l.length-q.k) ⟨0,none,[],[]⟩ ?_ ?_ ?_ ?_)
 exact⟨qi _,IO _,wF _ _ _,rfl,by show Bw (l.take 0) _ _;rw[vt,Bw];exact⟨rfl,rfl⟩,by simp,by simp,by simp⟩;simp[go_sem,look,AQ,Or];simp only[AS,Nr];exact AE;rintro⟨i,o,es,ob⟩ m ⟨hi,hm,I,A,r,B,c,C⟩;dsimp only at hi hm I A r B c C ⊢;by_cases K:i<l.length;have w1:=wS i nN;obtain⟨x,hx⟩:∃x,l[i]=x:=⟨_,rfl⟩
 have Z:=H i K;rw[hx]at Z;have O:∀j y,By ob h j=some y->j<m:=λj y e=>by
  by_cases f:j∈AK ob;exact(c j f).2;rw[Aw f]at e;have:=w j y e;omega
 have V:∀j,o=some j->n<=j/\j<m:=λj e=>I.lt j e;have L:∀j y,AS o es (By ob h) j=some y->j<m:=λj y e=>by
  cases o with
  | none=>exact O j y e
  | some q=>
   simp only[AS]at e;by_cases D:j=q;have:=V q rfl;omega;rw[AB _ _ D]at e;exact O j y e
 refine Ai 0 [(1,.fn (.func g) [] []),(5,AQ 6 o es),(8,Ap l),(9,AA l.length),(10,AA i),(11,.bool true)] (AS o es (By ob h)) m ?_ (λm' N=>?_);simp[go_sem,Or,K];subst N;refine Ai 0 [(1,.fn (.func g) [] []),(5,AQ 6 o es),(8,Ap l),(9,AA l.length),(10,AA i)] (AS o es (By ob h)) m ?_ (λm' N=>?_);simp[go_sem,Or];subst N;refine AR 0 (α:=KZ) (λq=>[(1,.fn (.func g) [] []),(5,AQ 6 q.o q.es),(8,Ap l),(9,AA l.length),(10,AA i)]) (λq=>AS q.o q.es (By q.ob h)) (λq m=>KY 6 n m (λs ob=>Bw (l.take (i+1)) s ob) (i+1) q.o q.es q.ob) (AP ?_) (λq m hq=>?_);refine Ao 1 [(1,.fn (.func g) [] []),(5,AQ 6 o es),(7,.q x.h.cells),(8,Ap l),(9,AA l.length),(10,AA i)] (AS o es (By ob h)) m ?_ (λm1 hm1=>?_);rw[qR];simp[go_sem,Or,K,hx,qR,AC];refine⟨Ak (Ac L (IO m)) (AC _ _ _),AV L (AV L AE)⟩;refine AJ ?_;have W:x.h=.agg x.h.cells:=by rw[qR];rfl
 have Y:x.h.cells.length=6:=AM.E.len x;generalize x.h.cells=xc at W Y ⊢;rw[W]at Z;have hxt:List.take 6 xc=xc:=qD nN;simp[go_sem,Y,hxt];refine NC.use Z ?_;rintro v h1 n1 ⟨hn1,d,⟨s,rfl,Q⟩,S,u,R⟩;have P:=Od _ _ _ Q;have M:∀j y,AS o es h j=some y->h_ h1 n1 (some (.cells s)) j=some y:=λj y e=>by
  have f:j<m:=EH w hm I j y e;rw[AB _ _ nN];refine R j y ?_;have hj1:j∉AK d:=λg=>by have:=(u j g).1;omega
  rw[Aw hj1];cases o with
  | none=>
   have:j∉AK ob:=λg=>by have:=(c j g).1;have:=w j y e;omega
   simp only[AS]at e ⊢;rw[Aw this];exact e
  | some q=>
   simp only[AS]at e ⊢;by_cases D:j=q;subst D;rw[AC]at e ⊢;exact e;rw[AB _ _ D]at e ⊢;have:j∉AK ob:=λg=>by have:=(c j g).1;have:=w j y e;omega
   rw[Aw this];exact e
 obtain⟨out,ho1,ho2,ho3,ho4,ho5,ho6⟩:=F5 (X:=h_ h1 n1 (some (.cells s))) (h:=h) (k:=n1) (p:=n1+1) (t:=78) (t2:=78) (el:=171) (z:=6) (e:=.agg s) (es:=es) nP nP nP nO nP nP nP nN I rfl P (AC _ _ _) M w nN nN;have hvv:AQ 6 (some (n1+1)) (es++[.agg s])=.sl (n1+1) 0 6 (es.length+1) false:=by simp[AQ]
 have T:(AK (ob++d)).Nodup:=by
  rw[AK,qc,qr];exact⟨B,S,λa ha b hb e=>by have:=(c a ha).2;have:=(u b hb).1;omega⟩
 have F:∀k∈AK (ob++d),n<=k/\k<n1:=λk hk=>by
  rw[AK,qc,qf]at hk;rcases hk with hk|hk;have:=c k hk;omega;have:=u k hk;omega
 have fin:∀j y,AS (some (n1+1)) (es++[.agg s]) (By (ob++d) h) j=some y->CS.app (h_ h1 n1 (some (.cells s))) (n1+1) out j=some y:=λj y e=>by
  by_cases D:j=n1+1;refine ho5 j y ?_;subst D;simp only[AS,AC]at e ⊢;exact e;simp only[AS]at e;rw[AB _ _ D]at e;have hjb:j<n1:=by
   by_cases f:j∈AK (ob++d);exact(F j f).2;rw[Aw f]at e;have:=w j y e;omega
  have U:o≠some j:=λg=>by
   have h3:=V j g;by_cases f:j∈AK (ob++d);rw[AK,qc,qf]at f;rcases f with f|f;exact C j g f;have:=(u j f).1;omega;rw[Aw f]at e;have:=w j y e;omega
  rw[ho6 j D U,AB _ _ nN];refine R j y ?_;rw[It]at e;by_cases f:j∈AK d;have J:j∉AK ob:=λg=>by have:=(c j g).2;have:=(u j f).1;omega
  rw[Aw J]at e;simp only[By]at e ⊢;cases G:d.lookup j with
  | none=>exact absurd f (Cg.1 G)
  | some z=>rw[G]at e;exact e
  rw[Aw f];have G:By ob h j=some y:=by
   by_cases J:j∈AK ob;simp only[By]at e ⊢;cases G:ob.lookup j with
   | none=>exact absurd J (Cg.1 G)
   | some z=>rw[G]at e;exact e
   rw[Aw J]at e ⊢;rw[Aw f]at e;exact e
  cases o with
  | none=>exact G
  | some q=>
   simp only[AS];rw[AB _ _ (λg=>U (by rw[g]))];exact G
 simp only[CS.app]at fin;simp[go_sem,P];rw[ho1];simp[go_sem,ho2,ho3];refine⟨⟨i+1,some (n1+1),es++[.agg s],ob++d⟩,⟨by omega,ho4,by rw[qk,A];rfl,?_,T,λk hk=>by have:=F k hk;omega,λj e=>by cases e;exact λg=>by have:=(F _ g).2;omega⟩,?_,?_⟩;simp only[NK];rw[qa K,hx,ID];exact⟨_,_,_,_,rfl,rfl,r,by rw[Bw];exact⟨s,[],d,[],by simp,by simp,Q,by rw[Bw];exact⟨rfl,rfl⟩⟩⟩;simp[hvv,Or];exact fin;refine AJ ?_;simp[go_sem,w1,Or,-Int.natCast_add];exact⟨⟨i+1,q.o,q.es,q.ob⟩,by simp only;omega,⟨by simp only;omega,hq⟩,⟨rfl,rfl⟩,AE⟩;have hie:i=l.length:=by omega
 subst hie;rw[qn]at r;refine AJ ?_;simp[go_sem];exact⟨⟨l.length,o,es,ob⟩,⟨hm,I,A,r,B,c,C⟩,rfl,AE⟩;rcases q with⟨_,o,es,ob⟩
 obtain⟨hm,I,A,r,B,c,C⟩:=hq;dsimp only at hm I A r B c C ⊢;refine AJ ?_;simp[go_sem];refine .inl ⟨by omega,?_⟩;cases o with
 | none =>
  have he:=I.none rfl;subst he;have hl0:l=[]:=vg.1 A.symm;subst hl0;exact⟨[],.inl ⟨rfl,⟨0,true,rfl⟩,rfl⟩,by simp,by simp,λk y e=>by
   rw[Bw]at r;rw[r.2];exact e⟩
 | some j=>
  have f:=I.lt j rfl;refine⟨(j,.cells (es.flatMap SV.cells))::ob,.inr ⟨j,false,_,ob,by rw[AQ,A],rfl,r⟩,?_,?_,λk y e=>?_⟩;simp only[AK,qg,qY];exact⟨C j rfl,B⟩;intro k hk;simp only[AK,qg,qd]at hk;rcases hk with rfl|hk;omega;exact c k hk;simp only[AS,h_];by_cases D:k=j;subst D;simp[By,List.lookup]at e;rw[nS rfl,e];have G:(k==j)=false:=by simpa using D
  rw[nR D];simpa[By,List.lookup,G]using e
theorem mT(l:List AG)(hl:l.length<=1048576)(g:FuncId)(H:∀(i:Nat)(h:i<l.length),NC g [(l[i]).h] (SU λs ob=>FM l[i] s ob)):NC 204 [Bf l,.fn (.func g) [] []] (JG 7 l.length λs ob=>BP l s ob):=by
 intro h n;refine E8 func204 rfl λho=>?_;have w:=ho.lt;refine Ai 0 [(0,Bf l),(1,.fn (.func g) [] [])] h n ?_ (λm hm=>?_);simp[go_sem,Or];subst hm;refine Ai 0 [(0,Bf l),(1,.fn (.func g) [] []),(5,.x 0 [] true)] h n ?_ (λm hm=>?_);simp[go_sem,Or];subst hm;refine AR 0 (α:=KZ) (λq=>[(5,AQ 7 q.o q.es)]) (λq=>AS q.o q.es (By q.ob h)) (λq m=>KY 7 n m (λs ob=>BP l s ob) l.length q.o q.es q.ob) ?_ (λq m hq=>?_);refine Ai 0 [(1,.fn (.func g) [] []),(5,.x 0 [] true),(8,Bf l),(9,AA l.length),(10,AA 0)] h n ?_ (λm hm=>?_);simp[go_sem,Or];subst hm;refine AP (As 0 (α:=KZ) (λq=>[(1,.fn (.func g) [] []),(5,AQ 7 q.o q.es),(8,Bf l),(9,AA l.length),(10,AA q.k)]) (λq=>AS q.o q.es (By q.ob h))
  (λq m=>q.k<=l.length/\KY 7 n m (λs ob=>BP (l.take q.k) s ob) q.k q.o q.es q.ob) (λq=>l.length-q.k) ⟨0,none,[],[]⟩ ?_ ?_ ?_ ?_)
 exact⟨qi _,IO _,wF _ _ _,rfl,by show BP (l.take 0) _ _;rw[vt,BP];exact⟨rfl,rfl⟩,by simp,by simp,by simp⟩;simp[go_sem,look,AQ,Or];simp only[AS,Nr];exact AE;rintro⟨i,o,es,ob⟩ m ⟨hi,hm,I,A,r,B,c,C⟩;dsimp only at hi hm I A r B c C ⊢;by_cases K:i<l.length;have w1:=wS i nN;obtain⟨x,hx⟩:∃x,l[i]=x:=⟨_,rfl⟩
 have Z:=H i K;rw[hx]at Z;have O:∀j y,By ob h j=some y->j<m:=λj y e=>by
  by_cases f:j∈AK ob;exact(c j f).2;rw[Aw f]at e;have:=w j y e;omega
 have V:∀j,o=some j->n<=j/\j<m:=λj e=>I.lt j e;have L:∀j y,AS o es (By ob h) j=some y->j<m:=λj y e=>by
  cases o with
  | none=>exact O j y e
  | some q=>
   simp only[AS]at e;by_cases D:j=q;have:=V q rfl;omega;rw[AB _ _ D]at e;exact O j y e
 refine Ai 0 [(1,.fn (.func g) [] []),(5,AQ 7 o es),(8,Bf l),(9,AA l.length),(10,AA i),(11,.bool true)] (AS o es (By ob h)) m ?_ (λm' N=>?_);simp[go_sem,Or,K];subst N;refine Ai 0 [(1,.fn (.func g) [] []),(5,AQ 7 o es),(8,Bf l),(9,AA l.length),(10,AA i)] (AS o es (By ob h)) m ?_ (λm' N=>?_);simp[go_sem,Or];subst N;refine AR 0 (α:=KZ) (λq=>[(1,.fn (.func g) [] []),(5,AQ 7 q.o q.es),(8,Bf l),(9,AA l.length),(10,AA i)]) (λq=>AS q.o q.es (By q.ob h)) (λq m=>KY 7 n m (λs ob=>BP (l.take (i+1)) s ob) (i+1) q.o q.es q.ob) (AP ?_) (λq m hq=>?_);refine Ao 1 [(1,.fn (.func g) [] []),(5,AQ 7 o es),(7,.q x.h.cells),(8,Bf l),(9,AA l.length),(10,AA i)] (AS o es (By ob h)) m ?_ (λm1 hm1=>?_);rw[vB];simp[go_sem,Or,K,hx,vB,AC];refine⟨Ak (Ac L (IO m)) (AC _ _ _),AV L (AV L AE)⟩;refine AJ ?_;have W:x.h=.agg x.h.cells:=by rw[vB];rfl
 have Y:x.h.cells.length=7:=AG.E.len x;generalize x.h.cells=xc at W Y ⊢;rw[W]at Z;have hxt:List.take 7 xc=xc:=qD nN;simp[go_sem,Y,hxt];refine NC.use Z ?_;rintro v h1 n1 ⟨hn1,d,⟨s,rfl,Q⟩,S,u,R⟩;have P:=M4 _ _ _ Q;have M:∀j y,AS o es h j=some y->h_ h1 n1 (some (.cells s)) j=some y:=λj y e=>by
  have f:j<m:=EH w hm I j y e;rw[AB _ _ nN];refine R j y ?_;have hj1:j∉AK d:=λg=>by have:=(u j g).1;omega
  rw[Aw hj1];cases o with
  | none=>
   have:j∉AK ob:=λg=>by have:=(c j g).1;have:=w j y e;omega
   simp only[AS]at e ⊢;rw[Aw this];exact e
  | some q=>
   simp only[AS]at e ⊢;by_cases D:j=q;subst D;rw[AC]at e ⊢;exact e;rw[AB _ _ D]at e ⊢;have:j∉AK ob:=λg=>by have:=(c j g).1;have:=w j y e;omega
   rw[Aw this];exact e
 obtain⟨out,ho1,ho2,ho3,ho4,ho5,ho6⟩:=F5 (X:=h_ h1 n1 (some (.cells s))) (h:=h) (k:=n1) (p:=n1+1) (t:=169) (t2:=169) (el:=173) (z:=7) (e:=.agg s) (es:=es) nP nP nP nO nP nP nP nN I rfl P (AC _ _ _) M w nN nN;have hvv:AQ 7 (some (n1+1)) (es++[.agg s])=.sl (n1+1) 0 7 (es.length+1) false:=by simp[AQ]
 have T:(AK (ob++d)).Nodup:=by
  rw[AK,qc,qr];exact⟨B,S,λa ha b hb e=>by have:=(c a ha).2;have:=(u b hb).1;omega⟩
 have F:∀k∈AK (ob++d),n<=k/\k<n1:=λk hk=>by
  rw[AK,qc,qf]at hk;rcases hk with hk|hk;have:=c k hk;omega;have:=u k hk;omega
 have fin:∀j y,AS (some (n1+1)) (es++[.agg s]) (By (ob++d) h) j=some y->CS.app (h_ h1 n1 (some (.cells s))) (n1+1) out j=some y:=λj y e=>by
  by_cases D:j=n1+1;refine ho5 j y ?_;subst D;simp only[AS,AC]at e ⊢;exact e;simp only[AS]at e;rw[AB _ _ D]at e;have hjb:j<n1:=by
   by_cases f:j∈AK (ob++d);exact(F j f).2;rw[Aw f]at e;have:=w j y e;omega
  have U:o≠some j:=λg=>by
   have h3:=V j g;by_cases f:j∈AK (ob++d);rw[AK,qc,qf]at f;rcases f with f|f;exact C j g f;have:=(u j f).1;omega;rw[Aw f]at e;have:=w j y e;omega
  rw[ho6 j D U,AB _ _ nN];refine R j y ?_;rw[It]at e;by_cases f:j∈AK d;have J:j∉AK ob:=λg=>by have:=(c j g).2;have:=(u j f).1;omega
  rw[Aw J]at e;simp only[By]at e ⊢;cases G:d.lookup j with
  | none=>exact absurd f (Cg.1 G)
  | some z=>rw[G]at e;exact e
  rw[Aw f];have G:By ob h j=some y:=by
   by_cases J:j∈AK ob;simp only[By]at e ⊢;cases G:ob.lookup j with
   | none=>exact absurd J (Cg.1 G)
   | some z=>rw[G]at e;exact e
   rw[Aw J]at e ⊢;rw[Aw f]at e;exact e
  cases o with
  | none=>exact G
  | some q=>
   simp only[AS];rw[AB _ _ (λg=>U (by rw[g]))];exact G
 simp only[CS.app]at fin;simp[go_sem,P];rw[ho1];simp[go_sem,ho2,ho3];refine⟨⟨i+1,some (n1+1),es++[.agg s],ob++d⟩,⟨by omega,ho4,by rw[qk,A];rfl,?_,T,λk hk=>by have:=F k hk;omega,λj e=>by cases e;exact λg=>by have:=(F _ g).2;omega⟩,?_,?_⟩;simp only[NK];rw[qa K,hx,HM];exact⟨_,_,_,_,rfl,rfl,r,by rw[BP];exact⟨s,[],d,[],by simp,by simp,Q,by rw[BP];exact⟨rfl,rfl⟩⟩⟩;simp[hvv,Or];exact fin;refine AJ ?_;simp[go_sem,w1,Or,-Int.natCast_add];exact⟨⟨i+1,q.o,q.es,q.ob⟩,by simp only;omega,⟨by simp only;omega,hq⟩,⟨rfl,rfl⟩,AE⟩;have hie:i=l.length:=by omega
 subst hie;rw[qn]at r;refine AJ ?_;simp[go_sem];exact⟨⟨l.length,o,es,ob⟩,⟨hm,I,A,r,B,c,C⟩,rfl,AE⟩;rcases q with⟨_,o,es,ob⟩
 obtain⟨hm,I,A,r,B,c,C⟩:=hq;dsimp only at hm I A r B c C ⊢;refine AJ ?_;simp[go_sem];refine .inl ⟨by omega,?_⟩;cases o with
 | none =>
  have he:=I.none rfl;subst he;have hl0:l=[]:=vg.1 A.symm;subst hl0;exact⟨[],.inl ⟨rfl,⟨0,true,rfl⟩,rfl⟩,by simp,by simp,λk y e=>by
   rw[BP]at r;rw[r.2];exact e⟩
 | some j=>
  have f:=I.lt j rfl;refine⟨(j,.cells (es.flatMap SV.cells))::ob,.inr ⟨j,false,_,ob,by rw[AQ,A],rfl,r⟩,?_,?_,λk y e=>?_⟩;simp only[AK,qg,qY];exact⟨C j rfl,B⟩;intro k hk;simp only[AK,qg,qd]at hk;rcases hk with rfl|hk;omega;exact c k hk;simp only[AS,h_];by_cases D:k=j;subst D;simp[By,List.lookup]at e;rw[nS rfl,e];have G:(k==j)=false:=by simpa using D
  rw[nR D];simpa[By,List.lookup,G]using e
end Go.Proofs.YthinbkgpjmjfeaaGreatDoor.Sh
