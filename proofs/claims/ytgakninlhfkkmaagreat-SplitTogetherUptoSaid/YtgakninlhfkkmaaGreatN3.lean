/- A part of the proof (part 3 of 18). -/
import Derived.Test.YtgakninlhfkkmaaGreatN2
import Derived.Test.YtgakninlhfkkmaaGreatProg
import Derived.KernelRfl
import Derived.Tactics
import Derived.IntWalk
namespace Go.Proofs.YtgakninlhfkkmaaGreat.Sh
open Tryz
abbrev IO:=@Fz.same
abbrev vm:=@GB.refl
abbrev we:=@Ap.mono
section
variable{E:CC}{P:Program}{N:Nat}{ops:Array Oper}{f0:Nat->SV}{h0:Hp}{n0 n:Nat}{rs:List Cf}
def Xs(listed:Array Bool):Nat:=listed.toList.count false
theorem LL{a:Array Bool}{i:Nat}(hi:i<a.size)(h:a.getD i false=false):Xs (a.setIfInBounds i true)+1=Xs a:=by
 have b:a.toList[i]'(by simpa using hi)=false:=by rw[HR hi]at h;simpa using h
 have hpos:0<a.toList.count false:=List.count_pos_iff.2 (by rw[<-b];exact qi _);unfold Xs;rw[Array.toList_setIfInBounds,List.count_set (h:=by simpa using hi),b];have c:(if(false==false)=true then 1 else 0)=1:=rfl;have d:(if(true==false)=true then 1 else 0)=0:=rfl;rw[c,d];omega
theorem Sg(d:Fk ops=true){a:Array Bool}(hs:a.size=ops.size)(g:Region.ready .any ops a=[]):∀i,i<ops.size->a.getD i false=true:=by
 intro i
 induction i using Nat.strongRecOn with
 | _ i ih =>
  intro hi;cases h:a.getD i false with
  | true=>rfl
  | false =>
   exfalso;have b:ops[i]? = some ops[i]:=by simp[hi]
   have:i∈Region.ready .any ops a:=mem_ready.2 ⟨by rw[HR (by omega)]at h ⊢;exact h,ops[i],b,λe f hb=>by
    have c:=QS d b e f hb;exact ih e.on c (by omega)⟩
   rw[g]at this;cases this
theorem QI{a:Array Bool}(hs:a.size=ops.size)(h:Xs a=0):Region.ready .any ops a=[]:=by
 cases e:Region.ready .any ops a with
 | nil=>rfl
 | cons i l=>
  exfalso;obtain⟨b,o,d,_⟩:=mem_ready.1 (show i∈Region.ready .any ops a by rw[e];simp);have hlt:=(qp.1 d).1;have c:a.getD i false=false:=by rw[HR (by omega)]at b ⊢;exact b
  have:=LL (by omega) c;omega
theorem WU(G:Tv E P N ops f0 h0 n0 n rs){c0:Cx}{Qr:Exit->Act->World->Prop}
 (x:∀g a',CF (E4 (rs.map Cf.hw) (λq=>decide (q<ops.size)) 0 h0) g->Vf E N (E4 (rs.map Cf.tw) (λq=>decide (q<ops.size)) 0 f0) g a'->Fr n g->EH c0 g->(∀j,j<n0->g.ρ j=c0.ρ j)->Qr .normal a' g.w):
 ∀(d:Nat)(b:Array Bool)(c:Cx)(a:Act),At E P N ops f0 h0 n0 n rs c0 b c a->Xs b=d->wpAnyIn E.fc 0 P .any ops Qr d b a c.w:=by
 have done:∀(b:Array Bool)(c:Cx)(a:Act),At E P N ops f0 h0 n0 n rs c0 b c a->Region.ready .any ops b=[]->Qr .normal a c.w:=by
  intro b c a A s;have h:=Sg G.stat A.size s;have e:∀{α:Type} (l:List (List (Nat×α))) (f:Nat->α),l.length=ops.size->E4 l (λq=>b.getD q false) 0 f=E4 l (λq=>decide (q<ops.size)) 0 f:=λl f hl=>by
   funext k;refine Hx λq w _ hw p=>?_;have z:=(qh.1 hw).1;rw[vc]at z;rw[h q (by omega)]at p;simp[show q<ops.size by omega]at p
  have R:=A.rel;have F:=A.fr;rw[e _ _ (by simp[G.len])]at R F;exact x c a R F A.free A.ext A.same
 intro d
 induction d with
 | zero=>
  intro b c a A t;have s:=QI A.size t;exact⟨s,done b c a A s⟩
 | succ d ih=>
  intro b c a A t;refine⟨done b c a A,λi hi=>?_⟩;obtain⟨r,o,y,_⟩:=mem_ready.1 hi;have m:=(qp.1 y).1;have v:b.getD i false=false:=by rw[HR (by rw[A.size];exact m)]at r ⊢;exact r
  have hu:=LL (by rw[A.size];exact m) v;exact Uz G A hi λg a' u=>ih _ g a' u (by omega)
theorem Sz(G:Tv E P N ops f0 h0 n0 n rs)(v:P.follows .mixedOrders=true){id:Nat}{c:Cx}{a:Act}{Qr:Exit->Act->World->Prop}(hn:n0<=n)(I:E.inv c)(R:CF h0 c)(F:Fr n0 c)(A:Vf E N f0 c a)
 (s:∀d a',CF (E4 (rs.map Cf.hw) (λq=>decide (q<ops.size)) 0 h0) d->Vf E N (E4 (rs.map Cf.tw) (λq=>decide (q<ops.size)) 0 f0) d a'->Fr n d->GB n0 c n d->Qr .normal a' d.w):
 (Code.region id ops true).wpIn E.fc 0 P Qr a c.w:=by
 refine wpIn_region_any v ?_;have hg:∀i,(Array.replicate ops.size false).getD i false=false:=λi=>by
  rw[Ye];by_cases hi:i<ops.size<;>simp[hi]
 have b:∀{α:Type} (l:List (List (Nat×α))) (f:Nat->α),E4 l (λq=>(Array.replicate ops.size false).getD q false) 0 f=f:=λl f=>by
  funext k;exact Uf λq w _ g=>by rw[hg]at g;cases g
 have:=WU G (c0:=c) (Qr:=Qr) (λd a' m h e E' p=>s d a' m h e ⟨E',hn,p⟩) ops.size (Array.replicate ops.size false) c.drew a
  ⟨by simp,λi o _ hl=>(by rw[hg]at hl;cases hl),E.ext c.c_ I,(by rw[b];exact R.drew),(by rw[b];exact⟨A.size,A.defers.mono c.c_,λt=>wc c.c_ (A.val t)⟩),λj hj=>F j (by omega),c.c_,λ_ _=>rfl,
   λi r x _ k u=>F k (G.newlo i r x k u).1⟩ (by simp[Xs])
 exact this
def CU(a b:List Nat):Bool:=a.all λx=>!b.contains x
theorem J7{a b:List Nat}(h:CU a b=true):∀k∈a,k∉b:=λk c hb=>by
 have:=YO.1 h k c;simp at this;exact this hb
def IV(ops:Array Oper)(i:Nat)(r:Cf):Nat->List Cf->Bool
 | _,[]=>true
 | j,q::qs=>((CU (Aq q.wr) r.foot&&CU (Aq r.wr) q.foot&&CU (Aq q.new) r.foot)||DZ ops j i)&&IV ops i r (j+1) qs
def Fh(E:CC)(P:Program)(ops:Array Oper)(Q:SA->Hp->Nat->Prop):List Oper->List Cf->SA->Hp->Nat->Prop
 | [],_,sa,h,n=>Q sa h n
 | o :: rest, tr, sa, h, n =>
  match Dv ops sa o with
  | none=>False
  | some b =>
   if b=true then
   match o.op with
   | .call { callee := .value f, args, .. } =>
    match callee (Hc sa f) (args.toList.map (Hc sa))with
    | some (g,aS)=>∃foot wr v,NH E P g aS foot wr v h/\(∀k∈Aq wr,k∈foot)/\(∀k∈foot,k<n)/\IV ops tr.length { dst:=o.dst,val:=v,foot:=foot,wr:=wr } 0 tr=true/\
     Fh E P ops Q rest (tr++[{ dst:=o.dst,val:=v,foot:=foot,wr:=wr }]) (Ek sa o.dst v) (Ca h wr) n
    | none=>False
   | op =>
    match DB P (Hc sa) h n op with
    | some out=>
     (∀k∈Aq out.upd.toList++jz (Hc sa) op,k<n)/\IV ops tr.length { dst:=o.dst,val:=out.val,foot:=Aq out.upd.toList++jz (Hc sa) op,wr:=out.upd.toList,new:=(out.new.map λx=>(n,some x)).toList } 0 tr=true/\
     Fh E P ops Q rest (tr++[{ dst:=o.dst,val:=out.val,foot:=Aq out.upd.toList++jz (Hc sa) op,wr:=out.upd.toList,new:=(out.new.map λx=>(n,some x)).toList }]) (Ek sa o.dst out.val) (out.app h n) (if out.new.isSome then n+1 else n)
    | none=>∃v,Xw P (Hc sa) o v/\IV ops tr.length { dst:=o.dst,val:=v } 0 tr=true/\Fh E P ops Q rest (tr++[{ dst:=o.dst,val:=v }]) (Ek sa o.dst v) h n
   else Fh E P ops Q rest (tr++[{ dst:=o.dst,val:=.tup [] }]) (Ek sa o.dst (.tup [])) h n
theorem KV{α:Type}{D:Nat->Bool}{b:List (List (Nat×α))}:∀{a:List (List (Nat×α))} {i:Nat} {f:Nat->α},E4 (a++b) D i f=E4 b D (i+a.length) (E4 a D i f)
 | [],i,f=>rfl
 | w::a,i,f=>by
  simp only[qx,E4,qJ];rw[KV,show i+1+a.length=i+(a.length+1)by omega]
theorem ND{α:Type}{l:List (List (Nat×α))}{w:List (Nat×α)}{i:Nat}{f:Nat->α}(hi:i<=l.length):E4 (l++[w]) (λq=>decide (q<i)) 0 f=E4 l (λq=>decide (q<i)) 0 f:=by
 rw[KV];simp only[E4,qU];rw[if_neg (by simp;omega)]
theorem Rt{α:Type}{l:List (List (Nat×α))}{w:List (Nat×α)}{f:Nat->α}:E4 (l++[w]) (λq=>decide (q<l.length+1)) 0 f=Ca (E4 l (λq=>decide (q<l.length)) 0 f) w:=by
 rw[KV];simp only[E4,qU];rw[if_pos (by simp)];congr 1;funext k;refine Hx λq v _ c a=>?_;have b:=(qh.1 c).1;rw[vc]at b;simp[b,show q<l.length+1 by omega]at a
structure Zg(E:CC)(P:Program)(N:Nat)(ops:Array Oper)(f0:Nat->SV)(h0:Hp)(n0 n:Nat)(tr:List Cf)(f:Nat->SV)(h:Hp):Prop where
 le:n0<=n
 fr:f=E4 (tr.map Cf.tw) (λq=>decide (q<tr.length)) 0 f0
 hp:h=E4 (tr.map Cf.hw) (λq=>decide (q<tr.length)) 0 h0
 ok:∀(i:Nat)(o:Oper)(r:Cf),ops[i]? = some o->tr[i]? = some r->r.dst=o.dst/\(∀j∈Aq r.wr,j∈r.foot)/\
  ((GS ops (E4 (tr.map Cf.tw) (λq=>decide (q<i)) 0 f0) o=some false/\r.val=.tup []/\r.foot=[]/\r.wr=[]/\r.new=[])\/
   (GS ops (E4 (tr.map Cf.tw) (λq=>decide (q<i)) 0 f0) o=some true/\
    ∀m,n<=m->LV E P N o (E4 (tr.map Cf.tw) (λq=>decide (q<i)) 0 f0) (E4 (tr.map Cf.hw) (λq=>decide (q<i)) 0 h0) m r))
 ind:∀(i j:Nat)(ri rj:Cf),j<i->tr[i]? = some ri->tr[j]? = some rj->DZ ops j i=false->
  (∀k∈Aq rj.wr,k∉ri.foot)/\(∀k∈Aq ri.wr,k∉rj.foot)/\(∀k∈Aq rj.new,k∉ri.foot)
 newlo:∀(i:Nat)(r:Cf),tr[i]? = some r->∀k∈Aq r.new,n0<=k/\k<n
 newne:∀(i j:Nat)(ri rj:Cf),i≠j->tr[i]? = some ri->tr[j]? = some rj->∀k∈Aq ri.new,k∉Aq rj.new
 footlo:∀(i:Nat)(r:Cf),tr[i]? = some r->∀k∈r.foot,k<n
 newfoot:∀(i j:Nat)(ri rj:Cf),j<=i->tr[i]? = some ri->tr[j]? = some rj->∀k∈Aq ri.new,k∉rj.foot
theorem Nq{i:Nat}{r:Cf}:∀{b:List Cf} {a:Nat},IV ops i r a b=true->∀(j:Nat)(q:Cf),b[j]? = some q->DZ ops (a+j) i=false->
 (∀k∈Aq q.wr,k∉r.foot)/\(∀k∈Aq r.wr,k∉q.foot)/\(∀k∈Aq q.new,k∉r.foot)
 | [],_,_,j,q,hq,_=>by simp at hq
 | x :: b, a, h, j, q, hq, hd => by
  simp only[IV,qo]at h;cases j with
  | zero=>
   simp only[vw,qk]at hq;subst hq;rw[UO]at hd;have h1:=h.1;rw[hd,Bool.or_false,qo,qo]at h1;exact⟨J7 h1.1.1,J7 h1.1.2,J7 h1.2⟩
  | succ j=>exact Nq h.2 j q (by simpa using hq) (by rw[show a+1+j=a+(j+1)by omega];exact hd)
theorem Zg.snoc{d:List Cf}{f:Nat->SV}{h:Hp}{n n':Nat}(A:Zg E P N ops f0 h0 n0 n d f h){o:Oper}(Q:ops[d.length]? = some o){r:Cf}(hn:n<=n')(F:r.dst=o.dst)(K:∀k∈Aq r.wr,k∈r.foot)
 (v:∀k∈r.foot,k<n) (c:∀k∈Aq r.new,n<=k/\k<n') (H:IV ops d.length r 0 d=true)
 (J:(GS ops f o=some false/\r.val=.tup []/\r.foot=[]/\r.wr=[]/\r.new=[])\/(GS ops f o=some true/\∀m,n'<=m->LV E P N o f h m r)):
 Zg E P N ops f0 h0 n0 n' (d++[r]) (Ca f r.tw) (Ca h r.hw):=by
 have C:∀{α:Type} (g:Cf->List (Nat×α)),(d++[r]).map g=d.map g++[g r]:=λg=>by simp
 have hl:∀{α:Type} (g:Cf->List (Nat×α)),(d.map g).length=d.length:=λg=>by simp
 have get:∀{i:Nat} {q:Cf},(d++[r])[i]? = some q->(i<d.length/\d[i]? = some q)\/(i=d.length/\q=r):=fun {i q} h=>by
  rw[List.getElem?_append]at h;split at h;exact .inl ⟨by assumption,h⟩;rename_i hi;have:=(qh.1 h).1;simp at this;have e:i=d.length:=by omega
  subst e;simp at h;exact .inr ⟨rfl,h.symm⟩
 refine⟨qI A.le hn,?_,?_,λi R u D a=>?_,λi j u z B a b L=>?_,λi u a k t=>?_,λi j u z G a b k t=>?_,λi u a k t=>?_,λi j u z B a b k t=>?_⟩;rw[C,qq,List.length_singleton];have:=Rt (l:=d.map Cf.tw) (w:=r.tw) (f:=f0);rw[hl]at this;rw[this,<-A.fr];rw[C,qq,List.length_singleton];have:=Rt (l:=d.map Cf.hw) (w:=r.hw) (f:=h0);rw[hl]at this;rw[this,<-A.hp];rcases get a with⟨hi,a⟩|⟨rfl,rfl⟩
 obtain⟨M,O,g3⟩:=A.ok i R u D a;rw[C,C,ND (by rw[hl];omega),ND (by rw[hl];omega)];refine⟨M,O,g3.imp id λ⟨x,y⟩=>⟨x,λm C=>y m (by omega)⟩⟩;rw[Q]at D;cases D;rw[C,C,ND (by rw[hl];omega),ND (by rw[hl];omega),<-A.fr,<-A.hp];exact⟨F,K,J⟩;rcases get a with⟨hi,a⟩|⟨rfl,rfl⟩
 rcases get b with⟨I,b⟩|⟨rfl,rfl⟩
 exact A.ind i j u z B a b L;omega;rcases get b with⟨I,b⟩|⟨rfl,rfl⟩
 exact Nq H j z b (by rw[qU];exact L);omega;rcases get a with⟨hi,a⟩|⟨rfl,rfl⟩
 have:=A.newlo i u a k t;omega;have:=c k t;have:=A.le;omega;rcases get a with⟨hi,s⟩|⟨rfl,rfl⟩
 rcases get b with⟨I,p⟩|⟨rfl,rfl⟩
 exact A.newne i j u z G s p k t;intro h2;have:=A.newlo i u s k t;have:=c k h2;omega;rcases get b with⟨I,p⟩|⟨rfl,rfl⟩
 intro h2;have:=A.newlo j z p k h2;have:=c k t;omega;exact absurd rfl G;rcases get a with⟨hi,s⟩|⟨rfl,rfl⟩
 have:=A.footlo i u s k t;omega;have:=v k t;omega;rcases get a with⟨hi,s⟩|⟨rfl,rfl⟩
 rcases get b with⟨I,p⟩|⟨rfl,rfl⟩
 exact A.newfoot i j u z B s p k t;omega;rcases get b with⟨I,p⟩|⟨rfl,rfl⟩
 intro h2;have:=A.footlo j z p k h2;have:=c k t;omega;intro h2;have:=v k h2;have:=c k t;omega
end
section
variable{E:CC}{P:Program}{N:Nat}{ops:Array Oper}{f0:Nat->SV}{h0:Hp}{n0 n:Nat}
theorem K8(sa:SA)(dst:Option Tmp)(v:SV)(r:Cf)(a:r.dst=dst)(b:r.val=v):Ao (Ek sa dst v)=Ca (Ao sa) r.tw:=by
 funext t;unfold Cf.tw;rw[a,b];cases dst with
 | none=>rfl
 | some d=>
  show(if d=t then v else Ao sa t)=if t=d then v else Ao sa t
  by_cases e:d=t;rw[if_pos e,if_pos e.symm];rw[if_neg e,if_neg (Ne.symm e)]
theorem Vy(h:Hp)(k:Nat)(out:C5)(r:Cf)(hw:r.wr=out.upd.toList)(hn:r.new=(out.new.map λx=>(k,some x)).toList):out.app h k=Ca h r.hw:=by
 unfold Cf.hw C5.app;rw[hw,hn];cases out.upd with
 | none=>cases out.new<;>rfl
 | some p=>obtain⟨j,x⟩:=p;cases out.new<;>rfl
theorem Vf.ev{f:Nat->SV}{c:Cx}{a:Act}(F:Vf E N f c a)(x:Operand):V c (P2 f x) (a.eval x):=by
 cases x with
 | tmp t=>exact F.val t
 | const v=>exact C3 c v
 | global g=>simp[P2,V]
 | func g=>simp[P2,Act.eval,V,VL]
theorem Tg{ev:Operand->SV}{h:Hp}{k q:Nat}{i:Op}{out:C5}(a:DB P ev h k i=some out)(hn:out.new=none):DB P ev h q i=some out:=by
 cases i with
 | alloc e=>simp only[DB]at a;split at a<;>cases a;cases hn
 | box e x=>simp only[DB]at a;split at a<;>cases a;cases hn
 | buildSlice t l ps=>
  simp only[DB]at a;split at a<;>try cases a
  split at a<;>try cases a
  simp only[Yc]at a;obtain⟨cs,_,e⟩:=a;cases e;cases hn
 | makeMap t r=>simp only[DB]at a;split at a<;>cases a;cases hn
 | makeSlice t l c=>simp only[DB]at a;cases a
 | call cl =>
  obtain⟨callee,args,ts⟩:=cl;cases callee with
  | value f=>exact a
  | invoke r m=>exact a
  | builtin b=>
   simp only[DB]at a ⊢;unfold Al at a ⊢;split at a<;>try exact a
   split at a
   rotate_left
   . exfalso;unfold Fu at a;split at a<;>try cases a
     split at a<;>cases a;cases hn
   rename_i d;rw[if_pos d];unfold Ec at a ⊢;split at a<;>try cases a
   rename_i e he;simp only at a;split at a<;>try cases a
   rename_i m ys j g;simp only[];split at a<;>try cases a
   rename_i hc;rw[if_neg hc];split at a;rename_i h0;rw[if_pos h0];exact a
   . exfalso;split at a;split at a<;>cases a;cases hn
     . split at a<;>try cases a
       split at a<;>cases a;cases hn
     cases a
 | _=>exact a
theorem QT{o:Oper}{f:Nat->SV}{h:Hp}{out:C5}(w:DB P (P2 f) h n o.op=some out){m:Nat}(H:(if out.new.isSome then n+1 else n)<=m):
 LV E P N o f h m { dst:=o.dst,val:=out.val,foot:=Aq out.upd.toList++jz (P2 f) o.op,wr:=out.upd.toList,new:=(out.new.map λx=>(n,some x)).toList }:=by
 intro C h' c a Kr Qr v G I R F l A D;refine⟨λ_ _=>trivial,?_⟩;have g:out.app h' n=Ca h' (Cf.hw { dst:=o.dst,val:=out.val,foot:=Aq out.upd.toList++jz (P2 f) o.op,wr:=out.upd.toList,new:=(out.new.map λx=>(n,some x)).toList }):=Vy h' n out _ rfl rfl;have p:DB P (P2 C) h' n o.op=some out:=by
  rw[<-w];refine(VU (λx r=>(v x r).symm) λj i=>?_).symm;exact(G j (qd.2 (.inr i))).symm
 by_cases hn:out.new.isSome=true;obtain⟨x,r⟩:=X6.1 hn;have B:c.ρ n=none:=l n (by show n∈Aq ((out.new.map λx=>(n,some x)).toList);rw[r];simp[Aq]);obtain⟨u,t,d,z,s,X,hρ⟩:=Lz (ev:=a.eval) p R B λx _=>A.ev x;have:=D t u z (g▸s) (λj i=>by
  rw[hρ j (.inr (by rw[if_pos hn]at H;omega))];exact F j i) X (λj i=>hρ j (.inr λe=>i (by subst e;show j∈Aq ((out.new.map λx=>(j,some x)).toList);rw[r];simp[Aq])))
 rw[Oper.semAt_eq _ _ _ (JB w)];rcases d with d|⟨rfl,d⟩<;>(rw[d];exact this)
 have b:out.new=none:=by cases h:out.new<;>simp[h]at hn ⊢
 have free:∃q,c.ρ q=none:=⟨m,F m (qa _)⟩
 obtain⟨q,J⟩:=free;have y:DB P (P2 C) h' q o.op=some out:=Tg p b;obtain⟨u,t,d,z,s,X,hρ⟩:=Lz (ev:=a.eval) y R J λx _=>A.ev x;have k:out.app h' q=out.app h' n:=by unfold C5.app;rw[b]
 have:=D t u z (g▸k▸s) (λj i=>by
  rw[hρ j (.inl (by simp[b]))];exact F j i) X (λj i=>hρ j (.inl (by simp[b])))
 rw[Oper.semAt_eq _ _ _ (JB w)];rcases d with d|⟨rfl,d⟩<;>(rw[d];exact this)
theorem SH{o:Oper}{f:Nat->SV}{h:Hp}{x:Operand}{args:Array Operand}{Z:Array TypeId}{g:FuncId}{aS:List SV}{foot:List Nat}{wr:List (Nat×Option Bb)}{v:SV}
 (r:o.op=.call { callee:=.value x,args:=args,argTypes:=Z }) (hc:callee (P2 f x) (args.toList.map (P2 f))=some (g,aS)) (T:NH E P g aS foot wr v h) {m:Nat}:
 LV E P N o f h m { dst:=o.dst,val:=v,foot:=foot,wr:=wr }:=by
 intro L h' c a Kr Qr n W I R F hnew A S;refine⟨λ_ _=>trivial,?_⟩;have s:P2 L x=P2 f x:=n x (by rw[r];simp[Op.operands,Call.operands]);have t:args.toList.map (P2 L)=args.toList.map (P2 f):=qL λy Y=>n y (by rw[r];simp[Op.operands,Call.operands];exact .inr (by simpa using Y));have b:=T h' m W;have B:=A.ev x;rw[s]at B;unfold callee at hc;split at hc<;>try cases hc
 rename_i g' y z Q;rw[Q,V]at B;obtain⟨xs,ys,C,h1,h2⟩:=B;have i:Ag (V c) (y++args.toList.map (P2 f)++z) (xs++(args.map a.eval).toList++ys):=by
  rw[<-t];exact vh (vh (BP.1 h1) (HX args λw _=>A.ev w)) (BP.1 h2)
 obtain⟨d,b⟩:=b;have hc:=b c _ I R F i;unfold Ok at d;cases k:P.funcs[g]? with
 | none=>simp[k]at d
 | some fn =>
  simp only[k,qo,bne_iff_ne,ne_eq]at d;have p:(execOp a.eval o).run P c.w=.ok (.enter g (xs.toArray++args.map a.eval++ys.toArray)) c.w:=by
   have hb:fn.body≠none:=by intro e;simp[e]at d
   simp[execOp,r,resolve,Deferred.ofValue,C,invoke,callFunc,k,d.2,hb]
  have l:xs.toArray++args.map a.eval++ys.toArray=(xs++(args.map a.eval).toList++ys).toArray:=by
   apply Array.ext';simp
  rw[Oper.semAt_eq _ _ _ (by rw[r];simp),p,Oper.uponIn_enter,l];refine⟨λh=>by simp[CC.fc,Fence.wide]at h,(callsIn_wide.2 (hc.mono λe w' ⟨u,v',h2',n',O,U,⟨H,D,G⟩,hw,X,M,K,J⟩=>?_):CallsIn Fence.wide _ P g _ c.w _)⟩;subst U;subst hw;subst H;subst D;subst G;refine S O u X (by simpa[Cf.hw]using M) K J.ext λj _=>?_;rcases YV j n' with q|q;exact J.same j q;rw[F j q,K j q]
theorem Tj{o:Oper}{f:Nat->SV}{h:Hp}{v:SV}(H:Xw P (P2 f) o v){m:Nat}:LV E P N o f h m { dst:=o.dst,val:=v }:=by
 intro f' h' c a Kr Qr b hh I R F hnew A d;refine⟨λ_ _=>trivial,?_⟩;rw[Oper.semAt_eq _ _ _ H.1];obtain⟨u,e,g⟩:=H.2 c a.eval (λ_=>rfl) λx i=>by rw[<-b x i];exact A.ev x
 rw[e];exact d c u g (by simpa[Cf.hw,Ca]using R) F (wp c) λ_ _=>rfl
theorem GM{Q:SA->Hp->Nat->Prop}:∀(rest:List Oper)(tr:List Cf)(sa:SA)(h:Hp)(n:Nat),Zg E P N ops f0 h0 n0 n tr (Ao sa) h->ops.toList.drop tr.length=rest->tr.length<=ops.size->
 Fh E P ops Q rest tr sa h n->∃rs sa' h' n',Zg E P N ops f0 h0 n0 n' rs (Ao sa') h'/\rs.length=ops.size/\Q sa' h' n'
 | [],tr,sa,h,n,A,hd,hle,H=>⟨tr,sa,h,n,A,by have:=List.drop_eq_nil_iff.1 hd;simp at this;omega,H⟩
 | o :: rest, tr, sa, h, n, A, hd, hle, H => by
  have hlt:tr.length<ops.size:=by
   rcases YV tr.length ops.size with h|h;exact h;rw[UX (by simpa using h)]at hd;cases hd
  have ho:ops[tr.length]? = some o:=by
   have:(ops.toList.drop tr.length)[0]? = some o:=by rw[hd];rfl
   rw[Km]at this;simpa using this
  have hd':∀r:Cf,ops.toList.drop (tr++[r]).length=rest:=λr=>by
   rw[qq,List.length_singleton,<-vF,hd];rfl
  have hle':∀r:Cf,(tr++[r]).length<=ops.size:=λr=>by simp;omega
  have plain:∀out,DB P (Hc sa) h n o.op=some out->
   ((∀k∈Aq out.upd.toList++jz (Hc sa) o.op,k<n)/\IV ops tr.length { dst:=o.dst,val:=out.val,foot:=Aq out.upd.toList++jz (Hc sa) o.op,wr:=out.upd.toList,new:=(out.new.map λx=>(n,some x)).toList } 0 tr=true/\
     Fh E P ops Q rest (tr++[{ dst:=o.dst,val:=out.val,foot:=Aq out.upd.toList++jz (Hc sa) o.op,wr:=out.upd.toList,new:=(out.new.map λx=>(n,some x)).toList }]) (Ek sa o.dst out.val) (out.app h n) (if out.new.isSome then n+1 else n))->
   Dv ops sa o=some true->∃rs sa' h' n',Zg E P N ops f0 h0 n0 n' rs (Ao sa') h'/\rs.length=ops.size/\Q sa' h' n':=λout hs ⟨h1,h2,h3⟩ hg=>by
   refine GM rest _ _ _ _ ?_ (hd' _) (hle' _) h3;have:=A.snoc (n':=if out.new.isSome then n+1 else n) ho (r:={ dst:=o.dst,val:=out.val,foot:=Aq out.upd.toList++jz (Hc sa) o.op,wr:=out.upd.toList,new:=(out.new.map λx=>(n,some x)).toList })
    (by split<;>omega) rfl (λk hk=>qd.2 (.inl hk)) h1 (λk hk=>by
      cases hn:out.new with
      | none=>rw[hn]at hk;simp[Aq]at hk
      | some x=>rw[hn]at hk;simp[Aq]at hk;subst hk;simp) h2
    (.inr ⟨by rw[<-JV];exact hg,λm hm=>by rw[S4]at hs ⊢;exact QT hs hm⟩)
   rw[K8 sa o.dst out.val { dst:=o.dst,val:=out.val,foot:=Aq out.upd.toList++jz (Hc sa) o.op,wr:=out.upd.toList,new:=(out.new.map λx=>(n,some x)).toList } rfl rfl,
    Vy h n out { dst:=o.dst,val:=out.val,foot:=Aq out.upd.toList++jz (Hc sa) o.op,wr:=out.upd.toList,new:=(out.new.map λx=>(n,some x)).toList } rfl rfl]
   exact this
  simp only[Fh]at H;split at H
  case h_1=>exact H.elim
  rename_i b hg;cases b
  case false=>
   simp only[qn,if_false]at H;refine GM rest _ _ _ _ ?_ (hd' _) (hle' _) H;have:=A.snoc (n':=n) ho (r:={ dst:=o.dst,val:=.tup [] }) (qa _) rfl (by simp[Aq]) (by simp) (by simp[Aq]) (by
    have:∀(l:List Cf)(j:Nat),IV ops tr.length { dst:=o.dst,val:=.tup [] } j l=true:=by
     intro l
     induction l with
     | nil=>intro j;rfl
     | cons q l ih=>
      intro j;simp only[IV,ih,Bool.and_true];have d1:∀a:List Nat,CU a []=true:=λa=>by simp[CU]
      rw[d1,d1];simp[CU,Aq]
    exact this tr 0) (.inl ⟨by rw[<-JV];exact hg,rfl,rfl,rfl,rfl⟩)
   rw[K8 sa o.dst (.tup []) { dst:=o.dst,val:=.tup [] } rfl rfl];exact this
  case true=>
   rw[if_pos rfl]at H;split at H;rename_i f args ts hop;split at H;rename_i g aS hc;obtain⟨foot,wr,v,hU,hwf,hfoot,hind,hrest⟩:=H;refine GM rest _ _ _ _ ?_ (hd' _) (hle' _) hrest;have:=A.snoc (n':=n) ho (r:={ dst:=o.dst,val:=v,foot:=foot,wr:=wr }) (qa _) rfl hwf hfoot (by simp[Aq]) hind
    (.inr ⟨by rw[<-JV];exact hg,λm _=>by rw[S4]at hc;exact SH hop hc hU⟩)
   rw[K8 sa o.dst v { dst:=o.dst,val:=v,foot:=foot,wr:=wr } rfl rfl];simpa[Cf.hw]using this;exact H.elim;split at H;rename_i out hs;exact plain out hs H hg;obtain⟨v,hV,hind,hrest⟩:=H;refine GM rest _ _ _ _ ?_ (hd' _) (hle' _) hrest;have:=A.snoc (n':=n) ho (r:={ dst:=o.dst,val:=v }) (qa _) rfl (by simp[Aq]) (by simp) (by simp[Aq]) hind
    (.inr ⟨by rw[<-JV];exact hg,λm _=>by rw[S4]at hV;exact Tj hV⟩)
   rw[K8 sa o.dst v { dst:=o.dst,val:=v } rfl rfl];simpa[Cf.hw,Ca]using this
theorem Vt{id:Nat}{Q:Cu}{sa:SA}{h:Hp}{n:Nat}(B:P.follows .mixedOrders=true)(m:Fk ops=true)(H:Fh E P ops (Q .normal) ops.toList [] sa h n):Ic E P N (.region id ops true) Q sa h n:=by
 intro s c a I R F A;simp only[Code.dok,YO]at s;have k:∀(i:Nat)(o:Oper),ops[i]? = some o->∀d,o.dst=some d->d<N:=λi o l d e=>by
  have:=s o (by simpa using Array.mem_of_getElem? l);rw[e]at this;simpa using this
 have t:Zg E P N ops (Ao sa) h n n [] (Ao sa) h:=
  ⟨qa _,rfl,rfl,by simp,by simp,by simp,by simp,by simp,by simp⟩
 obtain⟨rs,p,h',n',f,b,C⟩:=GM (N:=N) ops.toList [] sa h n t rfl (qg _) H;have G:Tv E P N ops (Ao sa) h n n' rs:=
  ⟨b,m,k,λi o r l D=>by
   obtain⟨v,w,g3⟩:=f.ok i o r l D;exact⟨v,w,g3.imp (λz=>z) λ⟨x,y⟩=>⟨x,y n' (qa _)⟩⟩,f.ind,f.newlo,f.newne,f.newfoot⟩
 refine Sz G B f.le I R F ⟨A.size,A.defers,A.val⟩ λu a' q g j E'=>?_;rw[<-b,<-f.hp]at q;rw[<-b,<-f.fr]at g;exact⟨p,h',n',u,C,rfl,q,j,⟨g.size,g.defers,g.val⟩,E'⟩
end
def GP(E:CC)(P:Program)(N:Nat):Code->Cu->SA->Hp->Nat->Prop
 | .skip,Q,sa,h,n=>Q .normal sa h n
 | .seq a b,Q,sa,h,n=>GP E P N a (Do (GP E P N b Q) Q) sa h n
 | .cond c a b,Q,sa,h,n=>match Hc sa c with|.bool t=>if t=true then GP E P N a Q sa h n else GP E P N b Q sa h n|_=>False
 | .block id b,Q,sa,h,n=>GP E P N b (Fv id Q) sa h n
 | .exit id,Q,sa,h,n=>Q (.exit id) sa h n
 | .ret,Q,sa,h,n=>Q .ret sa h n
 | .region _ ops false,Q,sa,h,n=>JC E P ops (Q .normal) ops.toList sa h n
 | .region _ ops true,Q,sa,h,n=>Fk ops=true/\Fh E P ops (Q .normal) ops.toList [] sa h n
 | .loop b,Q,sa,h,n=>Ic E P N (.loop b) Q sa h n
 | .rangeFunc g ps a b,Q,sa,h,n=>Ic E P N (.rangeFunc g ps a b) Q sa h n
 | _,_,_,_,_=>False
theorem F7{K K':SA->Hp->Nat->Prop}{Q:Cu}(a:∀sa h n,K sa h n->K' sa h n):∀e sa h n,Do K Q e sa h n->Do K' Q e sa h n:=by
 intro e sa h n H;cases e<;>first|exact a _ _ _ H|exact H
theorem FQ{E:CC}{P:Program}{N:Nat}(d:P.follows .mixedOrders=true):∀(c:Code)(Q:Cu)(sa:SA)(h:Hp)(n:Nat),GP E P N c Q sa h n->Ic E P N c Q sa h n
 | .skip,Q,sa,h,n,H=>Hi H
 | .seq a b,Q,sa,h,n,H=>Kg (GC (FQ d a _ sa h n H) (F7 λsa h n=>FQ d b Q sa h n))
 | .cond c a b,Q,sa,h,n,H=>by
  simp only[GP]at H;split at H;rename_i t ht;refine Au ht ?_;split at H;rename_i e;rw[if_pos e];exact FQ d a Q sa h n H;rename_i e;rw[if_neg e];exact FQ d b Q sa h n H;exact H.elim
 | .block id b,Q,sa,h,n,H=>O1 (FQ d b _ sa h n H)
 | .exit id,Q,sa,h,n,H=>Vu H
 | .ret,Q,sa,h,n,H=>Xv H
 | .region _ ops false,Q,sa,h,n,H=>Sc H
 | .region _ ops true,Q,sa,h,n,H=>Vt d H.1 H.2
 | .loop b,Q,sa,h,n,H=>H
 | .rangeFunc _ _ _ _,_,_,_,_,H=>H
 | .scope _,_,_,_,_,H=>H.elim
 | .label _,_,_,_,_,H=>H.elim
 | .goto _,_,_,_,_,H=>H.elim
 | .refuse _,_,_,_,_,H=>H.elim
def Is(v:SV)(h:Hp)(n:Nat):SV->Hp->Nat->Prop:=λv' h' n'=>v'=v/\h'=h/\n'=n
def GX(P:Program)(f:FuncId)(args:List SV)(v:SV):Prop:=∀h n,BL P f args h n (Is v h n)
theorem GX.use{E:CC}{P:Program}{f:FuncId}{args:List SV}{v:SV}(H:GX P f args v){h:Hp}{n:Nat}{K:SV->Hp->Nat->Prop}(d:K v h n):Ap E P f args h n K:=
 Ap.lift<|(H h n).mono λ_ _ _ ⟨a,b,c⟩=>by subst a;subst b;subst c;exact d
theorem GX.u{E:CC}{P:Program}{f:FuncId}{args:List SV}{v:SV}(H:GX P f args v)(h:Hp):NH E P f args [] [] v h:=
 λh' n _=>Ap.lift<|(H h' n).mono λ_ _ _ ⟨a,b,c⟩=>⟨a,b,c⟩
theorem Up{E:CC}{P:Program}(d:P.follows .mixedOrders=true){f:FuncId}{fn:Func}{code:Code}{args:List SV}{h:Hp}{n:Nat}{K:SV->Hp->Nat->Prop}(c:P.funcs[f]? = some fn)(hb:fn.body=some code)
 (hn:(fn.name != "runtime.NumGoroutine")=true) (b:Code.dok fn.ntmps code=true) (hl:args.length<=fn.ntmps)
 (H:(∀a∈args,cc n a=true)->(∀o x,h o=some x->o<n/\BW n x=true)->GP (E.call false 0) P fn.ntmps code (Om P fn n K) (FA 0 args) h n):Ap E P f args h n K:=
 O0 c hb hn b hl λh1 h2=>FQ d _ _ _ _ _ (H h1 h2)
theorem CO.plain{n:Nat}{h h':Hp}{n':Nat}{v:SV}{K:SV->Hp->Nat->Prop}(hc:cc n v=true)(c:∀o x,h o=some x->o<n/\BW n x=true)(a:∀o x,h o=some x->h' o=some x)(b:K v h n):CO n h' n' v K:=
 .inr ⟨0,v,h,rfl,hc,λo x e=>⟨a o x e,c o x e⟩,b⟩
abbrev swp:=GP CC.plain
abbrev TY(k sz b:Nat)(ag:Option Bool)(sl:Option TypeId)(ar:Option (Nat×TypeId))(mp:Option (TypeId×TypeId))(st:Bool)(i:Option IntKind)(bo pt:Bool)(ze:SV):Prop:=
 Br prog k=sz/\Bw prog k=b/\Gl prog k=ag/\BA prog k=sl/\Ka prog k=ar/\Mk prog k=mp/\Fo prog k=st/\L6 prog k=i/\OT prog k=bo/\XZ prog k=pt/\BK prog k=ze
abbrev TF(k i o t:Nat):Prop:=JH prog k i=some (o,t)
abbrev D_:SV:=.int .i64 0
abbrev DQ:SV:=.i 0 [] true
abbrev DD:SV:=.str .empty
abbrev A_(k e:Nat):Prop:=TY k 1 24 (some false) (some e) none none false none false false DQ
abbrev A6(k:Nat)(b:Bool):Prop:=TY k 1 8 (some false) none none none false none false b .nilp
abbrev A0(k:Nat):Prop:=TY k 1 8 (some false) none none none false none false false .nilf
abbrev AH(k:Nat)(p:Nat×Nat):Prop:=TY k 1 8 (some false) none none (some p) false none false false .nilm
abbrev Af(k b:Nat)(i:IntKind):Prop:=TY k 1 b (some false) none none none false (some i) false false (.int i 0)
abbrev Ae(k a b:Nat)(l:List SV)(p:List (Nat×Nat)):Prop:=TY k a b (some true) none none none false none false false (.agg l)/\Bf prog k=some p
@[go_sem] theorem ty0:Af 3 8 .i64/\TY 4 1 1 (some false) none none none false none true false (.bool false)/\Af 5 1 .u8/\TY 9 1 16 (some false) none none none true none false false (.str .empty)/\A_ 22 70/\A_ 23 193/\A_ 24 166/\A_ 25 164/\Ae 27 4 64 [D_,D_,DQ,DQ] [(0,1),(1,1),(2,1),(3,1)]/\TF 27 0 0 3/\TF 27 1 1 3/\TF 27 2 2 24/\TF 27 3 3 25/\Ae 29 5 88 [DQ,D_,D_,DQ,DQ] [(0,1),(1,4)]/\TF 29 0 0 23/\TF 29 1 1 27/\A_ 30 42/\A_ 31 198:=by(repeat' first|apply And.intro|unfold TF)<;>kernel_rfl
@[go_sem] theorem ty12:A_ 32 103/\A_ 33 115/\A_ 34 118/\Ae 36 4 96 [DQ,DQ,DQ,DQ] [(0,1),(1,1),(2,1),(3,1)]/\TF 36 0 0 31/\TF 36 1 1 32/\TF 36 2 2 33/\TF 36 3 3 34/\Ae 38 11 232 [DQ,DQ,D_,D_,DQ,DQ,DQ,DQ,DQ,DQ,DQ] [(0,1),(1,5),(6,1),(7,4)]/\TF 38 0 0 22/\TF 38 1 1 29/\TF 38 2 6 30/\TF 38 3 7 36/\Ae 40 3 24 [D_,D_,D_] [(0,1),(1,1),(2,1)]/\TF 40 0 0 3/\TF 40 1 1 3/\TF 40 2 2 3/\Ae 42 3 32 [D_,DD,D_] [(0,1),(1,1),(2,1)]/\TF 42 0 0 3/\TF 42 1 1 9/\TF 42 2 2 3/\Ae 44 7 64 [D_,D_,D_,D_,D_,DD,D_] [(0,1),(1,3),(4,3)]/\TF 44 0 0 3/\TF 44 1 1 40/\TF 44 2 4 42/\Af 47 8 .i64/\A_ 61 3/\A_ 68 169/\Ae 70 11 176 [D_,D_,D_,DD,DQ,D_,D_,DQ,DQ,DQ,DQ] [(0,1),(1,1),(2,1),(3,1),(4,5),(9,1),(10,1)]/\TF 70 0 0 3/\TF 70 1 1 3/\TF 70 2 2 3/\TF 70 3 3 9/\TF 70 4 4 29/\TF 70 5 9 22/\TF 70 6 10 68:=by(repeat' first|apply And.intro|unfold TF)<;>kernel_rfl
@[go_sem] theorem ty24:A6 72 true/\Ae 79 7 104 [DQ,D_,D_,DQ,DQ,.bool false,D_] [(0,5),(5,1),(6,1)]/\TF 79 0 0 29/\TF 79 1 5 4/\TF 79 2 6 3/\A0 81/\AH 85 (89,90)/\A_ 86 89/\Ae 89 2 16 [D_,D_] [(0,1),(1,1)]/\TF 89 0 0 3/\TF 89 1 1 3/\TY 90 2 2 (some true) none (some (2,4)) none false none false false (.agg [.bool false,.bool false])/\Bf prog 90=some [(0,1),(1,1)]/\A0 94/\A0 96/\A_ 101 106/\Ae 103 2 32 [D_,DQ] [(0,1),(1,1)]/\TF 103 0 0 3/\TF 103 1 1 101/\Ae 106 4 40 [D_,D_,DD,D_] [(0,1),(1,1),(2,1),(3,1)]/\TF 106 0 0 3/\TF 106 1 1 3/\TF 106 2 2 9/\TF 106 3 3 3:=by(repeat' first|apply And.intro|unfold TF)<;>kernel_rfl
@[go_sem] theorem ty36:A0 107/\Ae 115 6 64 [D_,D_,DD,D_,DD,.bool false] [(0,1),(1,1),(2,1),(3,1),(4,1),(5,1)]/\TF 115 0 0 3/\TF 115 1 1 3/\TF 115 2 2 9/\TF 115 3 3 3/\TF 115 4 4 9/\TF 115 5 5 4/\Ae 118 2 32 [DD,DD] [(0,1),(1,1)]/\TF 118 0 0 9/\TF 118 1 1 9/\A0 130/\A6 134 true/\Ae 140 3 16 [.bool false,.bool false,D_] [(0,1),(1,1),(2,1)]/\TF 140 0 0 4/\TF 140 1 1 4/\TF 140 2 2 3/\AH 141 (3,3)/\AH 142 (3,4)/\Ae 144 6 48 [.nilm,.nilm,.nilm,.nilm,.nilm,D_] [(0,1),(1,1),(2,1),(3,1),(4,1),(5,1)]/\TF 144 0 0 141/\TF 144 1 1 142/\TF 144 2 2 142/\TF 144 3 3 142/\TF 144 4 4 142/\TF 144 5 5 3/\A0 146/\A_ 147 3/\A0 150:=by(repeat' first|apply And.intro|unfold TF)<;>kernel_rfl
@[go_sem] theorem ty48:A0 154/\AH 155 (89,3)/\A_ 159 239/\Ae 164 4 32 [D_,D_,D_,.bool false] [(0,1),(1,1),(2,1),(3,1)]/\TF 164 0 0 3/\TF 164 1 1 3/\TF 164 2 2 3/\TF 164 3 3 4/\Ae 166 2 16 [D_,D_] [(0,1),(1,1)]/\TF 166 0 0 3/\TF 166 1 1 3/\A_ 167 171/\Ae 169 6 112 [DQ,D_,D_,DQ,DQ,DQ] [(0,5),(5,1)]/\TF 169 0 0 29/\TF 169 1 5 167/\Ae 171 7 120 [D_,DQ,D_,D_,DQ,DQ,DQ] [(0,1),(1,5),(6,1)]/\TF 171 0 0 3/\TF 171 1 1 29/\TF 171 2 6 22/\Ae 176 4 40 [DQ,.bool false,.bool false,D_] [(0,1),(1,3)]/\TF 176 0 0 22/\TF 176 1 1 140/\A0 179/\A0 186/\A0 190:=by(repeat' first|apply And.intro|unfold TF)<;>kernel_rfl
@[go_sem] theorem ty60:Ae 193 2 16 [D_,D_] [(0,1),(1,1)]/\TF 193 0 0 3/\TF 193 1 1 3/\Ae 198 6 72 [D_,D_,DD,D_,D_,DQ] [(0,1),(1,1),(2,1),(3,1),(4,1),(5,1)]/\TF 198 0 0 3/\TF 198 1 1 3/\TF 198 2 2 9/\TF 198 3 3 3/\TF 198 4 4 3/\TF 198 5 5 23/\A0 199/\A0 201/\A0 204/\A0 205/\A0 206/\A0 210/\Af 213 8 .u64/\Ae 218 2 48 [DQ,DQ] [(0,1),(1,1)]/\TF 218 0 0 61/\TF 218 1 1 61/\A_ 219 47/\A0 226:=by(repeat' first|apply And.intro|unfold TF)<;>kernel_rfl
@[go_sem] theorem ty72:A0 228/\TY 239 2 16 (some true) none (some (2,3)) none false none false false (.agg [.int .i64 0,.int .i64 0])/\Bf prog 239=some [(0,1),(1,1)]/\A0 243/\A0 259/\A0 262/\A0 278/\A0 282/\A0 285/\A_ 289 291/\Ae 291 2 16 [D_,.bool false] [(0,1),(1,1)]/\TF 291 0 0 3/\TF 291 1 1 4/\Af 299 8 .i64/\Af 306 4 .u32:=by(repeat' first|apply And.intro|unfold TF)<;>kernel_rfl
@[go_sem] theorem ty84:Af 308 8 .u64/\A0 309/\A_ 311 61/\A_ 319 22/\A0 323/\A0 329/\Ae 333 6 56 [D_,D_,D_,D_,D_,DD] [(0,1),(1,1),(2,1),(3,1),(4,1),(5,1)]/\TF 333 0 0 3/\TF 333 1 1 3/\TF 333 2 2 3/\TF 333 3 3 3/\TF 333 4 4 3/\TF 333 5 5 9/\Af 342 8 .u64/\A_ 361 366/\Ae 366 3 32 [DD,D_,.bool false] [(0,1),(1,1),(2,1)]/\TF 366 0 0 9/\TF 366 1 1 3/\TF 366 2 2 4/\A0 367/\A_ 368 333:=by(repeat' first|apply And.intro|unfold TF)<;>kernel_rfl
@[go_sem] theorem ty96:A0 371/\A_ 381 5/\A0 382/\A6 383 true/\A6 384 true/\Ae 386 2 32 [.nilp,DQ] [(0,1),(1,1)]/\TF 386 0 0 384/\TF 386 1 1 381/\Ae 388 7 96 [DD,D_,.nilp,DQ,DQ,D_,D_] [(0,1),(1,1),(2,2),(4,1),(5,1),(6,1)]/\TF 388 0 0 9/\TF 388 1 1 3/\TF 388 2 2 386/\TF 388 3 4 361/\TF 388 4 5 3/\TF 388 5 6 47/\A0 391/\A6 403 false/\A6 405 true:=by(repeat' first|apply And.intro|unfold TF)<;>kernel_rfl
attribute [go_sem] Ib MY Pv Dv DB E8 Hc Ao Ek FA callee ofValue Hu Sk Bz Gj Ks Lk QV X7 cn Ht DT JA flat GW LT Q2 NS W3 Wy K7 QU Hl Ho V3 KY MO C5.app Fu
 SV.cells SV.B
section
variable(P:Program)(h:Hp)(n:Nat)(t t2:TypeId)
@[go_sem] theorem eX(x:SV):Al P h n .len [t] [x]=match x with
 | .str s=>if Fo P t then E8 (.int .i64 s.size)else none
 | .i _ es _=>if(BA P t).isSome then E8 (.int .i64 es.length)else none
 | .sl _ _ _ len _=>if(BA P t).isSome then E8 (.int .i64 len)else none
 | .map o=>match h o with|some (.map es)=>if(Mk P t).isSome then E8 (.int .i64 es.length)else none|_=>none
 | _=>none:=by cases x<;>rfl
@[go_sem] theorem eU(x:SV):Al P h n .cap [t] [x]=match x with
 | .i _ es true=>if(BA P t).isSome then E8 (.int .i64 es.length)else none
 | .sl _ _ _ len true=>if(BA P t).isSome then E8 (.int .i64 len)else none
 | _=>none:=by cases x<;>rfl
@[go_sem] theorem d6(d x:SV):Al P h n .copy [t,t2] [d,x]=Q2 P h t d x:=rfl
@[go_sem] theorem bO(d:SV):Al P h n .clear [t] [d]=NS P h t d:=rfl
@[go_sem] theorem eZ(ts:List TypeId)(l:List SV):Al P h n .min ts l=(W3 l).bind E8:=by simp[Al]
@[go_sem] theorem eY(ts:List TypeId)(l:List SV):Al P h n .max ts l=(Wy l).bind E8:=by simp[Al]
@[go_sem] theorem aw(o:Nat)(k:SV):Al P h n .delete [t,t2] [.map o,k]=match Mk P t,h o with
 | some (kt,_),some (.map es)=>
  if !Cc P kt k then none else
  match DT k es 0 with
  | some (some (i,_))=>some { val:=.tup [],upd:=some (o,some (.map (es.eraseIdx i))) }
  | some none=>some { val:=.tup [],upd:=some (o,some (.map es)) }
  | none=>none
 | _,_=>none:=rfl
end
theorem follows:Proofs.Tryz.prog.follows .mixedOrders=true:=by kernel_rfl
section
variable{E:CC}{P:Program}{N:Nat}
end
attribute [simp] IO
theorem Fz.any{h h2:Hp}:∀(k:Nat) {v r:SV},Fz (λ_=>none) (λ_=>none) k v r->Fz h h2 k v r
 | 0,_,_,H=>H
 | k+1,v,r,H=>by
  have a:∀{us bs:List SV},Ag (Fz (λ_=>none) (λ_=>none) k) us bs->Ag (Fz h h2 k) us bs:=λH=>H.mono λ_ _=>Fz.any k;rcases H with H|H;exact .inl H;refine .inr ?_;split at H;trivial;obtain⟨_,_,_,_,_,_,h1,_⟩:=H;cases h1;obtain⟨_,_,h1,_⟩:=H;cases h1;exact a H;exact a H;exact⟨H.1,a H.2.1,a H.2.2⟩;exact a H;exact⟨H.1,H.2.1,a H.2.2.1,H.2.2.2⟩;exact H;exact H.elim
section
variable{E:CC}{P:Program}{N:Nat}
theorem FR.fz{sa b:SA}{h h2:Hp}{c:Cx}{a:Act}(k:Nat)(R:CF h c)(d:∀o x,h2 o=some x->h o=some x)(A:FR E N sa c a)(hw:∀p∈b,Fz h h2 k (Ao sa p.1) p.2):FR E N b (c.less h2) a:=by
 refine⟨A.size,A.defers.mono (Dd R d),λt=>?_⟩;have key:∀l:SA,(∀p∈l,Fz h h2 k (Ao sa p.1) p.2)->Ao l t=.junk\/Fz h h2 k (Ao sa t) (Ao l t):=by
  intro l
  induction l with
  | nil=>intro _;exact .inl rfl
  | cons p l ih=>
   intro hl;obtain⟨j,x⟩:=p;simp only[Ao];by_cases e:j=t;subst e;simp only[if_true];exact .inr (hl (j,x) (by simp));simp only[e,if_false];exact ih λq f=>hl q (by simp[f])
 rcases key b hw with e|e;rw[e];simp[V];exact Fz.sound R d k e (A.val t)
theorem Pr{code:Code}{Q:Cu}{sa l:SA}{h h2:Hp}{n m:Nat}(k:Nat)(b:∀o x,h2 o=some x->h o=some x)(g:n<=m)(hw:∀p∈l,Fz h h2 k (Ao sa p.1) p.2)(H:Ic E P N code Q l h2 m):Ic E P N code Q sa h n:=by
 intro v c a I R F A;have s:Fr m (c.less h2):=λj f=>F j (qI g f);refine wpIn_mono (H v (c.less h2) a (E.ext (Dd R b) I) (R.less b) s (A.fz k R b hw)) ?_;rintro e a' w' ⟨i,h',n',u,q,hw,t,d,r,X⟩;refine⟨i,h',n',u,q,hw,t,d,r,⟨(Dd R b).trans X.ext,qI g X.le,λj f=>?_⟩⟩;exact X.same j (Wm f g)
theorem Ap.fz{f:FuncId}{us bs:List SV}{h h2:Hp}{n:Nat}{K:SV->Hp->Nat->Prop}(k:Nat)(d:∀o x,h2 o=some x->h o=some x)(hw:Ag (Fz h h2 k) us bs)(H:Ap E P f bs h2 n K):Ap E P f us h n K:=by
 refine⟨H.1,λc vs I R F A=>?_⟩;have i:Ag (V (c.less h2)) bs vs:=Ag.trans3 (R:=V c) (S:=Fz h h2 k) (T:=V (c.less h2)) (λa b g h1 h2=>Fz.sound R d k h2 h1) A hw;refine(H.2 (c.less h2) vs (E.ext (Dd R d) I) (R.less d) F i).mono ?_;rintro e w' ⟨u,v,h',n',m,p,q,hw,r,l,j,X⟩;exact⟨u,v,h',n',m,p,q,hw,r,l,j,⟨(Dd R d).trans X.ext,X.le,X.same⟩⟩
theorem GX.wk{f:FuncId}{us bs:List SV}{v:SV}(k:Nat)(H:GX P f bs v)(hw:Ag (Fz (λ_=>none) (λ_=>none) k) us bs):GX P f us v:=λh n=>
 Ap.fz k (λ_ _ e=>e) (hw.mono λ_ _=>Fz.any k) (H h n)
mutual
def FF:SV->Bool
 | .bool _|.int _ _|.str _|.nilp|.nilf|.nilm|.junk=>true
 | .agg cs=>N6 cs
 | .tup cs=>N6 cs
 | _=>false
def N6:List SV->Bool
 | []=>true
 | s::ss=>FF s&&N6 ss
end
mutual
theorem V.plain{c a:Cx}:∀{s:SV} {v:Value},FF s=true->V c s v->V a s v
 | .bool _,_,_,h=>h
 | .int _ _,_,_,h=>h
 | .str _,_,_,h=>h
 | .nilp,_,_,h=>h
 | .nilf,_,_,h=>h
 | .nilm,_,_,h=>h
 | .junk,_,_,_=>trivial
 | .agg cs,v,hp,h=>by rw[V]at *;rw[FF]at hp;obtain⟨vs,e,hl,b⟩:=h;exact⟨vs,e,VL.plain hp hl,b⟩
 | .tup cs,v,hp,h=>by rw[V]at *;rw[FF]at hp;obtain⟨vs,e,hl⟩:=h;exact⟨vs,e,VL.plain hp hl⟩
 | .fn _ _ _,_,hp,_=>by simp[FF]at hp
 | .ptr _ _,_,hp,_=>by simp[FF]at hp
 | .q _,_,hp,_=>by simp[FF]at hp
 | .sl _ _ _ _ _,_,hp,_=>by simp[FF]at hp
 | .slc _ _ _ _ _,_,hp,_=>by simp[FF]at hp
 | .i _ _ _,_,hp,_=>by simp[FF]at hp
 | .map _,_,hp,_=>by simp[FF]at hp
theorem VL.plain{c a:Cx}:∀{s:List SV} {v:List Value},N6 s=true->VL c s v->VL a s v
 | [],_,_,h=>by rw[VL]at *;exact h
 | s::ss,v,hp,h=>by rw[VL]at *;rw[N6,qo]at hp;obtain⟨u,r,e,h1,h2⟩:=h;exact⟨u,r,e,V.plain hp.1 h1,VL.plain hp.2 h2⟩
end
theorem GX.lend{f:FuncId}{us bs:List SV}{v:SV}{h:Hp}{n:Nat}{K:SV->Hp->Nat->Prop}(k:Nat)(H:GX P f bs v)(B:FF v=true)(hw:Ag (Fz h (λ_=>none) k) us bs)(z:K v h n):Ap E P f us h n K:=by
 refine⟨(H h n).1,λc vs _ R F A=>?_⟩;have r:∀o x,(λ_=>none:Hp) o=some x->h o=some x:=λ_ _ e=>by cases e
 have s:Ag (V (c.less λ_=>none)) bs vs:=Ag.trans3 (R:=V c) (S:=Fz h (λ_=>none) k) (T:=V (c.less λ_=>none)) (λa b g h1 h2=>Fz.sound R r k h2 h1) A hw;refine((H (λ_=>none) n).2 (c.less λ_=>none) vs trivial (R.less r) F s).mono ?_;rintro e w' ⟨u,C,h',n',p,y,⟨rfl,rfl,rfl⟩,rfl,q,R',t,d⟩;have i:∀b,¬(c.less λ_=>none).own b:=λb ⟨o,x,e,_⟩=>by cases e
 have hρ:∀j,p.ρ j=c.ρ j:=λj=>by
  rcases YV j n' with l|l;exact d.same j l;rw[t j l,F j l]
 have X:EH c { c with w:=p.w }:=⟨λ_ _ e=>e,d.ext.size,λb hb m=>⟨m,(d.ext.keep b hb (i b)).2⟩,d.ext.room,d.ext.os,d.ext.out,d.ext.td⟩
 refine⟨u,C,h,n',{ c with w:=p.w },y,z,rfl,q.plain B,⟨λo x m=>?_,R.inj2,R.own2⟩,F,⟨X,qa _,λ_ _=>rfl⟩⟩;refine(R.obj o x m).mono X λb hb=>?_;exact(d.ext.keep b ((R.obj o x m).hold_lt hb) (i b)).2
theorem GX.lendU{f:FuncId}{us bs:List SV}{v:SV}{h:Hp}(k:Nat)(foot:List Nat)(H:GX P f bs v)(b:FF v=true)(hw:∀h',(∀j∈foot,h' j=h j)->Ag (Fz h' (λ_=>none) k) us bs):NH E P f us foot [] v h:=λh' _n a=>
 GX.lend k H b (hw h' a) ⟨rfl,rfl,rfl⟩
theorem Vb(i:P.follows .mixedOrders=true){x:Code}{Q:Cu}{sa:SA}{h:Hp}{n:Nat}{α:Type}(k:Nat)(fr:α->SA)(hp:α->Hp)(I:α->Nat->Prop)(μ:α->Nat)(a0:α)(hI:I a0 n)
 (b:∀p∈fr a0,Fz h (hp a0) k (Ao sa p.1) p.2) (c:∀o y,hp a0 o=some y->h o=some y)
 (d:∀a n,I a n->GP E P N x (Do (λe h' n'=>∃a',μ a'<μ a/\I a' n'/\(∀p∈fr a',Fz h' (hp a') k (Ao e p.1) p.2)/\(∀o y,hp a' o=some y->h' o=some y)) Q) (fr a) (hp a) n):
 Ic E P N (.loop x) Q sa h n:=by
 refine Qq (μ a0) (λm sa h n=>∃a,m=μ a/\I a n/\(∀p∈fr a,Fz h (hp a) k (Ao sa p.1) p.2)/\(∀o y,hp a o=some y->h o=some y)) ⟨a0,rfl,hI,b,c⟩ ?_;rintro m sa h n ⟨a,rfl,hI,b,c⟩;refine Pr k c (qa _) b (GC (FQ i _ _ _ _ _ (d a n hI)) ?_);refine F7 λe h' n' ⟨a',h1,h2,f,g⟩=>⟨μ a',h1,a',rfl,h2,f,g⟩
end
open Proofs
abbrev FN(f:Func)(n:Nat)(r:List ResultVar):Prop:=f.results.toList=r/\f.ntmps=n
abbrev B_(f:Func)(n k:Nat):Prop:=FN f n [.tmp k]
@[go_sem] theorem fr0:B_ f10 92 6/\B_ f11 60 0/\B_ f12 45 2/\FN f13 60 [.cell 6 3,.cell 7 3,.tmp 8]/\FN f15 105 [.cell 8 38,.tmp 9]/\B_ f17 60 4/\FN f20 38 [.cell 4 42,.tmp 5]/\FN f21 18 [.cell 2 38]/\FN f22 31 [.cell 4 38,.cell 5 38,.tmp 6]/\B_ f24 62 2/\FN f25 5 [.cell 2 38]/\FN f26 5 [.cell 2 38]:=by(repeat' apply And.intro)<;>rfl
@[go_sem] theorem fr12:FN f27 141 [.cell 6 38,.tmp 7]/\FN f32 9 [.cell 0 38]/\B_ f33 133 6/\FN f34 18 [.cell 4 22,.cell 5 4]/\FN f35 27 [.tmp 2,.tmp 3]/\FN f36 12 []/\FN f37 22 []/\B_ f38 9 4/\B_ f42 35 2/\FN f43 36 []/\B_ f44 41 2/\FN f45 39 [.tmp 4,.tmp 5]:=by(repeat' apply And.intro)<;>rfl
@[go_sem] theorem fr24:FN f46 17 [.cell 4 29,.tmp 5]/\FN f47 90 [.cell 6 29]/\B_ f48 7 3/\FN f49 28 [.cell 8 38]/\B_ f55 17 4/\B_ f56 26 4/\B_ f57 8 4/\B_ f58 46 4/\B_ f59 26 4/\B_ f60 8 4/\B_ f61 32 6/\B_ f62 26 4:=by(repeat' apply And.intro)<;>rfl
@[go_sem] theorem fr36:B_ f63 26 4/\B_ f64 25 4/\FN f67 2 [.cell 0 40]/\B_ f71 37 2/\FN f72 11 [.tmp 4,.tmp 5]/\B_ f73 93 2/\B_ f74 19 2/\B_ f75 42 4/\B_ f76 8 2/\B_ f77 15 3/\FN f78 54 [.tmp 4,.tmp 5]/\FN f79 16 [.cell 2 38]:=by(repeat' apply And.intro)<;>rfl
@[go_sem] theorem fr48:FN f80 12 [.cell 4 38,.tmp 5]/\FN f81 12 [.cell 4 38,.tmp 5]/\B_ f82 15 2/\B_ f83 17 2/\B_ f84 14 2/\B_ f85 64 2/\B_ f86 121 6/\B_ f87 7 4/\B_ f88 11 6/\FN f89 8 [.cell 2 29,.tmp 3]/\FN f90 20 [.cell 4 38]/\FN f91 8 [.cell 2 29,.tmp 3]:=by(repeat' apply And.intro)<;>rfl
@[go_sem] theorem fr60:B_ f92 12 4/\FN f93 17 []/\B_ f94 44 4/\B_ f95 42 4/\B_ f96 9 3/\FN f97 14 []/\B_ f98 17 4/\B_ f99 18 2/\B_ f100 20 4/\B_ f101 61 2/\FN f102 16 [.cell 5 29,.tmp 6]/\FN f103 140 [.cell 8 29,.tmp 9]:=by(repeat' apply And.intro)<;>rfl
@[go_sem] theorem fr72:B_ f109 7 2/\B_ f110 5 2/\FN f111 12 [.tmp 2,.tmp 3]/\FN f112 10 [.cell 3 29,.tmp 4]/\B_ f113 9 4/\B_ f114 49 2/\B_ f116 6 2/\B_ f117 95 6/\FN f118 20 [.cell 2 29]/\FN f119 9 []/\B_ f120 10 4/\B_ f121 91 10:=by(repeat' apply And.intro)<;>rfl
@[go_sem] theorem fr84:B_ f123 32 6/\B_ f124 52 4/\B_ f125 26 4/\B_ f126 26 4/\B_ f127 26 4/\B_ f128 32 6/\B_ f129 45 4/\B_ f130 8 4/\FN f131 49 [.tmp 6,.tmp 7]/\B_ f132 9 4/\B_ f133 42 4/\B_ f134 22 4:=by(repeat' apply And.intro)<;>rfl
@[go_sem] theorem fr96:FN f135 10 [.cell 2 169]/\B_ f136 7 2/\FN f137 35 []/\FN f138 59 []/\B_ f139 9 2/\B_ f140 4 2/\B_ f141 19 4/\B_ f142 17 4/\B_ f143 6 2/\FN f144 58 [.cell 2 36]/\FN f145 16 [.cell 4 38,.tmp 5]/\FN f146 79 [.cell 2 47]:=by(repeat' apply And.intro)<;>rfl
@[go_sem] theorem fr108:B_ f147 14 2/\B_ f148 14 2/\B_ f149 14 2/\B_ f150 18 4/\B_ f151 25 3/\B_ f152 37 4/\B_ f153 9 3/\B_ f154 15 2/\B_ f155 15 6/\B_ f156 64 4/\B_ f157 41 6/\B_ f158 12 5:=by(repeat' apply And.intro)<;>rfl
@[go_sem] theorem fr120:B_ f159 64 8/\B_ f160 13 5/\B_ f161 117 6/\FN f162 162 [.cell 4 29,.tmp 5]/\FN f163 4 [.tmp 2,.tmp 3]/\B_ f164 53 4/\FN f165 4 [.tmp 2,.tmp 3]/\B_ f166 9 4/\B_ f167 19 4/\FN f168 148 []/\B_ f169 8 2/\B_ f170 6 2:=by(repeat' apply And.intro)<;>rfl
@[go_sem] theorem fr132:B_ f173 8 6/\B_ f174 22 4/\FN f175 16 [.cell 2 70]/\FN f176 10 [.cell 2 169]/\FN f177 22 [.tmp 2,.tmp 3]/\B_ f178 19 4/\B_ f179 37 2/\FN f180 34 [.tmp 6,.tmp 7]/\B_ f182 24 2/\B_ f185 8 2/\B_ f186 8 2/\B_ f187 8 2:=by(repeat' apply And.intro)<;>rfl
@[go_sem] theorem fr144:FN f188 63 []/\B_ f189 36 2/\B_ f190 74 8/\B_ f191 32 6/\B_ f192 17 4/\B_ f193 19 4/\B_ f194 22 4/\FN f195 12 [.cell 2 171]/\B_ f196 5 2/\FN f197 11 []/\FN f198 14 []/\B_ f199 8 2:=by(repeat' apply And.intro)<;>rfl
@[go_sem] theorem fr156:B_ f200 8 2/\B_ f201 8 2/\B_ f202 8 2/\B_ f203 8 2/\B_ f204 61 2/\FN f205 10 [.cell 3 29,.tmp 4]/\FN f206 11 [.cell 4 29,.tmp 5]/\B_ f207 99 4/\B_ f208 25 6/\B_ f209 6 4/\B_ f210 15 3/\B_ f211 9 3:=by(repeat' apply And.intro)<;>rfl
@[go_sem] theorem fr168:B_ f212 57 2/\B_ f213 41 3/\B_ f214 9 4/\B_ f215 9 3/\B_ f216 9 3/\B_ f217 13 2/\B_ f218 56 3/\B_ f219 63 2/\B_ f220 20 4/\B_ f221 26 4/\B_ f222 164 2/\B_ f223 29 4:=by(repeat' apply And.intro)<;>rfl
@[go_sem] theorem fr180:B_ f224 77 6/\B_ f225 13 3/\B_ f226 13 3/\B_ f227 9 4/\B_ f228 8 3/\B_ f229 5 2/\B_ f230 4 2/\FN f231 8 [.cell 2 291]/\FN f232 17 [.cell 4 291]/\FN f233 12 [.cell 4 164]/\FN f234 22 [.cell 6 29]/\B_ f235 68 4:=by(repeat' apply And.intro)<;>rfl
@[go_sem] theorem fr192:B_ f236 19 4/\FN f237 53 []/\FN f238 60 []/\FN f239 67 []/\FN f240 63 [.tmp 8,.tmp 9]/\FN f241 34 []/\B_ f242 141 8/\B_ f243 90 10/\FN f244 178 [.tmp 10,.tmp 11]/\B_ f245 19 2/\B_ f246 25 2/\FN f247 10 []:=by(repeat' apply And.intro)<;>rfl
@[go_sem] theorem fr204:B_ f248 74 8/\FN f249 12 [.cell 2 171]/\B_ f250 31 6/\FN f251 74 [.cell 4 22,.cell 5 22]/\FN f252 74 [.tmp 4,.tmp 5,.tmp 6]/\FN f254 53 []/\B_ f256 27 4/\B_ f257 77 8/\B_ f258 32 6/\B_ f259 24 4/\B_ f260 13 4/\FN f261 134 []:=by(repeat' apply And.intro)<;>rfl
@[go_sem] theorem fr216:B_ f262 9 4/\B_ f263 8 3/\B_ f264 14 4/\FN f265 13 [.tmp 3,.tmp 4]/\B_ f266 41 2/\FN f267 16 [.tmp 6,.tmp 7]/\B_ f268 5 2/\FN f269 14 [.tmp 4,.tmp 5]/\FN f270 46 []/\B_ f271 26 4/\B_ f272 19 4/\FN f273 21 [.cell 2 333,.tmp 3]:=by(repeat' apply And.intro)<;>rfl
@[go_sem] theorem fr228:B_ f274 25 2/\B_ f275 19 4/\FN f276 42 []/\FN f277 21 [.tmp 4,.tmp 5]/\B_ f278 32 6/\B_ f279 23 4/\FN f280 82 []/\B_ f281 7 2/\B_ f282 33 2/\B_ f283 18 8/\B_ f284 41 12/\B_ f285 4 2:=by(repeat' apply And.intro)<;>rfl
@[go_sem] theorem fr240:FN f286 24 [.tmp 4,.tmp 5]/\FN f287 33 [.tmp 2,.tmp 3,.tmp 4]/\FN f290 49 []/\FN f291 56 []/\FN f292 65 []/\FN f293 57 [.tmp 6,.tmp 7]/\FN f294 32 []/\B_ f295 133 6/\B_ f296 84 8/\FN f297 168 [.tmp 8,.tmp 9]/\B_ f298 19 4/\B_ f299 19 4:=by(repeat' apply And.intro)<;>rfl
@[go_sem] theorem fr252:B_ f300 15 4/\B_ f301 8 3/\FN f302 35 [.tmp 2,.tmp 3]/\B_ f303 9 4/\B_ f304 8 3/\B_ f305 47 0/\FN f306 49 [.tmp 6,.tmp 7]/\B_ f307 9 4/\FN f308 11 [.tmp 4,.tmp 5]/\B_ f309 95 6/\B_ f310 33 6/\FN f311 32 [.tmp 10,.tmp 11]:=by(repeat' apply And.intro)<;>rfl
@[go_sem] theorem fr264:FN f312 28 []/\B_ f313 25 2/\FN f315 76 []/\B_ f316 15 6/\B_ f317 36 10/\B_ f318 9 4/\B_ f319 9 2/\FN f320 68 []/\B_ f321 19 4/\FN f322 49 [.tmp 6,.tmp 7]/\B_ f323 9 4/\FN f326 28 [.tmp 8,.tmp 9]:=by(repeat' apply And.intro)<;>rfl
@[go_sem] theorem fr276:B_ f327 19 4/\FN f328 93 []/\B_ f329 17 4/\FN f330 25 []/\B_ f332 8 4/\B_ f333 30 4/\FN f334 29 []/\FN f335 20 []/\B_ f336 8 2/\B_ f337 14 2/\FN f338 8 []/\B_ f340 18 4:=by(repeat' apply And.intro)<;>rfl
theorem Bv{α:Type}(a:α):∃b,b=a:=⟨a,rfl⟩
noncomputable def Qc:(E:CC)->(P:Program)->(ops:Array Oper)->(Q:SA->Hp->Nat->Prop)->List Oper->SA->Hp->Nat->Prop:=Classical.choose (Bv JC)
theorem Qd:Qc=JC:=Xj (Bv JC)
noncomputable def Mc:(E:CC)->(P:Program)->(ops:Array Oper)->(Q:SA->Hp->Nat->Prop)->List Oper->List Cf->SA->Hp->Nat->Prop:=Classical.choose (Bv Fh)
theorem OZ:Mc=Fh:=Xj (Bv Fh)
noncomputable def LP:(E:CC)->(P:Program)->(N:Nat)->Code->Cu->SA->Hp->Nat->Prop:=Classical.choose (Bv GP)
theorem FI:LP=GP:=Xj (Bv GP)
noncomputable def YW:(E:CC)->(P:Program)->(ops:Array Oper)->(Q:SA->Hp->Nat->Prop)->List Oper->SA->Option Tmp->SV->Hp->Nat->Prop:=
 Classical.choose (Bv λE P ops Q rest sa dst v h n=>Qc E P ops Q rest (Ek sa dst v) h n)
@[go_sem] theorem d9(E:CC)(P:Program)(ops:Array Oper)(Q:SA->Hp->Nat->Prop)(rest:List Oper)(sa:SA)(dst:Option Tmp)(v:SV)(h:Hp)(n:Nat):
 YW E P ops Q rest sa dst v h n=Qc E P ops Q rest (Ek sa dst v) h n:=by
 unfold YW;rw[Xj (Bv λE P ops Q rest sa dst v h n=>Qc E P ops Q rest (Ek sa dst v) h n)]
noncomputable def RU:(E:CC)->(P:Program)->(N:Nat)->Code->Cu->Cu:=Classical.choose (Bv λE P N b Q=>Do (GP E P N b Q) Q)
theorem K5:RU=λE P N b Q=>Do (GP E P N b Q) Q:=Xj (Bv λE P N b Q=>Do (GP E P N b Q) Q)
noncomputable def Nu:Nat->Cu->Cu:=Classical.choose (Bv Fv)
theorem JX:Nu=Fv:=Xj (Bv Fv)
section
variable(E:CC)(P:Program)(N:Nat)(ops:Array Oper)(a b:Code)(id:Nat)(Q:Cu)(K:SA->Hp->Nat->Prop)(sa:SA)(h:Hp)(n:Nat)
@[go_sem] theorem YY:RU E P N b Q .normal sa h n=LP E P N b Q sa h n:=by rw[K5,FI];simp only[Do]
@[go_sem] theorem aE:RU E P N b Q (.exit id) sa h n=Q (.exit id) sa h n:=by rw[K5];simp only[Do]
@[go_sem] theorem az:RU E P N b Q .ret sa h n=Q .ret sa h n:=by rw[K5];simp only[Do]
@[go_sem] theorem Xo:Nu id Q .normal sa h n=Q .normal sa h n:=by rw[JX];simp only[Fv]
@[go_sem] theorem aD:Nu id Q .ret sa h n=Q .ret sa h n:=by rw[JX];simp only[Fv]
@[go_sem] theorem ZN(i:Nat):Nu id Q (.exit i) sa h n=if i=id then Q .normal sa h n else Q (.exit i) sa h n:=by rw[JX];simp only[Fv]
@[go_sem] theorem dj:LP E P N .skip Q sa h n=Q .normal sa h n:=by rw[FI];simp only[GP]
@[go_sem] theorem eG:LP E P N (.seq a b) Q sa h n=LP E P N a (RU E P N b Q) sa h n:=by rw[FI,K5];simp only[GP]
@[go_sem] theorem dg(c:Operand):LP E P N (.cond c a b) Q sa h n=match Hc sa c with|.bool t=>if t=true then LP E P N a Q sa h n else LP E P N b Q sa h n|_=>False:=by rw[FI];simp only[GP]<;>cases Hc sa c<;>rfl
@[go_sem] theorem bH:LP E P N (.block id b) Q sa h n=LP E P N b (Nu id Q) sa h n:=by rw[FI,JX];simp only[GP]
@[go_sem] theorem dh:LP E P N (.exit id) Q sa h n=Q (.exit id) sa h n:=by rw[FI];simp only[GP]
@[go_sem] theorem eF:LP E P N .ret Q sa h n=Q .ret sa h n:=by rw[FI];simp only[GP]
@[go_sem] theorem an:LP E P N (.region id ops false) Q sa h n=Qc E P ops (Q .normal) ops.toList sa h n:=by rw[FI,Qd];simp only[GP]
@[go_sem] theorem bI:LP E P N (.region id ops true) Q sa h n=(Fk ops=true/\Mc E P ops (Q .normal) ops.toList [] sa h n):=by rw[FI,OZ];simp only[GP]
@[go_sem] theorem di:LP E P N (.loop b) Q sa h n=Ic E P N (.loop b) Q sa h n:=by rw[FI];simp only[GP]
@[go_sem] theorem bJ(g:Operand)(ps:Array Tmp):LP E P N (.rangeFunc g ps a b) Q sa h n=Ic E P N (.rangeFunc g ps a b) Q sa h n:=by rw[FI];simp only[GP]
@[go_sem] theorem pY:Qc E P ops K [] sa h n=K sa h n:=by rw[Qd];simp only[JC]
@[go_sem] theorem bK(o:Oper)(rest:List Oper):Qc E P ops K (o::rest) sa h n =
 match Dv ops sa o with|some b=>if b=true then MY E P o sa h n (YW E P ops K rest sa o.dst)else Qc E P ops K rest (Ek sa o.dst (.tup [])) h n|none=>False:=by
 unfold YW;rw[Xj (Bv λE P ops Q rest sa dst v h n=>Qc E P ops Q rest (Ek sa dst v) h n)];rw[Qd];simp only[JC];cases Dv ops sa o<;>rfl
@[go_sem] theorem bF(tr:List Cf):Mc E P ops K [] tr sa h n=K sa h n:=by rw[OZ];simp only[Fh]
end
def Bo(ops:Array Oper)(i:Nat)(r:Cf):Nat->List Cf->Bool
 | _,[]=>true
 | j,q::qs=>(DZ ops j i||(CU (Aq q.wr) r.foot&&CU (Aq r.wr) q.foot&&CU (Aq q.new) r.foot))&&Bo ops i r (j+1) qs
theorem PL(ops:Array Oper)(i:Nat)(r:Cf):∀(l:List Cf)(j:Nat),Bo ops i r j l=IV ops i r j l
 | [],_=>rfl
 | q::qs,j=>by rw[Bo,IV,PL ops i r qs,Bool.or_comm]
noncomputable def MN:(E:CC)->(P:Program)->(ops:Array Oper)->(Q:SA->Hp->Nat->Prop)->List Oper->List Cf->SA->Cf->Hp->Nat->Prop:=
 Classical.choose (Bv λE P ops Q rest tr sa r h n=>Bo ops tr.length r 0 tr=true/\Mc E P ops Q rest (tr++[r]) (Ek sa r.dst r.val) h n)
section
variable(E:CC)(P:Program)(ops:Array Oper)(K:SA->Hp->Nat->Prop)(sa:SA)(h:Hp)(n:Nat)
@[go_sem] theorem Wt(rest:List Oper)(tr:List Cf)(r:Cf):MN E P ops K rest tr sa r h n=(Bo ops tr.length r 0 tr=true/\Mc E P ops K rest (tr++[r]) (Ek sa r.dst r.val) h n):=by
 unfold MN;rw[Xj (Bv λE P ops Q rest tr sa r h n=>Bo ops tr.length r 0 tr=true/\Mc E P ops Q rest (tr++[r]) (Ek sa r.dst r.val) h n)]
def BX(g:FuncId)(us:List SV)(rest:List Oper)(tr:List Cf)(dst:Option Tmp):Prop:=
 ∃foot wr v,NH E P g us foot wr v h/\(∀k∈Aq wr,k∈foot)/\(∀k∈foot,k<n)/\MN E P ops K rest tr sa { dst:=dst,val:=v,foot:=foot,wr:=wr } (Ca h wr) n
def WT(o:Oper)(rest:List Oper)(tr:List Cf):Prop:=
 match o.op with
 | .call { callee:=.value f,args,.. }=>
  match callee (Hc sa f) (args.toList.map (Hc sa))with
  | some (g,us)=>BX E P ops K sa h n g us rest tr o.dst
  | none=>False
 | op =>
  match DB P (Hc sa) h n op with
  | some out=>
   (∀k∈Aq out.upd.toList++jz (Hc sa) op,k<n)/\MN E P ops K rest tr sa { dst:=o.dst,val:=out.val,foot:=Aq out.upd.toList++jz (Hc sa) op,wr:=out.upd.toList,new:=(out.new.map λx=>(n,some x)).toList } (out.app h n) (if out.new.isSome then n+1 else n)
  | none=>∃v,Xw P (Hc sa) o v/\MN E P ops K rest tr sa { dst:=o.dst,val:=v } h n
@[go_sem] theorem am(o:Oper)(rest:List Oper)(tr:List Cf):Mc E P ops K (o::rest) tr sa h n =
 match Dv ops sa o with|some b=>if b=true then WT E P ops K sa h n o rest tr else Mc E P ops K rest (tr++[{ dst:=o.dst,val:=.tup [] }]) (Ek sa o.dst (.tup [])) h n|none=>False:=by
 unfold WT BX;simp only[Wt,PL];rw[OZ]
 conv=>lhs;unfold Fh
 cases Dv ops sa o<;>rfl
variable{E}
theorem BX.pure{g:FuncId}{us:List SV}{a:List Oper}{b:List Cf}{dst:Option Tmp}{v:SV}(H:GX P g us v)(c:MN E P ops K a b sa { dst:=dst,val:=v } h n):BX E P ops K sa h n g us a b dst:=
 ⟨[],[],v,H.u h,by simp[Aq],by simp,c⟩
theorem BX.lend{g:FuncId}{us bs:List SV}{a:List Oper}{b:List Cf}{dst:Option Tmp}{v:SV}(k:Nat)(foot:List Nat)(H:GX P g bs v)(e:FF v=true)(c:∀j∈foot,j<n)(hw:∀h',(∀j∈foot,h' j=h j)->Ag (Fz h' (λ_=>none) k) us bs)
 (d:MN E P ops K a b sa { dst:=dst,val:=v,foot:=foot } h n):BX E P ops K sa h n g us a b dst:=
 ⟨foot,[],v,H.lendU k foot e hw,by simp[Aq],c,d⟩
end
attribute [go_sem] WT jz Aq Op.operands Call.operands SV.ids QZ List.flatMap_nil
attribute [go_sem] Om Ol LB
abbrev PC(f:FuncId)(args:List SV)(v:SV):Prop:=GX prog f args v
abbrev Gm(h:Hp)(n:Nat):Prop:=∀o x,h o=some x->o<n/\BW n x=true
theorem A3{h h':Hp}{n n':Nat}{a v:SV}(c:Gm h n)(b:∀o x,h o=some x->h' o=some x)(e:a=v)(hc:cc n v=true):CO n h' n' a (Is v h n):=by
 subst e;exact CO.plain hc c b ⟨rfl,rfl,rfl⟩
theorem Dj{h h':Hp}{n n':Nat}{a v:SV}(k:Nat)(c:Gm h n)(b:∀o x,h o=some x->h' o=some x)(e:Fz h' h k a v)(hc:cc n v=true):CO n h' n' a (Is v h n):=
 .inr ⟨k,v,h,e,hc,λo x e=>⟨b o x e,c o x e⟩,rfl,rfl,rfl⟩
theorem As{h:Hp}{n n':Nat}{a v:SV}(b:Gm h n)(hc:cc n v=true)(e:a=v):CO n h n' a (Is v h n):=A3 b (λ_ _ e=>e) e hc
theorem AR{h:Hp}{n o:Nat}{y:Option Bb}(c:Gm h n)(hn:n<=o){h':Hp}(b:∀o x,h o=some x->h' o=some x):∀a x,h a=some x->h_ h' o y a=some x:=by
 intro a x e;have:=(c a x e).1;have ne:a≠o:=by omega
 simp[h_,ne,b _ _ e]
theorem AC{h:Hp}:∀o x,h o=some x->h o=some x:=λ_ _ e=>e
theorem go{E:CC}{f:FuncId}{fn:Func}{code:Code}{args:List SV}{h:Hp}{n:Nat}{K:SV->Hp->Nat->Prop}(b:prog.funcs[f]? = some fn)(hb:fn.body=some code)
 (hn:(fn.name != "runtime.NumGoroutine")=true) (a:Code.dok fn.ntmps code=true) (hl:args.length<=fn.ntmps)
 (H:Gm h n->LP (E.call false 0) prog fn.ntmps code (Om prog fn n K) (FA 0 args) h n):Ap E prog f args h n K:=
 Up follows b hb hn a hl λ_ c=>by rw[<-FI];exact H c
theorem gq{E:CC}{f:FuncId}{fn:Func}{code:Code}{args:List SV}{h:Hp}{n:Nat}{K:SV->Hp->Nat->Prop}(b:prog.funcs[f]? = some fn)(hb:fn.body=some code)
 (H:Gm h n->LP (E.call false 0) prog fn.ntmps code (Om prog fn n K) (FA 0 args) h n)
 (hn:(fn.name != "runtime.NumGoroutine")=true:=by kernel_rfl) (a:Code.dok fn.ntmps code=true:=by kernel_rfl) (hl:args.length<=fn.ntmps:=by simp[go_sem]):Ap E prog f args h n K:=
 go b hb hn a hl H
theorem Av{E:CC}{N:Nat}{x:Code}{Q:Cu}{sa:SA}{h:Hp}{n:Nat}{α:Type}(k:Nat)(fr:α->SA)(hp:α->Hp)(I:α->Nat->Prop)(μ:α->Nat)(a0:α)(hI:I a0 n)
 (c:∀p∈fr a0,Fz h (hp a0) k (Ao sa p.1) p.2) (d:∀o y,hp a0 o=some y->h o=some y)
 (b:∀a n,I a n->LP E prog N x (Do (λe h' n'=>∃a',μ a'<μ a/\I a' n'/\(∀p∈fr a',Fz h' (hp a') k (Ao e p.1) p.2)/\(∀o y,hp a' o=some y->h' o=some y)) Q) (fr a) (hp a) n):
 Ic E prog N (.loop x) Q sa h n:=
 Vb follows k fr hp I μ a0 hI c d λa n f=>by rw[<-FI];exact b a n f
@[go_sem] theorem Fm(K:SA->Hp->Nat->Prop)(Q:Cu):Do K Q .normal=K:=rfl
@[go_sem] theorem ah(K:SA->Hp->Nat->Prop)(Q:Cu)(i:Nat):Do K Q (.exit i)=Q (.exit i):=rfl
@[go_sem] theorem bD(K:SA->Hp->Nat->Prop)(Q:Cu):Do K Q .ret=Q .ret:=rfl
attribute [go_sem] cc ca
theorem nd{ops:Array Oper}{i j:Nat}{r:Cf}{l:List Cf}{R:Prop}(h:Bo ops i r j l=true)(a:R):Bo ops i r j l=true/\R:=⟨h,a⟩
theorem sd{ops:Array Oper}{R:Prop}(h:Fk ops=true)(a:R):Fk ops=true/\R:=⟨h,a⟩
theorem DA{x:Int}(h0:-4611686018427387904<=x)(h1:x<=4611686018427387904):IntKind.i64.wrap x=x:=IntWalk.i64_in x (by omega)
theorem nq{ops:Array Oper}{i j:Nat}{r:Cf}{l:List Cf}{R:Prop}(a:R)(h:Bo ops i r j l=true:=by kernel_rfl):Bo ops i r j l=true/\R:=⟨h,a⟩
theorem sq{ops:Array Oper}{R:Prop}(a:R)(h:Fk ops=true:=by kernel_rfl):Fk ops=true/\R:=⟨h,a⟩
theorem aq{a R:Prop}(b:R)(h:a:=by omega):a/\R:=⟨h,b⟩
theorem wS(i:Nat)(h:i<4611686018427387904):IntKind.i64.wrap ((i:Int)+1)=((i+1:Nat):Int):=by rw[DA]<;>omega
theorem Gm.lt{h:Hp}{n:Nat}(a:Gm h n):∀j y,h j=some y->j<n:=λj y e=>(a j y e).1
theorem PC.use{E:CC}{f:FuncId}{args:List SV}{v:SV}(H:PC f args v){h:Hp}{n:Nat}{K:SV->Hp->Nat->Prop}(a:K v h n):Ap E prog f args h n K:=GX.use H a
theorem V1{s:ByteArray}{i:Nat}(h:i<s.size):s[i]? = some s[i]:=getElem?_pos s i h
set_option maxRecDepth 10000
def Kl(b:Int):Int:=if b=224 then 160 else if b=240 then 144 else 128
def IC(b:Int):Int:=if b=237 then 159 else if b=244 then 143 else 191
def DE(b:Int):Int:=if b<128 then 1 else if b<194\/244<b then 0 else if b<224 then 2 else if b<240 then 3 else 4
theorem gi(b:Int):PC 287 [.int .u8 b] (.tup [.int .u8 (Kl b),.int .u8 (IC b),.int .i64 (DE b)]):=by
 intro h n;refine gq func287 rfl λj=>?_;by_cases h1:b<128<;>by_cases h2:b<194<;>by_cases a:244<b<;>by_cases c:b<224<;>by_cases d:b<240<;>by_cases e:b=224<;>by_cases f:b=237<;>by_cases g:b=240<;>by_cases i:b=244<;>try omega
 all_goals
  simp[go_sem,h1,h2,a,c,d,e,f,g,i,Kl,IC,DE];exact As j rfl (by simp)
def An(s:ByteArray)(i:Nat):Int:=match s[i]? with|some b=>b.toNat|none=>0
def DC(s:ByteArray)(a n:Nat):Nat->Int->Int->Nat->Nat×Bool
 | 0,_,_,k=>(k,true)
 | f+1,lo,hi,k=>if s.size<=a+k\/An s (a+k)<lo\/hi<An s (a+k)then(k,false)else DC s a n f 128 191 (k+1)
def BJ(s:ByteArray)(a:Nat):Nat×Bool:=
 let b:=An s a
 let n:=DE b
 if n=0 then(0,false)else if n=1 then(1,true)else DC s a n.toNat (n.toNat-1) (Kl b) (IC b) 1
theorem Ed{s:ByteArray}{i:Nat}(h:i<s.size):s[i]? = some s[i]/\An s i=s[i].toNat:=by
 have:=V1 h;simp[An,this]
theorem LY(b:Int):0<=DE b/\DE b<=4:=by unfold DE;repeat' split<;>omega
theorem gG(s:ByteArray)(a:Nat)(y:a<s.size)(hs:s.size<=1099511627776):PC 252 [.str s,.int .i64 a] (.tup [.junk,.int .i64 (BJ s a).1,.bool (BJ s a).2]):=by
 intro h n;refine gq func252 rfl λi=>?_;obtain⟨w,x⟩:=Ed y;simp[go_sem,w,<-x];refine(gi _).use ?_;obtain⟨l,u⟩:=LY (An s a);simp[go_sem,l];by_cases h0:DE (An s a)=0;simp[h0];exact Dj 3 i AC (by simp[Fz,Ag,BJ,h0]) rfl;by_cases h1:DE (An s a)=1;simp[h1];exact Dj 3 i AC (by simp[Fz,Ag,BJ,h1]) rfl;have v:BJ s a=DC s a (DE (An s a)).toNat ((DE (An s a)).toNat-1) (Kl (An s a)) (IC (An s a)) 1:=by simp[BJ,h0,h1]
 obtain⟨z,D⟩:∃z:Nat,DE (An s a)=z:=⟨(DE (An s a)).toNat,by omega⟩
 rw[D]at v h0 h1 l u ⊢;simp only[h0,h1,if_false];rw[v];simp only[Int.toNat_natCast];generalize IntKind.i64.wrap _=p0;refine Av 3 (α:=Int×Int×Int×Nat) (λq=>[(0,.str s),(1,.int .i64 a),(4,.int .i64 q.1),(5,.int .i64 q.2.2.2),(8,.int .u8 q.2.1),(9,.int .u8 q.2.2.1),(10,.int .i64 z)]) (λ_=>h)
  (λq m=>n<=m/\1<=q.2.2.2/\q.2.2.2<=z/\DC s a z (z-1) (Kl (An s a)) (IC (An s a)) 1=DC s a z (z-q.2.2.2) q.2.1 q.2.2.1 q.2.2.2) (λq=>z-q.2.2.2) (p0,Kl (An s a),IC (An s a),1) ?_ ?_ AC ?_
 exact⟨qa _,by simp,by simp;omega,rfl⟩;simp[Ao];rintro⟨p,lo,hi,k⟩ m ⟨C,t,j,d⟩;by_cases g:k<z;obtain⟨f,A⟩:∃f,z-k=f+1:=⟨z-k-1,by omega⟩
 have B:z-(k+1)=f:=by omega
 have w1:IntKind.i64.wrap ((a:Int)+k)=((a+k:Nat):Int):=by rw[DA]<;>omega
 have w2:=wS k (by omega);dsimp only at d t j;rw[A,DC]at d;by_cases b:s.size<=a+k;simp[go_sem,g,w1,b,-Int.natCast_add];exact Dj 3 i AC (by simp[Fz,Ag,d,b]) rfl;obtain⟨o,r⟩:=Ed (Nat.lt_of_not_le b);by_cases c:An s (a+k)<lo;simp[go_sem,g,w1,b,o,<-r,c,-Int.natCast_add];exact Dj 3 i AC (by simp[Fz,Ag,d,c]) rfl;by_cases e:hi<An s (a+k);simp[go_sem,g,w1,b,o,<-r,c,e,-Int.natCast_add];exact Dj 3 i AC (by simp[Fz,Ag,d,e]) rfl;simp[go_sem,g,w1,w2,b,o,<-r,c,e,-Int.natCast_add];rw[if_neg (by simp only[not_or];exact⟨b,c,e⟩)]at d;refine⟨_,128,191,k+1,by omega,⟨C,by omega,by omega,by rw[B];exact d⟩,IO,IO,IO,IO⟩;have:k=z:=by dsimp only at j;omega
 subst this;simp[go_sem];rw[vU,DC]at d;exact Dj 3 i AC (by simp[Fz,Ag,d]) rfl
theorem LX(s:ByteArray)(a n:Nat):∀(f:Nat)(lo hi:Int)(k:Nat),k<=(DC s a n f lo hi k).1/\(DC s a n f lo hi k).1<=k+f
 | 0,_,_,k=>by simp[DC]
 | f+1,lo,hi,k=>by
  rw[DC];split;simp;have:=LX s a n f 128 191 (k+1);omega
theorem Kk{s:ByteArray}{a:Nat}(h:(BJ s a).2=true):1<=(BJ s a).1:=by
 simp only[BJ]at h ⊢;split;rename_i e;simp[e]at h;split;exact qa _;exact(LX _ _ _ _ _ _ _).1
theorem Q3(s:ByteArray)(a:Nat):(BJ s a).1<=4:=by
 simp only[BJ];split;simp;split;simp;have:=(LX s a (DE (An s a)).toNat ((DE (An s a)).toNat-1) (Kl (An s a)) (IC (An s a)) 1).2;have:=LY (An s a);omega
def E5(s:ByteArray)(a:Nat):Int:=
 if _:a<s.size then if _:(BJ s a).2=true then E5 s (a+(BJ s a).1)else a else -1
termination_by s.size-a
decreasing_by
 rename_i h2
 have:=Kk h2;omega
def A5(s:ByteArray):Bool:=decide (E5 s 0<0)
theorem fP(s:ByteArray)(f:s.size<=1099511627776):PC 182 [.str s] (.int .i64 (E5 s 0)):=by
 intro h n;refine gq func182 rfl λd=>?_;simp[go_sem];refine Av 1 (α:=Nat) (λk=>[(0,.str s),(3,.int .i64 k)]) (λ_=>h) (λk m=>n<=m/\k<=s.size+4/\E5 s 0=E5 s k) (λk=>s.size+4-k) 0 ?_ ?_ AC ?_;exact⟨qa _,by omega,rfl⟩;simp[Ao];rintro k m ⟨e,hk,b⟩;by_cases a:k<s.size;simp[go_sem,a];refine(gG s k a f).use ?_;have hp:=@Kk s k;have hl:=Q3 s k;have w:IntKind.i64.wrap ((k:Int)+((BJ s k).1:Int))=((k+(BJ s k).1:Nat):Int):=by rw[DA]<;>omega
 rw[E5.eq_def s k]at b;by_cases c:(BJ s k).2=true;simp[a,c]at b;simp[go_sem,c,w,-Int.natCast_add];have:=hp c;exact⟨k+(BJ s k).1,by omega,⟨e,by omega,b⟩,IO⟩;simp[a,c]at b;simp[go_sem,c];exact As d rfl (by rw[b]);simp[go_sem,a];rw[E5.eq_def s k]at b;simp[a]at b;exact As d rfl (by rw[b])
theorem Sn(s:ByteArray)(b:s.size<=1099511627776):PC 116 [.str s] (.bool (A5 s)):=by
 intro h n;refine gq func116 rfl λa=>?_;simp[go_sem];refine(fP s b).use ?_;simp[go_sem];exact As a rfl (by simp[A5])
def EQ(b:Int):Bool:=!(IntKind.u8.wrap (BitVec.ofInt 8 b &&& BitVec.ofInt 8 192).toNat==128)
def Ar(s:ByteArray):Nat->Nat
 | 0=>0
 | k+1=>Ar s k+if EQ (An s k)then 1 else 0
theorem IB(s:ByteArray):∀k,Ar s k<=k
 | 0=>qa _
 | k+1=>by have:=IB s k;simp only[Ar];split<;>omega
theorem ba(s:ByteArray)(i:s.size<=1099511627776):PC 177 [.str s] (.tup [.int .i64 (if A5 s then Ar s s.size else 0),.int .i64 (if A5 s then 0 else 12)]):=by
 intro h n;refine gq func177 rfl λd=>?_;simp[go_sem];refine(Sn s i).use ?_;by_cases e:A5 s=true;simp[go_sem,e];refine Av 1 (α:=Nat) (λk=>[(0,.str s),(2,.int .i64 (Ar s k)),(9,.int .i64 s.size),(10,.int .i64 k)]) (λ_=>h) (λk m=>n<=m/\k<=s.size) (λk=>s.size-k) 0 ?_ ?_ AC ?_;exact⟨qa _,by omega⟩;simp[Ao,Ar];rintro k m ⟨c,hk⟩;by_cases a:k<s.size;obtain⟨f,g⟩:=Ed a;have hl:=IB s k;have w1:=wS k (by omega);have w2:IntKind.i64.wrap ((Ar s k:Int)+1)=((Ar s k+1:Nat):Int):=by rw[DA]<;>omega
 simp[go_sem,a,<-g,w1,w2,-Int.natCast_add];split;rename_i b;have hc:EQ (An s k)=false:=by simp only[EQ,Bool.not_eq_false',beq_iff_eq];exact b
 exact⟨k+1,by omega,⟨c,by omega⟩,by simp[Ar,hc],IO⟩;rename_i b;have hc:EQ (An s k)=true:=by simp only[EQ,UW,beq_eq_false_iff_ne];exact b
 exact⟨k+1,by omega,⟨c,by omega⟩,by simp[Ar,hc],IO⟩;have:k=s.size:=by omega
 subst this;simp[go_sem];exact As d rfl (by simp);simp[go_sem,e];exact As d rfl (by simp)
def AW(z:Nat)(o:Option Nat)(es:List SV):SV:=match o with|none=>.i 0 [] true|some j=>.sl j 0 z es.length false
def AV(o:Option Nat)(es:List SV)(h:Hp):Hp:=match o with|none=>h|some j=>h_ h j (some (.cells (es.flatMap SV.cells)))
structure BR(n m z:Nat)(o:Option Nat)(es:List SV):Prop where
 none:o=Option.none->es=[]
 lt:∀j,o=some j->n<=j/\j<m
 size:∀e∈es,e.B=true/\e.cells.length=z
theorem BR.nil(n m z:Nat):BR n m z Option.none []:=⟨λ_=>rfl,by simp,by simp⟩
theorem BO{z:Nat}:∀{es:List SV},(∀e∈es,e.B=true/\e.cells.length=z)->(es.flatMap SV.cells).length=es.length*z
 | [],_=>by simp
 | e::es,h=>by
  have:=BO (es:=es) (z:=z) λx a=>h x (by simp[a]);simp[this,(h e (by simp)).2,UI,Nat.add_comm]
theorem BR.push{n m m' z:Nat}{o:Option Nat}{es:List SV}{e:SV}{j:Nat}(H:BR n m z o es)(c:e.B=true)(b:e.cells.length=z)(h1:n<=j)(h2:j<m'):BR n m' z (some j) (es++[e]):=
 ⟨by simp,by rintro k e;cases e;exact⟨h1,h2⟩,by intro x a;simp at a;rcases a with a|rfl;exact H.size x a;exact⟨c,b⟩⟩
theorem BR.mono{n m m' z:Nat}{o:Option Nat}{es:List SV}(H:BR n m z o es)(a:m<=m'):BR n m' z o es:=⟨H.none,λj e=>⟨(H.lt j e).1,Wm (H.lt j e).2 a⟩,H.size⟩
theorem Gm.none{h:Hp}{n j:Nat}(a:Gm h n)(hj:n<=j):h j=none:=by
 cases e:h j with
 | none=>rfl
 | some x=>have:=(a j x e).1;omega
theorem AV.old{h:Hp}{n m z:Nat}{o:Option Nat}{es:List SV}(a:Gm h n)(H:BR n m z o es):∀j x,h j=some x->AV o es h j=some x:=by
 cases o with
 | none=>exact λ_ _ e=>e
 | some k=>exact AR a (H.lt k rfl).1 AC
theorem AD(h:Hp)(j:Nat)(x:Option Bb):h_ h j x j=x:=by simp[h_]
theorem AE(h:Hp){j k:Nat}(x:Option Bb)(e:k≠j):h_ h j x k=h k:=by simp[h_,e]
theorem AW.fz{h:Hp}{n m z k:Nat}{o:Option Nat}{es:List SV}(d:Gm h n)(H:BR n m z o es){h':Hp}(b:∀j y,AV o es h j=some y->h' j=some y):Fz h' h (k+1) (AW z o es) (.i z es false):=by
 cases o with
 | none=>rw[H.none rfl];exact .inr ⟨by simp,.inl rfl,trivial,by simp⟩
 | some j =>
  have c:=b j (.cells (es.flatMap SV.cells)) (by simp[AV,h_]);refine .inr ⟨d.none (H.lt j rfl).1,by simp,rfl,rfl,_,_,c,by simp[Bz,BO H.size];rfl,H.size,?_⟩;have:∀l:List SV,Ag (Fz h' h k) l l:=by
   intro l;induction l with
   | nil=>trivial
   | cons a l ih=>exact⟨IO,ih⟩
  simp only[<-BO H.size,qm];exact this _
theorem Yq{h h':Hp}{n n' m z:Nat}{o:Option Nat}{es:List SV}{v:SV}(a:Gm h n)(H:BR n m z o es)(b:∀j y,AV o es h j=some y->h' j=some y)(c:v=AW z o es)(hc:∀e∈es,cc n e=true):CO n h' n' v (Is (.i z es false) h n):=by
 subst c;refine Dj 1 a (λj x e=>b j x (AV.old a H j x e)) (AW.fz a H b) ?_;rw[cc];exact EO.2 hc
section
variable{P:Program}
theorem bM{h0:Hp}{n m z:Nat}{es:List SV}{e:SV}{o:Option Nat}{t t2 el:TypeId}(ht:BA P t=some el)(h:(BA P t2).isSome=true)(q:Br P el=z)(b:z≠0)(g:(BK P el).B=true)(i:(BK P el).cells.length=z)
 (hroom:es.length+1<=1073741824) (hb:Bw P el<=65536) (H:BR n m z o es) (l:e.cells.length=z) (a:Ib el=none:=by rfl):
 Al P (h_ (AV o es h0) m (some (.cells e.cells))) (m+1) .append [t,t2] [AW z o es,.sl m 0 z 1 true] =
  some { val:=.sl (m+1) 0 z (es.length+1) false,upd:=o.map λj=>(j,none),new:=some (.cells (es.flatMap SV.cells++e.cells)) }:=by
 have c:flat (h_ (AV o es h0) m (some (.cells e.cells))) (.sl m 0 z 1 true)=some e.cells:=by
  simp[flat,h_,Bz,l];exact qv (by omega)
 have k:EF (es.length+1) (Bw P el)=true:=by simp[EF];exact⟨by omega,hb⟩
 simp only[Al,h,if_true,Ec,ht,GW,c,q,i,g];cases o with
 | none=>
  have:=H.none rfl;subst this;simp[AW,LT,b,a];have f:EF 1 (Bw P el)=true:=by simpa using k
  exact f
 | some j =>
  have d:j≠m:=by have:=(H.lt j rfl).2;omega
  have p:flat (h_ (AV (some j) es h0) m (some (.cells e.cells))) (.sl j 0 z es.length false)=some (es.flatMap SV.cells):=by
   simp only[flat,AE _ _ d,AV,AD,Bz,qU,BO H.size,qa,if_true,vt];rw[<-BO H.size,qm]
  simp[AW,LT,b,p,k,Kb a]
theorem O2{h0:Hp}{n m:Nat}{es:List SV}{e:SV}{o:Option Nat}{z:Nat}(f:Gm h0 n)(hn:n<=m)(H:BR n m z o es):
 ∀j y,AV (some (m+1)) (es++[e]) h0 j=some y->
  (C5.app (h_ (AV o es h0) m (some (.cells e.cells))) (m+1) { val:=.sl (m+1) 0 z (es.length+1) false,upd:=o.map λj=>(j,none),new:=some (.cells (es.flatMap SV.cells++e.cells)) }) j=some y:=by
 intro j y a;simp only[AV]at a;by_cases b:j=m+1;subst b;rw[AD]at a;simp only[C5.app,AD];rw[<-a];simp;rw[AE _ _ b]at a;have hlt:=(f j y a).1;have c:j≠m:=by omega
 cases o with
 | none=>simp[C5.app,AE _ _ b,AE _ _ c,AV,a]
 | some k=>
  have d:j≠k:=by have:=(H.lt k rfl).1;omega
  simp[C5.app,AE _ _ b,AE _ _ c,AE _ _ d,AV,a]
end
abbrev AA:Int->SV:=.int .i64
structure Bi where
 key:Int
 value:Int
 deriving DecidableEq
structure Bs where
 rev:Int
 move:Int
 deriving DecidableEq
structure AM where
 rev:Int
 key:Int
 before:Int
 had:Bool
 deriving DecidableEq
structure AF where
 Q:List Bi
 I:Int
 move:Int
 Y:List Bs
 Z:List AM
 deriving DecidableEq
structure BC where
 id:Int
 O:ByteArray
 time:Int
 deriving DecidableEq
structure A7 where
 id:Int
 k:Int
 name:ByteArray
 base:Int
 next:Int
 Q:List Bi
 deriving DecidableEq
structure Ce where
 format:Int
 start:Int
 template:ByteArray
 restart:Int
 deriving DecidableEq
structure GQ where
 id:Int
 levels:List Ce
 deriving DecidableEq
structure A9 where
 id:Int
 parent:Int
 O:ByteArray
 time:Int
 x:ByteArray
 done:Bool
 deriving DecidableEq
structure GY where
 name:ByteArray
 value:ByteArray
 deriving DecidableEq
structure AI where
 A:List A7
 L:List GQ
 C:List A9
 vars:List GY
 deriving DecidableEq
mutual
inductive AB where
 | mk (kind code id:Int) (text:ByteArray) (head:AF) (flow:List AB) (rows:List AP)
inductive AP where
 | mk (head:AF) (cells:List cr)
inductive cr where
 | mk (id:Int) (head:AF) (flow:List AB)
end
structure AG where
 W:List AB
 T0 : AF
 V:List BC
 S:AI
def Bi.e(p:Bi):SV:=.agg [AA p.key,AA p.value]
def Bs.e(p:Bs):SV:=.agg [AA p.rev,AA p.move]
def AM.e(p:AM):SV:=.agg [AA p.rev,AA p.key,AA p.before,.bool p.had]
abbrev AU(l:List Bi):SV:=.i 2 (l.map Bi.e) false
abbrev Ax(l:List Bs):SV:=.i 2 (l.map Bs.e) false
abbrev Ai(l:List AM):SV:=.i 4 (l.map AM.e) false
def AF.g(h:AF):List SV:=[AU h.Q,AA h.I,AA h.move,Ax h.Y,Ai h.Z]
def AF.e(h:AF):SV:=.agg h.g
def BC.e(r:BC):SV:=.agg [AA r.id,.str r.O,AA r.time]
abbrev BE(l:List BC):SV:=.i 3 (l.map BC.e) false
def A7.e(s:A7):SV:=.agg [AA s.id,AA s.k,.str s.name,AA s.base,AA s.next,AU s.Q]
def Ce.e(l:Ce):SV:=.agg [AA l.format,AA l.start,.str l.template,AA l.restart]
abbrev DV(l:List Ce):SV:=.i 4 (l.map Ce.e) false
def GQ.e(l:GQ):SV:=.agg [AA l.id,DV l.levels]
def A9.e(c:A9):SV:=.agg [AA c.id,AA c.parent,.str c.O,AA c.time,.str c.x,.bool c.done]
def GY.e(v:GY):SV:=.agg [.str v.name,.str v.value]
abbrev Aj(l:List A7):SV:=.i 6 (l.map A7.e) false
abbrev Dg(l:List GQ):SV:=.i 2 (l.map GQ.e) false
abbrev Bd(l:List A9):SV:=.i 6 (l.map A9.e) false
abbrev Fs(l:List GY):SV:=.i 2 (l.map GY.e) false
def AI.g(s:AI):List SV:=[Aj s.A,Dg s.L,Bd s.C,Fs s.vars]
def AI.e(s:AI):SV:=.agg s.g
mutual
def AB.e:AB->SV
 | .mk k c i t h f r=>.agg ([AA k,AA c,AA i,.str t]++h.g++[.i 11 (AB.encL f) false,.i 6 (AP.encL r) false])
def AB.encL:List AB->List SV
 | []=>[]
 | x::l=>x.e::AB.encL l
def AP.e:AP->SV
 | .mk h c=>.agg (h.g++[.i 7 (cr.encL c) false])
def AP.encL:List AP->List SV
 | []=>[]
 | x::l=>x.e::AP.encL l
def cr.e:cr->SV
 | .mk i h f=>.agg ([AA i]++h.g++[.i 11 (AB.encL f) false])
def cr.encL:List cr->List SV
 | []=>[]
 | x::l=>x.e::cr.encL l
end
theorem AB.encL_eq(l:List AB):AB.encL l=l.map AB.e:=by induction l with|nil=>rfl|cons a l ih=>rw[AB.encL,ih];rfl
theorem AP.encL_eq(l:List AP):AP.encL l=l.map AP.e:=by induction l with|nil=>rfl|cons a l ih=>rw[AP.encL,ih];rfl
theorem cr.encL_eq(l:List cr):cr.encL l=l.map cr.e:=by induction l with|nil=>rfl|cons a l ih=>rw[cr.encL,ih];rfl
abbrev AK(l:List AB):SV:=.i 11 (l.map AB.e) false
abbrev Aw(l:List AP):SV:=.i 6 (l.map AP.e) false
abbrev BZ(l:List cr):SV:=.i 7 (l.map cr.e) false
def AB.k:AB->Int|.mk k _ _ _ _ _ _=>k
def AB.code:AB->Int|.mk _ c _ _ _ _ _=>c
def AB.id:AB->Int|.mk _ _ i _ _ _ _=>i
def AB.x:AB->ByteArray|.mk _ _ _ t _ _ _=>t
def AB.H:AB->AF|.mk _ _ _ _ h _ _=>h
def AB.W:AB->List AB|.mk _ _ _ _ _ f _=>f
def AB.R:AB->List AP|.mk _ _ _ _ _ _ r=>r
def AP.H:AP->AF|.mk h _=>h
def AP.cells:AP->List cr|.mk _ c=>c
def cr.id:cr->Int|.mk i _ _=>i
def cr.H:cr->AF|.mk _ h _=>h
def cr.W:cr->List AB|.mk _ _ f=>f
theorem AB.q8(x:AB):x.e=.agg [AA x.k,AA x.code,AA x.id,.str x.x,AU x.H.Q,AA x.H.I,AA x.H.move,Ax x.H.Y,Ai x.H.Z,AK x.W,Aw x.R]:=by
 cases x;simp[AB.e,AF.g,AB.encL_eq,AP.encL_eq];exact⟨rfl,rfl,rfl,rfl,rfl,rfl,rfl,rfl,rfl,rfl,rfl⟩
theorem AP.q8(x:AP):x.e=.agg [AU x.H.Q,AA x.H.I,AA x.H.move,Ax x.H.Y,Ai x.H.Z,BZ x.cells]:=by
 cases x;simp[AP.e,AF.g,cr.encL_eq];exact⟨rfl,rfl,rfl,rfl,rfl,rfl⟩
theorem cr.q8(x:cr):x.e=.agg [AA x.id,AU x.H.Q,AA x.H.I,AA x.H.move,Ax x.H.Y,Ai x.H.Z,AK x.W]:=by
 cases x;simp[cr.e,AF.g,AB.encL_eq];exact⟨rfl,rfl,rfl,rfl,rfl,rfl,rfl⟩
def Bh(s:ByteArray):Nat->List Int
 | 0=>[]
 | k+1=>if EQ (An s k)then Bh s k++[(k:Int)]else Bh s k
theorem Dt(s:ByteArray):∀k,(Bh s k).length=Ar s k
 | 0=>rfl
 | k+1=>by simp only[Bh,Ar];split<;>simp[Dt s k]
theorem iA(s:ByteArray)(hs:s.size<=1048576):PC 313 [.str s] (.i 1 ((Bh s s.size++[(s.size:Int)]).map AA) false):=by
 intro h n;refine gq func313 rfl λg=>?_;simp[go_sem];refine Av 1 (α:=Nat×Option Nat) (λq=>[(0,.str s),(3,AW 1 q.2 ((Bh s q.1).map AA)),(6,.int .i64 s.size),(7,.int .i64 q.1)]) (λq=>AV q.2 ((Bh s q.1).map AA) h)
  (λq m=>n<=m/\q.1<=s.size/\BR n m 1 q.2 ((Bh s q.1).map AA)) (λq=>s.size-q.1) (0,none) ?_ ?_ AC ?_
 exact⟨qa _,by omega,BR.nil _ _ _⟩;simp[Ao,Bh,AW];rintro⟨k,o⟩ m ⟨d,p,b⟩;dsimp only at p b;have hlen:=Dt s k;have hle:=IB s k;have w1:=wS k (by omega);by_cases c:k<s.size;obtain⟨j,l⟩:=Ed c;have a:=bM (P:=prog) (h0:=h) (e:=AA k) (t:=61) (t2:=61) (el:=3) (by simp[go_sem]) (by simp[go_sem]) (by simp[go_sem]) (by simp) (by simp[go_sem]) (by simp[go_sem]) (by simp;omega) (by simp[go_sem]) b rfl;simp only[SV.cells]at a;simp[go_sem,c,<-l,w1,a,-Int.natCast_add];split;rename_i f;have hc:EQ (An s k)=false:=by simp only[EQ,Bool.not_eq_false',beq_iff_eq];exact f
 have hb:Bh s (k+1)=Bh s k:=by simp[Bh,hc]
 exact⟨k+1,by omega,o,⟨⟨d,by omega,by rw[hb];exact b⟩,by rw[hb];exact⟨IO,IO⟩,by rw[hb];exact AC⟩⟩;rename_i f;have hc:EQ (An s k)=true:=by simp only[EQ,UW,beq_eq_false_iff_ne];exact f
 have hb:Bh s (k+1)=Bh s k++[(k:Int)]:=by simp[Bh,hc]
 refine⟨k+1,by omega,some (m+1),⟨⟨by omega,by omega,?_⟩,⟨?_,IO⟩,?_⟩⟩;rw[hb,qc];exact b.push rfl rfl (by omega) (by omega);rw[hb];simp[AW];rw[hb,qc];exact O2 g d b;have:k=s.size:=by omega
 subst this;have a:=bM (P:=prog) (h0:=h) (e:=AA s.size) (t:=61) (t2:=61) (el:=3) (by simp[go_sem]) (by simp[go_sem]) (by simp[go_sem]) (by simp) (by simp[go_sem]) (by simp[go_sem]) (by simp;omega) (by simp[go_sem]) b rfl;simp only[SV.cells]at a;simp[go_sem,a];refine Yq g (b.push (e:=AA s.size) rfl rfl (Nat.le_succ_of_le d) (qY (m+1))) (O2 g d b) (by simp[AW]) ?_;intro e i;simp at i;rcases i with⟨_,_,rfl⟩|rfl<;>rfl
def Be(s:ByteArray)(u:Int):Int×Int:=
 if A5 s=false then(0,12)else if u<0\/Ar s s.size+1<=u then(0,2)else((Bh s s.size++[(s.size:Int)]).getD u.toNat 0,0)
theorem gh(s:ByteArray)(u:Int)(c:s.size<=1048576):PC 286 [.str s,.int .i64 u] (.tup [.int .i64 (Be s u).1,.int .i64 (Be s u).2]):=by
 intro h n;refine gq func286 rfl λb=>?_;simp[go_sem];refine(Sn s (by omega)).use ?_;by_cases a:A5 s=true;simp[go_sem,a];refine(iA s c).use ?_;by_cases h1:u<0;simp[go_sem,h1];exact As b rfl (by simp[Be,a,h1]);by_cases h2:Ar s s.size+1<=u;simp[go_sem,h1,h2,Dt];exact As b rfl (by simp[Be,a,h1,h2]);have hl:u.toNat<(Bh s s.size++[(s.size:Int)]).length:=by simp[Dt];omega
 have hg:(List.map AA (Bh s s.size)++[AA s.size])[u.toNat]? = some (AA ((Bh s s.size++[(s.size:Int)]).getD u.toNat 0)):=by
  have:List.map AA (Bh s s.size)++[AA s.size]=(Bh s s.size++[(s.size:Int)]).map AA:=by simp
  rw[this,qX,qe hl,Wn,qe hl];rfl
 simp[go_sem,h1,h2,Dt,hg,Int.not_lt.1 h1];exact As b rfl (by simp[Be,a,h1,h2]);simp[go_sem,a];exact As b rfl (by simp[Be,a])
theorem LW(a b c:Int):PC 155 [AA a,AA b,AA c] (.bool (decide (b<=a/\a<=c))):=by
 intro h n;refine gq func155 rfl λd=>?_;by_cases h1:b<=a<;>simp[go_sem,h1];exact As d rfl (by simp[]);exact As d rfl (by simp[])
theorem Ki(b:Bool)(e:Int):PC 87 [.bool b,AA e] (AA (if b then e else 0)):=by
 intro h n;refine gq func87 rfl λa=>?_;cases b<;>simp[go_sem];exact As a rfl rfl;exact As a rfl rfl
def Bc:List Int->Int
 | []=>0
 | e::l=>if e=0 then Bc l else e
theorem RH(l:List Int)(k:Nat)(a:k<l.length):Bc (l.drop k)=if l[k]=0 then Bc (l.drop (k+1))else l[k]:=by
 rw[qQ a,Bc]
theorem Sa(l:List Int)(hl:l.length<=1048576):PC 82 [.i 1 (l.map AA) false] (AA (Bc l)):=by
 intro h n;refine gq func82 rfl λd=>?_;simp[go_sem];refine Av 1 (α:=Nat) (λk=>[(5,.i 1 (l.map AA) false),(6,AA l.length),(7,AA k)]) (λ_=>h) (λk m=>k<=l.length/\n<=m/\Bc l=Bc (l.drop k)) (λk=>l.length-k) 0 ?_ ?_ AC ?_;simp;simp[Ao];rintro k m ⟨hk,c,b⟩;by_cases a:k<l.length;have w1:=wS k (by omega);rw[RH l k a]at b;by_cases h0:l[k]=0;simp[go_sem,a,h0,w1,-Int.natCast_add];exact⟨k+1,by omega,⟨by omega,c,by simpa[h0]using b⟩,IO⟩;simp[go_sem,a,h0];exact As d rfl (by simp[b,h0]);simp[go_sem,a];have:k=l.length:=by omega
 subst this;simp[Bc]at b;exact As d rfl (by rw[b])
def Dc(s:ByteArray):Bool:=decide (1<=s.size/\s.size<=40)&&A5 s
theorem bW(s:ByteArray)(d:s.size<=1099511627776):PC 154 [.str s] (.bool (Dc s)):=by
 intro h n;refine gq func154 rfl λc=>?_;by_cases h1:(1:Int)<=s.size;have a:1<=s.size:=by omega
 by_cases h2:(s.size:Int)<=40;have b:s.size<=40:=by omega
 simp[go_sem,h1,h2];refine(Sn s d).use ?_;simp[go_sem];exact As c rfl (by simp[Dc,a,b]);have b:¬s.size<=40:=by omega
 simp[go_sem,h1,h2];exact As c rfl (by simp[Dc,b]);have a:¬1<=s.size:=by omega
 simp[go_sem,h1];exact As c rfl (by simp[Dc,a])
def Jg(s:ByteArray):Int:=Bc [if !A5 s then 12 else 0,if decide ((1024:Int)<s.size)then 10 else 0]
theorem Zs(s:ByteArray)(b:s.size<=1099511627776):PC 217 [.str s] (AA (Jg s)):=by
 intro h n;refine gq func217 rfl λa=>?_;simp[go_sem];refine(Sn s b).use ?_;simp[go_sem];refine(Ki _ _).use ?_;simp[go_sem];refine(Ki _ _).use ?_;simp[go_sem];refine(Sa [if !A5 s then 12 else 0,if decide ((1024:Int)<s.size)then 10 else 0] (by simp)).lend 2 rfl ?_ ?_;simp[Ag,Fz,h_,Bz,SV.B,SV.cells];simp[go_sem];exact A3 a (AR a (qa _) AC) (by simp[Jg]) rfl
def Gb(F:Nat->Int)(i:Nat):Int:=if ¬(1<=F i/\F i<=1073741824)then 18 else if 0<i/\F i=F (i-1)then 7 else if 0<i/\F i<F (i-1)then 6 else 0
theorem Zo(i:Nat)(hi:i<=1099511627776)(g:FuncId)(a b:List SV)(F:Nat->Int)(m:∀j,j<=i->PC g (a++[AA j]++b) (AA (F j))):PC 152 [AA i,.fn (.func g) a b] (AA (Gb F i)):=by
 intro h n;refine gq func152 rfl λc=>?_;have d:=m i (qa _);have k:=m (i-1) (by omega);simp only[qj,List.singleton_append]at d k;simp[go_sem];refine d.use ?_;simp[go_sem];refine(LW _ _ _).use ?_;by_cases h1:1<=F i/\F i<=1073741824;by_cases h0:0<i;have l:IntKind.i64.wrap ((i:Int)-1)=((i-1:Nat):Int):=by rw[DA]<;>omega
 simp[go_sem,h1,h0];refine d.use ?_;simp[go_sem,l];refine k.use ?_;by_cases h2:F i=F (i-1);simp[go_sem,h2];have e:Gb F i=7:=by unfold Gb;rw[if_neg (by simpa using h1),if_pos ⟨h0,h2⟩]
 exact As c rfl (by rw[e]);simp[go_sem,h2,h0];refine d.use ?_;simp[go_sem,l];refine k.use ?_;by_cases f:F i<F (i-1);simp[go_sem,f];exact As c rfl (by simp[Gb,h1,h0,h2,f]);simp[go_sem,f];exact As c rfl (by simp[Gb,h1,h0,h2,f]);simp[go_sem,h1,h0];exact As c rfl (by simp[Gb,h1,h0]);simp[go_sem,h1];exact As c rfl (by simp[Gb,h1])
def CD(F:Nat->Int):Nat->Int
 | 0=>0
 | n+1=>if CD F n=0 then F n else CD F n
theorem EM(F:Nat->Int){k n:Nat}(hk:k<n)(h0:CD F k=0)(h1:F k≠0):CD F n=F k:=by
 induction n with
 | zero=>omega
 | succ n ih=>
  rw[CD];by_cases e:k=n;subst e;simp[h0];have:=ih (by omega);rw[this,if_neg h1]
theorem X9(N:Nat)(hN:N<=1099511627776)(g:FuncId)(a b:List SV)(F:Nat->Int)(l:∀j,j<N->PC g (a++[AA j]++b) (AA (F j))):PC 150 [AA N,.fn (.func g) a b] (AA (CD F N)):=by
 intro h n;refine gq func150 rfl λi=>?_;simp[go_sem];refine Av 1 (α:=Nat) (λk=>[(1,.fn (.func g) a b),(7,AA N),(8,AA k)]) (λ_=>h) (λk m=>k<=N/\n<=m/\CD F k=0) (λk=>N-k) 0 ?_ ?_ AC ?_;simp[CD];simp[Ao];rintro k m ⟨hk,e,d⟩;by_cases c:k<N;have w1:=wS k (by omega);have f:=l k c;simp only[qj,List.singleton_append]at f;simp[go_sem,c];refine f.use ?_;by_cases h0:F k=0;simp[go_sem,h0,w1,-Int.natCast_add];exact⟨k+1,by omega,⟨by omega,e,by simp[CD,d,h0]⟩,IO⟩;simp[go_sem,h0];exact As i rfl (by rw[EM F c d h0]);simp[go_sem,c];have:k=N:=by omega
 subst this;exact As i rfl (by rw[d])
theorem fH(l:List BC)(i:Nat)(hi:i<l.length):PC 153 [AA i,.q [BE l]] (AA (l[i]).id):=by
 intro h n;refine gq func153 rfl λa=>?_;simp[go_sem,hi,BC.e];exact As a rfl rfl
def IQ(l:List BC)(i:Nat):Int:=match l[i]? with
 | some r=>Bc [Gb (λj=>match l[j]? with|some r=>r.id|none=>0) i,if !Dc r.O then 39 else 0,if !decide (0<=r.time/\r.time<=1099511627776)then 40 else 0]
 | none=>0
theorem fG(l:List BC)(i:Nat)(hi:i<l.length)(hl:l.length<=1048576)(e:∀r∈l,r.O.size<=1048576):PC 151 [AA i,.q [BE l]] (AA (IQ l i)):=by
 intro h n;refine gq func151 rfl λc=>?_;simp[go_sem]
 repeat first|refine nq ?_|refine sq ?_
 have a:=Zo i (by omega) 153 [] [.q [BE l]] (λj=>match l[j]? with|some r=>r.id|none=>0) (λj hj=>by
  have b:j<l.length:=by omega
  simpa[b]using fH l j b)
 refine BX.pure _ _ _ _ _ _ a ?_;simp[go_sem,hi,BC.e]
 repeat first|refine nq ?_|refine sq ?_
 refine BX.pure _ _ _ _ _ _ (bW _ (by have:=e _ (qi hi);omega)) ?_;simp[go_sem]
 repeat first|refine nq ?_|refine sq ?_
 refine BX.pure _ _ _ _ _ _ (Ki _ _) ?_;simp[go_sem,hi,BC.e]
 repeat first|refine nq ?_|refine sq ?_
 refine BX.pure _ _ _ _ _ _ (LW _ _ _) ?_;simp[go_sem]
 repeat first|refine nq ?_|refine sq ?_
 refine BX.pure _ _ _ _ _ _ (Ki _ _) ?_;simp[go_sem]
 repeat first|refine nq ?_|refine sq ?_
 refine BX.lend _ _ _ _ _ _ 2 [n] (Sa [Gb (λj=>match l[j]? with|some r=>r.id|none=>0) i,if !Dc (l[i]).O then 39 else 0,if !decide (0<=(l[i]).time/\(l[i]).time<=1099511627776)then 40 else 0] (by simp)) rfl (by simp) (λh' d=>?_) ?_;have:=d n (by simp);simp[h_]at this;simp[Ag,Fz,this,Bz,SV.B,SV.cells];simp[go_sem]
 repeat first|refine nq ?_|refine sq ?_
 exact A3 c (AR c (qa _) AC) (by simp[IQ,hi]) rfl
def El(l:List BC):Int:=Bc [if decide (256<(l.length:Int))then 9 else 0,CD (IQ l) (min l.length 256)]
theorem c84(l:List BC)(hl:l.length<=1048576)(e:∀r∈l,r.O.size<=1048576):PC 84 [BE l] (AA (El l)):=by
 intro h n;refine gq func84 rfl λd=>?_;simp[go_sem,AD]
 repeat first|refine nq ?_|refine sq ?_
 refine BX.pure _ _ _ _ _ _ (Ki _ _) ?_;have a:(if(256:Int)<(l.length:Int)then(256:Int)else(l.length:Int))=((min l.length 256:Nat):Int):=by split<;>omega
 simp[go_sem,AD,a]
 repeat first|refine nq ?_|refine sq ?_
 have b:=X9 (min l.length 256) (by omega) 151 [] [.q [BE l]] (IQ l) (λj hj=>fG l j (by omega) hl e);refine BX.lend _ _ _ _ _ _ 3 [n] b rfl (by simp) (λh' c=>?_) ?_;have:=c n (by simp);simp[h_]at this;simp[Ag,Fz,this];simp[go_sem]
 repeat first|refine nq ?_|refine sq ?_
 refine BX.lend _ _ _ _ _ _ 2 [n+1] (Sa [if decide (256<(l.length:Int))then 9 else 0,CD (IQ l) (min l.length 256)] (by simp)) rfl (by simp) (λh' c=>?_) ?_;have:=c (n+1) (by simp);simp[h_]at this;simp[Ag,Fz,this,Bz,SV.B,SV.cells];simp[go_sem]
 repeat first|refine nq ?_|refine sq ?_
 exact A3 d (AR d (Zc n) (AR d (qa _) AC)) (by simp[El]) rfl
end Go.Proofs.YtgakninlhfkkmaaGreat.Sh
