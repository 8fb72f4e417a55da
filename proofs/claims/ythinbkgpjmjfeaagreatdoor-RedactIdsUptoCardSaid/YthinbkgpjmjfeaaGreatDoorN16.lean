/- A part of the proof (part 16 of 17). -/
import Derived.Test.YthinbkgpjmjfeaaGreatDoorN15
namespace Go.Proofs.YthinbkgpjmjfeaaGreatDoor.Sh
open Go.Proofs.Tryz
set_option maxRecDepth 10000
set_option maxHeartbeats 4000000
private theorem hat (h:Hp) (j:Nat) (x:Option A9):h_ h j x j=x:=by simp[h_]
private theorem hne' (h:Hp) {j k:Nat} (x:Option A9) (e:k≠j):h_ h j x k=h k:=by simp[h_,e]
section
variable{E:BZ}{P:Program}
theorem Ab.lendMap{f:FuncId}{us bs:List SV}{h:Hp}{n:Nat}{es:List (SV×SV)}{K:SV->Hp->Nat->Prop}(k:Nat)
 (H:BP P f bs (λ_=>none) n (λv h' n'=>∃r,v=.map r/\n<=r/\r<n'/\h' r=some (.map es))) (hp:∀p∈es,Db p.1=true/\Db p.2=true) (hw:AU (Fz h (λ_=>none) k) us bs)
 (hk:∀r n',n<=r->r<n'->K (.map r) (h_ h r (some (.map es))) n'):Ab E P f us h n K:=by
 refine⟨H.1,λc vs _ R F A=>?_⟩;have hs:∀o x,(λ_=>none:Hp) o=some x->h o=some x:=λ_ _ e=>by cases e
 have A':AU (V (c.less λ_=>none)) bs vs:=uj (R:=V c) (S:=Fz h (λ_=>none) k) (T:=V (c.less λ_=>none)) (λa b g h1 h2=>Fz.sound R hs k h2 h1) A hw;refine(H.2 (c.less λ_=>none) vs trivial (R.less hs) F A').mono ?_;rintro e w' ⟨u,v',h',n',c',he,⟨r,rfl,Z,hr2,hr⟩,rfl,hv',R',F',C⟩;have L:∀b,¬(c.less λ_=>none).own b:=λb ⟨o,x,e,_⟩=>by cases e
 obtain⟨B,U,I,g1,g2,g3,hB⟩:=R'.obj r _ hr;have J:c'.own B:=(R'.own2 B).2 ⟨r,_,hr,.inl ⟨0,g1⟩⟩;have hBnew:c.w.heap.size<=B:=by
  rcases vq B c.w.heap.size with q|q;exact absurd J (C.ext.keep B q (L B)).1;exact q
 have W:c.ρ r=none:=F r Z;obtain⟨y,i⟩:∃y:Cx,y={ ρ:=λj=>if j=r then some (B,0)else c.ρ j,own:=λb=>c.own b\/b=B,w:=c'.w,bk:=c.bk }:=⟨_,rfl⟩
 have X:DV c y:=by
  subst i;refine⟨λo p e=>?_,C.ext.size,λb hb z=>⟨λg=>?_,(C.ext.keep b hb (L b)).2⟩,C.ext.room,C.ext.os,C.ext.out,C.ext.td⟩;dsimp only;rw[mw (λg=>by rw[g,W]at e;cases e)];exact e;rcases g with g|g;exact z g;omega
 have G:∀o x,h o=some x->o≠r:=λo x z g=>by
  obtain⟨b,st,m,_⟩:=(R.obj o x z).block;rw[g,W]at m;cases m
 have d:∀o x b,o≠r->(BA y o x b↔BA c o x b):=λo x b D=>by
  subst i;simp only[BA,mw D]
 have s:∀b,BA y r (.map es) b↔b=B:=λb=>by
  subst i;simp only[BA,if_true];constructor;rintro(⟨st,q⟩|⟨q,_⟩);cases q;rfl;cases q;rintro rfl;exact .inl ⟨0,rfl⟩
 have Q:CB (h_ h r (some (.map es))) y:=by
  refine⟨λo x z=>?_,λo O x x' b M N m t=>?_,λb=>?_⟩;by_cases Y:o=r;subst Y;rw[hat]at z;cases z;refine⟨B,U,I,?_,?_,?_,hB⟩;subst i;simp;subst i;exact g2;have:∀{es:List (SV×SV)} {l:List MapEntry},(∀p∈es,Db p.1=true/\Db p.2=true)->AU (λ(p:SV×SV)(e:MapEntry)=>V c' p.1 e.key/\V c' p.2 e.val) es l->AU (λ(p:SV×SV)(e:MapEntry)=>V y p.1 e.key/\V y p.2 e.val) es l:=by
   intro es
   induction es with
   | nil=>intro l _ q;cases l with
    | nil=>trivial
    | cons=>exact q
   | cons p es ih=>intro l hp q;cases l with
    | nil=>exact q
    | cons e l=>exact⟨⟨q.1.1.plain (hp p mr).1,q.1.2.plain (hp p mr).2⟩,ih (λx hx=>hp x (by simp[hx])) q.2⟩
  exact this hp g3;rw[hne' _ _ Y]at z;refine(R.obj o x z).mono X (hk:=by subst i;rfl) λb hb=>?_;have:=(C.ext.keep b ((R.obj o x z).hold_lt hb) (L b)).2;subst i;exact this;by_cases h1:o=r;by_cases h2:O=r;rw[h1,h2];subst h1;rw[hat]at M;cases M;rw[hne' _ _ h2]at N;have m:=(s b).1 m;have t:=(d O x' b h2).1 t;have:=(R.obj O x' N).hold_lt t;omega;by_cases h2:O=r;subst h2;rw[hat]at N;cases N;rw[hne' _ _ h1]at M;have t:=(s b).1 t;have m:=(d o x b h1).1 m;have:=(R.obj o x M).hold_lt m;omega;rw[hne' _ _ h1]at M;rw[hne' _ _ h2]at N;exact R.inj2 o O x x' b M N ((d o x b h1).1 m) ((d O x' b h2).1 t);have z:y.own b↔c.own b\/b=B:=by subst i;rfl
  rw[z,R.own2];constructor;rintro(⟨o,x,m,t⟩|rfl);have D:=G o x m;exact⟨o,x,by rw[hne' _ _ D];exact m,(d o x b D).2 t⟩;exact⟨r,.map es,hat _ _ _,(s _).2 rfl⟩;rintro⟨o,x,m,t⟩;by_cases h1:o=r;subst h1;rw[hat]at m;cases m;exact .inr ((s b).1 t);rw[hne' _ _ h1]at m;exact .inl ⟨o,x,m,(d o x b h1).1 t⟩
 have hv2:V y (.map r) u:=by
  rw[V]at hv' ⊢;obtain⟨b,m,t⟩:=hv';rw[g1]at m;cases m;exact⟨B,by subst i;simp,t⟩
 refine⟨u,.map r,h_ h r (some (.map es)),n',y,he,hk r n' Z hr2,by subst i;rfl,hv2,Q,λj hj=>?_,⟨X,C.le,λj hj=>?_⟩⟩;subst i;dsimp only;rw[mw mq];exact F j (by have:=C.le;omega);subst i;dsimp only;rw[mw mq]
end
open Proofs
def Yh:Tr:=(.pure 1 (.pure 3 (.pure 7 (.pure 8 (.two 0 2 (.one 2 (.one 4 (.pure 5 (.one 6 (.one 9 .nil))))) (.two 0 4 (.one 4 (.pure 5 (.one 6 (.one 9 .nil)))) (.pure 5 (.two 0 6 (.one 6 (.one 9 .nil)) (.one 0 (.one 9 .nil))))))))))
def Yi:Tr:=(.pure 1 (.pure 2 (.pure 3 (.pure 5 (.pure 6 (.two 0 4 (.one 4 (.one 7 .nil)) (.one 0 (.one 7 .nil))))))))
def Yj:Tr:=(.pure 0 (.pure 1 (.pure 2 (.pure 3 (.pure 5 (.pure 6 (.pure 7 (.two 4 8 (.one 8 (.one 9 (.pure 10 (.pure 11 (.one 12 (.pure 13 (.pure 14 (.one 15 .nil)))))))) (.one 4 (.one 9 (.pure 10 (.pure 11 (.one 12 (.pure 13 (.pure 14 (.one 15 .nil))))))))))))))))
theorem O9:∀(l:List By)(i:Int)(m:List (Int×Int))(r:By),Dk (l++[r]) i m=DQ (Dk l i m) r.id (i+l.length+1)
 | [],i,m,r=>by simp[Dk]
 | x::l,i,m,r=>by rw[qB,Dk,Dk,O9 l,qo];congr 1;push_cast;omega
theorem O5:∀(l:List By)(i:Int)(r:By),FM (l++[r]) i=FM l i++[{ r with id:=i+l.length+1 }]
 | [],i,r=>by simp[FM]
 | x::l,i,r=>by rw[qB,FM,FM,O5 l,qo];simp;omega
theorem Of:∀(l:List AR)(i:Int)(m:List (Int×Int))(c:AR),CF (l++[c]) i m=((CF l i m).1++[{ c with id:=i+l.length+1,parent:=Cj (DQ (CF l i m).2 c.id (i+l.length+1)) c.parent }],DQ (CF l i m).2 c.id (i+l.length+1))
 | [],i,m,c=>by simp[CF]
 | x::l,i,m,c=>by
  have e:i+1+(l.length:Int)+1=i+((x::l).length:Int)+1:=by rw[qo];push_cast;omega
  rw[qB,CF,CF,Of l,e];rfl
theorem It:∀(l:List By)(i:Int),(FM l i).length=l.length
 | [],_=>rfl
 | x::l,i=>by rw[FM,qo,It l,qo]
theorem Kh:∀(l:List AR)(i:Int)(m:List (Int×Int)),(CF l i m).1.length=l.length
 | [],_,_=>rfl
 | x::l,i,m=>by rw[CF,qo,Kh l,qo]
def Qn(e:AI):AI:=⟨e.W,e.T0,FM e.V 0,{ e.S with C:=(CF e.S.C 0 [(0,0)]).1 }⟩
def I25(e:AI)(h:Hp)(n:Nat)(a:SV×DA×SV×DA×SV×DA×Hp)(m:Nat):Prop:=
 n+2<=m/\Ha e.W a.1 a.2.1/\Ka 3 (e.V.map By.h) a.2.2.1 a.2.2.2.1/\Ka 6 (e.S.C.map AR.h) a.2.2.2.2.1 a.2.2.2.2.2.1/\(AJ (a.2.1++(a.2.2.2.1++a.2.2.2.2.2.1))).Nodup/\
 (∀k∈AJ (a.2.1++(a.2.2.2.1++a.2.2.2.2.2.1)),n+2<=k/\k<m)/\BF (a.2.1++(a.2.2.2.1++a.2.2.2.2.2.1)) a.2.2.2.2.2.2/\
 a.2.2.2.2.2.2 n=some (.cells (a.1::AO e.T0.Q::AA e.T0.I::AA e.T0.move::AX e.T0.Y::AN e.T0.Z::a.2.2.1::AT e.S.A::Bi e.S.L::a.2.2.2.2.1::CA e.S.vars::[]))/\
 a.2.2.2.2.2.2 (n+1)=some (.cells NX)/\∀j y,h j=some y->a.2.2.2.2.2.2 j=some y
theorem Zr{h' h2:Hp}{v w:SV}(H:∃a,∀K,a<=K->Fz h' h2 K v w):Jd h' h2 [v] [w]:=by
 obtain⟨a,b⟩:=H;exact⟨a,λK h=>⟨b K h,trivial⟩⟩
theorem Ws{h' h2:Hp}{e:AI}{b:List By}{coms:List AR}{g i f:SV}{o1 o2 o3:DA}(h1:Ha e.W g o1)(hr:Ka 3 (b.map By.h) i o2)(o:Ka 6 (coms.map AR.h) f o3)(g1:BF o1 h')(m:BF o2 h')(g3:BF o3 h')
 (n1:∀k∈AJ o1,h2 k=none) (p:∀k∈AJ o2,h2 k=none) (q:∀k∈AJ o3,h2 k=none):
 ∃K,Fz h' h2 K (.agg (g::AO e.T0.Q::AA e.T0.I::AA e.T0.move::AX e.T0.Y::AN e.T0.Z::i::AT e.S.A::Bi e.S.L::f::CA e.S.vars::[]))
  (AI.mk e.W e.T0 b { e.S with C:=coms }).h:=by
 have a1:=Zr (TG h1 g1 n1);have a2:=hr.fz (by intro x c;obtain⟨y,_,rfl⟩:=qa.1 c;exact⟨rfl,rfl⟩) m p;have a3:=o.fz (by intro x c;obtain⟨y,_,rfl⟩:=qa.1 c;exact⟨rfl,rfl⟩) g3 q;obtain⟨d,n⟩:=((((a1.app (ug (a:=[AO e.T0.Q,AA e.T0.I,AA e.T0.move,AX e.T0.Y,AN e.T0.Z]))).app a2).app (ug (a:=[AT e.S.A,Bi e.S.L]))).app a3).app (ug (a:=[CA e.S.vars]));have l:(AI.mk e.W e.T0 b { e.S with C:=coms }).h=.agg ([AH e.W]++[AO e.T0.Q,AA e.T0.I,AA e.T0.move,AX e.T0.Y,AN e.T0.Z]++[.y 3 (b.map By.h) false]++[AT e.S.A,Bi e.S.L]++[.y 6 (coms.map AR.h) false]++[CA e.S.vars]):=by simp[AI.h,AG.j,AQ.j]
 rw[l];exact⟨d+1,.inr (n d (IO _))⟩
theorem w25(d:AI)(hd:d.l)(hn:d.normal.l)(hu:(BG [] (AB.U (AY d.W)++d.T0.all)).length<=1048576)(hb:(Cu 0 d.normal.W).2<=1099511627776){K N:Nat}(hK:K<=1048576)
 (he:d.normal.renum.l) (hl:lim AG.l K N d.normal.renum.W) (hmet:(HY N d.normal.renum).length<=1048576) (hE:(Qn d.normal.renum).l)
 (hrk:(IT (MS (FD (DS (HY N d.normal.renum))).2 (Dk d.normal.renum.V 0 [(0,0)])) N (Qn d.normal.renum) ((CF d.normal.renum.S.C 0 [(0,0)]).2,[])).2.2.length<=1099511627776)
 (hY:(Jg N d.normal.renum).l) (hZ:(Jg N d.normal.renum).normal.l) (hW:(BG [] (AB.U (AY (Jg N d.normal.renum).W)++(Jg N d.normal.renum).T0.all)).length<=1048576):PC 25 [d.h] (Jh N d).h:=by
 intro h n;refine FF func25 rfl λho=>?_;have hHb:=ho.lt;have h74:=n74 d hd hn hu hb;obtain⟨X,hX⟩:∃X:Hp,X=h_ (h_ h n (some (.cells ([AH d.W]++d.T0.j++[BV d.V]++d.S.j)))) (n+1) (some (.cells NX)):=⟨_,rfl⟩
 refine Bc 2 [(1,.ptr n 0),(2,.ptr (n+1) 0)] X (λm=>n+2=m) ?_ (λm hm=>?_)
 . rw[hX];simp[go_sem,AI.h,qq,Or,SV.cells,AG.j,AQ.j]
   done
 subst hm;have hx:X n=some (.cells ([AH d.W]++d.T0.j++[BV d.V]++d.S.j)):=by rw[hX,AD _ _ mq,AE]
 have hy:X (n+1)=some (.cells NX):=by rw[hX,AE]
 have hXo:∀j y,h j=some y->X j=some y:=λj y e=>by have:=hHb j y e;rw[hX,AD _ _ mq,AD _ _ mq];exact e
 clear hX;have hnn:n+1≠n:=by omega
 have hgoal:Jh N d=(Jg N d.normal.renum).normal:=rfl;rw[hgoal];have hP:Jg N d.normal.renum=(IT (MS (FD (DS (HY N d.normal.renum))).2 (Dk d.normal.renum.V 0 [(0,0)])) N (Qn d.normal.renum) ((CF d.normal.renum.S.C 0 [(0,0)]).2,[])).1:=rfl;generalize d.normal.renum=e at *;refine DH 0 (α:=SV×DA×SV×DA×SV×DA×Hp) (λ_=>[(1,.ptr n 0),(2,.ptr (n+1) 0)]) (λa=>a.2.2.2.2.2.2) (λa m=>I25 e h n a m) ?_ (λa m hm=>?_);simp[go_sem,hx,AG.j,AQ.j];refine wL (by simpa[AI.h,AG.j,AQ.j]using h74) ?_;rintro v h1 n1 ⟨hn1,ob,⟨vf,o1,vr,o2,vc,o3,rfl,rfl,hL1,hL2,hL3⟩,hnd,hks,hh⟩;have hx1:=wg (_L:=Ha []) (_v:=vc) hks hh (show n<n+2 by omega) hx;have hy1:=wg (_L:=Ha []) (_v:=vc) hks hh (show n+1<n+2 by omega) hy;have hL2':IN 3 _ _ vr o2:=hL2;have hL3':IN 6 _ _ vc o3:=hL3;obtain⟨s1,s2⟩:=hL1.st;obtain⟨s3,s4⟩:=hL2'.st;obtain⟨s5,s6⟩:=hL3'.st;unfold SV.B at s1 s3 s5;unfold SV.cells at s2 s4 s6;simp[go_sem,hx1,AG.j,AQ.j];refine⟨vf,o1,vr,o2,vc,o3,_,⟨hn1,hL1,hL2,hL3,hnd,hks,λp hp=>?_,AE _ _ _,by dsimp only;rw[AD _ _ hnn];exact hy1,λj y e=>?_⟩,AC⟩;have:=hks p.1 (qa.2 ⟨p,hp,rfl⟩);dsimp only at hp ⊢;rw[AD _ _ mq];exact JP hnd hh p hp;have:=hHb j y e;dsimp only;rw[AD _ _ mq];exact wg (_L:=Ha []) (_v:=vc) hks hh mq (hXo j y e);obtain⟨vf,o1,vr,o2,vc,o3,hh⟩:=a;obtain⟨hnm,hL1,hL2,hL3,hnd,hks,hob,hx1,hy1,BA⟩:=hm;dsimp only at hnm hL1 hL2 hL3 hnd hks hob hx1 hy1 BA ⊢;have hL2':IN 3 _ _ vr o2:=hL2;have hL3':IN 6 _ _ vc o3:=hL3;obtain⟨s1,s2⟩:=hL1.st;obtain⟨s3,s4⟩:=hL2'.st;obtain⟨s5,s6⟩:=hL3'.st;unfold SV.B at s1 s3 s5;unfold SV.cells at s2 s4 s6;obtain⟨hob1,hob23⟩:=wI.1 hob;obtain⟨hob2,hob3⟩:=wI.1 hob23;have hks1:∀k∈AJ o1,n+2<=k/\k<m:=λk hk=>hks k (by rw[Ac];exact qz _ hk);have hks2:∀k∈AJ o2,n+2<=k/\k<m:=λk hk=>hks k (by rw[Ac,Ac];exact qx _ (qz _ hk));have hks3:∀k∈AJ o3,n+2<=k/\k<m:=λk hk=>hks k (by rw[Ac,Ac];exact qx _ (qx _ hk));rw[Ac,Ac,qu,qu]at hnd;obtain⟨_,⟨_,_,nd23⟩,nd1⟩:=hnd;obtain⟨mv,hmv⟩:∃mv,mv=(FD (DS (HY N e))).2:=⟨_,rfl⟩
 have has_keep:∀{o:DA} {G G':Hp},BF o G->(∀k∈AJ o,G' k=G k)->BF o G':=fun {o G G'} g q p hp=>by rw[q p.1 (qa.2 ⟨p,hp,rfl⟩)];exact g p hp
 refine DH 0 (α:=Nat×Nat) (λa=>[(1,.ptr n 0),(2,.ptr (n+1) 0),(3,.ptr a.2 0),(4,.ptr (a.2+1) 0)])
  (λa=>h_ (h_ (h_ (h_ hh m (some (.map (EB [(0,0)])))) a.1 (some (.map (EW mv)))) a.2 (some (.cells [.map m]))) (a.2+1) (some (.cells [.map a.1]))) (λa m'=>m<a.1/\a.1<a.2/\m'=a.2+2) ?_ (λa m' hm'=>?_)
 have Gn:h_ hh m (some (.map (EB [(0,0)]))) n=_:=(AD _ _ mq).trans hx1;have keep:∀{o:DA},BF o hh->(∀k∈AJ o,n+2<=k/\k<m)->BF o (h_ hh m (some (.map (EB [(0,0)])))):=λg q=>has_keep g λk hk=>AD _ _ (by have:=q k hk;omega);obtain⟨K0,hK0⟩:=Ws (h':=h_ hh m (some (.map (EB [(0,0)])))) (h2:=λ_=>none) (e:=e) hL1 hL2 hL3 (keep hob1 hks1) (keep hob2 hks2) (keep hob3 hks3) (λ_ _=>rfl) (λ_ _=>rfl) (λ_ _=>rfl);have hkv:EB [(0,0)]=[(AA 0,AA 0)]:=rfl;rw[hkv]at Gn hK0 ⊢;simp[go_sem,Gn,BQ,CY,Ad,AE];refine Ab.lendMap K0 (bs:=[e.h]) (es:=EW mv) (ww (w75 e he hK hl hmet (λ_=>none) (m+1)) ?_) ?_ ⟨hK0,trivial⟩ λr n' h1 h2=>?_;rintro v h' n' ⟨r,rfl,q1,q2,q3,_⟩;exact⟨r,rfl,q1,q2,by rw[hmv];exact q3⟩;intro p hp;obtain⟨x,_,rfl⟩:=qa.1 hp;exact⟨rfl,rfl⟩;simp[go_sem,AE,AD,qq];exact⟨r,n',⟨by omega,by omega,rfl⟩,⟨Or,Or⟩,λo y q=>by simp only[h_]at q ⊢;grind⟩;obtain⟨r,p⟩:=a;obtain⟨hmr,hrp,hmp⟩:=hm';dsimp only at hmr hrp hmp ⊢;subst hmp;obtain⟨B,hB⟩:∃B:Hp,B=h_ (h_ (h_ (h_ hh m (some (.map (EB [(0,0)])))) r (some (.map (EW mv)))) p (some (.cells [.map m]))) (p+1) (some (.cells [.map r])):=⟨_,rfl⟩
 rw[<-hB];have Bo:∀j,j≠m->j≠r->j≠p->j≠p+1->B j=hh j:=λj a b c d=>by rw[hB,AD _ _ d,AD _ _ c,AD _ _ b,AD _ _ a]
 have Bm:B m=some (.map (EB [(0,0)])):=by rw[hB,AD _ _ mq,AD _ _ mq,AD _ _ mq,AE]
 have Br:B r=some (.map (EW mv)):=by rw[hB,AD _ _ mq,AD _ _ mq,AE]
 have Bp:B p=some (.cells [.map m]):=by rw[hB,AD _ _ mq,AE]
 have Bp1:B (p+1)=some (.cells [.map r]):=by rw[hB,AE]
 have Bn:B n=_:=(Bo n mq mq mq mq).trans hx1;have Bn1:B (n+1)=_:=(Bo (n+1) mq mq mq mq).trans hy1;have bo1:BF o1 B:=has_keep hob1 λk hk=>by have:=hks1 k hk;exact Bo k mq mq mq mq
 have bo2:BF o2 B:=has_keep hob2 λk hk=>by have:=hks2 k hk;exact Bo k mq mq mq mq
 have bo3:BF o3 B:=has_keep hob3 λk hk=>by have:=hks3 k hk;exact Bo k mq mq mq mq
 have Bold:∀j y,h j=some y->B j=some y:=λj y q=>by have:=hHb j y q;rw[Bo j mq mq mq mq];exact BA j y q
 have hrl:e.V.length<=1048576:=he.V;have hcl:e.S.C.length<=1048576:=he.set.C;refine AV 0 (α:=Hp) (λ_=>[(1,.ptr n 0),(2,.ptr (n+1) 0),(3,.ptr p 0),(4,.ptr (p+1) 0)]) (λh2=>h2) (λh2 m1=>p+2<=m1/\(∃o2',AJ o2'=AJ o2/\Ka 3 ((FM e.V 0).map By.h) vr o2'/\BF o2' h2)/\h2 m=some (.map (EB (Dk e.V 0 [(0,0)])))/\∀j,j∉AJ o2->j≠m->h2 j=B j) ?_ (λh2 m1 hm1=>?_);rcases hL2 with⟨hd0,⟨z',full,rfl⟩,rfl⟩|⟨jd,full,cs,sub,rfl,rfl,rfl,rfl⟩
 have hd0':e.V=[]:=by simpa using hd0
 refine Bc 0 [(1,.ptr n 0),(2,.ptr (n+1) 0),(3,.ptr p 0),(4,.ptr (p+1) 0),(19,AA 0),(20,AA 0)] B (λm'=>p+2=m') ?_ (λm' hm'=>?_);simp[go_sem,Bn,Or];subst hm';refine AP (Aq 0 (α:=Unit) (λ_=>[(1,.ptr n 0),(2,.ptr (n+1) 0),(3,.ptr p 0),(4,.ptr (p+1) 0),(19,AA 0),(20,AA 0)]) (λ_=>B) (λ_ m'=>p+2=m') (λ_=>0) () rfl (by simp[look,Or]) AC ?_);rintro _ m' rfl;refine AK ?_;simp[go_sem];exact⟨B,⟨⟨by rw[hd0'];exact .inl ⟨rfl,⟨_,_,rfl⟩,rfl⟩,λp hp=>by cases hp⟩,by rw[hd0'];exact Bm,λ_ _=>rfl⟩,AC⟩;have hjd:=hks2 jd (by simp[AJ]);have hBj:B jd=some (.cells ((e.V.map By.h).flatMap SV.cells)):=bo2 (jd,_) mr;obtain⟨W,hW⟩:∃W:Nat->Hp,∀i,W i=h_ (h_ B m (some (.map (EB (Dk (e.V.take i) 0 [(0,0)]))))) jd (some (.cells (((FM (e.V.take i) 0++e.V.drop i).map By.h).flatMap SV.cells))):=⟨_,λ_=>rfl⟩
 have Wj:∀i,W i jd=some (.cells (((FM (e.V.take i) 0++e.V.drop i).map By.h).flatMap SV.cells)):=λi=>by rw[hW,AE]
 have Wm:∀i,W i m=some (.map (EB (Dk (e.V.take i) 0 [(0,0)]))):=λi=>by rw[hW,AD _ _ mq,AE]
 have Wo:∀i j,j≠jd->j≠m->W i j=B j:=λi j hj hj2=>by rw[hW,AD _ _ hj,AD _ _ hj2]
 have W0:W 0=B:=by rw[hW];simp only[vk,FM,Dk,qI,vT];funext j;simp only[h_];grind
 refine Bc 0 [(1,.ptr n 0),(2,.ptr (n+1) 0),(3,.ptr p 0),(4,.ptr (p+1) 0),(19,AA e.V.length),(20,AA 0)] (W 0) (λm'=>p+2=m') ?_ (λm' hm'=>?_);rw[W0];rw[qf]at Bn;simp[go_sem,Bn,Or];subst hm';refine AP (Aq 0 (α:=Nat) (λi=>[(1,.ptr n 0),(2,.ptr (n+1) 0),(3,.ptr p 0),(4,.ptr (p+1) 0),(19,AA e.V.length),(20,AA i)]) W (λi m'=>i<=e.V.length/\p+2<=m') (λi=>e.V.length-i) 0 ⟨qj _,IO _⟩ ?_ AC ?_);simp[go_sem,look,Or];rintro i m' ⟨hi,hm'⟩;by_cases hlt:i<e.V.length;have w1:=wS i mq;obtain⟨x,hx⟩:∃x,e.V[i]=x:=⟨_,rfl⟩
 refine Al 0 [(1,.ptr n 0),(2,.ptr (n+1) 0),(3,.ptr p 0),(4,.ptr (p+1) 0),(19,AA e.V.length),(20,AA i),(21,.bool true)] (W i) m' ?_ (λm3 hm3=>?_);simp[go_sem,Or,hlt];subst hm3;refine Al 0 [(1,.ptr n 0),(2,.ptr (n+1) 0),(3,.ptr p 0),(4,.ptr (p+1) 0),(19,AA e.V.length),(20,AA i)] (W i) m' ?_ (λm3 hm3=>?_);simp[go_sem,Or];subst hm3;refine AV 0 (α:=Unit) (λ_=>[(1,.ptr n 0),(2,.ptr (n+1) 0),(3,.ptr p 0),(4,.ptr (p+1) 0),(19,AA e.V.length),(20,AA i)]) (λ_=>W (i+1)) (λ_ m3=>m'<=m3) (AP ?_) (λ_ m3 hm3=>?_);have Wn:W i n=_:=(Wo i n mq mq).trans Bn;have Wp:W i p=_:=(Wo i p mq mq).trans Bp;obtain⟨P,hP⟩:∃P:List SV,P=((FM (e.V.take i) 0).map By.h).flatMap SV.cells:=⟨_,rfl⟩
 obtain⟨S,hS⟩:∃S:List SV,S=((e.V.drop (i+1)).map By.h).flatMap SV.cells:=⟨_,rfl⟩
 have hPl:P.length=i*3:=by rw[hP,Fe (z:=3) (λe he=>by obtain⟨y,_,rfl⟩:=qa.1 he;rfl),qf,It,vu,vF hi]
 have hlen:(e.V.take i).length=i:=by rw[vu,vF hi]
 have e1:((FM (e.V.take i) 0++e.V.drop i).map By.h).flatMap SV.cells=P++(AA x.id::.str x.O::AA x.time::S):=by
  rw[qA hlt,hx,hP,hS,qc,qH];rfl
 have e2:((FM (e.V.take (i+1)) 0++e.V.drop (i+1)).map By.h).flatMap SV.cells=P++(AA ((i+1:Nat):Int)::.str x.O::AA x.time::S):=by
  rw[qb hlt,hx,O5,hlen,Int.zero_add,hP,hS,qr,qc,qH];rfl
 have e3:Dk (e.V.take (i+1)) 0 [(0,0)]=DQ (Dk (e.V.take i) 0 [(0,0)]) x.id ((i+1:Nat):Int):=by
  rw[qb hlt,hx,O9,hlen,Int.zero_add];rfl
 have Wi:=Wj i;have Wmi:=Wm i;rw[e1]at Wi;obtain⟨q,hq⟩:∃q,q=Dk (e.V.take i) 0 [(0,0)]:=⟨_,rfl⟩
 rw[<-hq]at e3 Wmi;obtain⟨Z,hZ⟩:∃Z:Hp,Z=h_ (W i) m (some (.map (EB (DQ q x.id ((i+1:Nat):Int))))):=⟨_,rfl⟩
 have Wi1:W (i+1)=h_ Z jd (some (.cells (P++(AA ((i+1:Nat):Int)::.str x.O::AA x.time::S)))):=by
  rw[hW (i+1),hZ,hW i,e2,e3];funext j;simp only[h_];grind
 have hlt':(i:Int)<e.V.length:=by omega
 refine Al 0 [(1,.ptr n 0),(2,.ptr (n+1) 0),(3,.ptr p 0),(4,.ptr (p+1) 0),(5,AA i),(19,AA e.V.length),(20,AA i)] (W i) m' ?_ (λm4 hm4=>?_);simp[go_sem,Or];subst hm4;refine AV 0 (α:=Unit) (λ_=>[(1,.ptr n 0),(2,.ptr (n+1) 0),(3,.ptr p 0),(4,.ptr (p+1) 0),(5,AA i),(19,AA e.V.length),(20,AA i)]) (λ_=>Z) (λ_ m4=>m'=m4) (CN Yh rfl mu mu ?_) (λ_ m4 hm4=>?_);rw[hZ];rcases Gp x.id ((i+1:Nat):Int) q 0 with⟨h1,h2,h3⟩|⟨j,h1,h2⟩
 rw[<-h3];simp[go_sem,Yh,Or,Wn,Wp,Wmi,Wi,h1,BQ,hlt',w1,Am hPl,hPl,-Int.natCast_add];rw[qZ]at h1;rw[<-h2];simp[go_sem,Yh,Or,Wn,Wp,Wmi,Wi,h1,BQ,hlt',w1,Am hPl,hPl,-Int.natCast_add];subst hm4;have Zn:=(show Z n=W i n by rw[hZ];exact AD _ _ mq).trans Wn;have Zj:=(show Z jd=W i jd by rw[hZ];exact AD _ _ mq).trans Wi;rw[Wi1];refine AK ?_;simp[go_sem,Or,Zn,Zj,hlt',w1,Av hPl,An hPl,hPl,-Int.natCast_add];refine AK ?_;simp[go_sem,w1,Or,-Int.natCast_add];exact⟨i+1,by omega,⟨by omega,by omega⟩,Or,AC⟩;have:i=e.V.length:=by omega
 subst this;refine AK ?_;have hfin:p+2<=m'/\(∃o2',AJ o2'=AJ [(jd,A9.cells ((e.V.map By.h).flatMap SV.cells))]/\Ka 3 ((FM e.V 0).map By.h) (.sl jd 0 3 (e.V.map By.h).length full) o2'/\BF o2' (W e.V.length))/\W e.V.length m=some (.map (EB (Dk e.V 0 [(0,0)])))/\∀j,j∉AJ [(jd,A9.cells ((e.V.map By.h).flatMap SV.cells))]->j≠m->W e.V.length j=B j:=by
  refine⟨hm',⟨[(jd,.cells (((FM e.V 0).map By.h).flatMap SV.cells))],rfl,.inr ⟨jd,full,_,[],by simp[It],rfl,rfl,rfl⟩,λp hp=>?_⟩,by rw[Wm,qp],λj hj hj2=>Wo _ j (λe=>hj (by simp[AJ,e])) hj2⟩;rw[qw]at hp;subst hp;show W _ jd=_;rw[Wj,qp,vH,qV]
 simp[go_sem];exact⟨W e.V.length,by simpa using hfin,AC⟩;obtain⟨hm1,⟨o2',hk2,hL2n,ho2'⟩,hmp2,hoff2⟩:=hm1;have Dn:h2 n=_:=(hoff2 n (λg=>by have:=hks2 n g;omega) mq).trans Bn;have Dn1:h2 (n+1)=_:=(hoff2 (n+1) (λg=>by have:=hks2 _ g;omega) mq).trans Bn1;have Dr:h2 r=_:=(hoff2 r (λg=>by have:=hks2 r g;omega) mq).trans Br;have Dp:h2 p=_:=(hoff2 p (λg=>by have:=hks2 p g;omega) mq).trans Bp;have Dp1:h2 (p+1)=_:=(hoff2 (p+1) (λg=>by have:=hks2 _ g;omega) mq).trans Bp1;have do1:BF o1 h2:=has_keep bo1 λk hk=>hoff2 k (λg=>nd1 _ hk _ (by simp only[qd];exact .inl g) rfl) (by have:=hks1 k hk;omega);have do3:BF o3 h2:=has_keep bo3 λk hk=>hoff2 k (λg=>nd23 _ g _ hk rfl) (by have:=hks3 k hk;omega);have Dold:∀j y,h j=some y->h2 j=some y:=λj y q=>by have:=hHb j y q;rw[hoff2 j (λg=>by have:=hks2 _ g;omega) mq];exact Bold j y q
 clear hB Bo Bm Br Bp Bp1 Bn Bn1 bo1 bo2 bo3 Bold hoff2;refine Bc 0 [(1,.ptr n 0),(2,.ptr (n+1) 0),(3,.ptr p 0),(4,.ptr (p+1) 0),(6,.ptr (m1+2) 0),(7,.ptr (m1+3) 0)] (h_ (h_ (h_ (h_ h2 m1 (some (.map (EB [(0,0)])))) (m1+1) (some (.map (EB [])))) (m1+2) (some (.cells [.map m1]))) (m1+3) (some (.cells [.map (m1+1)]))) (λm'=>m1+4=m') ?_ (λm' hm'=>?_);have hkv:EB [(0,0)]=[(AA 0,AA 0)]:=rfl;have hkv2:EB []=[]:=rfl;rw[hkv,hkv2];simp[go_sem,BQ,CY,Ad,AE,AD,Or,qq];intro o y q;simp only[h_]at q ⊢;grind;subst hm';obtain⟨C,hC⟩:∃C:Hp,C=h_ (h_ (h_ (h_ h2 m1 (some (.map (EB [(0,0)])))) (m1+1) (some (.map (EB [])))) (m1+2) (some (.cells [.map m1]))) (m1+3) (some (.cells [.map (m1+1)])):=⟨_,rfl⟩
 rw[<-hC];have Co:∀j,j<m1->C j=h2 j:=λj q=>by rw[hC,AD _ _ mq,AD _ _ mq,AD _ _ mq,AD _ _ mq]
 have Cm:C m1=some (.map (EB [(0,0)])):=by rw[hC,AD _ _ mq,AD _ _ mq,AD _ _ mq,AE]
 have Cm1:C (m1+1)=some (.map (EB [])):=by rw[hC,AD _ _ mq,AD _ _ mq,AE]
 have Cm2:C (m1+2)=some (.cells [.map m1]):=by rw[hC,AD _ _ mq,AE]
 have Cm3:C (m1+3)=some (.cells [.map (m1+1)]):=by rw[hC,AE]
 have Cn:C n=_:=(Co n mq).trans Dn;have Cn1:C (n+1)=_:=(Co _ mq).trans Dn1;have Cr:C r=_:=(Co _ mq).trans Dr;have Cp:C p=_:=(Co _ mq).trans Dp;have Cp1:C (p+1)=_:=(Co _ mq).trans Dp1;have Cmm:C m=_:=(Co _ mq).trans hmp2;have co1:BF o1 C:=has_keep do1 λk hk=>Co k (by have:=hks1 k hk;omega);have co2:BF o2' C:=has_keep ho2' λk hk=>Co k (by rw[hk2]at hk;have:=hks2 k hk;omega);have co3:BF o3 C:=has_keep do3 λk hk=>Co k (by have:=hks3 k hk;omega);have Cold:∀j y,h j=some y->C j=some y:=λj y q=>by have:=hHb j y q;rw[Co j mq];exact Dold j y q
 refine AV 0 (α:=Hp) (λ_=>[(1,.ptr n 0),(2,.ptr (n+1) 0),(3,.ptr p 0),(4,.ptr (p+1) 0),(6,.ptr (m1+2) 0),(7,.ptr (m1+3) 0)]) (λh3=>h3) (λh3 m2=>m1+4<=m2/\(∃o3',AJ o3'=AJ o3/\Ka 6 ((CF e.S.C 0 [(0,0)]).1.map AR.h) vc o3'/\BF o3' h3)/\h3 m1=some (.map (EB (CF e.S.C 0 [(0,0)]).2))/\∀j,j∉AJ o3->j≠m1->h3 j=C j) ?_ (λh3 m2 hm2=>?_)
 . rcases hL3 with⟨hd0,⟨z',full,rfl⟩,rfl⟩|⟨jd,full,cs,sub,rfl,rfl,rfl,rfl⟩
   have hd0':e.S.C=[]:=by simpa using hd0
   refine Bc 0 [(1,.ptr n 0),(2,.ptr (n+1) 0),(3,.ptr p 0),(4,.ptr (p+1) 0),(6,.ptr (m1+2) 0),(7,.ptr (m1+3) 0),(46,AA 0),(47,AA 0)] C (λm'=>m1+4=m') ?_ (λm' hm'=>?_);simp[go_sem,Cn,Or];subst hm';refine AP (Aq 0 (α:=Unit) (λ_=>[(1,.ptr n 0),(2,.ptr (n+1) 0),(3,.ptr p 0),(4,.ptr (p+1) 0),(6,.ptr (m1+2) 0),(7,.ptr (m1+3) 0),(46,AA 0),(47,AA 0)]) (λ_=>C) (λ_ m'=>m1+4=m') (λ_=>0) () rfl (by simp[look,Or]) AC ?_);rintro _ m' rfl;refine AK ?_;simp[go_sem];exact⟨C,⟨⟨by rw[hd0'];exact .inl ⟨rfl,⟨_,_,rfl⟩,rfl⟩,λp hp=>by cases hp⟩,by rw[hd0'];exact Cm,λ_ _=>rfl⟩,AC⟩
   . have hjd:=hks3 jd (by simp[AJ]);have hCj:C jd=some (.cells ((e.S.C.map AR.h).flatMap SV.cells)):=co3 (jd,_) mr;obtain⟨W,hW⟩:∃W:Nat->Hp,∀i,W i=h_ (h_ C m1 (some (.map (EB (CF (e.S.C.take i) 0 [(0,0)]).2)))) jd (some (.cells ((((CF (e.S.C.take i) 0 [(0,0)]).1++e.S.C.drop i).map AR.h).flatMap SV.cells))):=⟨_,λ_=>rfl⟩
     have Wj:∀i,W i jd=some (.cells ((((CF (e.S.C.take i) 0 [(0,0)]).1++e.S.C.drop i).map AR.h).flatMap SV.cells)):=λi=>by rw[hW,AE]
     have Wm:∀i,W i m1=some (.map (EB (CF (e.S.C.take i) 0 [(0,0)]).2)):=λi=>by rw[hW,AD _ _ mq,AE]
     have Wo:∀i j,j≠jd->j≠m1->W i j=C j:=λi j hj hj2=>by rw[hW,AD _ _ hj,AD _ _ hj2]
     have W0:W 0=C:=by rw[hW];simp only[vk,CF,qI,vT];funext j;simp only[h_];grind
     refine Bc 0 [(1,.ptr n 0),(2,.ptr (n+1) 0),(3,.ptr p 0),(4,.ptr (p+1) 0),(6,.ptr (m1+2) 0),(7,.ptr (m1+3) 0),(46,AA e.S.C.length),(47,AA 0)] (W 0) (λm'=>m1+4=m') ?_ (λm' hm'=>?_);rw[W0];rw[qf]at Cn;simp[go_sem,Cn,Or];subst hm';refine AP (Aq 0 (α:=Nat) (λi=>[(1,.ptr n 0),(2,.ptr (n+1) 0),(3,.ptr p 0),(4,.ptr (p+1) 0),(6,.ptr (m1+2) 0),(7,.ptr (m1+3) 0),(46,AA e.S.C.length),(47,AA i)]) W (λi m'=>i<=e.S.C.length/\m1+4<=m') (λi=>e.S.C.length-i) 0 ⟨qj _,IO _⟩ ?_ AC ?_);simp[go_sem,look,Or];rintro i m' ⟨hi,hm'⟩;by_cases hlt:i<e.S.C.length
     . have w1:=wS i mq;obtain⟨x,hx⟩:∃x,e.S.C[i]=x:=⟨_,rfl⟩
       refine Al 0 [(1,.ptr n 0),(2,.ptr (n+1) 0),(3,.ptr p 0),(4,.ptr (p+1) 0),(6,.ptr (m1+2) 0),(7,.ptr (m1+3) 0),(46,AA e.S.C.length),(47,AA i),(48,.bool true)] (W i) m' ?_ (λm3 hm3=>?_);simp[go_sem,Or,hlt];subst hm3;refine Al 0 [(1,.ptr n 0),(2,.ptr (n+1) 0),(3,.ptr p 0),(4,.ptr (p+1) 0),(6,.ptr (m1+2) 0),(7,.ptr (m1+3) 0),(46,AA e.S.C.length),(47,AA i)] (W i) m' ?_ (λm3 hm3=>?_);simp[go_sem,Or];subst hm3;refine AV 0 (α:=Unit) (λ_=>[(1,.ptr n 0),(2,.ptr (n+1) 0),(3,.ptr p 0),(4,.ptr (p+1) 0),(6,.ptr (m1+2) 0),(7,.ptr (m1+3) 0),(46,AA e.S.C.length),(47,AA i)]) (λ_=>W (i+1)) (λ_ m3=>m'<=m3) (AP ?_) (λ_ m3 hm3=>?_)
       . have Wn:W i n=_:=(Wo i n mq mq).trans Cn;have Wm2:W i (m1+2)=_:=(Wo i (m1+2) mq mq).trans Cm2;obtain⟨P,hP⟩:∃P:List SV,P=((CF (e.S.C.take i) 0 [(0,0)]).1.map AR.h).flatMap SV.cells:=⟨_,rfl⟩
         obtain⟨S,hS⟩:∃S:List SV,S=((e.S.C.drop (i+1)).map AR.h).flatMap SV.cells:=⟨_,rfl⟩
         have hPl:P.length=i*6:=by rw[hP,Fe (z:=6) (λe he=>by obtain⟨y,_,rfl⟩:=qa.1 he;rfl),qf,Kh,vu,vF hi]
         have hlen:(e.S.C.take i).length=i:=by rw[vu,vF hi]
         obtain⟨q,hq⟩:∃q,q=(CF (e.S.C.take i) 0 [(0,0)]).2:=⟨_,rfl⟩
         obtain⟨c1,hc1⟩:∃c1,c1=Cj (DQ q x.id ((i+1:Nat):Int)) x.parent:=⟨_,rfl⟩
         have e1:(((CF (e.S.C.take i) 0 [(0,0)]).1++e.S.C.drop i).map AR.h).flatMap SV.cells=P++(AA x.id::AA x.parent::.str x.O::AA x.time::.str x.J::.bool x.done::S):=by
          rw[qA hlt,hx,hP,hS,qc,qH];rfl
         have e0:CF (e.S.C.take (i+1)) 0 [(0,0)]=((CF (e.S.C.take i) 0 [(0,0)]).1++[{ x with id:=((i+1:Nat):Int),parent:=c1 }],DQ q x.id ((i+1:Nat):Int)):=by
          rw[qb hlt,hx,Of,hlen,Int.zero_add,hc1,hq];rfl
         have e2:(((CF (e.S.C.take (i+1)) 0 [(0,0)]).1++e.S.C.drop (i+1)).map AR.h).flatMap SV.cells=P++(AA ((i+1:Nat):Int)::AA c1::.str x.O::AA x.time::.str x.J::.bool x.done::S):=by
          rw[e0,hP,hS,qr,qc,qH];rfl
         have e3:(CF (e.S.C.take (i+1)) 0 [(0,0)]).2=DQ q x.id ((i+1:Nat):Int):=by rw[e0]
         have Wi:=Wj i;have Wmi:=Wm i;rw[e1]at Wi;rw[<-hq]at Wmi;obtain⟨Z,hZ⟩:∃Z:Hp,Z=h_ (W i) m1 (some (.map (EB (DQ q x.id ((i+1:Nat):Int))))):=⟨_,rfl⟩
         have Wi1:W (i+1)=h_ Z jd (some (.cells (P++(AA ((i+1:Nat):Int)::AA c1::.str x.O::AA x.time::.str x.J::.bool x.done::S)))):=by
          rw[hW (i+1),hZ,hW i,e2,e3];funext j;simp only[h_];grind
         have hlt':(i:Int)<e.S.C.length:=by omega
         refine Al 0 [(1,.ptr n 0),(2,.ptr (n+1) 0),(3,.ptr p 0),(4,.ptr (p+1) 0),(6,.ptr (m1+2) 0),(7,.ptr (m1+3) 0),(8,AA i),(46,AA e.S.C.length),(47,AA i)] (W i) m' ?_ (λm4 hm4=>?_);simp[go_sem,Or];subst hm4;refine Al 0 [(1,.ptr n 0),(2,.ptr (n+1) 0),(3,.ptr p 0),(4,.ptr (p+1) 0),(6,.ptr (m1+2) 0),(7,.ptr (m1+3) 0),(8,AA i),(9,.ptr jd (i*6)),(46,AA e.S.C.length),(47,AA i)] (W i) m' ?_ (λm4 hm4=>?_);simp[go_sem,Or,Wn,hlt'];subst hm4;refine AV 0 (α:=Unit) (λ_=>[(1,.ptr n 0),(2,.ptr (n+1) 0),(3,.ptr p 0),(4,.ptr (p+1) 0),(6,.ptr (m1+2) 0),(7,.ptr (m1+3) 0),(8,AA i),(9,.ptr jd (i*6)),(46,AA e.S.C.length),(47,AA i)]) (λ_=>Z) (λ_ m4=>m'=m4) (CN Yi rfl mu mu ?_) (λ_ m4 hm4=>?_);rw[hZ];rcases Gp x.id ((i+1:Nat):Int) q 0 with⟨h1,h2,h3⟩|⟨j,h1,h2⟩
         rw[<-h3];simp[go_sem,Yi,Or,Wm2,Wmi,Wi,h1,BQ,w1,Am hPl,hPl,-Int.natCast_add];rw[qZ]at h1;rw[<-h2];simp[go_sem,Yi,Or,Wm2,Wmi,Wi,h1,BQ,w1,Am hPl,hPl,-Int.natCast_add];subst hm4;have Zm2:=(show Z (m1+2)=W i (m1+2)by rw[hZ];exact AD _ _ mq).trans Wm2;have Zm:Z m1=some (.map (EB (DQ q x.id ((i+1:Nat):Int)))):=by rw[hZ,AE]
         have Zj:=(show Z jd=W i jd by rw[hZ];exact AD _ _ mq).trans Wi;rw[Wi1];refine CN Yj rfl mu mu ?_;have hmj:m1≠jd:=by omega
         have d2:∀L:List SV,(P++L).drop (i*6+1+1)=L.drop 2:=λL=>Av hPl 2;have t1:i*6+1+1<=i*6+(S.length+1+1+1+1+1+1):=by omega
         have t2:i*6+1<=i*6+(S.length+1+1+1+1+1+1):=by omega
         have hmj2:m1+2≠jd:=by omega
         rcases GY x.parent (DQ q x.id ((i+1:Nat):Int))with⟨q1,q2⟩|⟨j,q1⟩
         rw[<-hc1]at q2;simp[go_sem,Yj,Or,t1,t2,d2,Zm2,Zm,Zj,q1,q2,BQ,w1,AE,Ad,Av hPl,Ax hPl,An hPl,hPl,-Int.natCast_add];rw[<-hc1]at q1;simp[go_sem,Yj,Or,t1,t2,d2,Zm2,Zm,Zj,q1,BQ,w1,AE,Ad,Av hPl,Ax hPl,An hPl,hPl,-Int.natCast_add]
       refine AK ?_;simp[go_sem,w1,Or,-Int.natCast_add];exact⟨i+1,by omega,⟨by omega,by omega⟩,Or,AC⟩
     have:i=e.S.C.length:=by omega
     subst this;refine AK ?_;have hfin:m1+4<=m'/\(∃o3',AJ o3'=AJ [(jd,A9.cells ((e.S.C.map AR.h).flatMap SV.cells))]/\Ka 6 ((CF e.S.C 0 [(0,0)]).1.map AR.h) (.sl jd 0 6 (e.S.C.map AR.h).length full) o3'/\BF o3' (W e.S.C.length))/\W e.S.C.length m1=some (.map (EB (CF e.S.C 0 [(0,0)]).2))/\∀j,j∉AJ [(jd,A9.cells ((e.S.C.map AR.h).flatMap SV.cells))]->j≠m1->W e.S.C.length j=C j:=by
      refine⟨hm',⟨[(jd,.cells (((CF e.S.C 0 [(0,0)]).1.map AR.h).flatMap SV.cells))],rfl,.inr ⟨jd,full,_,[],by simp[Kh],rfl,rfl,rfl⟩,λp hp=>?_⟩,by rw[Wm,qp],λj hj hj2=>Wo _ j (λe=>hj (by simp[AJ,e])) hj2⟩;rw[qw]at hp;subst hp;show W _ jd=_;rw[Wj,qp,vH,qV]
     simp[go_sem];exact⟨W e.S.C.length,by simpa using hfin,AC⟩
 obtain⟨hm2,⟨o3',hk3,hL3n,ho3'⟩,hmc,hoff3⟩:=hm2;have En:h3 n=_:=(hoff3 n (λg=>by have:=hks3 n g;omega) mq).trans Cn;have En1:h3 (n+1)=_:=(hoff3 (n+1) (λg=>by have:=hks3 _ g;omega) mq).trans Cn1;have Er:h3 r=_:=(hoff3 r (λg=>by have:=hks3 r g;omega) mq).trans Cr;have Ep:h3 p=_:=(hoff3 p (λg=>by have:=hks3 p g;omega) mq).trans Cp;have Ep1:h3 (p+1)=_:=(hoff3 (p+1) (λg=>by have:=hks3 _ g;omega) mq).trans Cp1;have Em:h3 m=_:=(hoff3 m (λg=>by have:=hks3 m g;omega) mq).trans Cmm;have Em1:h3 (m1+1)=_:=(hoff3 (m1+1) (λg=>by have:=hks3 _ g;omega) mq).trans Cm1;have Em2:h3 (m1+2)=_:=(hoff3 (m1+2) (λg=>by have:=hks3 _ g;omega) mq).trans Cm2;have Em3:h3 (m1+3)=_:=(hoff3 (m1+3) (λg=>by have:=hks3 _ g;omega) mq).trans Cm3;have eo1:BF o1 h3:=has_keep co1 λk hk=>hoff3 k (λg=>nd1 _ hk _ (by simp only[qd];exact .inr g) rfl) (by have:=hks1 k hk;omega);have eo2:BF o2' h3:=has_keep co2 λk hk=>by rw[hk2]at hk;exact hoff3 k (λg=>nd23 _ hk _ g rfl) (by have:=hks2 k hk;omega)
 have Eold:∀j y,h j=some y->h3 j=some y:=λj y q=>by have:=hHb j y q;rw[hoff3 j (λg=>by have:=hks3 _ g;omega) mq];exact Cold j y q
 obtain⟨O,hO⟩:∃O:Mx,O=⟨m,r,p,p+1,m1,m1+1,m1+2,m1+3⟩:=⟨_,rfl⟩
 refine Bc 0 [(1,.ptr n 0),(2,.ptr (n+1) 0),(3,.ptr p 0),(4,.ptr (p+1) 0),(6,.ptr (m1+2) 0),(7,.ptr (m1+3) 0),(10,.ptr m2 0)] (h_ h3 m2 (some (.cells [.fn (.func 113) [] [],.fn (.func 114) [] [],.fn (.func 115) [] []]))) (λm'=>m2+1=m') ?_ (λm' hm'=>?_);simp[go_sem];refine qY w46 ?_;simp[go_sem,Or,Ad,AE,SV.cells];subst hm';refine Bc 0 [(1,.ptr n 0),(2,.ptr (n+1) 0),(3,.ptr p 0),(4,.ptr (p+1) 0),(6,.ptr (m1+2) 0),(7,.ptr (m1+3) 0),(10,.ptr m2 0)] (h_ h3 m2 (some (.cells [.fn (.func 113) [] [],.fn (.func 76) [] [.ptr (p+1) 0,.ptr p 0],.fn (.func 115) [] []]))) (λm'=>m2+1=m') ?_ (λm' hm'=>?_);simp[go_sem,Or,Ad,AE,SV.cells];subst hm';refine Bc 0 [(1,.ptr n 0),(2,.ptr (n+1) 0),(10,.ptr m2 0)] (h_ h3 m2 (some (.cells [.fn (.func 113) [] [],.fn (.func 76) [] [.ptr (p+1) 0,.ptr p 0],.fn (.func 77) [] [.ptr (m1+3) 0,.ptr (m1+2) 0]]))) (λm'=>m2+1=m') ?_ (λm' hm'=>?_);simp[go_sem,Or,Ad,AE,SV.cells];subst hm';obtain⟨G,hG⟩:∃G:Hp,G=h_ h3 m2 (some (.cells [.fn (.func 113) [] [],.fn (.func 76) [] [.ptr (p+1) 0,.ptr p 0],.fn (.func 77) [] [.ptr (m1+3) 0,.ptr (m1+2) 0]])):=⟨_,rfl⟩
 have Gm2:G m2=some (.cells [.fn (.func 113) [] [],.fn (.func 76) [] [.ptr (p+1) 0,.ptr p 0],.fn (.func 77) [] [.ptr (m1+3) 0,.ptr (m1+2) 0]]):=by rw[hG,AE]
 have Go:∀j,j≠m2->G j=h3 j:=λj hj=>by rw[hG,AD _ _ hj]
 rw[<-hG];have Gn:G n=_:=(Go n mq).trans En;obtain⟨s0,hs0⟩:∃s0:List (Int×Int)×List (Int×Int),s0=((CF e.S.C 0 [(0,0)]).2,[]):=⟨_,rfl⟩
 obtain⟨rv,hrv⟩:∃rv,rv=Dk e.V 0 [(0,0)]:=⟨_,rfl⟩
 rw[<-hmv,<-hrv,<-hs0]at hP hrk;have hkeys:O.keys=[m1,m1+1,m,r,p,p+1,m1+2,m1+3]:=by rw[hO];rfl
 have hOm:∀k∈O.keys,m<=k/\k<m2:=by
  rw[hkeys];intro k hk;simp only[qe,vG,or_false]at hk;omega
 have hOn:O.keys.Nodup:=by rw[hkeys];simp;omega
 have hstk:∀o y,Lw O mv rv s0 o=some y->h3 o=some y:=λo y q=>by
  simp only[Lw,hO]at q;split at q
  . next g=>cases q;rw[g,hs0];exact hmc
  split at q
  . next g=>cases q;rw[g,hs0];exact Em1
  split at q
  . next g=>cases q;rw[g,hrv];exact Em
  split at q
  . next g=>cases q;rw[g];exact Er
  split at q
  . next g=>cases q;rw[g];exact Ep
  split at q
  . next g=>cases q;rw[g];exact Ep1
  split at q
  . next g=>cases q;rw[g];exact Em2
  split at q
  . next g=>cases q;rw[g];exact Em3
  cases q
 obtain⟨R2,hR2⟩:∃R2:Hp,R2=h_ (Az (Lw O mv rv) s0 h) (n+1) (some (.cells NX)):=⟨_,rfl⟩
 have hst1:∀s o y,Lw O mv rv s o=some y->m<=o/\o<m2:=λs o y q=>by
  refine hOm o (Classical.byContradiction λg=>?_);rw[OB.2 g]at q;cases q
 have hup:∀s o,o<m->Az (Lw O mv rv) s h o=h o:=λs o q=>by
  simp only[Az];cases e1:Lw O mv rv s o with
  | none=>rfl
  | some y=>have:=hst1 s o y e1;omega
 have hsub:∀o y,R2 o=some y->G o=some y:=λo y q=>by
  rw[hR2]at q;by_cases e1:o=n+1;subst e1;rw[AE]at q;rw[Go _ mq,En1];exact q;rw[AD _ _ e1]at q;simp only[Az]at q;cases e2:Lw O mv rv s0 o with
  | none=>
   rw[e2]at q;have:=hHb o y q;rw[Go _ mq];exact Eold o y q
  | some z=>
   rw[e2]at q;cases q;have:=hst1 s0 o _ e2;rw[Go _ mq];exact hstk o _ e2
 have hR2n:∀k,n+2<=k->k<m->R2 k=none:=λk h1 h2=>by
  rw[hR2,AD _ _ mq,hup _ _ h2];cases e1:h k with
  | none=>rfl
  | some y=>have:=hHb k y e1;omega
 have go1:BF o1 G:=has_keep eo1 λk hk=>Go k (by have:=hks1 k hk;omega);have go2:BF o2' G:=has_keep eo2 λk hk=>Go k (by rw[hk2]at hk;have:=hks2 k hk;omega);have go3:BF o3' G:=has_keep ho3' λk hk=>Go k (by rw[hk3]at hk;have:=hks3 k hk;omega);obtain⟨K0,hK0⟩:=Ws (h':=G) (h2:=R2) (e:=e) hL1 hL2n hL3n go1 go2 go3 (λk hk=>hR2n k (hks1 k hk).1 (hks1 k hk).2) (λk hk=>by rw[hk2]at hk;exact hR2n k (hks2 k hk).1 (hks2 k hk).2) (λk hk=>by rw[hk3]at hk;exact hR2n k (hks3 k hk).1 (hks3 k hk).2);have h49:=gS (kr (O:=O) (n0:=m2+1) mv rv (λk hk=>by have:=hOm k hk;omega) hOn hK) (Qn e) hE hE.T0 N hl s0 hrk (H:=R2) (n:=m2+1) (IO _) (λo y q=>by
  have:=hst1 s0 o y q;rw[hR2,AD _ _ mq];simp only[Az];rw[q])
 rw[hO]at h49;dsimp only at h49;rw[<-hO]at h49;have hfin:∀s,Az (Lw O mv rv) s R2 (n+1)=some (.cells NX):=λs=>by
  simp only[Az];cases e1:Lw O mv rv s (n+1)with
  | none=>rw[hR2];exact AE _ _ _
  | some y=>have:=hst1 s _ y e1;omega
 have hfin2:∀s j y,h j=some y->Az (Lw O mv rv) s R2 j=some y:=λs j y q=>by
  have:=hHb j y q;simp only[Az];cases e1:Lw O mv rv s j with
  | none=>show R2 j=_;rw[hR2,AD _ _ mq,hup _ _ mq];exact q
  | some y=>have:=hst1 s _ y e1;omega
 refine AK ?_;simp[go_sem,Gm2,Gn];refine wW (bs:=[.agg [.fn (.func 113) [] [],.fn (.func 76) [] [.ptr (p+1) 0,.ptr p 0],.fn (.func 77) [] [.ptr (m1+3) 0,.ptr (m1+2) 0]],(Qn e).h]) (h2:=R2) K0 hsub ⟨Or,hK0,trivial⟩ ?_;refine qM h49 ?_;rintro v h' n' ⟨rfl,rfl,rfl⟩;rw[<-hP];simp[go_sem];refine qY (c21 _ hY hZ hW) ?_;generalize(Jg N e).normal=z;have hcl:=AI.cl n z;have hen:z.h=.agg [AH z.W,AO z.T0.Q,AA z.T0.I,AA z.T0.move,AX z.T0.Y,AN z.T0.Z,BV z.V,AT z.S.A,Bi z.S.L,Af z.S.C,CA z.S.vars]:=by simp[AI.h,AG.j,AQ.j]
 rw[hen]at hcl;simp[go_sem,hfin,AE,AI.h,AG.j,AQ.j];exact Ny ho hcl λj y q=>by
  have:=hHb j y q;rw[AD _ _ mq];exact hfin2 _ j y q
theorem Mj(a b:List AB):AB.hdL (a++b)=AB.hdL a++AB.hdL b:=by simp only[ub,qH]
theorem Mk(x:AB):AB.hdL [x]=x.hd:=by simp[ub]
theorem Zu(x:AB)(t:ByteArray):(AB.mk x.x x.code x.id t x.H x.W x.R).hd=x.hd:=by cases x;rw[AB.hd,AB.hd];rfl
theorem Sy:∀{N:Nat} {l:List AB},LS N l->(AB.hdL l).length<=21*MM N l
 | 0,_,h=>h.elim
 | N + 1, l, H => by
  have a:∀b:List AF,(∀c∈b,LS N c.W)->(AF.hdL b).length<=21*(b.map λc=>1+MM N c.W).sum:=by
   intro b
   induction b with
   | nil=>intro _;rw[AF.hdL];simp
   | cons c b ih=>
    intro h;have h1:=ih λc a=>h c (by simp[a]);have h2:=Sy (h c mr);rw[AF.hdL,ql,ue,qo,qi,List.sum_cons];omega
  have hr:∀rs:List AL,(∀r∈rs,∀c∈r.cells,LS N c.W)->(AL.hdL rs).length<=rs.length+21*(rs.map λr=>(r.cells.map λc=>1+MM N c.W).sum).sum:=by
   intro rs
   induction rs with
   | nil=>intro _;rw[AL.hdL];simp
   | cons r rs ih=>
    intro h;have h1:=ih λc a=>h c (by simp[a]);have h2:=a r.cells (h r mr);rw[AL.hdL,ql,ud,qo,qi,List.sum_cons,qo];omega
  have hi:∀xs:List AB,(∀x∈xs,Zq N x)->(AB.hdL xs).length<=21*(xs.map λx=>1+MM N x.W+(x.R.map λr=>(r.cells.map λc=>1+MM N c.W).sum).sum).sum:=by
   intro xs
   induction xs with
   | nil=>intro _;rw[AB.hdL];simp
   | cons x xs ih=>
    intro h;have h1:=ih λc a=>h c (by simp[a]);obtain⟨⟨_,g1⟩,d,g3⟩:=h x mr;have h2:=Sy d;have h3:=hr x.R λr hr=>(g3 r hr).2;rw[AB.hdL,ql,uf,qo,ql,qi,List.sum_cons];omega
  exact hi l H.2
theorem Zt(out:List AB)(x:AB):(AB.hdL (Ah out x)).length<=(AB.hdL out).length+x.hd.length:=by
 unfold Ah;split;omega;split;rename_i y a;obtain⟨b,rfl⟩:∃b,out=b++[y]:=by
  rcases List.eq_nil_or_concat out with rfl|⟨b,z,rfl⟩
  simp at a;simp only[List.concat_eq_append]at a ⊢;rw[wt]at a;cases a;exact⟨b,rfl⟩
 split;rw[List.dropLast_concat,Mj,Mj,Mk,Mk];have:(y.zb x.J).hd=y.hd:=Zu y _;rw[this];omega;rw[Mj,Mk];simp;rw[Mj,Mk];simp
theorem RC:∀(l out:List AB),(AB.hdL (l.foldl Ah out)).length<=(AB.hdL out).length+(AB.hdL l).length
 | [],out=>by rw[AB.hdL];simp
 | x::l,out=>by
  have h1:=RC l (Ah out x);have h2:=Zt out x;rw[qL,AB.hdL,ql];omega
section
variable{hp:AG->Prop}{T:Int->Prop}
theorem LV:∀{N:Nat} {l:List AB},wf hp T N l->(AB.hdL (AY l)).length<=(AB.hdL l).length
 | 0,_,h=>h.elim
 | N + 1, l, H => by
  have d:∀b:List AF,(∀c∈b,wf hp T N c.W)->(AF.hdL (b.map AF.N)).length<=(AF.hdL b).length:=by
   intro b
   induction b with
   | nil=>intro _;exact IO _
   | cons c b ih=>
    intro h;have h1:=ih λc a=>h c (by simp[a]);have h2:=LV (h c mr);rw[qi,AF.hdL,AF.hdL,ql,ql,ue,ue,qo,qo,ua];show(AB.hdL (AY c.W)).length+1+_<=_;omega
  have i:∀rs:List AL,(∀r∈rs,∀c∈r.cells,wf hp T N c.W)->(AL.hdL (rs.map AL.N)).length<=(AL.hdL rs).length:=by
   intro rs
   induction rs with
   | nil=>intro _;exact IO _
   | cons r rs ih=>
    intro h;have h1:=ih λc a=>h c (by simp[a]);have h2:=d r.cells (h r mr);rw[qi,AL.hdL,AL.hdL,ql,ql,ud,ud,qo,qo,wZ];show(AF.hdL (r.cells.map AF.N)).length+1+_<=_;omega
  have g:∀xs:List AB,(∀x∈xs,en hp T N x)->(AB.hdL (xs.map AB.N)).length<=(AB.hdL xs).length:=by
   intro xs
   induction xs with
   | nil=>intro _;exact IO _
   | cons x xs ih=>
    intro h;have h1:=ih λc a=>h c (by simp[a]);obtain⟨_,_,_,_,_,f,w⟩:=h x mr;have h2:=LV f;have h3:=i x.R λr hr c a=>((w r hr).2.2 c a).2.2;have e:=Fw λr hr=>(w r hr).2.1;rw[qi,AB.hdL,AB.hdL,ql,ql,uf,uf x,qo,qo,ql,ql,wV,e];show(AB.hdL (AY x.W)).length+(AL.hdL (x.R.map AL.N)).length+1+_<=_;omega
  unfold AY EM;rw[wH];have h1:=RC (l.map AB.N) [];have h2:=g l λx j=>DG.1 H x j;rw[AB.hdL]at h1;simp only[vU,qZ]at h1;omega
end
mutual
theorem dw:∀(x:AB)(c:Int),(Fi c x).2<=c+x.hd.length
 | .mk k co i t h f r,c=>by
  have h1:=QD f (c+1);have h2:=YN r (c+1);rw[Fi,AB.hd,qo,ql];split;dsimp only;push_cast;omega;split;dsimp only;push_cast;omega;dsimp only;push_cast;omega
theorem QD:∀(l:List AB)(c:Int),(Cu c l).2<=c+(AB.hdL l).length
 | [],c=>by rw[Cu];show c<=_;omega
 | x::l,c=>by
  have h1:=dw x c;have h2:=QD l (Fi c x).2;rw[Cu,AB.hdL,ql];dsimp only;push_cast;omega
theorem dx:∀(x:AL)(c:Int),(Ib c x).2<=c+x.hd.length
 | .mk h cs,c=>by
  have h1:=YM cs c;rw[Ib,AL.hd,qo];dsimp only;push_cast;omega
theorem YN:∀(l:List AL)(c:Int),(Do c l).2<=c+(AL.hdL l).length
 | [],c=>by rw[Do];show c<=_;omega
 | x::l,c=>by
  have h1:=dx x c;have h2:=YN l (Ib c x).2;rw[Do,AL.hdL,ql];dsimp only;push_cast;omega
theorem dv:∀(x:AF)(c:Int),(Ia c x).2<=c+x.hd.length
 | .mk i h f,c=>by
  have h1:=QD f (c+1);rw[Ia,AF.hd,qo];dsimp only;push_cast;omega
theorem YM:∀(l:List AF)(c:Int),(Dm c l).2<=c+(AF.hdL l).length
 | [],c=>by rw[Dm];show c<=_;omega
 | x::l,c=>by
  have h1:=dv x c;have h2:=YM l (Ia c x).2;rw[Dm,AF.hdL,ql];dsimp only;push_cast;omega
end
mutual
theorem cJ:∀(x:AB),x.an.length<=x.hd.length
 | .mk k co i t h f r=>by
  have h1:=PY f;have h2:=WE r;rw[AB.an,AB.hd,qo,ql,ql,ql];split;rw[wl];omega;rw[vU];omega
theorem PY:∀(l:List AB),(AB.anL l).length<=(AB.hdL l).length
 | []=>by rw[AB.anL];exact qj _
 | x::l=>by
  have h1:=cJ x;have h2:=PY l;rw[AB.anL,AB.hdL,ql,ql];omega
theorem cK:∀(x:AL),x.an.length<=x.hd.length
 | .mk h cs=>by
  have h1:=WD cs;rw[AL.an,AL.hd,qo];omega
theorem WE:∀(l:List AL),(AL.anL l).length<=(AL.hdL l).length
 | []=>by rw[AL.anL];exact qj _
 | x::l=>by
  have h1:=cK x;have h2:=WE l;rw[AL.anL,AL.hdL,ql,ql];omega
theorem cI:∀(x:AF),x.an.length<=x.hd.length
 | .mk i h f=>by
  have h1:=PY f;rw[AF.an,AF.hd,qo];omega
theorem WD:∀(l:List AF),(AF.anL l).length<=(AF.hdL l).length
 | []=>by rw[AF.anL];exact qj _
 | x::l=>by
  have h1:=cI x;have h2:=WD l;rw[AF.anL,AF.hdL,ql,ql];omega
end
theorem O4:∀(l s:List (Int×Int)),(l.foldl Dx s).length<=s.length+l.length
 | [],_=>IO _
 | a::l,s=>by
  have h1:=O4 l (Dx s a);have h2:(Dx s a).length<=s.length+1:=by unfold Dx RE;split;omega;split<;>simp
  rw[qL,qo];omega
theorem aC{b:List AG}(h:∀x∈b,x.Y.length<=16):(C6 b).length<=17*b.length:=by
 induction b with
 | nil=>simp[C6]
 | cons a b ih=>
  have h1:=ih λx c=>h x (by simp[c]);have h2:=h a mr;have e:C6 (a::b)=a.mvs++C6 b:=by simp[C6]
  rw[e,ql,qo,AG.mvs,qo,qf];omega
theorem S7{hp d:AG->Prop}{K:Nat}:∀{N:Nat} {l:List AB},lim hp K N l->(∀h∈AB.hdL l,d h)->lim d K N l
 | 0,_,h,_=>h.elim
 | N+1,l,H,hh=>by
  obtain⟨a,b,c⟩:=Ca.1 H;refine Ca.2 ⟨a,b,λx j=>?_⟩;have e:∀h∈x.hd,d h:=λh hm=>hh h (by rw[ub,qE];exact⟨x,j,hm⟩);rw[uf]at e;obtain⟨x1,k,m,n⟩:=c x j;refine⟨e _ mr,S7 k λh hm=>e h (by simp[hm]),m,λr hr=>?_⟩;have g:∀h∈r.hd,d h:=λh hm=>e h (by rw[AL.hdL_eq];simp only[qe,qd,qE];exact .inr (.inr ⟨r,hr,hm⟩));rw[ud]at g;obtain⟨u,v,w⟩:=n r hr;refine⟨g _ mr,v,λc i=>?_⟩;have f:∀h∈c.hd,d h:=λh hm=>g h (by rw[AF.hdL_eq];simp only[qe,qE];exact .inr ⟨c,i,hm⟩);rw[ue]at f;exact⟨f _ mr,S7 (w c i).2 λh hm=>f h (by simp[hm])⟩
theorem X9:∀(l:List AB)(c:Int),(Cu c l).1.length=l.length/\Bv (Cu c l).1=Bv l
 | [],c=>by rw[Cu];exact⟨rfl,rfl⟩
 | x::l,c=>by
  obtain⟨h1,h2⟩:=X9 l (Fi c x).2;rw[Cu];refine⟨by simp[h1],?_⟩;simp only[Bv,qi,List.sum_cons]at h2 ⊢;rw[h2,(Rl x c).J]
theorem S8{hp:AG->Prop}{K:Nat}:∀{N:Nat} {l:List AB} (c:Int),lim hp K N l->lim hp K N (Cu c l).1
 | 0,_,_,h=>h.elim
 | N+1,l,c,H=>by
  obtain⟨a,b,q⟩:=Ca.1 H;obtain⟨e1,e2⟩:=X9 l c;refine Ca.2 ⟨by omega,by omega,λy k=>?_⟩;obtain⟨x,t,d,rfl⟩:=Mr k;obtain⟨w,m,n,o⟩:=q x t;refine⟨by rw[(Rl x d).H];exact w,?_,?_,λr hr=>?_⟩;rcases K8 x d with e|⟨g,e⟩
  rw[e];exact m;rw[e];exact S8 g m;rcases K9 x d with e|⟨g,e⟩
  rw[e];exact n;rw[e,Ms];exact n;rcases K9 x d with e|⟨g,e⟩
  rw[e]at hr;exact o r hr;rw[e]at hr;obtain⟨r0,h0,p,rfl⟩:=Mt hr;obtain⟨u,v,z⟩:=o r0 h0;obtain⟨hd,s⟩:=r0;rw[Ib];refine⟨u,by show(Dm p s).1.length<=K;rw[Mp];exact v,λy k=>?_⟩;obtain⟨c0,j,c4,rfl⟩:=Mq k;have:=z c0 j;obtain⟨i,hh,f⟩:=c0;rw[Ia];exact⟨this.1,S8 _ this.2⟩
theorem LZ{hp d:AG->Prop}{K:Nat}{g:AG->AG}{p:Int->Int->Int->Int}{q:Int->Int}(hg:∀x,hp x->d (g x)):∀{N:Nat} {l:List AB},lim hp K N l->lim d K N (AB.gmL g p q l)
 | 0,_,h=>h.elim
 | N + 1, l, H => by
  obtain⟨a,b,c⟩:=Ca.1 H;rw[wM];have e:Bv (l.map (AB.gm g p q))=Bv l:=by
   simp only[Bv,vO];congr 1;exact qF λx _=>by simp only[Function.comp_apply,ws];rfl
  refine Ca.2 ⟨by rw[qf];exact a,by rw[e];exact b,λy j=>?_⟩;obtain⟨x,i,rfl⟩:=qa.1 j;obtain⟨n,o,s,t⟩:=c x i;rw[ws];refine⟨hg _ n,LZ hg o,by show(x.R.map _).length<=K;rw[qf];exact s,λr hr=>?_⟩;obtain⟨r0,h0,rfl⟩:=qa.1 hr;obtain⟨u,v,z⟩:=t r0 h0;rw[wN];refine⟨hg _ u,by show(r0.cells.map _).length<=K;rw[qf];exact v,λc f=>?_⟩;obtain⟨c0,h1,rfl⟩:=qa.1 f;obtain⟨k,m⟩:=z c0 h1;rw[wU];exact⟨hg _ k,LZ hg m⟩
def bh:Tr:=(.pure 0 (.pure 2 (.pure 3 (.pure 4 (.pure 5 (.pure 6 (.pure 8 (.pure 9 (.pure 10 (.pure 11 (.two 1 7 (.one 7 (.one 12 (.one 13 (.one 14 (.one 15 (.pure 16 (.one 17 .nil))))))) (.two 1 12 (.one 12 (.one 13 (.one 14 (.one 15 (.pure 16 (.one 17 .nil)))))) (.two 1 13 (.one 13 (.one 14 (.one 15 (.pure 16 (.one 17 .nil))))) (.two 1 14 (.one 14 (.one 15 (.pure 16 (.one 17 .nil)))) (.one 1 (.one 15 (.pure 16 (.one 17 .nil))))))))))))))))))
section
variable{σ:Type}{st:σ->Nat->Option A9}{n0:Nat}{gH gI:FuncId}{bH bI:List SV}{R:PT σ}{pf:Nat->List AB->Prop}{pi:Nat->AB->Prop}{hp:AG->Prop}{rk:σ->Nat}{top:Nat}
theorem d31(C:ak st n0 113 gH gI [] bH bI R pf pi hp rk top)(hid:∀id l s,R.W id l s=(l,s))
 (hall:∀N x s,pi N x->(R.item x s).2.1=true->pf N (R.item x s).1.W/\(R.item x s).1.R.length<=1048576/\∀r∈(R.item x s).1.R,hp r.H/\r.cells.length<=1048576/\∀c∈r.cells,hp c.H/\pf N c.W):
 ∀N id l s H n,pf N l->rk (Bd R N id l s).2<=top->n0<=n->Sw st s H->BP prog 31 [AH l,.fn (.func gI) [] bI,.fn (.func gH) [] bH] H n (λv h' n'=>v=AH (Bd R N id l s).1/\h'=Az st (Bd R N id l s).2 H/\n'=n)
 | 0=>λid l s H n h=>(C.zero l h).elim
 | N + 1 => fun id l s H n hl ht hn hs => by
  have ih:=d31 C hid hall N;have iu:=NP C.up N;have K:=C.clo;have hfo:=C.flow_ok N id l s hl;rw[hid]at hfo;obtain⟨hfl,hfi⟩:=hfo;dsimp only at hfl hfi;refine FF func31 rfl λho=>?_;have hU:∀s',Hw (Az st s' H) n:=λs'=>K.old s' hn ho;have hUb:∀s' j y,Az st s' H j=some y->j<n:=λs' j y e=>(hU s' j y e).1;have hHb:=ho.lt;obtain⟨Q,hQ⟩:∃Q:Nat->List AB×σ,∀i,Q i=(l.take i).foldl (Dl R (Bd R N)) ([],s):=⟨_,λ_=>rfl⟩
  have hQ0:Q 0=([],s):=by rw[hQ];rfl
  have hQs:∀i x,(h:i<l.length)->l[i]=x->Q (i+1)=Dl R (Bd R N) (Q i) x:=λi x h hx=>by rw[hQ,hQ,Ff _ _ _ _ _ h hx]
  have hQl:Q l.length=Bd R (N+1) id l s:=by rw[hQ,qp];rfl
  have hQn:∀i,(Q i).1.length<=i:=λi=>by rw[hQ];have:=NO (R:=R) (it:=Bd R N) (l.take i) ([],s);simp at this;omega
  have hQt:∀i,rk (Q i).2<=top:=λi=>by
   rw[hQ];exact qC (JR (Oe C.up iu) _ _ i) ht
  clear hQ;refine Al 0 [(0,AH l),(1,.fn (.func gI) [] bI),(2,.fn (.func gH) [] bH)] (Az st s H) n ?_ (λm hm=>?_);simp[go_sem,Or,DF s H hs];subst hm;refine Al 0 [(0,AH l),(1,.fn (.func gI) [] bI),(2,.fn (.func gH) [] bH),(7,.y 0 [] true)] (Az st s H) n ?_ (λm hm=>?_);simp[go_sem,Or];subst hm;refine AV 0 (α:=Option Nat) (λo=>[(7,AZ 11 o ((Q l.length).1.map AB.h))]) (λo=>Ae o ((Q l.length).1.map AB.h) (Az st (Q l.length).2 H)) (λo m=>n<=m/\CD n m 11 o ((Q l.length).1.map AB.h)) ?_ (λo m hm=>?_)
  . refine Al 0 [(0,AH l),(1,.fn (.func gI) [] bI),(2,.fn (.func gH) [] bH),(7,.y 0 [] true),(8,AA 0)] (Az st s H) n ?_ (λm hm=>?_);simp[go_sem,Or];subst hm;refine AP (Aq 0 (α:=Nat×Option Nat) (λq=>[(0,AH l),(1,.fn (.func gI) [] bI),(2,.fn (.func gH) [] bH),(7,AZ 11 q.2 ((Q q.1).1.map AB.h)),(8,AA q.1)])
     (λq=>Ae q.2 ((Q q.1).1.map AB.h) (Az st (Q q.1).2 H)) (λq m=>q.1<=l.length/\n<=m/\CD n m 11 q.2 ((Q q.1).1.map AB.h)) (λq=>l.length-q.1) (0,none) ⟨qj _,IO _,by simp only[hQ0];exact wQ _ _ _⟩ ?_ ?_ ?_)
    simp[go_sem,look,AZ,Or];simp only[hQ0];exact AC;rintro⟨i,o⟩ m1 ⟨hi,hm1,hA⟩;dsimp only at hi hm1 hA ⊢;have hEn:((Q i).1.map AB.h).length<=i:=by rw[qf];exact hQn i
    by_cases hlt:i<l.length
    · have w1 := wS i mq
      obtain⟨x,hx⟩:∃x,l[i]=x:=⟨_,rfl⟩
      have hpi:pi N x:=hfi x (hx▸qn hlt);have hst:=hQs i x hlt hx;have htop:=hQt (i+1);generalize hSi:(Q i).2=si at hst;generalize hEi:(Q i).1.map AB.h=E at hA hEn ⊢;have hXb:∀s' j y,Ae o E (Az st s' H) j=some y->j<m1:=λs'=>Gf (hUb s') hm1 hA;refine Al 0 [(0,AH l),(1,.fn (.func gI) [] bI),(2,.fn (.func gH) [] bH),(7,AZ 11 o E),(8,AA i)] (Ae o E (Az st si H)) m1 ?_ (λm2 hm2=>?_);simp[go_sem,Or,hlt];subst hm2;refine AV 0 (α:=Option Nat) (λo=>[(0,AH l),(1,.fn (.func gI) [] bI),(2,.fn (.func gH) [] bH),(7,AZ 11 o ((Q (i+1)).1.map AB.h)),(8,AA i)]) (λo=>Ae o ((Q (i+1)).1.map AB.h) (Az st (Q (i+1)).2 H)) (λo m=>n<=m/\CD n m 11 o ((Q (i+1)).1.map AB.h)) ?_ (λo m hm=>?_)
      . refine AP ?_;have hci:=C.item N x si (Ae o E (Az st si H)) m1 hpi (by
         rw[hst]at htop;refine qC ?_ htop;unfold Dl;rw[hSi];dsimp only;split;exact qC (C.up.H _ _) (Pf C.up iu _ _);exact IO _) mq (K.has hn hA CV)
        have hok:=C.item_ok N x si hpi;have hal:=hall N x si hpi;rw[K.acc hn hA,K.up2]at hci;have hst':Q (i+1)=if(R.item x si).2.1=true then((Q i).1++[(Qt R (Bd R N) ((R.item x si).1.wHead (R.H (R.item x si).1.H (R.item x si).2.2).1) (R.H (R.item x si).1.H (R.item x si).2.2).2).1],(Qt R (Bd R N) ((R.item x si).1.wHead (R.H (R.item x si).1.H (R.item x si).2.2).1) (R.H (R.item x si).1.H (R.item x si).2.2).2).2)else((Q i).1,(R.item x si).2.2):=by rw[hst,Dl,hSi]
        clear hst hSi;rcases hf:R.item x si with⟨x1,k,s2⟩
        rw[hf]at hci hst' hok hal;dsimp only at hci hst' hok hal;refine Bc 0 [(0,AH l),(1,.fn (.func gI) [] bI),(2,.fn (.func gH) [] bH),(7,AZ 11 o E),(8,AA i),(9,.ptr m1 0),(10,.bool k)] (h_ (Ae o E (Az st s2 H)) m1 (some (.cells [AA x1.x,AA x1.code,AA x1.id,.str x1.J,AO x1.H.Q,AA x1.H.I,AA x1.H.move,AX x1.H.Y,AN x1.H.Z,AH x1.W,Au x1.R]))) (λm3=>m1+1=m3) ?_ (λm3 hm3=>?_);rw[qy,qy]at hci;simp[go_sem,hlt,hx,qy];refine qM (by simpa using hci) ?_;rintro v H' n' ⟨rfl,rfl,rfl⟩;simp[go_sem,Or,AE,Ad];subst hm3;cases k with
        | false=>
         have hst3:Q (i+1)=((Q i).1,s2):=by simpa using hst'
         simp only[hst3,hEi];refine AK ?_;simp[go_sem,Or];exact⟨o,⟨by omega,hA.mono mq⟩,rfl,AW (hXb _) AC⟩
        | true =>
         rw[my rfl]at hst';have hst3:=hst';have hk1:=(hok rfl).1;obtain⟨hkf,hkr1,hkr2⟩:=hal rfl;rcases hh:R.H x1.H s2 with⟨h3,s3⟩
         rw[hh]at hst3;dsimp only at hst3;obtain⟨y,hy⟩:∃y,y=x1.wHead h3:=⟨_,rfl⟩
         rw[<-hy]at hst3;have hit3:rk (Qt R (Bd R N) y s3).2<=top:=by have:=htop;rwa [hst3]at this
         have ht3:rk s3<=top:=qC (Pf C.up iu y s3) hit3;have hB0:∀(s:σ)(z:A9),h_ (Ae o E (Az st s H)) m1 (some z)=Az st s (h_ (Ae o E H) m1 (some z)):=λs z=>by rw[<-K.acc hn hA,K.h_ _ _ mq]
         refine Bc 0 [(0,AH l),(1,.fn (.func gI) [] bI),(2,.fn (.func gH) [] bH),(7,AZ 11 o E),(8,AA i),(9,.ptr m1 0)] (h_ (Ae o E (Az st s2 H)) m1 (some (.cells [AA x1.x,AA x1.code,AA x1.id,.str x1.J,AO x1.H.Q,AA x1.H.I,AA x1.H.move,AX x1.H.Y,AN x1.H.Z,AH x1.W,Au x1.R]))) (λm3=>m1+1=m3) ?_ (λm3 hm3=>?_);simp[go_sem,Or];subst hm3;have hch:=C.H x1.H s2 (h_ (Ae o E (Az st s2 H)) m1 (some (.cells [AA x1.x,AA x1.code,AA x1.id,.str x1.J,AO x1.H.Q,AA x1.H.I,AA x1.H.move,AX x1.H.Y,AN x1.H.Z,AH x1.W,Au x1.R]))) (m1+1) hk1 (by rw[hh];exact ht3) mq (by rw[hB0];exact CV);rw[hh,hB0,K.up2,<-hB0 s2,<-hB0 s3]at hch;dsimp only at hch;refine Bc 0 [(0,AH l),(1,.fn (.func gI) [] bI),(2,.fn (.func gH) [] bH),(7,AZ 11 o E),(8,AA i),(9,.ptr m1 0)] (h_ (Ae o E (Az st s3 H)) m1 (some (.cells [AA y.x,AA y.code,AA y.id,.str y.J,AO y.H.Q,AA y.H.I,AA y.H.move,AX y.H.Y,AN y.H.Z,AH y.W,Au y.R]))) (λm3=>m1+1=m3) ?_ (λm3 hm3=>?_);simp[go_sem,AE];refine qM (by simpa[AG.h,AG.j]using hch) ?_;rintro v H' n' ⟨rfl,rfl,rfl⟩;simp[go_sem,Or,AE,Ad,hy,AB.wHead,AB.x,AB.code,AB.id,AB.J,AB.H,AB.W,AB.R];subst hm3;have hyk:y.W=x1.W/\y.R=x1.R:=by rw[hy];cases x1;exact⟨rfl,rfl⟩
         obtain⟨y2,y3⟩:=hyk;rw[<-y2]at hkf;rw[<-y3]at hkr1 hkr2;clear hch hh hst' hf hci hok hal;have hcf:=ih 0 y.W s3 (h_ (Ae o E (Az st s3 H)) m1 (some (.cells [AA y.x,AA y.code,AA y.id,.str y.J,AO y.H.Q,AA y.H.I,AA y.H.move,AX y.H.Y,AN y.H.Z,AH y.W,Au y.R]))) (m1+1) hkf (qC (Lo C.up iu y.R _) hit3) mq (by rw[hB0];exact CV);rcases hf5:Bd R N 0 y.W s3 with⟨l5,s5⟩
         rw[hf5,hB0,K.up2,<-hB0 s3,<-hB0 s5]at hcf;dsimp only at hcf;have hci5:Qt R (Bd R N) y s3=(.mk y.x y.code y.id y.J y.H l5 (De R (Bd R N) y.R s5).1,(De R (Bd R N) y.R s5).2):=by unfold Qt;rw[hf5]
         rw[hci5]at hit3 hst3;dsimp only at hit3 hst3;refine Bc 0 [(0,AH l),(1,.fn (.func gI) [] bI),(2,.fn (.func gH) [] bH),(7,AZ 11 o E),(8,AA i),(9,.ptr m1 0)] (h_ (Ae o E (Az st s5 H)) m1 (some (.cells [AA y.x,AA y.code,AA y.id,.str y.J,AO y.H.Q,AA y.H.I,AA y.H.move,AX y.H.Y,AN y.H.Z,AH l5,Au y.R]))) (λm3=>m1+1=m3) ?_ (λm3 hm3=>?_);simp[go_sem,AE];refine qM hcf ?_;rintro v H' n' ⟨rfl,rfl,rfl⟩;simp[go_sem,Or,AE,Ad];subst hm3;clear hcf;obtain⟨B,hB⟩:∃B:Hp,B=h_ (Ae o E H) m1 (some (.cells [AA y.x,AA y.code,AA y.id,.str y.J,AO y.H.Q,AA y.H.I,AA y.H.move,AX y.H.Y,AN y.H.Z,AH l5,Au y.R])):=⟨_,rfl⟩
         have hBs:∀s,h_ (Ae o E (Az st s H)) m1 (some (.cells [AA y.x,AA y.code,AA y.id,.str y.J,AO y.H.Q,AA y.H.I,AA y.H.move,AX y.H.Y,AN y.H.Z,AH l5,Au y.R]))=Az st s B:=λs=>by rw[hB0,hB]
         have hBb:∀s' j z,Az st s' B j=some z->j<m1+1:=λs'=>K.ltU mq (λj z e=>by
          rw[hB]at e;by_cases e1:j=m1;omega;rw[AD _ _ e1]at e;have:=Gf hHb hm1 hA j z e;omega) s'
         have hk9:∀s,Az st s B m1=some (.cells [AA y.x,AA y.code,AA y.id,.str y.J,AO y.H.Q,AA y.H.I,AA y.H.move,AX y.H.Y,AN y.H.Z,AH l5,Au y.R]):=λs=>by rw[<-hBs,AE]
         rw[hBs];obtain⟨Rr,hRr⟩:∃Rr:Nat->List AL×σ,∀i,Rr i=(y.R.take i).foldl (E6 R (Bd R N)) ([],s5):=⟨_,λ_=>rfl⟩
         have hRr0:Rr 0=([],s5):=by rw[hRr];rfl
         have hRrs:∀i r,(h:i<y.R.length)->y.R[i]=r->Rr (i+1)=E6 R (Bd R N) (Rr i) r:=λi x h hx=>by rw[hRr,hRr,Ff _ _ _ _ _ h hx]
         have hRrl:Rr y.R.length=De R (Bd R N) y.R s5:=by rw[hRr,qp];rfl
         have hRrn:∀i,(Rr i).1.length<=i:=λi=>by rw[hRr];have:=KL (R:=R) (it:=Bd R N) (y.R.take i) ([],s5);simp at this;omega
         have hRrt:∀i,rk (Rr i).2<=top:=λi=>by rw[hRr];exact qC (JR (N4 C.up iu) _ _ i) hit3
         clear hRr;simp only[hst3,qc,hEi,qi,vN];refine Bc 0 [(0,AH l),(1,.fn (.func gI) [] bI),(2,.fn (.func gH) [] bH),(7,AZ 11 o E),(8,AA i),(9,.ptr m1 0),(11,.y 0 [] true)] (Az st s5 B) (λm3=>m1+1=m3) ?_ (λm3 hm3=>?_);simp[go_sem,Or];subst hm3;refine CH 1 [(0,AH l),(1,.fn (.func gI) [] bI),(2,.fn (.func gH) [] bH),(7,AZ 11 o E),(8,AA i),(9,.ptr m1 0),(11,Au (Rr y.R.length).1)] (Az st (Rr y.R.length).2 B) (λm3=>m1+1<=m3) ?_ (λm3 hm3=>?_)
         . refine Bc 0 [(0,AH l),(1,.fn (.func gI) [] bI),(2,.fn (.func gH) [] bH),(7,AZ 11 o E),(8,AA i),(9,.ptr m1 0),(11,.y 0 [] true),(12,AA 0)] (Az st s5 B) (λm3=>m1+1=m3) ?_ (λm3 hm3=>?_);simp[go_sem,Or];subst hm3;refine AP (Aq 0 (α:=Nat×Option Nat) (λq=>[(0,AH l),(1,.fn (.func gI) [] bI),(2,.fn (.func gH) [] bH),(7,AZ 11 o E),(8,AA i),(9,.ptr m1 0),(11,AZ 6 q.2 ((Rr q.1).1.map AL.h)),(12,AA q.1)])
            (λq=>Ae q.2 ((Rr q.1).1.map AL.h) (Az st (Rr q.1).2 B)) (λq m=>q.1<=y.R.length/\m1+1<=m/\CD (m1+1) m 6 q.2 ((Rr q.1).1.map AL.h)) (λq=>y.R.length-q.1) (0,none) ⟨qj _,IO _,by simp only[hRr0];exact wQ _ _ _⟩ ?_ ?_ ?_)
           simp[go_sem,look,AZ,Or];simp only[hRr0];exact AC;rintro⟨a,o2⟩ m3 ⟨ha,hm3,hA2⟩;dsimp only at ha hm3 hA2 ⊢;have hGn:((Rr a).1.map AL.h).length<=a:=by rw[qf];exact hRrn a
           have hGk:∀s (G:List SV),CD (m1+1) m3 6 o2 G->Ae o2 G (Az st s B) m1=some (.cells [AA y.x,AA y.code,AA y.id,.str y.J,AO y.H.Q,AA y.H.I,AA y.H.move,AX y.H.Y,AN y.H.Z,AH l5,Au y.R]):=λs G hA2=>by
            rw[<-hk9 s];cases o2 with
            | none=>rfl
            | some j=>have:=(hA2.lt j rfl).1;simp only[Ae];rw[AD _ _ mq]
           by_cases halt:a<y.R.length
           · have w2 := wS a mq
             obtain⟨r,hr⟩:∃r,y.R[a]=r:=⟨_,rfl⟩
             obtain⟨g1,g2,g3⟩:=hkr2 r (hr▸qn halt);have hrst:=hRrs a r halt hr;have hrtop:=hRrt (a+1);generalize hSr:(Rr a).2=sr at hrst;generalize hGi:(Rr a).1.map AL.h=G at hA2 hGn ⊢;have hGb:∀s' j z,Ae o2 G (Az st s' B) j=some z->j<m3:=λs'=>Gf (hBb s') hm3 hA2;have hGk:=λs=>hGk s G hA2;refine Al 0 [(0,AH l),(1,.fn (.func gI) [] bI),(2,.fn (.func gH) [] bH),(7,AZ 11 o E),(8,AA i),(9,.ptr m1 0),(11,AZ 6 o2 G),(12,AA a)] (Ae o2 G (Az st sr B)) m3 ?_ (λm' hm'=>?_);simp[go_sem,Or,hGk,halt];subst hm';refine AV 0 (α:=Option Nat) (λo2=>[(0,AH l),(1,.fn (.func gI) [] bI),(2,.fn (.func gH) [] bH),(7,AZ 11 o E),(8,AA i),(9,.ptr m1 0),(11,AZ 6 o2 ((Rr (a+1)).1.map AL.h)),(12,AA a)]) (λo2=>Ae o2 ((Rr (a+1)).1.map AL.h) (Az st (Rr (a+1)).2 B)) (λo2 m=>m1+1<=m/\CD (m1+1) m 6 o2 ((Rr (a+1)).1.map AL.h)) ?_ (λo2 m hm=>?_)
             . refine AP ?_;rw[E6,hSr]at hrst;rcases hh:R.H r.H sr with⟨h4,sr1⟩
               rw[hh]at hrst;dsimp only at hrst;rw[hrst]at hrtop;dsimp only at hrtop;have hct1:rk sr1<=top:=qC (KJ C.up iu r.cells sr1) hrtop;have hch:=C.H r.H sr (Ae o2 G (Az st sr B)) m3 g1 (by rw[hh];exact hct1) mq (K.has mq hA2 CV);rw[hh,K.acc mq hA2,K.up2]at hch;dsimp only at hch;refine Bc 0 [(0,AH l),(1,.fn (.func gI) [] bI),(2,.fn (.func gH) [] bH),(7,AZ 11 o E),(8,AA i),(9,.ptr m1 0),(11,AZ 6 o2 G),(12,AA a),(13,.ptr m3 0)] (h_ (Ae o2 G (Az st sr1 B)) m3 (some (.cells (h4.j++[.y 0 [] true])))) (λm5=>m3+1=m5) ?_ (λm5 hm5=>?_);simp[go_sem,AG.j,hGk,halt,hr,qR];refine qM (by simpa[AG.h,AG.j]using hch) ?_;rintro v H' n' ⟨rfl,rfl,rfl⟩;simp[go_sem,Or,AE,Ad];subst hm5;clear hch hh;obtain⟨B1,hB1⟩:∃B1:Hp,B1=Ae o2 G B:=⟨_,rfl⟩
               have hB1s:∀s,Ae o2 G (Az st s B)=Az st s B1:=λs=>by rw[hB1,K.acc mq hA2]
               have hB1b:∀s' j z,Az st s' B1 j=some z->j<m3:=λs' j z e=>hGb s' j z (by rw[hB1s];exact e);have hB1k:∀s,Az st s B1 m1=some (.cells [AA y.x,AA y.code,AA y.id,.str y.J,AO y.H.Q,AA y.H.I,AA y.H.move,AX y.H.Y,AN y.H.Z,AH l5,Au y.R]):=λs=>by rw[<-hB1s];exact hGk s
               obtain⟨Rc,hRc⟩:∃Rc:Nat->List AF×σ,∀i,Rc i=(r.cells.take i).foldl (Dd R (Bd R N)) ([],sr1):=⟨_,λ_=>rfl⟩
               have hRc0:Rc 0=([],sr1):=by rw[hRc];rfl
               have hRcs:∀i c,(h:i<r.cells.length)->r.cells[i]=c->Rc (i+1)=Dd R (Bd R N) (Rc i) c:=λi x h hx=>by rw[hRc,hRc,Ff _ _ _ _ _ h hx]
               have hRcl:Rc r.cells.length=IF R (Bd R N) r.cells sr1:=by rw[hRc,qp];rfl
               have hRcn:∀i,(Rc i).1.length<=i:=λi=>by rw[hRc];have:=I1 (R:=R) (it:=Bd R N) (r.cells.take i) ([],sr1);simp at this;omega
               have hRct:∀i,rk (Rc i).2<=top:=λi=>by rw[hRc];exact qC (JR (Ln C.up iu) _ _ i) hrtop
               clear hRc;rw[<-hRcl]at hrst;refine CH 3 [(0,AH l),(1,.fn (.func gI) [] bI),(2,.fn (.func gH) [] bH),(7,AZ 11 o E),(8,AA i),(9,.ptr m1 0),(11,AZ 6 o2 G),(12,AA a),(13,.q (h4.j++[BS (Rc r.cells.length).1]))] (Ae o2 G (Az st (Rc r.cells.length).2 B)) (λm5=>m3+1<=m5) ?_ (λm5 hm5=>?_);refine Bc 0 [(0,AH l),(1,.fn (.func gI) [] bI),(2,.fn (.func gH) [] bH),(7,AZ 11 o E),(8,AA i),(9,.ptr m1 0),(11,AZ 6 o2 G),(12,AA a),(13,.ptr m3 0),(14,AA 0)] (h_ (Ae o2 G (Az st sr1 B)) m3 (some (.cells (h4.j++[.y 0 [] true])))) (λm5=>m3+1=m5) ?_ (λm5 hm5=>?_);simp[go_sem,Or];subst hm5;rw[hB1s];refine AP (Aq 0 (α:=Nat×Option Nat) (λq=>[(0,AH l),(1,.fn (.func gI) [] bI),(2,.fn (.func gH) [] bH),(7,AZ 11 o E),(8,AA i),(9,.ptr m1 0),(11,AZ 6 o2 G),(12,AA a),(13,.ptr m3 0),(14,AA q.1)])
                (λq=>Ae q.2 ((Rc q.1).1.map AF.h) (h_ (Az st (Rc q.1).2 B1) m3 (some (.cells (h4.j++[AZ 7 q.2 ((Rc q.1).1.map AF.h)]))))) (λq m=>q.1<=r.cells.length/\m3+1<=m/\CD (m3+1) m 7 q.2 ((Rc q.1).1.map AF.h)) (λq=>r.cells.length-q.1) (0,none) ⟨qj _,IO _,by simp only[hRc0];exact wQ _ _ _⟩ ?_ ?_ ?_)
               simp[go_sem,look,Or];simp only[hRc0,hB1s];exact AC;rintro⟨b,o3⟩ m5 ⟨hb,hm5,hA3⟩;dsimp only at hb hm5 hA3 ⊢;have hDn:((Rc b).1.map AF.h).length<=b:=by rw[qf];exact hRcn b
               have hYb:∀s' z,∀j w,h_ (Az st s' B1) m3 z j=some w->j<m3+1:=λs' z j w e=>by
                by_cases e1:j=m3;omega;rw[AD _ _ e1]at e;have:=hB1b s' j w e;omega
               have hYk:∀s (D:List SV) (z:Option A9),CD (m3+1) m5 7 o3 D->Ae o3 D (h_ (Az st s B1) m3 z) m1=some (.cells [AA y.x,AA y.code,AA y.id,.str y.J,AO y.H.Q,AA y.H.I,AA y.H.move,AX y.H.Y,AN y.H.Z,AH l5,Au y.R]):=λs D z hA3=>by
                rw[<-hB1k s];cases o3 with
                | none=>exact AD _ _ mq
                | some j=>have:=(hA3.lt j rfl).1;simp only[Ae];rw[AD _ _ mq,AD _ _ mq]
               by_cases hblt:b<r.cells.length;have w3:=wS b mq;obtain⟨c,hc⟩:∃c,r.cells[b]=c:=⟨_,rfl⟩
               obtain⟨c1,c2⟩:=g3 c (hc▸qn hblt);have hcst:=hRcs b c hblt hc;have hctop:=hRct (b+1);generalize hSc:(Rc b).2=sc at hcst;generalize hCi:(Rc b).1.map AF.h=D at hA3 hDn ⊢;have hYk:=λs z=>hYk s D z hA3;have hZb:∀s' z,∀j w,Ae o3 D (h_ (Az st s' B1) m3 z) j=some w->j<m5:=λs' z=>Gf (hYb s' z) hm5 hA3;refine Al 0 [(0,AH l),(1,.fn (.func gI) [] bI),(2,.fn (.func gH) [] bH),(7,AZ 11 o E),(8,AA i),(9,.ptr m1 0),(11,AZ 6 o2 G),(12,AA a),(13,.ptr m3 0),(14,AA b)] (Ae o3 D (h_ (Az st sc B1) m3 (some (.cells (h4.j++[AZ 7 o3 D]))))) m5 ?_ (λm' hm'=>?_);simp[go_sem,Or,hYk,halt,hr,qR,hblt];subst hm';refine AV 0 (α:=Option Nat) (λ_=>[(0,AH l),(1,.fn (.func gI) [] bI),(2,.fn (.func gH) [] bH),(7,AZ 11 o E),(8,AA i),(9,.ptr m1 0),(11,AZ 6 o2 G),(12,AA a),(13,.ptr m3 0),(14,AA b)]) (λo3=>Ae o3 ((Rc (b+1)).1.map AF.h) (h_ (Az st (Rc (b+1)).2 B1) m3 (some (.cells (h4.j++[AZ 7 o3 ((Rc (b+1)).1.map AF.h)]))))) (λo3 m=>m3+1<=m/\CD (m3+1) m 7 o3 ((Rc (b+1)).1.map AF.h)) ?_ (λo3 m hm=>?_);refine AP ?_;refine As 1 [(0,AH l),(1,.fn (.func gI) [] bI),(2,.fn (.func gH) [] bH),(7,AZ 11 o E),(8,AA i),(9,.ptr m1 0),(11,AZ 6 o2 G),(12,AA a),(13,.ptr m3 0),(14,AA b),(15,.q ([AA c.id]++c.H.j++[AH c.W]))] (Ae o3 D (h_ (Az st sc B1) m3 (some (.cells (h4.j++[AZ 7 o3 D]))))) m5 ?_ (λm6 hm6=>?_);simp[go_sem,Or,hYk,halt,hr,qR,hblt,hc,vD,AG.j,AE];refine⟨Ap (Ai (hZb _ _) (IO m5)) (AE _ _ _),AW (hZb _ _) (AW (hZb _ _) AC)⟩;rw[Dd,hSc]at hcst;rcases hh:R.H c.H sc with⟨h5,sc1⟩
               rw[hh]at hcst;dsimp only at hcst;rcases hi5:Bd R N c.id c.W sc1 with⟨q5,sc2⟩
               rw[hi5]at hcst;dsimp only at hcst;rw[hcst]at hctop;dsimp only at hctop;have hct1:rk sc1<=top:=by have:=iu c.id c.W sc1;rw[hi5]at this;exact qC this hctop
               obtain⟨B2,hB2⟩:∃B2:Hp,B2=Ae o3 D (h_ B1 m3 (some (.cells (h4.j++[AZ 7 o3 D])))):=⟨_,rfl⟩
               have hB2s:∀s,Ae o3 D (h_ (Az st s B1) m3 (some (.cells (h4.j++[AZ 7 o3 D]))))=Az st s B2:=λs=>by rw[hB2,K.h_ _ _ mq,<-K.acc mq hA3]
               have hch:=C.H c.H sc (Az st sc B2) m6 c1 (by rw[hh];exact hct1) mq CV;rw[hh,K.up2]at hch;dsimp only at hch;have hcf:=ih c.id c.W sc1 (Az st sc1 B2) m6 c2 (by rw[hi5];exact hctop) mq CV;rw[hi5,K.up2]at hcf;dsimp only at hcf;have hk4:∀s,Az st s B2 m3=some (.cells (h4.j++[AZ 7 o3 D])):=λs=>by
                rw[<-hB2s];cases o3 with
                | none=>exact AE _ _ _
                | some j=>have:=(hA3.lt j rfl).1;simp only[Ae];rw[AD _ _ mq,AE]
               have h46:m3≠m6:=by omega
               have h47:m3≠m6+1:=by omega
               rw[hB2s];rw[hcst];simp only[qc,hCi,qi,vN];obtain⟨out,ho1,ho2,ho3,ho4,ho5,ho6⟩:=Ig (X:=h_ (Az st sc2 B2) m6 (some (.cells (AF.mk c.id h5 q5).h.cells))) (h:=h_ (Az st sc2 B1) m3 (some (.cells (h4.j++[AZ 7 o3 D])))) (k:=m6) (p:=m6+1) (t:=169) (t2:=169) (el:=173) (z:=7) (e:=(AF.mk c.id h5 q5).h) ms ms ms mr ms ms ms mq hA3 (AF.E.st _) (AF.E.len _) (AE _ _ _)
                (λj w e=>by
                  have:=hZb sc2 _ j w e;rw[AD _ _ mq,<-hB2s];exact e) (hYb _ _) mq mq
               have hkA:Cg.app (h_ (Az st sc2 B2) m6 (some (.cells (AF.mk c.id h5 q5).h.cells))) (m6+1) out m3=some (.cells (h4.j++[AZ 7 o3 D])):=by
                rw[ho6 m3 h47 (λe=>by have:=(hA3.lt m3 e).1;omega),AD _ _ h46,hk4]
               have fin:=Tu (bn:=some (.cells (h4.j++[AZ 7 (some (m6+1)) (D++[(AF.mk c.id h5 q5).h])]))) (show m6+1≠m3 by omega) ho5;have hce:(AF.mk c.id h5 q5).h.cells=[AA c.id,AO h5.Q,AA h5.I,AA h5.move,AX h5.Y,AN h5.Z,AH q5]:=by rw[vD];rfl
               have hvv:AZ 7 (some (m6+1)) (D++[(AF.mk c.id h5 q5).h])=.sl (m6+1) 0 7 (D.length+1) false:=by simp[AZ]
               rw[hvv]at fin;simp only[Cg.app,hce,AG.j,qB,qI]at hkA fin ho1;refine CN bh rfl mu mu ?_;simp[go_sem,bh,hk4,AG.j];refine⟨?_,?_⟩;refine qM (by simpa[AG.h,AG.j]using hch) ?_;rintro v H' n' ⟨rfl,rfl,rfl⟩;simp[go_sem];refine qM hcf ?_;rintro v H' n' ⟨rfl,rfl,rfl⟩;simp[go_sem];rw[ho1];simp[go_sem,hkA,ho2,ho3];exact⟨some (n'+1),⟨by omega,ho4⟩,by rw[hvv];exact fin⟩;refine qM (by simpa[AG.h,AG.j]using hch) ?_;rintro v H' n' ⟨rfl,rfl,rfl⟩;simp[go_sem,AG.j,hk4];refine⟨?_,?_⟩;refine qM hcf ?_;rintro v H' n' ⟨rfl,rfl,rfl⟩;simp[go_sem];rw[ho1];simp[go_sem,hkA,ho2,ho3];exact⟨some (n'+1),⟨by omega,ho4⟩,by rw[hvv];exact fin⟩;refine qM hcf ?_;rintro v H' n' ⟨rfl,rfl,rfl⟩;simp[go_sem,AG.j,hk4,AD _ _ h46];rw[ho1];simp[go_sem,hkA,ho2,ho3];exact⟨some (n'+1),⟨by omega,ho4⟩,by rw[hvv];exact fin⟩;refine AK ?_;simp[go_sem,w3,Or,-Int.natCast_add];exact⟨b+1,by omega,o3,⟨by omega,hm.1,hm.2⟩,rfl,AC⟩;have hbe:b=r.cells.length:=by omega
               subst hbe;refine AK ?_;simp[go_sem,Or,hYk _ _ _ hA3,halt,hr,qR];refine⟨by omega,WM (Ai (hB1b _) (IO _)) ?_ (WA hA3 (λj h1 h2=>Ai (hB1b _) mq) λj e=>GF j e),λj w e=>?_⟩;cases o3 with
               | none=>exact AE _ _ _
               | some j=>have:=(hA3.lt j rfl).1;simp only[Ae];rw[AD _ _ mq,AE]
               refine GL (hYb _ _) hA3 _ _ ?_;rw[AD _ _ (by have:=hB1b _ j w e;omega)];exact e
               . generalize Rc r.cells.length=rc at hrst ⊢;obtain⟨q2,sr2⟩:=rc;dsimp only at hrst ⊢;rw[hrst];simp only[qc,hGi,qi,vN];refine AK ?_;simp[go_sem,AG.j];have hpush:=hA2.push (j:=m5+1) (m':=m5+1+1) (e:=(AL.mk h4 q2).h) (AL.E.st _) (AL.E.len _) mq mq;rw[Hf (es:=G) (e:=(AL.mk h4 q2).h) (o:=o2) (t:=78) (t2:=78) (el:=171) (z:=6) ms ms ms mr ms ms ms mq hA2 (AL.E.len _) ?a1 ?a2]
                 case a1=>simp[AE,qR,SV.cells,AL.H,AL.cells]
                 case a2=>
                  intro j e;have:=(hA2.lt j e).2;rw[AD _ _ mq];exact GF j e
                 have hlive:=Hd (p:=m5+1) (v:=.sl (m5+1) 0 6 (G.length+1) false) (e:=(AL.mk h4 q2).h) (hBb sr2) mq (hA2.mono (m':=m5) mq) (H:=h_ (Ae o2 G (Az st sr2 B)) m5 (some (.cells [AO h4.Q,AA h4.I,AA h4.move,AX h4.Y,AN h4.Z,BS q2]))) (AW (m:=m5) (λj z e=>by have:=hBb sr2 j z e;omega) (GL (hBb sr2) hA2));have hvv:AZ 6 (some (m5+1)) (G++[(AL.mk h4 q2).h])=.sl (m5+1) 0 6 (G.length+1) false:=by simp[AZ]
                 simp[go_sem];exact⟨some (m5+1),⟨by omega,hpush⟩,hvv.symm,by simpa[Cg.app,SV.cells,qR,AL.H,AL.cells]using hlive⟩
             refine AK ?_;simp[go_sem,w2,Or,-Int.natCast_add];exact⟨a+1,by omega,o2,⟨by omega,hm.1,hm.2⟩,⟨Or,Or⟩,AC⟩
           have hae:a=y.R.length:=by omega
           subst hae;refine AK ?_;simp[go_sem,Or,hGk _ _ hA2];exact⟨by omega,AZ.fz' (λj hj=>Ai (hBb _) hj) hA2 AC,GL (hBb _) hA2⟩
         . rw[hRrl,<-hBs];generalize De R (Bd R N) y.R s5=r9 at hit3 hst3 ⊢;obtain⟨rr,s6⟩:=r9;dsimp only at hit3 hst3 ⊢;refine As 1 [(0,AH l),(1,.fn (.func gI) [] bI),(2,.fn (.func gH) [] bH),(7,AZ 11 o E),(8,AA i),(9,.q [AA y.x,AA y.code,AA y.id,.str y.J,AO y.H.Q,AA y.H.I,AA y.H.move,AX y.H.Y,AN y.H.Z,AH l5,Au rr])] (Ae o E (Az st s6 H)) m3 ?_ (λm4 hm4=>?_);simp[go_sem,Or,AE,Ad];exact⟨Ap (Ai (hXb _) (IO m1)) (AE _ _ _),AW (hXb _) AC⟩;refine AK ?_;simp[go_sem];obtain⟨z,hz⟩:∃z:AB,z=.mk y.x y.code y.id y.J y.H l5 rr:=⟨_,rfl⟩
           have hzc:z.h.cells=[AA y.x,AA y.code,AA y.id,.str y.J,AO y.H.Q,AA y.H.I,AA y.H.move,AX y.H.Y,AN y.H.Z,AH l5,Au rr]:=by rw[hz,qy];rfl
           rw[<-hz];have hpush:=hA.push (j:=m4+1) (m':=m4+1+1) (e:=z.h) (AB.E.st _) (AB.E.len _) mq mq;rw[Hf (es:=E) (e:=z.h) (o:=o) (t:=22) (t2:=22) (el:=80) (z:=11) ms ms ms mr ms ms ms mq hA (AB.E.len _) ?a1 ?a2]
           case a1=>rw[AE,hzc]
           case a2=>
            intro j e;have:=(hA.lt j e).2;rw[AD _ _ mq];exact GF j e
           have hlive:=Hd (p:=m4+1) (v:=.sl (m4+1) 0 11 (E.length+1) false) (e:=z.h) (hUb s6) mq (hA.mono (m':=m4) mq) (H:=h_ (Ae o E (Az st s6 H)) m4 (some (.cells [AA y.x,AA y.code,AA y.id,.str y.J,AO y.H.Q,AA y.H.I,AA y.H.move,AX y.H.Y,AN y.H.Z,AH l5,Au rr]))) (AW (m:=m4) (λj z e=>by have:=hUb s6 j z e;omega) (GL (hUb s6) hA));have hvv:AZ 11 (some (m4+1)) (E++[z.h])=.sl (m4+1) 0 11 (E.length+1) false:=by simp[AZ]
           rw[hzc]at hlive;rw[hzc];simp[go_sem];exact⟨some (m4+1),⟨by omega,hpush⟩,hvv.symm,by simpa[Cg.app]using hlive⟩
      refine AK ?_;simp[go_sem,w1,Or,-Int.natCast_add];exact⟨i+1,by omega,o,⟨by omega,hm.1,hm.2⟩,⟨Or,Or⟩,AC⟩
    have hie:i=l.length:=by omega
    subst hie;refine AK ?_;simp[go_sem];exact⟨o,⟨hm1,hA⟩,rfl,AC⟩
  refine AK ?_;simp[go_sem];rw[hQl]at hm ⊢;exact Re (hU _) hm.2 (λe he=>by obtain⟨x,_,rfl⟩:=qa.1 he;exact AB.cl n x)
end
section
variable{E:BZ}{P:Program}{N:Nat}{code:Code}{Q:CT}{sa:SA}{h h2:Hp}{n:Nat}
theorem ZP(k p:Nat)(t cs':List SV)(r:∀o x,h2 o=some x->h o=some x)(hp:h2 p=some (.cells t))(hw:AU (Fz h h2 k) t cs')(H:GU E P N code Q sa (h_ h2 p (some (.cells cs'))) n):GU E P N code Q sa h n:=by
 refine U6 (IO n) (λc R F=>?_) H;have s:=R.less r;have d:∀o l b,h_ h2 p (some (.cells cs')) o=some l->∃x,h2 o=some x/\(BA (c.less h2) o x b↔BA (c.less h2) o l b):=λo l b e=>by
  by_cases q:o=p;subst q;simp only[h_,if_true]at e;cases e;exact⟨_,hp,by simp[BA,A9.lst]⟩;simp only[h_,mw q]at e;exact⟨l,e,Iff.rfl⟩
 refine⟨c.less h2,rfl,DN R r,⟨λo x e=>?_,λo u x l b w z f i=>?_,λb=>?_⟩,λj B=>F j B,λ_ _=>rfl⟩;by_cases q:o=p;subst q;simp only[h_,if_true]at e;cases e;obtain⟨b,st,arr,e,vs,a1,a2,a3,a4,a5,v⟩:=R.obj o _ (r _ _ hp);exact⟨b,st,arr,e,vs,a1,a2,a3,uj (R:=V c) (S:=Fz h h2 k) (T:=V (c.less h2)) (λa b g g1 m=>Fz.sound R r k m g1) a4 hw,a5,v⟩;simp only[h_,mw q]at e;exact s.obj o x e;obtain⟨y,g1,m⟩:=d o x b w;obtain⟨y',g3,A⟩:=d u l b z;exact s.inj2 o u y y' b g1 g3 (m.2 f) (A.2 i);rw[s.own2];constructor;rintro⟨o,x,f,i⟩;by_cases q:o=p;subst q;rw[hp]at f;cases f;exact⟨o,.cells cs',by simp[h_],by simpa[BA,A9.lst]using i⟩;exact⟨o,x,by simp only[h_,mw q];exact f,i⟩;rintro⟨o,x,f,i⟩;obtain⟨y,g1,m⟩:=d o x b f;exact⟨o,y,g1,m.2 i⟩
end
def B9(e:AI):List SV:=[AH e.W,AO e.T0.Q,AA e.T0.I,AA e.T0.move,AX e.T0.Y,AN e.T0.Z,BV e.V,AT e.S.A,Bi e.S.L,Af e.S.C,CA e.S.vars]
theorem Gq(e:AI):e.h=.agg (B9 e):=by simp[AI.h,B9,AG.j,AQ.j]
theorem lT:(Be prog 68).map (λf=>(f.name == "_",f.type,f.offset))=[(false,3,0),(false,9,1),(false,3,2)]:=by kernel_rfl
theorem gW(x:By):CK prog [AA x.id,.str x.O,AA x.time] [AA x.id,.str x.O,AA x.time] (Be prog 68)=some true:=by
 rw[Ct,lT];cases x;simp[DJ,DZ,go_sem]
theorem gY:(Be prog 71).map (λf=>(f.name == "_",f.type,f.offset))=[(false,3,0),(false,3,1),(false,9,2),(false,3,3),(false,9,4),(false,4,5)]:=by kernel_rfl
theorem ch(x:AR):CK prog [AA x.id,AA x.parent,.str x.O,AA x.time,.str x.J,.bool x.done] [AA x.id,AA x.parent,.str x.O,AA x.time,.str x.J,.bool x.done] (Be prog 71)=some true:=by
 rw[Ct,gY];cases x;simp[DJ,DZ,go_sem]
theorem gZ:(Be prog 88).map (λf=>(f.name == "_",f.type,f.offset))=[(false,9,0),(false,9,1)]:=by kernel_rfl
theorem cj(x:Ge):CK prog [.str x.name,.str x.value] [.str x.name,.str x.value] (Be prog 88)=some true:=by
 rw[Ct,gZ];cases x;simp[DJ,DZ,go_sem]
theorem gX:(Be prog 115).map (λf=>(f.name == "_",f.type,f.offset))=[(false,3,0),(false,3,1),(false,9,2),(false,3,3)]:=by kernel_rfl
theorem cg(x:Cq):CK prog [AA x.format,AA x.start,.str x.template,AA x.restart] [AA x.format,AA x.start,.str x.template,AA x.restart] (Be prog 115)=some true:=by
 rw[Ct,gX];cases x;simp[DJ,DZ,go_sem]
theorem q59(l:List By)(hl:l.length<=1048576):PC 69 [.y 3 (l.map By.h) false,.y 3 (l.map By.h) false] (.bool true):=by
 intro h n;refine gq func69 rfl λc=>?_;simp[go_sem];refine BC 1 (α:=Nat) (λk=>[(0,.y 3 (l.map By.h) false),(1,.y 3 (l.map By.h) false),(12,AA l.length),(13,AA k)]) (λ_=>h) (λk m=>k<=l.length/\n<=m) (λk=>l.length-k) 0 ?_ ?_ AC ?_;simp;simp[look];rintro k m ⟨hk,b⟩;by_cases a:k<l.length
 . have e:=wS k mq;obtain⟨x,d⟩:∃x,l[k]=x:=⟨_,rfl⟩
   simp[go_sem,a,d,By.h]
   repeat first|refine nq ?_|refine sq ?_|refine aq ?_
   refine⟨_,C7 rfl (.inr rfl) mu mu mu rfl rfl (gW x),?_⟩;simp[go_sem]
   repeat first|refine nq ?_|refine sq ?_|refine aq ?_
   simp[go_sem,e,-Int.natCast_add];exact⟨k+1,by omega,⟨by omega,b⟩,Or⟩
 simp[go_sem,a];exact Ar c rfl rfl
theorem q62(l:List AR)(hl:l.length<=1048576):PC 72 [.y 6 (l.map AR.h) false,.y 6 (l.map AR.h) false] (.bool true):=by
 intro h n;refine gq func72 rfl λc=>?_;simp[go_sem];refine BC 1 (α:=Nat) (λk=>[(0,.y 6 (l.map AR.h) false),(1,.y 6 (l.map AR.h) false),(12,AA l.length),(13,AA k)]) (λ_=>h) (λk m=>k<=l.length/\n<=m) (λk=>l.length-k) 0 ?_ ?_ AC ?_;simp;simp[look];rintro k m ⟨hk,b⟩;by_cases a:k<l.length
 . have e:=wS k mq;obtain⟨x,d⟩:∃x,l[k]=x:=⟨_,rfl⟩
   simp[go_sem,a,d,AR.h]
   repeat first|refine nq ?_|refine sq ?_|refine aq ?_
   refine⟨_,C7 rfl (.inr rfl) mu mu mu rfl rfl (ch x),?_⟩;simp[go_sem]
   repeat first|refine nq ?_|refine sq ?_|refine aq ?_
   simp[go_sem,e,-Int.natCast_add];exact⟨k+1,by omega,⟨by omega,b⟩,Or⟩
 simp[go_sem,a];exact Ar c rfl rfl
theorem q63(l:List Ge)(hl:l.length<=1048576):PC 73 [.y 2 (l.map Ge.h) false,.y 2 (l.map Ge.h) false] (.bool true):=by
 intro h n;refine gq func73 rfl λc=>?_;simp[go_sem];refine BC 1 (α:=Nat) (λk=>[(0,.y 2 (l.map Ge.h) false),(1,.y 2 (l.map Ge.h) false),(12,AA l.length),(13,AA k)]) (λ_=>h) (λk m=>k<=l.length/\n<=m) (λk=>l.length-k) 0 ?_ ?_ AC ?_;simp;simp[look];rintro k m ⟨hk,b⟩;by_cases a:k<l.length
 . have e:=wS k mq;obtain⟨x,d⟩:∃x,l[k]=x:=⟨_,rfl⟩
   simp[go_sem,a,d,Ge.h]
   repeat first|refine nq ?_|refine sq ?_|refine aq ?_
   refine⟨_,C7 rfl (.inr rfl) mu mu mu rfl rfl (cj x),?_⟩;simp[go_sem]
   repeat first|refine nq ?_|refine sq ?_|refine aq ?_
   simp[go_sem,e,-Int.natCast_add];exact⟨k+1,by omega,⟨by omega,b⟩,Or⟩
 simp[go_sem,a];exact Ar c rfl rfl
theorem q56(l:List Cq)(hl:l.length<=1048576):PC 66 [.y 4 (l.map Cq.h) false,.y 4 (l.map Cq.h) false] (.bool true):=by
 intro h n;refine gq func66 rfl λc=>?_;simp[go_sem];refine BC 1 (α:=Nat) (λk=>[(0,.y 4 (l.map Cq.h) false),(1,.y 4 (l.map Cq.h) false),(12,AA l.length),(13,AA k)]) (λ_=>h) (λk m=>k<=l.length/\n<=m) (λk=>l.length-k) 0 ?_ ?_ AC ?_;simp;simp[look];rintro k m ⟨hk,b⟩;by_cases a:k<l.length
 . have e:=wS k mq;obtain⟨x,d⟩:∃x,l[k]=x:=⟨_,rfl⟩
   simp[go_sem,a,d,Cq.h]
   repeat first|refine nq ?_|refine sq ?_|refine aq ?_
   refine⟨_,C7 rfl (.inr rfl) mu mu mu rfl rfl (cg x),?_⟩;simp[go_sem]
   repeat first|refine nq ?_|refine sq ?_|refine aq ?_
   simp[go_sem,e,-Int.natCast_add];exact⟨k+1,by omega,⟨by omega,b⟩,Or⟩
 simp[go_sem,a];exact Ar c rfl rfl
theorem q61(l:List FT)(hl:l.length<=1048576)(g:FuncId)(hg:∀x∈l,PC g [x.h,x.h] (.bool true)):PC 71 [.y 2 (l.map FT.h) false,.y 2 (l.map FT.h) false,.fn (.func g) [] []] (.bool true):=by
 intro h n;refine gq func71 rfl λb=>?_;simp[go_sem];refine BC 1 (α:=Nat) (λk=>[(1,.y 2 (l.map FT.h) false),(2,.fn (.func g) [] []),(15,.y 2 (l.map FT.h) false),(16,AA l.length),(17,AA k)]) (λ_=>h) (λk m=>k<=l.length/\n<=m) (λk=>l.length-k) 0 ?_ ?_ AC ?_;simp;simp[look];rintro k m ⟨hk,hnm⟩;by_cases a:k<l.length
 . have d:=wS k mq;obtain⟨x,c⟩:∃x,l[k]=x:=⟨_,rfl⟩
   have H:=hg x (by rw[<-c];exact qn a);rw[FT.h]at H;simp[go_sem,a,c,FT.h,AE,AD];refine qY H ?_;simp[go_sem,d,-Int.natCast_add];exact⟨k+1,by omega,⟨by omega,by omega⟩,Or,by repeat(first|exact AC|refine Aa b mq ?_)⟩
 simp[go_sem,a];exact Ar b rfl rfl
theorem mG(l:List Ao)(hl:l.length<=1048576)(g:FuncId)(hg:∀x∈l,PC g [x.h,x.h] (.bool true)):PC 129 [.y 6 (l.map Ao.h) false,.y 6 (l.map Ao.h) false,.fn (.func g) [] []] (.bool true):=by
 intro h n;refine gq func129 rfl λb=>?_;simp[go_sem];refine BC 1 (α:=Nat) (λk=>[(1,.y 6 (l.map Ao.h) false),(2,.fn (.func g) [] []),(15,.y 6 (l.map Ao.h) false),(16,AA l.length),(17,AA k)]) (λ_=>h) (λk m=>k<=l.length/\n<=m) (λk=>l.length-k) 0 ?_ ?_ AC ?_;simp;simp[look];rintro k m ⟨hk,hnm⟩;by_cases a:k<l.length
 . have d:=wS k mq;obtain⟨x,c⟩:∃x,l[k]=x:=⟨_,rfl⟩
   have H:=hg x (by rw[<-c];exact qn a);rw[Ao.h]at H;simp[go_sem,a,c,Ao.h,AE,AD];refine qY H ?_;simp[go_sem,d,-Int.natCast_add];exact⟨k+1,by omega,⟨by omega,by omega⟩,Or,by repeat(first|exact AC|refine Aa b mq ?_)⟩
 simp[go_sem,a];exact Ar b rfl rfl
theorem mD(l:List AB)(hl:l.length<=1048576)(g:FuncId)(hg:∀x∈l,PC g [x.h,x.h] (.bool true)):PC 124 [.y 11 (l.map AB.h) false,.y 11 (l.map AB.h) false,.fn (.func g) [] []] (.bool true):=by
 intro h n;refine gq func124 rfl λb=>?_;simp[go_sem];refine BC 1 (α:=Nat) (λk=>[(1,.y 11 (l.map AB.h) false),(2,.fn (.func g) [] []),(15,.y 11 (l.map AB.h) false),(16,AA l.length),(17,AA k)]) (λ_=>h) (λk m=>k<=l.length/\n<=m) (λk=>l.length-k) 0 ?_ ?_ AC ?_;simp;simp[look];rintro k m ⟨hk,hnm⟩;by_cases a:k<l.length
 . have d:=wS k mq;obtain⟨x,c⟩:∃x,l[k]=x:=⟨_,rfl⟩
   have H:=hg x (by rw[<-c];exact qn a);rw[qy]at H;simp[go_sem,a,c,qy,AE,AD];refine qY H ?_;simp[go_sem,d,-Int.natCast_add];exact⟨k+1,by omega,⟨by omega,by omega⟩,Or,by repeat(first|exact AC|refine Aa b mq ?_)⟩
 simp[go_sem,a];exact Ar b rfl rfl
theorem mJ(l:List AL)(hl:l.length<=1048576)(g:FuncId)(hg:∀x∈l,PC g [x.h,x.h] (.bool true)):PC 180 [.y 6 (l.map AL.h) false,.y 6 (l.map AL.h) false,.fn (.func g) [] []] (.bool true):=by
 intro h n;refine gq func180 rfl λb=>?_;simp[go_sem];refine BC 1 (α:=Nat) (λk=>[(1,.y 6 (l.map AL.h) false),(2,.fn (.func g) [] []),(15,.y 6 (l.map AL.h) false),(16,AA l.length),(17,AA k)]) (λ_=>h) (λk m=>k<=l.length/\n<=m) (λk=>l.length-k) 0 ?_ ?_ AC ?_;simp;simp[look];rintro k m ⟨hk,hnm⟩;by_cases a:k<l.length
 . have d:=wS k mq;obtain⟨x,c⟩:∃x,l[k]=x:=⟨_,rfl⟩
   have H:=hg x (by rw[<-c];exact qn a);rw[qR]at H;simp[go_sem,a,c,qR,AE,AD];refine qY H ?_;simp[go_sem,d,-Int.natCast_add];exact⟨k+1,by omega,⟨by omega,by omega⟩,Or,by repeat(first|exact AC|refine Aa b mq ?_)⟩
 simp[go_sem,a];exact Ar b rfl rfl
theorem mL(l:List AF)(hl:l.length<=1048576)(g:FuncId)(hg:∀x∈l,PC g [x.h,x.h] (.bool true)):PC 239 [.y 7 (l.map AF.h) false,.y 7 (l.map AF.h) false,.fn (.func g) [] []] (.bool true):=by
 intro h n;refine gq func239 rfl λb=>?_;simp[go_sem];refine BC 1 (α:=Nat) (λk=>[(1,.y 7 (l.map AF.h) false),(2,.fn (.func g) [] []),(15,.y 7 (l.map AF.h) false),(16,AA l.length),(17,AA k)]) (λ_=>h) (λk m=>k<=l.length/\n<=m) (λk=>l.length-k) 0 ?_ ?_ AC ?_;simp;simp[look];rintro k m ⟨hk,hnm⟩;by_cases a:k<l.length
 . have d:=wS k mq;obtain⟨x,c⟩:∃x,l[k]=x:=⟨_,rfl⟩
   have H:=hg x (by rw[<-c];exact qn a);rw[vD]at H;simp[go_sem,a,c,vD,AE,AD];refine qY H ?_;simp[go_sem,d,-Int.natCast_add];exact⟨k+1,by omega,⟨by omega,by omega⟩,Or,by repeat(first|exact AC|refine Aa b mq ?_)⟩
 simp[go_sem,a];exact Ar b rfl rfl
def AI.j(d:AI):List SV:=[AH d.W]++d.T0.j++[BV d.V]++d.S.j
theorem jU(x:AG)(a:x.l):PC 68 [x.h,x.h] (.bool true):=by simpa using c58 x x a a
theorem mF(l:List Fp)(a:l.length<=1048576):PC 126 [AO l,AO l] (.bool true):=by simpa using fa l l a a
theorem mI(l:List Fp)(a:l.length<=1048576):PC 131 [AO l,AO l] (.bool true):=by
 intro h n;refine gq func131 rfl λb=>?_;simp[go_sem];refine(mF l a).use ?_;simp[go_sem];exact Ar b rfl rfl
theorem q55(x:FT)(b:x.levels.length<=1048576):PC 65 [x.h,x.h] (.bool true):=by
 intro h n;refine gq func65 rfl λa=>?_;have hh:∀y z,∀o x,h o=some x->h_ (h_ h n y) (n+1) z o=some x:=λy z=>by repeat(first|exact AC|refine Aa a mq ?_)
 simp[go_sem,FT.h,AE,AD];refine(q56 _ b).use ?_;simp[go_sem];exact Bt a (hh _ _) rfl rfl
theorem mH(x:Ao)(b:x.Q.length<=1048576):PC 130 [x.h,x.h] (.bool true):=by
 intro h n;refine gq func130 rfl λa=>?_;have hh:∀y z,∀o x,h o=some x->h_ (h_ h n y) (n+1) z o=some x:=λy z=>by repeat(first|exact AC|refine Aa a mq ?_)
 simp[go_sem,Ao.h,AE,AD];refine(mI _ b).use ?_;simp[go_sem];exact Bt a (hh _ _) rfl rfl
theorem q60(l:List Ao)(a:l.length<=1048576)(hp:∀x∈l,x.Q.length<=1048576):PC 70 [AT l,AT l] (.bool true):=by
 intro h n;refine gq func70 rfl λb=>?_;simp[go_sem];refine(mG l a _ λx c=>mH x (hp x c)).use ?_;simp[go_sem];exact Ar b rfl rfl
theorem mM(x:AF)(c:x.H.l)(b:PC 67 [AH x.W,AH x.W] (.bool true)):PC 240 [x.h,x.h] (.bool true):=by
 intro h n;refine gq func240 rfl λa=>?_;have hh:∀y z,∀o x,h o=some x->h_ (h_ h n y) (n+1) z o=some x:=λy z=>by repeat(first|exact AC|refine Aa a mq ?_)
 have e:=jU _ c;rw[AG.h,AG.j]at e;simp[go_sem,vD,AE,AD];refine e.use ?_;simp[go_sem,AE,AD];refine b.use ?_;simp[go_sem];exact Bt a (hh _ _) rfl rfl
theorem mK(x:AL)(f:x.H.l)(d:x.cells.length<=1048576)(b:∀c∈x.cells,PC 240 [c.h,c.h] (.bool true)):PC 181 [x.h,x.h] (.bool true):=by
 intro h n;refine gq func181 rfl λa=>?_;have hh:∀y z,∀o x,h o=some x->h_ (h_ h n y) (n+1) z o=some x:=λy z=>by repeat(first|exact AC|refine Aa a mq ?_)
 have e:=jU _ f;rw[AG.h,AG.j]at e;simp[go_sem,qR,AE,AD];refine e.use ?_;simp[go_sem,AE,AD];refine(mL _ d _ b).use ?_;simp[go_sem];exact Bt a (hh _ _) rfl rfl
theorem mE(x:AB)(d:x.H.l)(b:PC 67 [AH x.W,AH x.W] (.bool true))(c:x.R.length<=1048576)(hr:∀r∈x.R,PC 181 [r.h,r.h] (.bool true)):PC 125 [x.h,x.h] (.bool true):=by
 intro h n;refine gq func125 rfl λa=>?_;have hh:∀y z,∀o x,h o=some x->h_ (h_ h n y) (n+1) z o=some x:=λy z=>by repeat(first|exact AC|refine Aa a mq ?_)
 have e:=jU _ d;rw[AG.h,AG.j]at e;simp[go_sem,qy,AE,AD];refine e.use ?_;simp[go_sem,AE,AD];refine b.use ?_;simp[go_sem,AE,AD];refine(mJ _ c _ hr).use ?_;simp[go_sem];exact Bt a (hh _ _) rfl rfl
theorem mN{hp:AG->Prop}(hh:∀x,hp x->x.l){K:Nat}(f:K<=1048576):∀(N:Nat)(l:List AB),lim hp K N l->PC 67 [AH l,AH l] (.bool true)
 | 0,_,H=>H.elim
 | N + 1, l, H => by
  obtain⟨h1,h2,i⟩:=Ca.1 H;have hi:∀x∈l,PC 125 [x.h,x.h] (.bool true):=λx k=>by
   obtain⟨a,b,c,d⟩:=i x k;exact mE x (hh _ a) (mN hh f N _ b) mq λr hr=>mK r (hh _ (d r hr).1) (by have:=(d r hr).2.1;omega) λe g=>mM e (hh _ ((d r hr).2.2 e g).1) (mN hh f N _ ((d r hr).2.2 e g).2)
  intro h n;refine gq func67 rfl λj=>?_;simp[go_sem];refine(mD l mq _ hi).use ?_;simp[go_sem];exact Ar j rfl rfl
theorem mO(l:List FT)(a:l.length<=1048576)(hp:∀x∈l,x.levels.length<=1048576):PC 71 [Bi l,Bi l,.fn (.func 65) [] []] (.bool true):=q61 l a _ λx b=>q55 x (hp x b)
def bi:Tr:=.pure 0<|.pure 1<|.pure 2<|.pure 3<|.two 4 5 (.one 5 (.one 6 (.one 7 .nil))) (.one 4 (.one 6 (.one 7 .nil)))
theorem q17{hp:AG->Prop}(hh:∀x,hp x->x.l){K:Nat}(k:K<=1048576)(N:Nat)(d:AI)(p:lim hp K N d.W)(o:d.T0.l)(hr:d.V.length<=1048576)(a:d.S.l):PC 24 [d.h,d.h] (.bool true):=by
 intro h n;refine FF func24 rfl λf=>?_;have b:=f.lt;obtain⟨X,i⟩:∃X:SV,X=.q ([AH d.W]++d.T0.j++[BV d.V]++d.S.j):=⟨_,rfl⟩
 refine As 1 [(2,X),(3,X)] h n ?_ (λm hm=>?_);rw[i];simp[go_sem,AI.h,AG.j,AQ.j];exact⟨by omega,⟨Ap (f.none mq) (by simp[h_]),Ap (f.none mq) (by simp[h_])⟩,λj y e=>by have:=b j y e;simp only[h_];grind⟩;have c:∀j y,h j=some y->j<m:=λj y e=>by have:=b j y e;omega
 refine AV 1 (α:=Unit) (λ_=>[(2,X),(3,X),(5,.q d.S.j),(6,.q d.S.j)]) (λ_=>h) (λ_ m=>n<=m) (CN bi rfl mu mu ?_) (λ_ m hm=>?_);rw[i];simp[go_sem,bi,AG.j,AQ.j,AE,AD];have g:∀q,m<=q->h q=none:=λq hq=>by cases e:h q with|none=>rfl|some y=>(have:=c q y e;omega)
 refine⟨⟨by omega,⟨Ap (g _ mq) (by simp[h_]),Ap (g _ mq) (by simp[h_])⟩,λj y e=>?_⟩,by omega,⟨Ap (g _ mq) (by simp[h_]),Ap (g _ mq) (by simp[h_])⟩,λj y e=>?_⟩ <;>
 . have:=c j y e;simp only[h_];grind
 have e:=jU _ o;rw[AG.h,AG.j]at e;refine AK ?_;rw[i];simp[go_sem,AG.j,AQ.j];refine(mN hh k N _ p).use ?_;simp[go_sem];refine e.use ?_;simp[go_sem];refine(q59 _ hr).use ?_;simp[go_sem];refine(q60 _ a.A a.Q).use ?_;simp[go_sem];refine(mO _ a.L a.levels).use ?_;simp[go_sem];refine(q62 _ a.C).use ?_;simp[go_sem];refine(q63 _ a.vars).use ?_;simp[go_sem];exact Ar f rfl rfl
end Go.Proofs.YthinbkgpjmjfeaaGreatDoor.Sh
